/- Runs: what memory holds; push, each, New. Conditions: the federation's lists are short. Runs: Next, Steps, Log, State. Conditions: at most a thousand steps. Runs: Steps, Log, State; the laws' small and shown. Conditions: at most a thousand steps. -/
import Derived.Test.YtfcnjbannejchaaSoloO
namespace Go.Proofs.Ytfcnjbannejchaa
open Go Go.E
set_option maxRecDepth 100000
variable {e w : World} {L Q : List HP} {K : KV} {S S2 : HP}

structure FedS where
  st : Int
  sent : Int
  lv : Value
  log : List Done
def FedS.cs (f : FedS) : List Value := [.int .i64 f.st, .int .i64 f.sent, f.lv]
def FedS.a (f : FedS) : FA := ⟨f.st, f.sent, f.log⟩
def logOwn (f : FedS) : HP := ownS 39 7 Done.cs f.lv f.log
structure RX where
  fv : Value
  fs : List FedS
  arr : List Msg
def IsRun (r : Nat) (X : WdX) (R : RS) : HP := hex fun p : RX => sepL [pur (p.fs.map FedS.a = R.feds ∧ p.arr.Perm R.wait ∧ Heapy p.arr p.arr.length), IsW r (X.cs ++ [p.fv]) p.arr, ownS 70 3 FedS.cs p.fv p.fs, sepL (p.fs.map logOwn), WdOwn X]
theorem run_of {r : Nat} {X : WdX} {R : RS} (h : Sat e w (IsRun r X R :: Q)) : ∃ fv fs arr, (fs.map FedS.a = R.feds ∧ arr.Perm R.wait ∧ Heapy arr arr.length) ∧ Sat e w (IsW r (X.cs ++ [fv]) arr :: ownS 70 3 FedS.cs fv fs :: sepL (fs.map logOwn) :: WdOwn X :: Q) := by
  obtain ⟨p, h0⟩ := h.ex
  exact ⟨p.fv, p.fs, p.arr, Sat.pure h0.split⟩
theorem run_mk {r : Nat} {X : WdX} {R : RS} {fv : Value} {fs : List FedS} {arr : List Msg} (hp : fs.map FedS.a = R.feds ∧ arr.Perm R.wait ∧ Heapy arr arr.length) (h : Sat e w (IsW r (X.cs ++ [fv]) arr :: ownS 70 3 FedS.cs fv fs :: sepL (fs.map logOwn) :: WdOwn X :: Q)) : Sat e w (IsRun r X R :: Q) :=
  .mk_ex ⟨fv, fs, arr⟩ (.join (l' := [_, _, _, _, _]) (.mk_pure hp h))
structure SoloOk (X : WdX) (wd : Wd) (R : RS) (k : Nat) : Prop where
  eq : X.w = wd
  short : X.short
  may : WdOk wd
  run : RunOk wd R k
def IsSolo (r : Nat) (wd : Wd) (R : RS) (k : Nat) : HP := hex fun X : WdX => sepL [pur (SoloOk X wd R k), IsRun r X R]
theorem solo_of {r : Nat} {wd : Wd} {R : RS} {k : Nat} (h : Sat e w (IsSolo r wd R k :: Q)) : ∃ X, SoloOk X wd R k ∧ Sat e w (IsRun r X R :: Q) := by
  obtain ⟨X, h0⟩ := h.ex
  exact ⟨X, Sat.pure h0.split⟩
theorem solo_mk {r : Nat} {wd : Wd} {R : RS} {k : Nat} {X : WdX} (hp : SoloOk X wd R k) (h : Sat e w (IsRun r X R :: Q)) : Sat e w (IsSolo r wd R k :: Q) := .mk_ex X (.join (l' := [_, _]) (.mk_pure hp h))
theorem short_w {x X : WdX} (h : X.w = x.w) (hs : x.short) : X.short := by
  have h1 : X.Parents = x.Parents := congrArg Wd.Parents h
  have h2 : X.Feds.map FedX.f = x.Feds.map FedX.f := congrArg Wd.Feds h
  have hl : X.Feds.length = x.Feds.length := by simpa using congrArg List.length h2
  refine ⟨by rw [hl]; exact hs.feds, by rw [h1]; exact hs.par, fun f hf => ?_⟩
  have h3 : f.f ∈ x.Feds.map FedX.f := by rw [← h2]; exact List.mem_map_of_mem hf
  obtain ⟨g, hg, he⟩ := List.mem_map.1 h3
  have hsg := hs.fed g hg
  have e1 : g.Pubs = f.Pubs := congrArg Fed.Pubs he
  have e2 : g.Subs = f.Subs := congrArg Fed.Subs he
  have e3 : g.Init = f.Init := congrArg Fed.Init he
  have e4 : g.Rules.map RuleX.r = f.Rules.map RuleX.r := congrArg Fed.Rules he
  have e5 : g.Rules.length = f.Rules.length := by simpa using congrArg List.length e4
  refine ⟨by rw [← e1]; exact hsg.pubs, by rw [← e2]; exact hsg.subs, by rw [← e3]; exact hsg.init, by rw [← e5]; exact hsg.rules, fun q hq => ?_⟩
  have h5 : q.r ∈ g.Rules.map RuleX.r := by rw [e4]; exact List.mem_map_of_mem hq
  obtain ⟨q', hq', he'⟩ := List.mem_map.1 h5
  have e6 : q'.Sends = q.Sends := congrArg Rule.Sends he'
  rw [← e6]
  exact hsg.sends q' hq'

/-! ### The block's other cells -/
theorem ldW {r o : Nat} {pre : List Value} {l : List Msg} {u : Value} (hS : Sat e w L) (i : Nat) (hi : L[i]? = some (IsW r pre l)) (ho : pre[o]? = some u) (hk : K u w) : ld1 (.pointer (some ⟨r, o, none⟩)) w K := by
  obtain ⟨v, hp, h1⟩ := isW_of (hS.pick i hi)
  refine ld1_at h1 0 rfl ?_ hk
  rw [List.getElem?_append_left (List.getElem?_eq_some_iff.1 ho).1]
  exact ho
theorem ldNW {r n : Nat} {pre us : List Value} {l : List Msg} (hS : Sat e w L) (i : Nat) (hi : L[i]? = some (IsW r pre l)) (ho : pre.take n = us) (hn : us.length = n) (hk : K (.agg us.toArray) w) : ldN n (.pointer (some ⟨r, 0, none⟩)) w K := by
  obtain ⟨v, hp, h1⟩ := isW_of (hS.pick i hi)
  refine ldN_at h1 0 rfl ?_ hn hk
  have h4 : n ≤ pre.length := by
    have := congrArg List.length ho
    rw [List.length_take, hn] at this
    omega
  rw [List.drop_zero, List.take_append_of_le_length h4, ho]

/-! ### push, each -/
theorem push_s {r : Nat} {pre : List Value} {l : List Msg} {x : Msg} (hl : l.length ≤ 999999) (hS : Sat e w (IsW r pre l :: Q))
    (hk : ∀ l' w', l'.Perm (l ++ [x]) → (Heapy l l.length → Heapy l' l'.length) → Sat e w' (IsW r pre l' :: Q) → K (.tuple #[]) w') :
    Cl prog 27 #[.pointer (some ⟨r, 0, none⟩), .agg x.cs.toArray] w K := by
  refine solo_Run_push_calls ?_
  unfold solo_Run_push
  refine al_s (cs := x.cs) hS rfl fun b w1 h1 => ?_
  refine dr_s h1 fun w2 h2 => ?_
  refine ncP_p (fld_at (ldN_at h2 0 (vs := x.cs) rfl (by rfl) rfl ?_))
  refine heapPush_s (x := x) hl h2.swap fun l' w3 hp hh h3 => ?_
  exact hk l' _ hp hh (h3.selR [_, _] [_] [0] (by decide) rfl)
theorem each_s {r : Nat} {pre : List Value} {l ms : List Msg} {v : Value} (i : Nat) (hi : Q[i]? = some S) (hS : Sat e w (IsW r pre l :: Q)) (hr : ∀ g, S g → rdS 6 Msg.cs v ms g) (hl : l.length + ms.length ≤ 900000)
    (hk : ∀ l' w', l'.Perm (ms ++ l) → (Heapy l l.length → Heapy l' l'.length) → Sat e w' (IsW r pre l' :: Q) → K (.tuple #[]) w') :
    Cl prog 25 #[v, .func (.func 27) #[.pointer (some ⟨r, 0, none⟩)] #[]] w K := by
  refine solo_each_calls ?_
  unfold solo_each
  rw [zero_37]
  refine lnS_rd hS (i + 1) (by simpa using hi) hr ?_
  refine lpi1 (fun q t8 w => ∃ (j : Nat) (l' : List Msg), j ≤ ms.length ∧ t8 = .int .i64 j ∧ q = ms.length - j ∧ l'.Perm (ms.take j ++ l) ∧ (Heapy l l.length → Heapy l' l'.length) ∧ Sat e w (IsW r pre l' :: Q)) ms.length
    ⟨0, l, Nat.zero_le _, rfl, rfl, .refl _, id, hS⟩ ?_
  rintro q _ w g ⟨j, l', hj, rfl, rfl, hp, hh, h1⟩ hg
  refine lt_c (fun c => iff_t ?_) (fun c => iff_f ?_)
  · obtain ⟨x, hx⟩ := get_of_lt (l := ms) (j := j) (by omega)
    refine ixS_rd h1 (i + 1) (by simpa using hi) hr (fun _ => rfl) hx fun a ha => ?_
    refine ldN_of h1 (i + 1) (by simpa using hi) ha rfl ?_
    refine al_s (cs := Msg.zero.cs) h1 rfl fun b w2 h2 => ?_
    refine stN_at h2 0 rfl (vs := x.cs) rfl rfl (by decide) (ints_flat _) (cs' := x.cs) (by rfl) fun w3 h3 => ?_
    refine ldN_at h3 0 (vs := x.cs) rfl (by rfl) rfl ?_
    refine ⟨_, _, _, rfl, ?_⟩
    have hlen := hp.length_eq
    rw [List.length_append, List.length_take] at hlen
    refine push_s (x := x) (by omega) h3.swap fun l2 w4 hp2 hh2 h4 => ?_
    refine inc_s (by omega) ?_
    refine hg _ _ _ (by omega) ⟨j + 1, l2, by omega, rfl, rfl, ?_, fun h => hh2 (hh h), h4.selR [_, _] [_] [0] (by decide) rfl⟩
    rw [take_snoc hx, List.append_assoc]
    refine hp2.trans ((hp.append_right [x]).trans ?_)
    rw [List.append_assoc]
    exact List.Perm.append_left _ List.perm_append_comm
  · have ej : j = ms.length := by omega
    rw [ej, List.take_length] at hp
    exact hk l' _ hp hh h1

/-! ### New -/
theorem solo_New_s {x : WdX} (i : Nat) (hi : L[i]? = some S) (hS : Sat e w L) (hr : ∀ g, S g → RdWd x g) (hwf : x.wf) (hs : x.short)
    (hbad : (checkW x.w).2 ≠ 0 → ∀ w', Sat e w' L → K (.tuple #[.pointer none, .int .i64 (checkW x.w).2]) w')
    (hok : (checkW x.w).2 = 0 → ∀ r w', Sat e w' (IsSolo r x.w (initR x.w) 0 :: L) → K (.tuple #[.pointer (some ⟨r, 0, none⟩), .int .i64 0]) w') : Cl prog 10 #[.agg x.cs.toArray] w K := by
  refine solo_New_calls ?_
  unfold solo_New
  refine al_s (cs := x.cs) hS rfl fun b w1 h1 => ?_
  refine ldN_at h1 0 (vs := x.cs) rfl (by rfl) rfl ?_
  refine config_Check_s (x := x) (i + 1) (by simpa using hi) h1 hr hwf hs fun w2 h2 => ?_
  repeat (first | refine gd_tt ?_ | refine gd_ff ?_ | refine gd_tf ?_ | refine gd_ft ?_ | refine gd_u ?_ | refine pk_t ?_ | refine pk_f ?_ | refine iff_t ?_ | refine iff_f ?_ | refine not_t ?_ | refine not_f ?_ | refine beq_s ?_ | refine bne_s ?_ | refine ncP_p ?_ | refine nc_p ?_ | refine fld_at ?_ | refine xt_02 ?_ | refine xt_12 ?_ | refine xt_03 ?_ | refine xt_13 ?_ | refine xt_23 ?_ | refine eq_t (by omega) ?_ | refine eq_f (by omega) ?_ | refine ne_t (by omega) ?_ | refine ne_f (by omega) ?_ | refine lt_t (by omega) ?_ | refine lt_f (by omega) ?_ | refine gt_t (by omega) ?_ | refine gt_f (by omega) ?_ | refine ge_t (by omega) ?_ | refine ge_f (by omega) ?_ | refine le_t (by omega) ?_ | refine le_f (by omega) ?_)
  refine ne_c (fun c1 => iff_t (hbad c1 _ h2.drop)) (fun c1 => iff_f ?_)
  have hwd := checkW_ok c1
  refine ldN_at h2 0 (vs := x.cs) rfl (by rfl) rfl ?_
  refine copied_s (x := x) (i + 1) (by simpa using hi) h2 hr hs fun X w3 hX h3 => ?_
  refine bld_s (X.cs ++ [.slice none 0 0, .slice none 0 0]) (by kernel_rfl) ?_
  refine al_s (cs := X.cs ++ [.slice none 0 0, .slice none 0 0]) h3 rfl fun r w4 h4 => ?_
  refine fld_at (ld1_at h4 2 rfl (v := x.fv) rfl ?_)
  refine lnS_rd h4 (i + 3) (by simpa using hi) (fun g hg => (hr g hg).feds) ?_
  have hfl := hs.feds
  rw [zero_53]
  refine lpi1 (fun q t24 w => ∃ (j : Nat) (fv : Value), j ≤ x.Feds.length ∧ t24 = .int .i64 j ∧ q = x.Feds.length - j ∧
      Sat e w (ownS 70 3 FedS.cs fv ((x.Feds.take j).map fun f => ⟨f.Start, f.Init.length, .slice none 0 0, []⟩) :: blk r 68 (X.cs ++ [fv, .slice none 0 0]) :: WdOwn X :: blk b 25 x.cs :: L)) x.Feds.length
    ⟨0, .slice none 0 0, Nat.zero_le _, rfl, rfl, h4.own_nil 70 3 FedS.cs⟩ ?_
  rintro q _ w g ⟨j, fv, hj, rfl, rfl, h5⟩ hg
  refine lt_c (fun c0 => iff_t ?_) (fun c0 => iff_f ?_)
  · obtain ⟨fd, hf⟩ := get_of_lt (l := x.Feds) (j := j) (by omega)
    have hfm := List.mem_of_getElem? hf
    refine ixS_rd h5 (i + 4) (by simpa using hi) (fun g hg => (hr g hg).feds) (fun _ => rfl) hf fun a ha => ?_
    refine ldN_of h5 (i + 4) (by simpa using hi) ha rfl ?_
    refine al_s (cs := [.int .i64 0, .int .i64 0, .int .i64 0, .slice none 0 0, .slice none 0 0, .slice none 0 0, .slice none 0 0]) h5 rfl fun t w6 h6 => ?_
    refine stN_at h6 0 rfl (vs := fd.cs) rfl rfl (by simp) (fed_cells i hi hS fun g hg => (hr g hg).fed fd hfm) (cs' := fd.cs) (by rfl) fun w7 h7 => ?_
    refine dr_s h7 fun w8 h8 => ?_
    refine ncP_p (fld_at (ld1_at h8 2 rfl (v := fv) rfl ?_))
    refine fld_at (ld1_at h8 0 rfl (v := .int .i64 fd.Start) rfl ?_)
    refine fld_at (ld1_at h8 0 rfl (v := fd.iv) rfl ?_)
    refine lnS_rd h8 (i + 5) (by simpa using hi) (fun g hg => ((hr g hg).fed fd hfm).init) ?_
    refine bld_s (⟨fd.Start, fd.Init.length, .slice none 0 0, []⟩ : FedS).cs (by kernel_rfl) ?_
    refine ⟨ld1_at h8 2 rfl (v := fv) rfl ⟨rfl, rfl⟩, ?_⟩
    refine bsl1 (vs := (⟨fd.Start, fd.Init.length, .slice none 0 0, []⟩ : FedS).cs) rfl rfl h8 fun bb w9 h9 => ?_
    refine ⟨ld1_at h9 3 rfl (v := fv) rfl ⟨rfl, rfl⟩, ?_⟩
    refine apS_ownM te_65 te_65.und (f := FedS.cs) (m := [⟨fd.Start, fd.Init.length, .slice none 0 0, []⟩]) (fun _ => rfl) (fun y hy c hc => ?_) (h9.selR [_, _, _, _] [_, _, _, _] [2, 0, 1, 3] (by decide) rfl) (blk_rd1 (f := FedS.cs) (x := ⟨fd.Start, fd.Init.length, .slice none 0 0, []⟩) (Nat.le_refl _)) (by simp; omega) fun fv' w10 h10 => ?_
    · rw [List.mem_singleton.1 hy] at hc
      simp only [FedS.cs, List.mem_cons, List.not_mem_nil, or_false] at hc
      rcases hc with rfl | rfl | rfl <;> rfl
    have q1 := h10.own_cells 0 rfl
    refine ncP_p (fld_at (stN_at h10 3 rfl (vs := [fv']) q1.1 rfl (Nat.le_of_ble_eq_true rfl) (fun c hc => by rw [List.mem_singleton.1 hc]; exact q1.2) (cs' := X.cs ++ [fv', .slice none 0 0]) (by rfl) fun w11 h11 => ?_))
    refine inc_s (by omega) ?_
    refine hg _ _ _ (by omega) ⟨j + 1, fv', by omega, rfl, rfl, ?_⟩
    rw [take_snoc hf, List.map_append]
    exact h11.selR [_, _, _, _] [_, _] [0, 3] (by decide) rfl
  · have ej : j = x.Feds.length := by omega
    rw [ej, List.take_length] at h5
    refine ldN_at h5 3 (vs := x.cs) rfl (by rfl) rfl ?_
    have hfl2 : x.w.Feds.length = x.Feds.length := by simp [WdX.w]
    refine starts_s (x := x) (i + 4) (by simpa using hi) h5 hr hs hwd.tree (by rw [← hfl2]; exact hwd.n.2) (fun f hf => ?_) fun mv w6 h6 hml => ?_
    · have := hwd.init f.f (List.mem_map_of_mem hf)
      exact ⟨this.1, fun o ho => (this.2 o ho).1⟩
    have h7 : Sat e w6 (IsW r (X.cs ++ [fv]) [] :: ownS 37 6 Msg.cs mv (startsL x.w.Parents x.w.Feds x.w.Feds) :: ownS 70 3 FedS.cs fv (x.Feds.map fun f => ⟨f.Start, f.Init.length, .slice none 0 0, []⟩) :: WdOwn X :: blk b 25 x.cs :: L) :=
      isW_mk (v := .slice none 0 0) rfl (by
        have h8 := h6.own_nil 37 6 Msg.cs
        exact h8.selR [_, _, _, _] [_, _, _, _] [3, 0, 1, 2] (by decide) rfl)
    refine each_s (ms := startsL x.w.Parents x.w.Feds x.w.Feds) 0 rfl h7 (fun g hg => own_rd hg) (by simp; omega) fun l' w8 hp hh h8 => ?_
    rw [List.append_nil] at hp
    have hheap : Heapy l' l'.length := hh fun i x y hi hn => by simp at hn
    refine hok c1 r _ (solo_mk (X := X) ⟨hX, short_w hX hs, hwd, runOk_init hwd⟩ (run_mk (fv := fv) (fs := x.Feds.map fun f => ⟨f.Start, f.Init.length, .slice none 0 0, []⟩) (arr := l') ⟨?_, ?_, hheap⟩ ?_))
    · simp only [initR, WdX.w, List.map_map]
      rfl
    · have h9 := putL_perm (startsL x.w.Parents x.w.Feds x.w.Feds) []
      rw [List.append_nil] at h9
      exact hp.trans h9.symm
    · have hlogs : ∀ (m : List FedX) (Q : List HP), Sat e w8 Q → Sat e w8 ((m.map fun f => logOwn ⟨f.Start, f.Init.length, .slice none 0 0, []⟩) ++ Q) := by
        intro m Q hQ
        induction m with
        | nil => exact hQ
        | cons f m ih => exact ih.own_nil 39 7 Done.cs
      have h10 := Sat.join (hlogs x.Feds _ h8)
      rw [List.map_map]
      exact h10.selR [_, _, _, _, _, _] [_, _, _, _] [1, 3, 0, 4] (by decide) rfl
end Go.Proofs.Ytfcnjbannejchaa
namespace Go.Proofs.Ytfcnjbannejchaa
open Go Go.E
set_option maxRecDepth 100000
variable {e w : World} {L Q : List HP} {K : KV} {S S2 : HP}

def Done.zero : Done := ⟨Msg.zero, 0⟩
theorem head_min {arr : List Msg} {m z : Msg} {rest : List Msg} (hp : arr.Perm (m :: rest)) (hs : (m :: rest).Pairwise MLt) (hh : Heapy arr arr.length) (hz : arr[0]? = some z) : z = m := by
  have hzm : z ∈ m :: rest := hp.mem_iff.1 (List.mem_of_getElem? hz)
  rcases List.mem_cons.1 hzm with h | h
  · exact h
  · have h1 := (List.pairwise_cons.1 hs).1 z h
    have hm : m ∈ arr := hp.mem_iff.2 (by simp)
    obtain ⟨i, hi⟩ := List.getElem?_of_mem hm
    exact absurd h1 (hh.min (Nat.le_refl _) hz i m (List.getElem?_eq_some_iff.1 hi).1 hi)
theorem set_map {α β : Type} {f : α → β} {l : List α} {i : Nat} {x : α} : (l.set i x).map f = (l.map f).set i (f x) := List.map_set

theorem solo_Next_s {r k : Nat} {wd : Wd} {R : RS} (hk0 : k ≤ 1000) (hS : Sat e w (IsSolo r wd R k :: Q))
    (hno : nextR wd R = none → ∀ w', Sat e w' (IsSolo r wd R k :: Q) → K (.tuple #[.agg Done.zero.cs.toArray, .bool false]) w')
    (hyes : ∀ d R', nextR wd R = some (d, R') → ∀ w', Sat e w' (IsSolo r wd R' (k + 1) :: Q) → K (.tuple #[.agg d.cs.toArray, .bool true]) w') :
    Cl prog 12 #[.pointer (some ⟨r, 0, none⟩)] w K := by
  refine solo_Run_Next_calls ?_
  unfold solo_Run_Next
  obtain ⟨X, hX, hS1⟩ := solo_of hS
  have hEnd : X.End = wd.End := congrArg Wd.End hX.eq
  obtain ⟨fv, fs, arr, ⟨hfs, hpa, hhp⟩, hS2⟩ := run_of hS1
  rw [zero_39, zero_37]
  refine al_s (cs := Done.zero.cs) hS2 rfl fun t2 w1 h1 => ?_
  refine dr_s h1 fun w2 h2 => ?_
  obtain ⟨wv, hpre, h3⟩ := isW_of (h2.pick 1 rfl)
  have hnone : nextR wd R = none → ∀ w', Sat e w' (blk t2 39 Done.zero.cs :: IsW r (X.cs ++ [fv]) arr :: ownS 70 3 FedS.cs fv fs :: sepL (fs.map logOwn) :: WdOwn X :: Q) →
      bld (zeroD prog 39) #[(0, 6), (6, 1)] [] w' fun t31 w => stN 7 (.pointer (some ⟨t2, 0, none⟩)) t31 w fun _ w => ldN 7 (.pointer (some ⟨t2, 0, none⟩)) w fun r0 _ => K (.tuple #[r0, .bool false]) w := by
    intro hn w' h'
    refine bld_s Done.zero.cs (by kernel_rfl) ?_
    refine stN_at h' 0 rfl (vs := Done.zero.cs) rfl rfl (by decide) (ints_flat _) (cs' := Done.zero.cs) (by kernel_rfl) fun w3 h3 => ?_
    refine ldN_at h3 0 (vs := Done.zero.cs) rfl (by rfl) rfl ?_
    exact hno hn _ (solo_mk hX (run_mk ⟨hfs, hpa, hhp⟩ h3.drop))
  rw [zero_39] at hnone
  refine ncP_p (fld_at (ld1_at h3 0 rfl (pre_get hpre) ?_))
  refine lnS_rd h3 1 rfl (fun g hg => own_rd hg) ?_
  cases hwait : R.wait with
  | nil =>
    rw [hwait] at hpa
    have ha0 : arr = [] := List.length_eq_zero_iff.1 (by rw [hpa.length_eq]; rfl)
    refine eq_t (by rw [ha0]; rfl) ?_
    repeat (first | refine gd_tt ?_ | refine gd_ff ?_ | refine gd_tf ?_ | refine gd_ft ?_ | refine gd_u ?_ | refine pk_t ?_ | refine pk_f ?_ | refine iff_t ?_ | refine iff_f ?_ | refine not_t ?_ | refine not_f ?_ | refine beq_s ?_ | refine bne_s ?_ | refine ncP_p ?_ | refine nc_p ?_ | refine fld_at ?_ | refine xt_02 ?_ | refine xt_12 ?_ | refine xt_03 ?_ | refine xt_13 ?_ | refine xt_23 ?_ | refine eq_t (by omega) ?_ | refine eq_f (by omega) ?_ | refine ne_t (by omega) ?_ | refine ne_f (by omega) ?_ | refine lt_t (by omega) ?_ | refine lt_f (by omega) ?_ | refine gt_t (by omega) ?_ | refine gt_f (by omega) ?_ | refine ge_t (by omega) ?_ | refine ge_f (by omega) ?_ | refine le_t (by omega) ?_ | refine le_f (by omega) ?_)
    exact hnone (nextR_none (.inl hwait)) _ h2
  | cons m rest =>
    have hs0 := hX.run.sorted
    rw [hwait] at hpa hs0
    have hal := hpa.length_eq
    simp only [List.length_cons] at hal
    obtain ⟨z, hz⟩ := get_of_lt (l := arr) (j := 0) (by omega)
    have hzm := head_min hpa hs0 hhp hz
    subst hzm
    refine eq_f (by omega) (gd_ff (gd_ff (nc_p ?_)))
    refine gd_ff (fld_at (gd_ff (ld1_at h3 0 rfl (pre_get hpre) ?_)))
    refine gd_ff (ixS_rd (j := 0) h3 1 rfl (fun g hg => own_rd hg) (fun _ => rfl) hz fun p hp => ?_)
    refine gd_ff (fld_of hp fun p1 hp1 => gd_ff (fld_of hp1 fun p2 hp2 => gd_ff ?_))
    refine ld1_of h3 1 rfl hp2 (v := .int .i64 z.key.T) rfl ?_
    refine gd_ff (gd_ff (nc_p ?_))
    refine gd_ff (fld_at (gd_ff (fld_at (gd_ff (ldW h2 1 rfl (u := .int .i64 X.End) rfl ?_)))))
    rw [hEnd]
    refine gd_ff (ge_c (fun c1 => ?_) (fun c1 => ?_))
    · refine pk_f (iff_t ?_)
      exact hnone (nextR_none (.inr ⟨z, rest, hwait, c1⟩)) _ h2
    refine pk_f (iff_f (ncP_p (fld_at ?_)))
    have hcnt := hX.run.cnt
    rw [hwait, List.length_cons] at hcnt
    refine heapPop_s (q := r) hz (by omega) (h2.pick 1 rfl) fun arr' w4 hp4 hh4 h4 => ?_
    refine tyA_ok (by kernel_rfl) ?_
    refine al_s (cs := Msg.zero.cs) h4 rfl fun t4 w5 h5 => ?_
    refine stN_at h5 0 rfl (vs := z.cs) rfl rfl (by decide) (ints_flat _) (cs' := z.cs) (by rfl) fun w6 h6 => ?_
    have hpr : arr'.Perm rest := by
      have h7 : (z :: arr').Perm (z :: rest) := (List.perm_append_singleton z arr').symm.trans (hp4.trans hpa)
      exact (List.perm_cons z).1 h7
    have hh5 : Heapy arr' arr'.length := hh4 hhp
    replace h6 : Sat e w6 (blk t4 37 z.cs :: IsW r (X.cs ++ [fv]) arr' :: blk t2 39 Done.zero.cs :: ownS 70 3 FedS.cs fv fs :: sepL (fs.map logOwn) :: WdOwn X :: Q) := h6
    clear h1 h2 h3 h4 h5 hnone
    obtain ⟨t1, t2', t3, t4'⟩ := hX.run.to z (by rw [hwait]; simp)
    obtain ⟨n, hn⟩ : ∃ n : Nat, z.To = n := ⟨z.To.toNat, by omega⟩
    have hnl : n < wd.Feds.length := by omega
    have hfl : fs.length = wd.Feds.length := by
      have := congrArg List.length hfs
      rw [List.length_map, hX.run.len] at this
      exact this
    obtain ⟨a, ha⟩ := get_of_lt (l := fs) (j := n) (by omega)
    have hXf : X.Feds.map FedX.f = wd.Feds := congrArg Wd.Feds hX.eq
    have hXp : X.Parents = wd.Parents := congrArg Wd.Parents hX.eq
    have hXl : X.Feds.length = wd.Feds.length := by rw [← hXf, List.length_map]
    obtain ⟨fd, hfd⟩ := get_of_lt (l := X.Feds) (j := n) (by omega)
    have hfdm := List.mem_of_getElem? hfd
    have hwf : wd.Feds[z.To.toNat]? = some fd.f := by rw [hn, Int.toNat_natCast, ← hXf, List.getElem?_map, hfd]; rfl
    have hRa : R.feds[z.To.toNat]? = some a.a := by rw [hn, Int.toNat_natCast, ← hfs, List.getElem?_map, ha]; rfl
    have hnext := nextR_take (wd := wd) hwait (by omega) hwf hRa
    have hsent := hX.run.sent a.a (List.mem_of_getElem? hRa)
    have hsf := hX.short.fed fd hfdm
    refine dr_s h6 fun w7 h7 => ?_
    refine ncP_p (fld_at (ldW h7 1 rfl (u := fv) rfl ?_))
    refine fld_at (ld1_at h7 0 rfl (v := .int .i64 z.To) rfl ?_)
    rw [hn]
    refine ixS_own h7 3 rfl ha fun bf cf hfv => ?_
    refine dr_s h7 fun w8 h8 => ?_
    refine ncP_p (fld_at (fld_at (ldW h8 1 rfl (u := X.fv) rfl ?_)))
    refine fld_at (ld1_at h8 0 rfl (v := .int .i64 z.To) rfl ?_)
    rw [hn]
    refine ixS_rd h8 5 rfl (fun g hg => (wdOwn_rd hg).feds) (fun _ => rfl) hfd fun p hp => ?_
    refine fld_of hp fun p1 hp1 => ?_
    refine ld1_of h8 5 rfl hp1 (v := fd.rv) rfl ?_
    refine ncP_p (fld_at (ldF_own h8 3 rfl (fun _ => rfl) hfv ha (u := .int .i64 a.st) rfl ?_))
    refine fld_at (ld1_at h8 0 rfl (v := .int .i64 z.Class) rfl ?_)
    refine table_Step_s (l := fd.Rules) (s := a.st) (c := z.Class) (h8.pick 5 rfl) (fun g hg => ((wdOwn_rd hg).fed fd hfdm).rules) hsf.rules hsf.sends fun ov w9 h9 => ?_
    generalize hso : stepR (fd.Rules.map RuleX.r) a.st z.Class = so at h9 ⊢
    have hso' : stepR fd.f.Rules a.a.st z.Class = so := hso
    have houts := step_outs hX.may (List.mem_of_getElem? hwf) a.a.st z.Class
    rw [hso'] at houts
    refine xt_02 (xt_12 ?_)
    replace h9 : Sat e w9 (ownS 63 3 Out.cs ov so.2 :: WdOwn X :: blk t4 37 z.cs :: IsW r (X.cs ++ [fv]) arr' :: blk t2 39 Done.zero.cs :: ownS 70 3 FedS.cs fv fs :: sepL (fs.map logOwn) :: Q) := h9
    refine dr_s h9 fun w10 h10 => ?_
    refine ncP_p (fld_at (ldNW h10 3 rfl (us := X.cs) rfl rfl ?_))
    refine fld_at (ld1_at h10 2 rfl (v := .int .i64 z.To) rfl ?_)
    refine ncP_p (fld_at (ldF_own h10 5 rfl (fun _ => rfl) hfv ha (u := .int .i64 a.sent) rfl ?_))
    refine fld_at (fld_at (ld1_at h10 2 rfl (v := .int .i64 z.key.T) rfl ?_))
    refine fld_at (ld1_at h10 2 rfl (v := .int .i64 z.Body) rfl ?_)
    refine spread_s (x := X) (outs := so.2) 1 0 rfl rfl h10 (fun g hg => wdOwn_rd hg) (fun g hg => own_rd hg) hX.short (by rw [hXp]; exact hX.may.tree) (fun o ho => by rw [hXp]; exact (houts.2 o ho).1) (by omega) t3 ⟨hsent.1, by have := hsent.2.1; simp only [FedS.a] at this; omega⟩ fun mv w11 h11 => ?_
    have hsp : spreadL X.w.Parents X.w.Feds z.To a.sent z.key.T z.Body so.2 = spreadL wd.Parents wd.Feds z.To a.a.sent z.key.T z.Body so.2 := by rw [hX.eq]; rfl
    rw [hsp] at h11
    generalize hms : spreadL wd.Parents wd.Feds z.To a.a.sent z.key.T z.Body so.2 = ms at h11
    have hmsl : ms.length ≤ 24 := by
      have h12 := spreadL_len wd.Parents wd.Feds z.To a.a.sent z.key.T z.Body so.2
      have h13 : so.2.length * wd.Feds.length ≤ 3 * 8 := Nat.mul_le_mul houts.1 hX.may.n.2
      rw [hms] at h12
      omega
    have hrl := hpr.length_eq
    have h12 := h11.selR [_, _, _, _, _, _, _, _] [_, _, _, _, _, _, _, _] [4, 0, 1, 2, 3, 5, 6, 7] (by decide) rfl
    refine each_s (ms := ms) 0 rfl h12 (fun g hg => own_rd hg) (by omega) fun arr2 w13 hp13 hh13 h13 => ?_
    have ha2 : fs.length = (fs.map FedS.a).length := by simp
    refine ncP_p (fld_at (stF_own h13 6 rfl (fun _ => rfl) hfv ha (x' := { a with st := so.1 }) (us := [.int .i64 so.1]) rfl rfl (by decide) (by simp [flat]) rfl fun w14 h14 => ?_))
    have hset : ∀ (b c : FedS), (fs.set n b).set n c = fs.set n c := fun b c => List.set_set _
    have hg1 : ∀ b : FedS, (fs.set n b)[n]? = some b := fun b => List.getElem?_set_self (by omega)
    have hln : ∀ b : FedS, (fs.set n b).length = fs.length := fun b => List.length_set
    replace h14 : Sat e w14 (IsW r (X.cs ++ [fv]) arr2 :: ownS 37 6 Msg.cs mv ms :: ownS 63 3 Out.cs ov so.2 :: WdOwn X :: blk t4 37 z.cs :: blk t2 39 Done.zero.cs :: ownS 70 3 FedS.cs fv (fs.set n { a with st := so.1 }) :: sepL (fs.map logOwn) :: Q) := h14
    refine ncP_p (fld_at (ldF_own h14 6 rfl (fun _ => rfl) (by rw [hln]; exact hfv) (hg1 _) (u := .int .i64 a.sent) rfl ?_))
    refine lnS_rd h14 2 rfl (fun g hg => own_rd hg) ?_
    have hsu := hsent.2.1
    have hsl := hsent.1
    simp only [FedS.a] at hsu hsl
    refine add_s (by omega) (by omega) ?_
    refine ncP_p (fld_at (stF_own h14 6 rfl (fun _ => rfl) (by rw [hln]; exact hfv) (hg1 _) (x' := { a with st := so.1, sent := a.sent + so.2.length }) (us := [.int .i64 (a.sent + so.2.length)]) rfl rfl (by decide) (by simp [flat]) rfl fun w15 h15 => ?_))
    rw [hset] at h15
    replace h15 : Sat e w15 (IsW r (X.cs ++ [fv]) arr2 :: ownS 37 6 Msg.cs mv ms :: ownS 63 3 Out.cs ov so.2 :: WdOwn X :: blk t4 37 z.cs :: blk t2 39 Done.zero.cs :: ownS 70 3 FedS.cs fv (fs.set n { a with st := so.1, sent := a.sent + so.2.length }) :: sepL (fs.map logOwn) :: Q) := h15
    refine ldN_at h15 4 (vs := z.cs) rfl (by rfl) rfl ?_
    refine bld_s (⟨z, so.1⟩ : Done).cs (by kernel_rfl) ?_
    refine al_s (cs := Done.zero.cs) h15 rfl fun t8 w16 h16 => ?_
    refine stN_at h16 0 rfl (vs := (⟨z, so.1⟩ : Done).cs) rfl rfl (Nat.le_of_ble_eq_true rfl) (ints_flat _) (cs' := (⟨z, so.1⟩ : Done).cs) (by rfl) fun w17 h17 => ?_
    refine dr_s h17 fun w18 h18 => ?_
    refine ncP_p (fld_at (ldF_own h18 7 rfl (fun _ => rfl) (by rw [hln]; exact hfv) (hg1 _) (u := a.lv) rfl ?_))
    refine ldN_at h18 0 (vs := (⟨z, so.1⟩ : Done).cs) rfl (by rfl) rfl ?_
    refine bsl1 (vs := (⟨z, so.1⟩ : Done).cs) rfl rfl h18 fun bb w19 h19 => ?_
    refine ⟨ldF_own h19 8 rfl (fun _ => rfl) (by rw [hln]; exact hfv) (hg1 _) (u := a.lv) rfl ⟨rfl, rfl⟩, ?_⟩
    have h20 := (h19.pick 9 rfl).focus n (by rw [List.getElem?_map, ha]; rfl : (fs.map logOwn)[n]? = some (logOwn a))
    have hlog := hsent.2.2
    simp only [FedS.a] at hlog
    replace h20 : Sat e w19 (logOwn a :: sepL ((fs.map logOwn).eraseIdx n) :: blk bb 39 (⟨z, so.1⟩ : Done).cs :: blk t8 39 (⟨z, so.1⟩ : Done).cs :: IsW r (X.cs ++ [fv]) arr2 :: ownS 37 6 Msg.cs mv ms :: ownS 63 3 Out.cs ov so.2 :: WdOwn X :: blk t4 37 z.cs :: blk t2 39 Done.zero.cs :: ownS 70 3 FedS.cs fv (fs.set n { a with st := so.1, sent := a.sent + so.2.length }) :: Q) := h20
    refine apS_own te_42 te_42.und (f := Done.cs) (l := a.log) (m := [⟨z, so.1⟩]) (fun _ => rfl) (fun _ => ints_flat _) (h20.selR [_, _, _] [_, _, _] [0, 2, 1] (by decide) rfl) (blk_rd1 (f := Done.cs) (x := ⟨z, so.1⟩) (Nat.le_refl _)) (by simp; omega) fun lv' w21 h21 => ?_
    have q1 := h21.own_cells 0 rfl
    refine ncP_p (fld_at (stF_own h21 10 rfl (fun _ => rfl) (by rw [hln]; exact hfv) (hg1 _) (x' := ⟨so.1, a.sent + so.2.length, lv', a.log ++ [⟨z, so.1⟩]⟩) (us := [lv']) q1.1 rfl (by decide) (fun c hc => by rw [List.mem_singleton.1 hc]; exact q1.2) rfl fun w22 h22 => ?_))
    rw [hset] at h22
    replace h22 : Sat e w22 (logOwn ⟨so.1, a.sent + so.2.length, lv', a.log ++ [⟨z, so.1⟩]⟩ :: blk bb 39 (⟨z, so.1⟩ : Done).cs :: sepL ((fs.map logOwn).eraseIdx n) :: blk t8 39 (⟨z, so.1⟩ : Done).cs :: IsW r (X.cs ++ [fv]) arr2 :: ownS 37 6 Msg.cs mv ms :: ownS 63 3 Out.cs ov so.2 :: WdOwn X :: blk t4 37 z.cs :: blk t2 39 Done.zero.cs :: ownS 70 3 FedS.cs fv (fs.set n ⟨so.1, a.sent + so.2.length, lv', a.log ++ [⟨z, so.1⟩]⟩) :: Q) := h22
    refine ldN_at h22 3 (vs := (⟨z, so.1⟩ : Done).cs) rfl (by rfl) rfl ?_
    refine stN_at h22 9 rfl (vs := (⟨z, so.1⟩ : Done).cs) rfl rfl (Nat.le_of_ble_eq_true rfl) (ints_flat _) (cs' := (⟨z, so.1⟩ : Done).cs) (by rfl) fun w23 h23 => ?_
    refine ldN_at h23 9 (vs := (⟨z, so.1⟩ : Done).cs) rfl (by rfl) rfl ?_
    have h24 := (h23.selR [_, _, _, _, _, _, _, _, _, _, _] [_, _, _, _, _] [0, 2, 4, 7, 10] (by decide) rfl).unfocus n (by rw [List.getElem?_map, ha]; rfl : (fs.map logOwn)[n]? = some (logOwn a))
    have hT : takeM wd fd.f a.a z rest R = (⟨z, so.1⟩, ⟨R.feds.set n ⟨so.1, a.sent + so.2.length, a.log ++ [⟨z, so.1⟩]⟩, putL rest ms⟩) := by
      unfold takeM
      rw [hso', hms, hn, Int.toNat_natCast]
      rfl
    rw [hT] at hnext
    refine hyes _ _ hnext _ (solo_mk (X := X) ⟨hX.eq, hX.short, hX.may, runOk_next hX.may hX.run hnext⟩ (run_mk (fv := fv) (fs := fs.set n ⟨so.1, a.sent + so.2.length, lv', a.log ++ [⟨z, so.1⟩]⟩) (arr := arr2) ⟨?_, ?_, hh13 hh5⟩ ?_))
    · rw [set_map, hfs]
      rfl
    · refine hp13.trans ?_
      refine (hpr.append_left ms).trans ?_
      exact (putL_perm ms rest).symm
    · rw [set_map]
      exact h24.selR [_, _, _, _] [_, _, _, _] [1, 3, 0, 2] (by decide) rfl
end Go.Proofs.Ytfcnjbannejchaa
namespace Go.Proofs.Ytfcnjbannejchaa
open Go Go.E
set_option maxRecDepth 100000
variable {e w : World} {L Q : List HP} {K : KV} {S S2 : HP}

theorem stepsR_succ (wd : Wd) (n : Nat) (R : RS) : stepsR wd (n + 1) R = match nextR wd R with
    | none => (0, R)
    | some x => ((stepsR wd n x.2).1 + 1, (stepsR wd n x.2).2) := rfl
theorem solo_Steps_s {r k n : Nat} {wd : Wd} {R : RS} (hk0 : k + n ≤ 1000) (hS : Sat e w (IsSolo r wd R k :: Q))
    (hk : ∀ w', Sat e w' (IsSolo r wd (stepsR wd n R).2 (k + (stepsR wd n R).1) :: Q) → (stepsR wd n R).1 ≤ n → K (.int .i64 (stepsR wd n R).1) w') :
    Cl prog 16 #[.pointer (some ⟨r, 0, none⟩), .int .i64 n] w K := by
  refine solo_Run_Steps_calls ?_
  unfold solo_Run_Steps
  refine J1.cut (fun t5 w => t5 = .int .i64 (stepsR wd n R).1 ∧ (stepsR wd n R).1 ≤ n ∧ Sat e w (IsSolo r wd (stepsR wd n R).2 (k + (stepsR wd n R).1) :: Q)) (fun k1 hcut => ?_) ?_
  · refine lpi1 (fun q t5 w => ∃ (j : Nat) (R' : RS), j ≤ n ∧ t5 = .int .i64 j ∧ q = n - j ∧ stepsR wd n R = (j + (stepsR wd (n - j) R').1, (stepsR wd (n - j) R').2) ∧ Sat e w (IsSolo r wd R' (k + j) :: Q)) n
      ⟨0, R, Nat.zero_le _, rfl, rfl, by simp, hS⟩ ?_
    rintro q _ w g ⟨j, R', hj, rfl, rfl, heq, h1⟩ hg
    rw [zero_39]
    refine lt_c (fun c => iff_t ?_) (fun c => iff_f ?_)
    · obtain ⟨m, hm⟩ : ∃ m, n - j = m + 1 := ⟨n - j - 1, by omega⟩
      rw [hm, stepsR_succ] at heq
      refine solo_Next_s (by omega) h1 (fun hno w2 h2 => ?_) (fun d R2 hyes w2 h2 => ?_)
      · rw [hno] at heq
        repeat (first | refine gd_tt ?_ | refine gd_ff ?_ | refine gd_tf ?_ | refine gd_ft ?_ | refine gd_u ?_ | refine pk_t ?_ | refine pk_f ?_ | refine iff_t ?_ | refine iff_f ?_ | refine not_t ?_ | refine not_f ?_ | refine beq_s ?_ | refine bne_s ?_ | refine ncP_p ?_ | refine nc_p ?_ | refine fld_at ?_ | refine xt_02 ?_ | refine xt_12 ?_ | refine xt_03 ?_ | refine xt_13 ?_ | refine xt_23 ?_ | refine eq_t (by omega) ?_ | refine eq_f (by omega) ?_ | refine ne_t (by omega) ?_ | refine ne_f (by omega) ?_ | refine lt_t (by omega) ?_ | refine lt_f (by omega) ?_ | refine gt_t (by omega) ?_ | refine gt_f (by omega) ?_ | refine ge_t (by omega) ?_ | refine ge_f (by omega) ?_ | refine le_t (by omega) ?_ | refine le_f (by omega) ?_)
        refine al_s (cs := Done.zero.cs) h2 rfl fun t w3 h3 => ?_
        refine stN_at h3 0 rfl (vs := Done.zero.cs) rfl rfl (by decide) (ints_flat _) (cs' := Done.zero.cs) (by rfl) fun w4 h4 => ?_
        refine not_f (iff_t (hcut _ _ ?_))
        rw [heq]
        exact ⟨rfl, by simp; omega, by simpa using h4.drop⟩
      · rw [hyes] at heq
        repeat (first | refine gd_tt ?_ | refine gd_ff ?_ | refine gd_tf ?_ | refine gd_ft ?_ | refine gd_u ?_ | refine pk_t ?_ | refine pk_f ?_ | refine iff_t ?_ | refine iff_f ?_ | refine not_t ?_ | refine not_f ?_ | refine beq_s ?_ | refine bne_s ?_ | refine ncP_p ?_ | refine nc_p ?_ | refine fld_at ?_ | refine xt_02 ?_ | refine xt_12 ?_ | refine xt_03 ?_ | refine xt_13 ?_ | refine xt_23 ?_ | refine eq_t (by omega) ?_ | refine eq_f (by omega) ?_ | refine ne_t (by omega) ?_ | refine ne_f (by omega) ?_ | refine lt_t (by omega) ?_ | refine lt_f (by omega) ?_ | refine gt_t (by omega) ?_ | refine gt_f (by omega) ?_ | refine ge_t (by omega) ?_ | refine ge_f (by omega) ?_ | refine le_t (by omega) ?_ | refine le_f (by omega) ?_)
        refine al_s (cs := Done.zero.cs) h2 rfl fun t w3 h3 => ?_
        refine stN_at h3 0 rfl (vs := d.cs) rfl rfl (by decide) (ints_flat _) (cs' := d.cs) (by rfl) fun w4 h4 => ?_
        refine not_t (iff_f (inc_s (by omega) ?_))
        refine hg _ _ _ (by omega) ⟨j + 1, R2, by omega, rfl, rfl, ?_, h4.drop⟩
        rw [heq, show n - (j + 1) = m from by omega]
        simp only [Prod.mk.injEq, and_true]
        omega
    · have ej : n - j = 0 := by omega
      have ej2 : j = n := by omega
      rw [ej] at heq
      have heq' : stepsR wd n R = (j, R') := heq
      refine hcut _ _ ?_
      rw [heq']
      exact ⟨rfl, hj, h1⟩
  · rintro _ w ⟨rfl, hle, h⟩
    exact hk _ h hle
def logR (R : RS) (f : Int) : List Done := if 0 ≤ f then ((R.feds[f.toNat]?).map FA.log).getD [] else []
def stR (R : RS) (f : Int) : Int := if 0 ≤ f then ((R.feds[f.toNat]?).map FA.st).getD (-1) else -1
theorem fs_len {k : Nat} {wd : Wd} {R : RS} {X : WdX} (hX : SoloOk X wd R k) {fs : List FedS} (h : fs.map FedS.a = R.feds) : fs.length = wd.Feds.length ∧ R.feds.length = fs.length := by
  have h1 : R.feds.length = fs.length := by rw [← h, List.length_map]
  exact ⟨by rw [← h1, hX.run.len], h1⟩
theorem solo_Log_s {r k : Nat} {wd : Wd} {R : RS} {f : Int} (hk0 : k ≤ 1000) (hS : Sat e w (IsSolo r wd R k :: Q))
    (hk : ∀ v w', Sat e w' (ownS 39 7 Done.cs v (logR R f) :: IsSolo r wd R k :: Q) → K v w') : Cl prog 13 #[.pointer (some ⟨r, 0, none⟩), .int .i64 f] w K := by
  refine solo_Run_Log_calls ?_
  unfold solo_Run_Log
  obtain ⟨X, hX, hS1⟩ := solo_of hS
  obtain ⟨fv, fs, arr, ⟨hfs, hpa, hhp⟩, hS2⟩ := run_of hS1
  obtain ⟨hl1, hl2⟩ := fs_len hX hfs
  have hn8 := hX.may.n.2
  have hnil : logR R f = [] → K (.slice none 0 0) w := fun h => by
    refine hk _ _ ?_
    rw [h]
    exact hS.own_nil 39 7 Done.cs
  by_cases c1 : f < 0
  · repeat (first | refine gd_tt ?_ | refine gd_ff ?_ | refine gd_tf ?_ | refine gd_ft ?_ | refine gd_u ?_ | refine pk_t ?_ | refine pk_f ?_ | refine iff_t ?_ | refine iff_f ?_ | refine not_t ?_ | refine not_f ?_ | refine beq_s ?_ | refine bne_s ?_ | refine ncP_p ?_ | refine nc_p ?_ | refine fld_at ?_ | refine xt_02 ?_ | refine xt_12 ?_ | refine xt_03 ?_ | refine xt_13 ?_ | refine xt_23 ?_ | refine eq_t (by omega) ?_ | refine eq_f (by omega) ?_ | refine ne_t (by omega) ?_ | refine ne_f (by omega) ?_ | refine lt_t (by omega) ?_ | refine lt_f (by omega) ?_ | refine gt_t (by omega) ?_ | refine gt_f (by omega) ?_ | refine ge_t (by omega) ?_ | refine ge_f (by omega) ?_ | refine le_t (by omega) ?_ | refine le_f (by omega) ?_)
    exact hnil (if_neg (by omega))
  refine lt_f c1 (gd_ff (gd_ff (gd_ff (nc_p ?_))))
  refine gd_ff (fld_at (gd_ff (ldW hS2 0 rfl (u := fv) rfl (gd_ff ?_))))
  refine lnS_rd hS2 1 rfl (fun g hg => own_rd hg) ?_
  by_cases c2 : (fs.length : Int) ≤ f
  · repeat (first | refine gd_tt ?_ | refine gd_ff ?_ | refine gd_tf ?_ | refine gd_ft ?_ | refine gd_u ?_ | refine pk_t ?_ | refine pk_f ?_ | refine iff_t ?_ | refine iff_f ?_ | refine not_t ?_ | refine not_f ?_ | refine beq_s ?_ | refine bne_s ?_ | refine ncP_p ?_ | refine nc_p ?_ | refine fld_at ?_ | refine xt_02 ?_ | refine xt_12 ?_ | refine xt_03 ?_ | refine xt_13 ?_ | refine xt_23 ?_ | refine eq_t (by omega) ?_ | refine eq_f (by omega) ?_ | refine ne_t (by omega) ?_ | refine ne_f (by omega) ?_ | refine lt_t (by omega) ?_ | refine lt_f (by omega) ?_ | refine gt_t (by omega) ?_ | refine gt_f (by omega) ?_ | refine ge_t (by omega) ?_ | refine ge_f (by omega) ?_ | refine le_t (by omega) ?_ | refine le_f (by omega) ?_)
    refine hnil ?_
    unfold logR
    rw [if_pos (by omega), List.getElem?_eq_none (by omega)]
    rfl
  refine gd_ff (ge_f (by omega) (pk_f (iff_f ?_)))
  obtain ⟨n, rfl⟩ : ∃ n : Nat, f = n := ⟨f.toNat, by omega⟩
  obtain ⟨a, ha⟩ := get_of_lt (l := fs) (j := n) (by omega)
  have hRa : R.feds[n]? = some a.a := by rw [← hfs, List.getElem?_map, ha]; rfl
  refine ncP_p (fld_at (ldW hS2 0 rfl (u := fv) rfl ?_))
  refine ixS_own hS2 1 rfl ha fun bf cf hfv => ?_
  refine fld_at (ldF_own hS2 1 rfl (fun _ => rfl) hfv ha (u := a.lv) rfl ?_)
  have hsent := (hX.run.sent a.a (List.mem_of_getElem? hRa)).2.2
  simp only [FedS.a] at hsent
  have h3 := (hS2.pick 2 rfl).focus n (by rw [List.getElem?_map, ha]; rfl : (fs.map logOwn)[n]? = some (logOwn a))
  refine clone_dones_s (l := a.log) (by omega) (fun _ _ => ints_flat _) h3 (fun g hg => own_rd hg) fun v' w4 h4 => ?_
  have hlog : logR R n = a.log := by
    unfold logR
    rw [if_pos (by omega), Int.toNat_natCast, hRa]
    rfl
  refine hk _ _ ?_
  rw [hlog]
  have h5 := (h4.drop).unfocus n (by rw [List.getElem?_map, ha]; rfl : (fs.map logOwn)[n]? = some (logOwn a))
  have h6 := h4.selR [_, _, _] [_, _, _] [1, 2, 0] (by decide) rfl
  have h7 := h6.unfocus n (by rw [List.getElem?_map, ha]; rfl : (fs.map logOwn)[n]? = some (logOwn a))
  have hse : (fs.map logOwn).set n (logOwn a) = fs.map logOwn := by
    apply List.ext_getElem?
    intro i
    by_cases h : n = i
    · subst h
      rw [List.getElem?_set_self (by rw [List.length_map]; omega), List.getElem?_map, ha]; rfl
    · rw [List.getElem?_set_ne h]
  rw [hse] at h7
  have h8 := run_mk (R := R) ⟨hfs, hpa, hhp⟩ (h7.selR [_, _, _, _, _] [_, _, _, _, _] [2, 3, 0, 4, 1] (by decide) rfl)
  exact (solo_mk hX h8).swap
theorem solo_State_s {r k : Nat} {wd : Wd} {R : RS} {f : Int} (hS : Sat e w (IsSolo r wd R k :: Q)) (hk : K (.int .i64 (stR R f)) w) : Cl prog 18 #[.pointer (some ⟨r, 0, none⟩), .int .i64 f] w K := by
  refine solo_Run_State_calls ?_
  unfold solo_Run_State
  obtain ⟨X, hX, hS1⟩ := solo_of hS
  obtain ⟨fv, fs, arr, ⟨hfs, hpa, hhp⟩, hS2⟩ := run_of hS1
  obtain ⟨hl1, hl2⟩ := fs_len hX hfs
  have hn8 := hX.may.n.2
  by_cases c1 : f < 0
  · repeat (first | refine gd_tt ?_ | refine gd_ff ?_ | refine gd_tf ?_ | refine gd_ft ?_ | refine gd_u ?_ | refine pk_t ?_ | refine pk_f ?_ | refine iff_t ?_ | refine iff_f ?_ | refine not_t ?_ | refine not_f ?_ | refine beq_s ?_ | refine bne_s ?_ | refine ncP_p ?_ | refine nc_p ?_ | refine fld_at ?_ | refine xt_02 ?_ | refine xt_12 ?_ | refine xt_03 ?_ | refine xt_13 ?_ | refine xt_23 ?_ | refine eq_t (by omega) ?_ | refine eq_f (by omega) ?_ | refine ne_t (by omega) ?_ | refine ne_f (by omega) ?_ | refine lt_t (by omega) ?_ | refine lt_f (by omega) ?_ | refine gt_t (by omega) ?_ | refine gt_f (by omega) ?_ | refine ge_t (by omega) ?_ | refine ge_f (by omega) ?_ | refine le_t (by omega) ?_ | refine le_f (by omega) ?_)
    unfold stR at hk
    rw [if_neg (by omega)] at hk
    exact hk
  refine lt_f c1 (gd_ff (gd_ff (gd_ff (nc_p ?_))))
  refine gd_ff (fld_at (gd_ff (ldW hS2 0 rfl (u := fv) rfl (gd_ff ?_))))
  refine lnS_rd hS2 1 rfl (fun g hg => own_rd hg) ?_
  by_cases c2 : (fs.length : Int) ≤ f
  · repeat (first | refine gd_tt ?_ | refine gd_ff ?_ | refine gd_tf ?_ | refine gd_ft ?_ | refine gd_u ?_ | refine pk_t ?_ | refine pk_f ?_ | refine iff_t ?_ | refine iff_f ?_ | refine not_t ?_ | refine not_f ?_ | refine beq_s ?_ | refine bne_s ?_ | refine ncP_p ?_ | refine nc_p ?_ | refine fld_at ?_ | refine xt_02 ?_ | refine xt_12 ?_ | refine xt_03 ?_ | refine xt_13 ?_ | refine xt_23 ?_ | refine eq_t (by omega) ?_ | refine eq_f (by omega) ?_ | refine ne_t (by omega) ?_ | refine ne_f (by omega) ?_ | refine lt_t (by omega) ?_ | refine lt_f (by omega) ?_ | refine gt_t (by omega) ?_ | refine gt_f (by omega) ?_ | refine ge_t (by omega) ?_ | refine ge_f (by omega) ?_ | refine le_t (by omega) ?_ | refine le_f (by omega) ?_)
    unfold stR at hk
    rw [if_pos (by omega), List.getElem?_eq_none (by omega)] at hk
    exact hk
  refine gd_ff (ge_f (by omega) (pk_f (iff_f ?_)))
  obtain ⟨n, rfl⟩ : ∃ n : Nat, f = n := ⟨f.toNat, by omega⟩
  obtain ⟨a, ha⟩ := get_of_lt (l := fs) (j := n) (by omega)
  have hRa : R.feds[n]? = some a.a := by rw [← hfs, List.getElem?_map, ha]; rfl
  refine ncP_p (fld_at (ldW hS2 0 rfl (u := fv) rfl ?_))
  refine ixS_own hS2 1 rfl ha fun bf cf hfv => ?_
  refine fld_at (ldF_own hS2 1 rfl (fun _ => rfl) hfv ha (u := .int .i64 a.st) rfl ?_)
  unfold stR at hk
  rw [if_pos (by omega), Int.toNat_natCast, hRa] at hk
  exact hk

/-! ### small -/
theorem small_s {x : WdX} (i : Nat) (hi : L[i]? = some S) (hS : Sat e w L) (hr : ∀ g, S g → RdWd x g) (hk : ∀ w' (b : Bool), Sat e w' L → (b = true → x.short) → K (.bool b) w') : Cl prog 8 #[.agg x.cs.toArray] w K := by
  refine pacelinelaw09_small_calls ?_
  unfold pacelinelaw09_small
  refine al_s (cs := x.cs) hS rfl fun b w1 h1 => ?_
  have hno : ∀ w', Sat e w' (blk b 25 x.cs :: L) → K (.bool false) w' := fun w' h' => hk w' false h'.drop (fun h => by cases h)
  refine fld_at (ld1_at h1 0 rfl (v := x.pv) rfl ?_)
  refine lnS_rd h1 (i + 1) (by simpa using hi) (fun g hg => (hr g hg).par) ?_
  by_cases c1 : (50 : Int) < x.Parents.length
  · repeat (first | refine gd_tt ?_ | refine gd_ff ?_ | refine gd_tf ?_ | refine gd_ft ?_ | refine gd_u ?_ | refine pk_t ?_ | refine pk_f ?_ | refine iff_t ?_ | refine iff_f ?_ | refine not_t ?_ | refine not_f ?_ | refine beq_s ?_ | refine bne_s ?_ | refine ncP_p ?_ | refine nc_p ?_ | refine fld_at ?_ | refine xt_02 ?_ | refine xt_12 ?_ | refine xt_03 ?_ | refine xt_13 ?_ | refine xt_23 ?_ | refine eq_t (by omega) ?_ | refine eq_f (by omega) ?_ | refine ne_t (by omega) ?_ | refine ne_f (by omega) ?_ | refine lt_t (by omega) ?_ | refine lt_f (by omega) ?_ | refine gt_t (by omega) ?_ | refine gt_f (by omega) ?_ | refine ge_t (by omega) ?_ | refine ge_f (by omega) ?_ | refine le_t (by omega) ?_ | refine le_f (by omega) ?_)
    exact hno _ h1
  refine gt_f c1 (gd_ff (fld_at (gd_ff (ld1_at h1 0 rfl (v := x.fv) rfl (gd_ff ?_)))))
  refine lnS_rd h1 (i + 1) (by simpa using hi) (fun g hg => (hr g hg).feds) ?_
  by_cases c2 : (20 : Int) < x.Feds.length
  · repeat (first | refine gd_tt ?_ | refine gd_ff ?_ | refine gd_tf ?_ | refine gd_ft ?_ | refine gd_u ?_ | refine pk_t ?_ | refine pk_f ?_ | refine iff_t ?_ | refine iff_f ?_ | refine not_t ?_ | refine not_f ?_ | refine beq_s ?_ | refine bne_s ?_ | refine ncP_p ?_ | refine nc_p ?_ | refine fld_at ?_ | refine xt_02 ?_ | refine xt_12 ?_ | refine xt_03 ?_ | refine xt_13 ?_ | refine xt_23 ?_ | refine eq_t (by omega) ?_ | refine eq_f (by omega) ?_ | refine ne_t (by omega) ?_ | refine ne_f (by omega) ?_ | refine lt_t (by omega) ?_ | refine lt_f (by omega) ?_ | refine gt_t (by omega) ?_ | refine gt_f (by omega) ?_ | refine ge_t (by omega) ?_ | refine ge_f (by omega) ?_ | refine le_t (by omega) ?_ | refine le_f (by omega) ?_)
    exact hno _ h1
  refine gd_ff (gt_f c2 (pk_f (iff_f ?_)))
  rw [zero_53]
  refine lpi1 (fun q t w => ∃ j : Nat, j ≤ x.Feds.length ∧ t = .int .i64 j ∧ q = x.Feds.length - j ∧ (∀ f ∈ x.Feds.take j, f.short) ∧ Sat e w (blk b 25 x.cs :: L)) x.Feds.length ⟨0, Nat.zero_le _, rfl, rfl, by simp, h1⟩ ?_
  rintro q _ w g ⟨j, hj, rfl, rfl, hall, h2⟩ hg
  refine fld_at (ld1_at h2 0 rfl (v := x.fv) rfl ?_)
  refine lnS_rd h2 (i + 1) (by simpa using hi) (fun g hg => (hr g hg).feds) ?_
  refine lt_c (fun c => iff_t ?_) (fun c => iff_f ?_)
  · obtain ⟨fd, hf⟩ := get_of_lt (l := x.Feds) (j := j) (by omega)
    have hfm := List.mem_of_getElem? hf
    refine fld_at (ld1_at h2 0 rfl (v := x.fv) rfl ?_)
    refine ixS_rd h2 (i + 1) (by simpa using hi) (fun g hg => (hr g hg).feds) (fun _ => rfl) hf fun a ha => ?_
    refine ldN_of h2 (i + 1) (by simpa using hi) ha rfl ?_
    refine al_s (cs := [.int .i64 0, .int .i64 0, .int .i64 0, .slice none 0 0, .slice none 0 0, .slice none 0 0, .slice none 0 0]) h2 rfl fun t w5 h5 => ?_
    refine stN_at h5 0 rfl (vs := fd.cs) rfl rfl (by simp) (fed_cells i hi hS fun g hg => (hr g hg).fed fd hfm) (cs' := fd.cs) (by rfl) fun w6 h6 => ?_
    have hi6 : (blk t 53 fd.cs :: blk b 25 x.cs :: L)[i + 2]? = some S := by simpa using hi
    refine fld_at (ld1_at h6 0 rfl (v := fd.rv) rfl ?_)
    refine lnS_rd h6 (i + 2) hi6 (fun g hg => ((hr g hg).fed fd hfm).rules.s) ?_
    by_cases d1 : (60 : Int) < fd.Rules.length
    · repeat (first | refine gd_tt ?_ | refine gd_ff ?_ | refine gd_tf ?_ | refine gd_ft ?_ | refine gd_u ?_ | refine pk_t ?_ | refine pk_f ?_ | refine iff_t ?_ | refine iff_f ?_ | refine not_t ?_ | refine not_f ?_ | refine beq_s ?_ | refine bne_s ?_ | refine ncP_p ?_ | refine nc_p ?_ | refine fld_at ?_ | refine xt_02 ?_ | refine xt_12 ?_ | refine xt_03 ?_ | refine xt_13 ?_ | refine xt_23 ?_ | refine eq_t (by omega) ?_ | refine eq_f (by omega) ?_ | refine ne_t (by omega) ?_ | refine ne_f (by omega) ?_ | refine lt_t (by omega) ?_ | refine lt_f (by omega) ?_ | refine gt_t (by omega) ?_ | refine gt_f (by omega) ?_ | refine ge_t (by omega) ?_ | refine ge_f (by omega) ?_ | refine le_t (by omega) ?_ | refine le_f (by omega) ?_)
      exact hno _ h6.drop
    refine gt_f d1 (gd_ff (fld_at (gd_ff (ld1_at h6 0 rfl (v := fd.pv) rfl (gd_ff ?_)))))
    refine lnS_rd h6 (i + 2) hi6 (fun g hg => ((hr g hg).fed fd hfm).pubs) ?_
    by_cases d2 : (50 : Int) < fd.Pubs.length
    · repeat (first | refine gd_tt ?_ | refine gd_ff ?_ | refine gd_tf ?_ | refine gd_ft ?_ | refine gd_u ?_ | refine pk_t ?_ | refine pk_f ?_ | refine iff_t ?_ | refine iff_f ?_ | refine not_t ?_ | refine not_f ?_ | refine beq_s ?_ | refine bne_s ?_ | refine ncP_p ?_ | refine nc_p ?_ | refine fld_at ?_ | refine xt_02 ?_ | refine xt_12 ?_ | refine xt_03 ?_ | refine xt_13 ?_ | refine xt_23 ?_ | refine eq_t (by omega) ?_ | refine eq_f (by omega) ?_ | refine ne_t (by omega) ?_ | refine ne_f (by omega) ?_ | refine lt_t (by omega) ?_ | refine lt_f (by omega) ?_ | refine gt_t (by omega) ?_ | refine gt_f (by omega) ?_ | refine ge_t (by omega) ?_ | refine ge_f (by omega) ?_ | refine le_t (by omega) ?_ | refine le_f (by omega) ?_)
      exact hno _ h6.drop
    refine gd_ff (gt_f d2 (pk_f (gd_ff (fld_at (gd_ff (ld1_at h6 0 rfl (v := fd.sv) rfl (gd_ff ?_)))))))
    refine lnS_rd h6 (i + 2) hi6 (fun g hg => ((hr g hg).fed fd hfm).subs) ?_
    by_cases d3 : (50 : Int) < fd.Subs.length
    · repeat (first | refine gd_tt ?_ | refine gd_ff ?_ | refine gd_tf ?_ | refine gd_ft ?_ | refine gd_u ?_ | refine pk_t ?_ | refine pk_f ?_ | refine iff_t ?_ | refine iff_f ?_ | refine not_t ?_ | refine not_f ?_ | refine beq_s ?_ | refine bne_s ?_ | refine ncP_p ?_ | refine nc_p ?_ | refine fld_at ?_ | refine xt_02 ?_ | refine xt_12 ?_ | refine xt_03 ?_ | refine xt_13 ?_ | refine xt_23 ?_ | refine eq_t (by omega) ?_ | refine eq_f (by omega) ?_ | refine ne_t (by omega) ?_ | refine ne_f (by omega) ?_ | refine lt_t (by omega) ?_ | refine lt_f (by omega) ?_ | refine gt_t (by omega) ?_ | refine gt_f (by omega) ?_ | refine ge_t (by omega) ?_ | refine ge_f (by omega) ?_ | refine le_t (by omega) ?_ | refine le_f (by omega) ?_)
      exact hno _ h6.drop
    refine gd_ff (gt_f d3 (pk_f (gd_ff (fld_at (gd_ff (ld1_at h6 0 rfl (v := fd.iv) rfl (gd_ff ?_)))))))
    refine lnS_rd h6 (i + 2) hi6 (fun g hg => ((hr g hg).fed fd hfm).init) ?_
    by_cases d4 : (20 : Int) < fd.Init.length
    · repeat (first | refine gd_tt ?_ | refine gd_ff ?_ | refine gd_tf ?_ | refine gd_ft ?_ | refine gd_u ?_ | refine pk_t ?_ | refine pk_f ?_ | refine iff_t ?_ | refine iff_f ?_ | refine not_t ?_ | refine not_f ?_ | refine beq_s ?_ | refine bne_s ?_ | refine ncP_p ?_ | refine nc_p ?_ | refine fld_at ?_ | refine xt_02 ?_ | refine xt_12 ?_ | refine xt_03 ?_ | refine xt_13 ?_ | refine xt_23 ?_ | refine eq_t (by omega) ?_ | refine eq_f (by omega) ?_ | refine ne_t (by omega) ?_ | refine ne_f (by omega) ?_ | refine lt_t (by omega) ?_ | refine lt_f (by omega) ?_ | refine gt_t (by omega) ?_ | refine gt_f (by omega) ?_ | refine ge_t (by omega) ?_ | refine ge_f (by omega) ?_ | refine le_t (by omega) ?_ | refine le_f (by omega) ?_)
      exact hno _ h6.drop
    refine gd_ff (gt_f d4 (pk_f (iff_f ?_)))
    refine lpi1 (fun q t' w => ∃ n : Nat, n ≤ fd.Rules.length ∧ t' = .int .i64 n ∧ q = fd.Rules.length - n ∧ (∀ r ∈ fd.Rules.take n, r.Sends.length ≤ 1000) ∧ Sat e w (blk t 53 fd.cs :: blk b 25 x.cs :: L)) fd.Rules.length ⟨0, Nat.zero_le _, rfl, rfl, by simp, h6⟩ ?_
    rintro q _ w g2 ⟨n, hn, rfl, rfl, hall2, h7⟩ hg2
    refine fld_at (ld1_at h7 0 rfl (v := fd.rv) rfl ?_)
    refine lnS_rd h7 (i + 2) hi6 (fun g hg => ((hr g hg).fed fd hfm).rules.s) ?_
    refine lt_c (fun c3 => iff_t ?_) (fun c3 => iff_f ?_)
    · obtain ⟨r, hrn⟩ := get_of_lt (l := fd.Rules) (j := n) (by omega)
      have hrm := List.mem_of_getElem? hrn
      refine fld_at (ld1_at h7 0 rfl (v := fd.rv) rfl ?_)
      refine ixS_rd h7 (i + 2) hi6 (fun g hg => ((hr g hg).fed fd hfm).rules.s) (fun _ => rfl) hrn fun a ha => ?_
      refine fld_of ha fun a1 ha1 => ?_
      refine ld1_of h7 (i + 2) hi6 ha1 (v := r.sv) rfl ?_
      refine lnS_rd h7 (i + 2) hi6 (fun g hg => ((hr g hg).fed fd hfm).rules.e r hrm) ?_
      refine gt_c (fun c4 => iff_t (hno _ h7.drop)) (fun c4 => iff_f (inc_s (by omega) ?_))
      refine hg2 _ _ _ (by omega) ⟨n + 1, by omega, rfl, rfl, fun y hy => ?_, h7⟩
      rw [take_snoc hrn] at hy
      rcases List.mem_append.1 hy with h | h
      · exact hall2 y h
      · rw [List.mem_singleton.1 h]; omega
    · have en : n = fd.Rules.length := by omega
      rw [en, List.take_length] at hall2
      refine inc_s (by omega) ?_
      refine hg _ _ _ (by omega) ⟨j + 1, by omega, rfl, rfl, fun y hy => ?_, h7.drop⟩
      rw [take_snoc hf] at hy
      rcases List.mem_append.1 hy with h | h
      · exact hall y h
      · rw [List.mem_singleton.1 h]
        exact ⟨by omega, by omega, by omega, by omega, hall2⟩
  · have ej : j = x.Feds.length := by omega
    rw [ej, List.take_length] at hall
    exact hk _ true h2.drop fun _ => ⟨by omega, by omega, hall⟩
end Go.Proofs.Ytfcnjbannejchaa
