/- The heap of what waits: the methods. Conditions: none. -/
import Derived.Test.YtfcnjbannejchaaSoloJ
import Derived.Test.YtfcnjbannejchaaTimeB
import Derived.Test.YtfcnjbannejchaaEngS
namespace Go.Proofs.Ytfcnjbannejchaa
open Go Go.E
set_option maxRecDepth 100000
variable {e w : World} {L R : List HP} {K : KV} {S S2 : HP}

abbrev rW (r : Nat) : Value := .pointer (some ⟨r, 4, none⟩)
theorem nilchk {xt : TypeId} {a : Addr} {x y : String} : (Builtin.ssaWrapNilChk_ #[xt] xt #[.pointer (some a), strVal x, strVal y]).run prog w = .ok (.pointer (some a)) w := by rfl
theorem meth_via {t elem : TypeId} {a : Addr} {name : String} {f : FuncId} {n : Nat} {inf : TypeInfo} {v : Value} (hi : prog.info? t = some inf) (hmm : (inf.methods.find? (·.name == name)).map (fun m => (m.path, m.func)) = some (#[], some (f, false))) (hu : prog.underlying t = some (.pointer elem))
    (hl : (loadVar elem a).run prog w = .ok v w) : (Go.method (n + 1) t (.pointer (some a)) name).run prog w = .ok (f, v) w := by
  obtain ⟨m, hm, hpf⟩ := Option.map_eq_some_iff.1 hmm
  have hp : m.path = #[] := congrArg Prod.fst hpf
  have hf : m.func = some (f, false) := congrArg Prod.snd hpf
  unfold Go.method
  simp only [Sem.run_bind, run_ti hi, Result.andThen_ok, hm, hp, hf, follow, Sem.run_pure, receiverAt, run_und hu, Place.get, asAddr]
  rw [if_pos (by rfl)]
  simp only [Sem.run_bind, nilchk, Result.andThen_ok, Sem.run_pure, hl]

/-! ### The order -/
def MLt (a b : Msg) : Prop := KeyLt a.key b.key ∨ (a.key = b.key ∧ a.To < b.To)
def cmpM (a b : Msg) : Int := if cmpK a.key b.key ≠ 0 then cmpK a.key b.key else cmpI a.To b.To
theorem cmpI_lt {a b : Int} : cmpI a b < 0 ↔ a < b := by unfold cmpI; split <;> (try split) <;> omega
theorem cmpK_zero {a b : Key} : cmpK a b = 0 ↔ a = b := by
  rcases cmpK_cases a b with ⟨h1, h2⟩ | ⟨h1, h2⟩ | ⟨h1, h2⟩
  · exact ⟨fun h => by omega, fun h => absurd h1 (by rw [h]; exact KeyLt.irrefl _)⟩
  · exact ⟨fun _ => h1, fun _ => h2⟩
  · exact ⟨fun h => by omega, fun h => absurd h1 (by rw [h]; exact KeyLt.irrefl _)⟩
theorem cmpM_lt {a b : Msg} : cmpM a b < 0 ↔ MLt a b := by
  unfold cmpM MLt
  by_cases h : cmpK a.key b.key = 0
  · rw [if_neg (fun k => k h), cmpI_lt]
    have hk := cmpK_zero.1 h
    constructor
    · exact fun h => .inr ⟨hk, h⟩
    · rintro (h2 | h2)
      · rw [hk] at h2; exact absurd h2 (KeyLt.irrefl _)
      · exact h2.2
  · rw [if_pos h, cmpK_lt]
    constructor
    · exact .inl
    · rintro (h2 | h2)
      · exact h2
      · exact absurd (cmpK_zero.2 h2.1) h
theorem MLt.irrefl (a : Msg) : ¬ MLt a a := by
  rintro (h | h)
  · exact KeyLt.irrefl _ h
  · omega
theorem MLt.trans {a b c : Msg} (h : MLt a b) (k : MLt b c) : MLt a c := by
  rcases h with h | ⟨h1, h2⟩
  · rcases k with k | ⟨k1, k2⟩
    · exact .inl (h.trans k)
    · rw [k1] at h; exact .inl h
  · rcases k with k | ⟨k1, k2⟩
    · rw [← h1] at k; exact .inl k
    · exact .inr ⟨h1.trans k1, by omega⟩
theorem MLt.asymm {a b : Msg} (h : MLt a b) : ¬ MLt b a := fun k => MLt.irrefl _ (h.trans k)
theorem MLt.tri (a b : Msg) : MLt a b ∨ (a.key = b.key ∧ a.To = b.To) ∨ MLt b a := by
  rcases KeyLt.tri a.key b.key with h | h | h
  · exact .inl (.inl h)
  · rcases Int.lt_trichotomy a.To b.To with k | k | k
    · exact .inl (.inr ⟨h, k⟩)
    · exact .inr (.inl ⟨h, k⟩)
    · exact .inr (.inr (.inr ⟨h.symm, k⟩))
  · exact .inr (.inr (.inl h))
theorem mLE_trans {a b c : Msg} (h : ¬ MLt a b) (k : ¬ MLt b c) : ¬ MLt a c := by
  intro hac
  rcases MLt.tri a b with h1 | h1 | h1
  · exact h h1
  · apply k
    rcases hac with h2 | h2
    · left; rw [← h1.1]; exact h2
    · right; rw [← h1.1, ← h1.2]; exact h2
  · exact k (h1.trans hac)
theorem order_s {a b : Msg} (hS : Sat e w R) (hk : ∀ w', Sat e w' R → K (.int .i64 (cmpM a b)) w') : Cl prog 39 #[.agg a.cs.toArray, .agg b.cs.toArray] w K := by
  refine solo_order_calls ?_
  unfold solo_order
  rw [zero_3]
  refine al_s (cs := a.cs) hS rfl fun b2 w1 h1 => ?_
  refine al_s (cs := b.cs) h1 rfl fun b3 w2 h2 => ?_
  refine dr_s h2 fun w3 h3 => ?_
  refine fld_at (ldN_at h3 1 (vs := a.key.cs) rfl (by rfl) rfl (fld_at (ldN_at h3 0 (vs := b.key.cs) rfl (by rfl) rfl ?_)))
  refine fld_at (ld1_at h3 1 rfl (v := .int .i64 a.To) rfl (fld_at (ld1_at h3 0 rfl (v := .int .i64 b.To) rfl ?_)))
  refine vtime_Cmp_s h3 fun w4 h4 => ?_
  refine ⟨ld1_at h4 0 rfl (v := .int .i64 b.To) rfl ⟨rfl, rfl⟩, ld1_at h4 1 rfl (v := .int .i64 a.To) rfl ⟨rfl, rfl⟩, ?_⟩
  refine compare_s ?_
  refine bsl_s (ints [cmpK a.key b.key, cmpI a.To b.To]) h4 (by kernel_rfl) fun b20 w5 h5 => ?_
  refine or_s h5 (l := [cmpK a.key b.key, cmpI a.To b.To]) (blk_rdn (f := intsK .i64) [cmpK a.key b.key, cmpI a.To b.To] rfl (Nat.le_refl _)) (by simp) fun w6 h6 => ?_
  have h7 := hk _ (h6.drop.drop.drop)
  have e1 : ([cmpK a.key b.key, cmpI a.To b.To].find? (fun n => decide (n ≠ 0))).getD 0 = cmpM a b := by
    unfold cmpM
    by_cases h1 : cmpK a.key b.key = 0
    · by_cases h2 : cmpI a.To b.To = 0 <;> simp [h1, h2]
    · simp [h1]
  rw [e1]
  exact h7

/-! ### What waits, in the run's block -/
/-- The exchange of two. -/
def swapM (l : List Msg) (i k : Nat) (x y : Msg) : List Msg := (l.set i y).set k x
theorem swapM_len (l : List Msg) (i k : Nat) (x y : Msg) : (swapM l i k x y).length = l.length := by simp [swapM]
theorem swapM_get {l : List Msg} {i k : Nat} {x y : Msg} (hx : l[i]? = some x) (hy : l[k]? = some y) (n : Nat) : (swapM l i k x y)[n]? = if n = k then some x else if n = i then some y else l[n]? := by
  have hi := (List.getElem?_eq_some_iff.1 hx).1
  have hk := (List.getElem?_eq_some_iff.1 hy).1
  unfold swapM
  rw [List.getElem?_set]
  by_cases h : k = n
  · subst h; simp [hk]
  · have h' : ¬ n = k := fun e => h e.symm
    rw [if_neg h, if_neg h', List.getElem?_set]
    by_cases h2 : i = n
    · subst h2; simp [hi]
    · have h2' : ¬ n = i := fun e => h2 e.symm
      rw [if_neg h2, if_neg h2']
theorem swapM_perm {l : List Msg} {i k : Nat} {x y : Msg} (hx : l[i]? = some x) (hy : l[k]? = some y) : (swapM l i k x y).Perm l := by
  have hi := (List.getElem?_eq_some_iff.1 hx)
  have hk := (List.getElem?_eq_some_iff.1 hy)
  by_cases hik : i = k
  · subst hik
    rw [hx] at hy
    injection hy with hy
    subst hy
    have : swapM l i i x x = l := by
      apply List.ext_getElem?
      intro n
      rw [swapM_get hx hx]
      split
      · rename_i e; subst e; exact hx.symm
      · rfl
    rw [this]
  · unfold swapM
    have h1 := List.set_set_perm hi.1 hk.1
    rw [hi.2, hk.2] at h1
    exact h1
def IsW (r : Nat) (pre : List Value) (l : List Msg) : HP := hex fun v : Value => sepL [pur (pre.length = 4), blk r 68 (pre ++ [v]), ownS 37 6 Msg.cs v l]
theorem isW_of {r : Nat} {pre : List Value} {l : List Msg} (h : Sat e w (IsW r pre l :: R)) : ∃ v, pre.length = 4 ∧ Sat e w (blk r 68 (pre ++ [v]) :: ownS 37 6 Msg.cs v l :: R) := by
  obtain ⟨v, h0⟩ := h.ex
  exact ⟨v, Sat.pure h0.split⟩
theorem isW_mk {r : Nat} {pre : List Value} {l : List Msg} {v : Value} (hp : pre.length = 4) (h : Sat e w (blk r 68 (pre ++ [v]) :: ownS 37 6 Msg.cs v l :: R)) : Sat e w (IsW r pre l :: R) :=
  .mk_ex v (.join (l' := [_, _, _]) (.mk_pure hp h))
theorem pre_get {pre : List Value} {v : Value} (hp : pre.length = 4) : (pre ++ [v])[4]? = some v := by
  rw [List.getElem?_append_right (by omega), hp]; rfl
theorem pre_set {pre : List Value} {v u : Value} (hp : pre.length = 4) : wrL (pre ++ [v]) 4 [u] = pre ++ [u] := by
  unfold wrL
  rw [List.take_left' hp, List.drop_of_length_le (by simp [hp]), List.append_nil]
theorem loadW {r : Nat} {pre : List Value} {v : Value} {l : List Msg} (hp : pre.length = 4) (h : Sat e w (blk r 68 (pre ++ [v]) :: ownS 37 6 Msg.cs v l :: R)) : (loadVar 66 ⟨r, 4, none⟩).run prog w = .ok v w := by
  obtain ⟨a, u, h1, h2, h3⟩ := ldT_run (P := prog) (t := 66) (x := .pointer (some ⟨r, 4, none⟩)) (w := w) (K := fun v' w' => v' = v) (by
    show ld1 (.pointer (some ⟨r, 4, none⟩)) w fun v' w' => v' = v
    exact ld1_at h 0 rfl (pre_get hp) rfl)
  injection h1 with h1
  injection h1 with h1
  subst h1 h3
  exact h2
theorem clW_s {r : Nat} {name : String} {f : FuncId} {args : Array Value} {v : Value} (hm : (Go.method (prog.types.size + Made.depth) 77 (rW r) name).run prog w = .ok (f, v) w) (h : Cl prog f (#[v] ++ args) w K) : clI prog (.iface 77 (rW r)) name args w K := clI_s hm h
theorem w_Len_s {r : Nat} {pre : List Value} {l : List Msg} (hS : Sat e w (IsW r pre l :: R)) (hk : ∀ w', Sat e w' (IsW r pre l :: R) → K (.int .i64 (l.length : Int)) w') : clI prog (.iface 77 (rW r)) "Len" #[] w K := by
  obtain ⟨v, hp, h1⟩ := isW_of hS
  refine clW_s (f := 132) (meth_via (inf := Try.t77) (by kernel_rfl) (by kernel_rfl) (by kernel_rfl) (loadW hp h1)) ?_
  refine solo_waiting_Len_calls (t0 := v) ?_
  unfold solo_waiting_Len
  exact lnS_rd h1 1 rfl (fun g hg => own_rd hg) (hk _ hS)
theorem w_Less_s {r i k : Nat} {pre : List Value} {l : List Msg} {x y : Msg} (hx : l[i]? = some x) (hy : l[k]? = some y) (hS : Sat e w (IsW r pre l :: R)) (hk : ∀ w', Sat e w' (IsW r pre l :: R) → K (.bool (decide (cmpM x y < 0))) w') :
    clI prog (.iface 77 (rW r)) "Less" #[.int .i64 (i : Int), .int .i64 (k : Int)] w K := by
  obtain ⟨v, hp, h1⟩ := isW_of hS
  refine clW_s (f := 133) (meth_via (inf := Try.t77) (by kernel_rfl) (by kernel_rfl) (by kernel_rfl) (loadW hp h1)) ?_
  refine solo_waiting_Less_calls (t0 := v) (t1 := .int .i64 (i : Int)) (t2 := .int .i64 (k : Int)) ?_
  unfold solo_waiting_Less
  refine dr_s h1 fun w3 h3 => ?_
  refine ixS_rd h3 1 rfl (fun g hg => own_rd hg) (fun _ => rfl) hx fun p hp' => ?_
  refine ldN_of h3 1 rfl hp' rfl ?_
  refine ixS_rd h3 1 rfl (fun g hg => own_rd hg) (fun _ => rfl) hy fun q hq => ?_
  refine ldN_of h3 1 rfl hq rfl ?_
  refine order_s h3 fun w4 h4 => ?_
  exact lt_d (hk _ (isW_mk hp h4))
theorem w_Swap_s {r i k : Nat} {pre : List Value} {l : List Msg} {x y : Msg} (hx : l[i]? = some x) (hy : l[k]? = some y) (hS : Sat e w (IsW r pre l :: R)) (hk : ∀ w', Sat e w' (IsW r pre (swapM l i k x y) :: R) → K (.tuple #[]) w') :
    clI prog (.iface 77 (rW r)) "Swap" #[.int .i64 (i : Int), .int .i64 (k : Int)] w K := by
  obtain ⟨v, hp, h1⟩ := isW_of hS
  refine clW_s (f := 134) (meth_via (inf := Try.t77) (by kernel_rfl) (by kernel_rfl) (by kernel_rfl) (loadW hp h1)) ?_
  refine solo_waiting_Swap_calls (t0 := v) (t1 := .int .i64 (i : Int)) (t2 := .int .i64 (k : Int)) ?_
  unfold solo_waiting_Swap
  have hil := (List.getElem?_eq_some_iff.1 hx).1
  have hkl := (List.getElem?_eq_some_iff.1 hy).1
  refine dr_s h1 fun w3 h3 => ?_
  refine ixS_rd h3 1 rfl (fun g hg => own_rd hg) (fun _ => rfl) hy fun q hq => ?_
  refine ldN_of h3 1 rfl hq rfl ?_
  refine ixS_rd h3 1 rfl (fun g hg => own_rd hg) (fun _ => rfl) hx fun p hp' => ?_
  refine ldN_of h3 1 rfl hp' rfl ?_
  refine st_own' h3 1 rfl (fun _ => rfl) hil (x := y) rfl (ints_flat _) fun w4 h4 => ?_
  refine st_own' h4 1 rfl (fun _ => rfl) (by rw [List.length_set]; exact hkl) (x := x) rfl (ints_flat _) fun w5 h5 => ?_
  exact hk _ (isW_mk hp h5)
theorem meth_Push {r : Nat} : (Go.method (prog.types.size + Made.depth) 77 (rW r) "Push").run prog w = .ok (136, rW r) w := by kernel_rfl
theorem w_Push_s {r : Nat} {pre : List Value} {l : List Msg} {x : Msg} (hl : l.length ≤ 1000000) (hS : Sat e w (IsW r pre l :: R)) (hk : ∀ w', Sat e w' (IsW r pre (l ++ [x]) :: R) → K (.tuple #[]) w') :
    clI prog (.iface 77 (rW r)) "Push" #[.iface 37 (.agg x.cs.toArray)] w K := by
  obtain ⟨v, hp, h1⟩ := isW_of hS
  refine clW_s meth_Push ?_
  refine solo_waiting_Push_calls (t0 := rW r) (t1 := .iface 37 (.agg x.cs.toArray)) ?_
  unfold solo_waiting_Push
  refine dr_s h1 fun w3 h3 => ?_
  refine ncP_p (ld1_at h3 0 rfl (pre_get hp) ?_)
  refine tyA_ok (by kernel_rfl) ?_
  refine ⟨ld1_at h3 0 rfl (pre_get hp) ⟨rfl, rfl⟩, ?_⟩
  refine bsl1 (vs := x.cs) rfl rfl h3 fun bb w4 h4 => ?_
  refine ⟨ld1_at h4 1 rfl (pre_get hp) ⟨rfl, rfl⟩, ?_⟩
  refine apS_own te_66 te_66.und (f := Msg.cs) (m := [x]) (fun _ => rfl) (fun _ => ints_flat _) (h4.selR [_, _, _] [_, _, _] [2, 0, 1] (by decide) rfl) (blk_rd1 (Nat.le_refl _)) (by simp; omega) fun v' w5 h5 => ?_
  have hfl := h5.own_cells 0 rfl
  refine ncP_p (stN_at h5 2 rfl (vs := [v']) hfl.1 rfl (by simp [hp]) (fun c hc => by rw [List.mem_singleton.1 hc]; exact hfl.2) (pre_set hp) fun w6 h6 => ?_)
  exact hk _ (isW_mk hp (h6.selR [_, _, _] [_, _] [2, 0] (by decide) rfl))
theorem meth_Pop {r : Nat} : (Go.method (prog.types.size + Made.depth) 77 (rW r) "Pop").run prog w = .ok (135, rW r) w := by kernel_rfl
theorem w_Pop_s {r : Nat} {pre : List Value} {l : List Msg} {x : Msg} (hl : l.length ≤ 1000000) (hS : Sat e w (IsW r pre (l ++ [x]) :: R)) (hk : ∀ w', Sat e w' (IsW r pre l :: R) → K (.iface 37 (.agg x.cs.toArray)) w') :
    clI prog (.iface 77 (rW r)) "Pop" #[] w K := by
  obtain ⟨v, hp, h1⟩ := isW_of hS
  refine clW_s meth_Pop ?_
  refine solo_waiting_Pop_calls (t0 := rW r) ?_
  unfold solo_waiting_Pop
  have hlen : (l ++ [x]).length = l.length + 1 := by simp
  have hxl : (l ++ [x])[l.length]? = some x := by simp
  refine ncP_p (ld1_at h1 0 rfl (pre_get hp) ?_)
  refine lnS_rd h1 1 rfl (fun g hg => own_rd hg) ?_
  rw [hlen]
  refine dec_s (by omega) (by omega) ?_
  rw [Nat.add_sub_cancel]
  refine ncP_p (ld1_at h1 0 rfl (pre_get hp) ?_)
  refine ixS_rd h1 1 rfl (fun g hg => own_rd hg) (fun _ => rfl) hxl fun p hp' => ?_
  refine ldN_of h1 1 rfl hp' rfl ?_
  rw [zero_37]
  refine al_s (cs := Msg.zero.cs) h1 rfl fun d w3 h3 => ?_
  refine stN_at h3 0 rfl (vs := x.cs) rfl rfl (by decide) (ints_flat _) (cs' := x.cs) (by rfl) fun w4 h4 => ?_
  refine ncP_p (ld1_at h4 1 rfl (pre_get hp) ?_)
  refine slc_own h4 2 rfl (fun _ => rfl) (hi := l.length) (by omega) fun v' h6 => ?_
  rw [List.take_left' rfl] at h6
  have hfl := h6.own_cells 2 rfl
  refine ncP_p (stN_at h6 1 rfl (vs := [v']) hfl.1 rfl (by simp [hp]) (fun c hc => by rw [List.mem_singleton.1 hc]; exact hfl.2) (pre_set hp) fun w7 h7 => ?_)
  refine ldN_at h7 0 (vs := x.cs) rfl (by rfl) rfl ?_
  exact hk _ (isW_mk hp h7.drop)
end Go.Proofs.Ytfcnjbannejchaa
