/- The heap of what waits: the methods. Conditions: none. The heap of what waits: up, down, Push, Pop. Conditions: at most a million messages. -/
import Derived.Test.YtfcnjbannejchaaSoloJ
import Derived.Test.YtfcnjbannejchaaTimeB
import Derived.Test.YtfcnjbannejchaaEngS
namespace Go.Proofs.Ytfcnjbannejchaa
open Go Go.E
set_option maxRecDepth 100000
variable {e w : World} {L R : List HP} {K : KV} {S S2 : HP}

abbrev rW (r : Nat) : Value := .pointer (some ⟨r, 4, none⟩)
theorem nilchk {xt : TypeId} {a : Addr} {x y : String} : (Builtin.ssaWrapNilChk_ #[xt] xt #[.pointer (some a), strVal x, strVal y]).run prog w = .ok (.pointer (some a)) w := by rfl
theorem meth_via {t elem : TypeId} {a : Addr} {name : String} {f : FuncId} {n : Nat} {inf : TypeInfo} {v : Value} (hi : prog.info? t = some inf) (hmm : (inf.methods.find? (·.name == name)).map (fun m => (m.path, m.func)) = some (#[], some (f, false))) (hu : prog.underlying t = some (.pointer elem))
    (hl : (loadVar elem a).run prog w = .ok v w) : (Go.method (n + 1) t (.pointer (some a)) name).run prog w = .ok (f, v) w := by
  obtain ⟨m, hm, hpf⟩ := Option.map_eq_some_iff.1 hmm
  have hp : m.path = #[] := congrArg Prod.fst hpf
  have hf : m.func = some (f, false) := congrArg Prod.snd hpf
  unfold Go.method
  simp only [Sem.run_bind, run_ti hi, Result.andThen_ok, hm, hp, hf, follow, Sem.run_pure, receiverAt, run_und hu, Place.get, asAddr]
  rw [if_pos (by rfl)]
  simp only [Sem.run_bind, nilchk, Result.andThen_ok, Sem.run_pure, hl]

/-! ### The order -/
def MLt (a b : Msg) : Prop := KeyLt a.key b.key ∨ (a.key = b.key ∧ a.To < b.To)
def cmpM (a b : Msg) : Int := if cmpK a.key b.key ≠ 0 then cmpK a.key b.key else cmpI a.To b.To
theorem cmpI_lt {a b : Int} : cmpI a b < 0 ↔ a < b := by unfold cmpI; split <;> (try split) <;> omega
theorem cmpK_zero {a b : Key} : cmpK a b = 0 ↔ a = b := by
  rcases cmpK_cases a b with ⟨h1, h2⟩ | ⟨h1, h2⟩ | ⟨h1, h2⟩
  · exact ⟨fun h => by omega, fun h => absurd h1 (by rw [h]; exact KeyLt.irrefl _)⟩
  · exact ⟨fun _ => h1, fun _ => h2⟩
  · exact ⟨fun h => by omega, fun h => absurd h1 (by rw [h]; exact KeyLt.irrefl _)⟩
theorem cmpM_lt {a b : Msg} : cmpM a b < 0 ↔ MLt a b := by
  unfold cmpM MLt
  by_cases h : cmpK a.key b.key = 0
  · rw [if_neg (fun k => k h), cmpI_lt]
    have hk := cmpK_zero.1 h
    constructor
    · exact fun h => .inr ⟨hk, h⟩
    · rintro (h2 | h2)
      · rw [hk] at h2; exact absurd h2 (KeyLt.irrefl _)
      · exact h2.2
  · rw [if_pos h, cmpK_lt]
    constructor
    · exact .inl
    · rintro (h2 | h2)
      · exact h2
      · exact absurd (cmpK_zero.2 h2.1) h
theorem MLt.irrefl (a : Msg) : ¬ MLt a a := by
  rintro (h | h)
  · exact KeyLt.irrefl _ h
  · omega
theorem MLt.trans {a b c : Msg} (h : MLt a b) (k : MLt b c) : MLt a c := by
  rcases h with h | ⟨h1, h2⟩
  · rcases k with k | ⟨k1, k2⟩
    · exact .inl (h.trans k)
    · rw [k1] at h; exact .inl h
  · rcases k with k | ⟨k1, k2⟩
    · rw [← h1] at k; exact .inl k
    · exact .inr ⟨h1.trans k1, by omega⟩
theorem MLt.asymm {a b : Msg} (h : MLt a b) : ¬ MLt b a := fun k => MLt.irrefl _ (h.trans k)
theorem MLt.tri (a b : Msg) : MLt a b ∨ (a.key = b.key ∧ a.To = b.To) ∨ MLt b a := by
  rcases KeyLt.tri a.key b.key with h | h | h
  · exact .inl (.inl h)
  · rcases Int.lt_trichotomy a.To b.To with k | k | k
    · exact .inl (.inr ⟨h, k⟩)
    · exact .inr (.inl ⟨h, k⟩)
    · exact .inr (.inr (.inr ⟨h.symm, k⟩))
  · exact .inr (.inr (.inl h))
theorem mLE_trans {a b c : Msg} (h : ¬ MLt a b) (k : ¬ MLt b c) : ¬ MLt a c := by
  intro hac
  rcases MLt.tri a b with h1 | h1 | h1
  · exact h h1
  · apply k
    rcases hac with h2 | h2
    · left; rw [← h1.1]; exact h2
    · right; rw [← h1.1, ← h1.2]; exact h2
  · exact k (h1.trans hac)
theorem order_s {a b : Msg} (hS : Sat e w R) (hk : ∀ w', Sat e w' R → K (.int .i64 (cmpM a b)) w') : Cl prog 39 #[.agg a.cs.toArray, .agg b.cs.toArray] w K := by
  refine solo_order_calls ?_
  unfold solo_order
  rw [zero_3]
  refine al_s (cs := a.cs) hS rfl fun b2 w1 h1 => ?_
  refine al_s (cs := b.cs) h1 rfl fun b3 w2 h2 => ?_
  refine dr_s h2 fun w3 h3 => ?_
  refine fld_at (ldN_at h3 1 (vs := a.key.cs) rfl (by rfl) rfl (fld_at (ldN_at h3 0 (vs := b.key.cs) rfl (by rfl) rfl ?_)))
  refine fld_at (ld1_at h3 1 rfl (v := .int .i64 a.To) rfl (fld_at (ld1_at h3 0 rfl (v := .int .i64 b.To) rfl ?_)))
  refine vtime_Cmp_s h3 fun w4 h4 => ?_
  refine ⟨ld1_at h4 0 rfl (v := .int .i64 b.To) rfl ⟨rfl, rfl⟩, ld1_at h4 1 rfl (v := .int .i64 a.To) rfl ⟨rfl, rfl⟩, ?_⟩
  refine compare_s ?_
  refine bsl_s (ints [cmpK a.key b.key, cmpI a.To b.To]) h4 (by kernel_rfl) fun b20 w5 h5 => ?_
  refine or_s h5 (l := [cmpK a.key b.key, cmpI a.To b.To]) (blk_rdn (f := intsK .i64) [cmpK a.key b.key, cmpI a.To b.To] rfl (Nat.le_refl _)) (by simp) fun w6 h6 => ?_
  have h7 := hk _ (h6.drop.drop.drop)
  have e1 : ([cmpK a.key b.key, cmpI a.To b.To].find? (fun n => decide (n ≠ 0))).getD 0 = cmpM a b := by
    unfold cmpM
    by_cases h1 : cmpK a.key b.key = 0
    · by_cases h2 : cmpI a.To b.To = 0 <;> simp [h1, h2]
    · simp [h1]
  rw [e1]
  exact h7

/-! ### What waits, in the run's block -/
/-- The exchange of two. -/
def swapM (l : List Msg) (i k : Nat) (x y : Msg) : List Msg := (l.set i y).set k x
theorem swapM_len (l : List Msg) (i k : Nat) (x y : Msg) : (swapM l i k x y).length = l.length := by simp [swapM]
theorem swapM_get {l : List Msg} {i k : Nat} {x y : Msg} (hx : l[i]? = some x) (hy : l[k]? = some y) (n : Nat) : (swapM l i k x y)[n]? = if n = k then some x else if n = i then some y else l[n]? := by
  have hi := (List.getElem?_eq_some_iff.1 hx).1
  have hk := (List.getElem?_eq_some_iff.1 hy).1
  unfold swapM
  rw [List.getElem?_set]
  by_cases h : k = n
  · subst h; simp [hk]
  · have h' : ¬ n = k := fun e => h e.symm
    rw [if_neg h, if_neg h', List.getElem?_set]
    by_cases h2 : i = n
    · subst h2; simp [hi]
    · have h2' : ¬ n = i := fun e => h2 e.symm
      rw [if_neg h2, if_neg h2']
theorem swapM_perm {l : List Msg} {i k : Nat} {x y : Msg} (hx : l[i]? = some x) (hy : l[k]? = some y) : (swapM l i k x y).Perm l := by
  have hi := (List.getElem?_eq_some_iff.1 hx)
  have hk := (List.getElem?_eq_some_iff.1 hy)
  by_cases hik : i = k
  · subst hik
    rw [hx] at hy
    injection hy with hy
    subst hy
    have : swapM l i i x x = l := by
      apply List.ext_getElem?
      intro n
      rw [swapM_get hx hx]
      split
      · rename_i e; subst e; exact hx.symm
      · rfl
    rw [this]
  · unfold swapM
    have h1 := List.set_set_perm hi.1 hk.1
    rw [hi.2, hk.2] at h1
    exact h1
def IsW (r : Nat) (pre : List Value) (l : List Msg) : HP := hex fun v : Value => sepL [pur (pre.length = 4), blk r 68 (pre ++ [v]), ownS 37 6 Msg.cs v l]
theorem isW_of {r : Nat} {pre : List Value} {l : List Msg} (h : Sat e w (IsW r pre l :: R)) : ∃ v, pre.length = 4 ∧ Sat e w (blk r 68 (pre ++ [v]) :: ownS 37 6 Msg.cs v l :: R) := by
  obtain ⟨v, h0⟩ := h.ex
  exact ⟨v, Sat.pure h0.split⟩
theorem isW_mk {r : Nat} {pre : List Value} {l : List Msg} {v : Value} (hp : pre.length = 4) (h : Sat e w (blk r 68 (pre ++ [v]) :: ownS 37 6 Msg.cs v l :: R)) : Sat e w (IsW r pre l :: R) :=
  .mk_ex v (.join (l' := [_, _, _]) (.mk_pure hp h))
theorem pre_get {pre : List Value} {v : Value} (hp : pre.length = 4) : (pre ++ [v])[4]? = some v := by
  rw [List.getElem?_append_right (by omega), hp]; rfl
theorem pre_set {pre : List Value} {v u : Value} (hp : pre.length = 4) : wrL (pre ++ [v]) 4 [u] = pre ++ [u] := by
  unfold wrL
  rw [List.take_left' hp, List.drop_of_length_le (by simp [hp]), List.append_nil]
theorem loadW {r : Nat} {pre : List Value} {v : Value} {l : List Msg} (hp : pre.length = 4) (h : Sat e w (blk r 68 (pre ++ [v]) :: ownS 37 6 Msg.cs v l :: R)) : (loadVar 66 ⟨r, 4, none⟩).run prog w = .ok v w := by
  obtain ⟨a, u, h1, h2, h3⟩ := ldT_run (P := prog) (t := 66) (x := .pointer (some ⟨r, 4, none⟩)) (w := w) (K := fun v' w' => v' = v) (by
    show ld1 (.pointer (some ⟨r, 4, none⟩)) w fun v' w' => v' = v
    exact ld1_at h 0 rfl (pre_get hp) rfl)
  injection h1 with h1
  injection h1 with h1
  subst h1 h3
  exact h2
theorem clW_s {r : Nat} {name : String} {f : FuncId} {args : Array Value} {v : Value} (hm : (Go.method (prog.types.size + Made.depth) 77 (rW r) name).run prog w = .ok (f, v) w) (h : Cl prog f (#[v] ++ args) w K) : clI prog (.iface 77 (rW r)) name args w K := clI_s hm h
theorem w_Len_s {r : Nat} {pre : List Value} {l : List Msg} (hS : Sat e w (IsW r pre l :: R)) (hk : ∀ w', Sat e w' (IsW r pre l :: R) → K (.int .i64 (l.length : Int)) w') : clI prog (.iface 77 (rW r)) "Len" #[] w K := by
  obtain ⟨v, hp, h1⟩ := isW_of hS
  refine clW_s (f := 132) (meth_via (inf := Try.t77) (by kernel_rfl) (by kernel_rfl) (by kernel_rfl) (loadW hp h1)) ?_
  refine solo_waiting_Len_calls (t0 := v) ?_
  unfold solo_waiting_Len
  exact lnS_rd h1 1 rfl (fun g hg => own_rd hg) (hk _ hS)
theorem w_Less_s {r i k : Nat} {pre : List Value} {l : List Msg} {x y : Msg} (hx : l[i]? = some x) (hy : l[k]? = some y) (hS : Sat e w (IsW r pre l :: R)) (hk : ∀ w', Sat e w' (IsW r pre l :: R) → K (.bool (decide (cmpM x y < 0))) w') :
    clI prog (.iface 77 (rW r)) "Less" #[.int .i64 (i : Int), .int .i64 (k : Int)] w K := by
  obtain ⟨v, hp, h1⟩ := isW_of hS
  refine clW_s (f := 133) (meth_via (inf := Try.t77) (by kernel_rfl) (by kernel_rfl) (by kernel_rfl) (loadW hp h1)) ?_
  refine solo_waiting_Less_calls (t0 := v) (t1 := .int .i64 (i : Int)) (t2 := .int .i64 (k : Int)) ?_
  unfold solo_waiting_Less
  refine dr_s h1 fun w3 h3 => ?_
  refine ixS_rd h3 1 rfl (fun g hg => own_rd hg) (fun _ => rfl) hx fun p hp' => ?_
  refine ldN_of h3 1 rfl hp' rfl ?_
  refine ixS_rd h3 1 rfl (fun g hg => own_rd hg) (fun _ => rfl) hy fun q hq => ?_
  refine ldN_of h3 1 rfl hq rfl ?_
  refine order_s h3 fun w4 h4 => ?_
  exact lt_d (hk _ (isW_mk hp h4))
theorem w_Swap_s {r i k : Nat} {pre : List Value} {l : List Msg} {x y : Msg} (hx : l[i]? = some x) (hy : l[k]? = some y) (hS : Sat e w (IsW r pre l :: R)) (hk : ∀ w', Sat e w' (IsW r pre (swapM l i k x y) :: R) → K (.tuple #[]) w') :
    clI prog (.iface 77 (rW r)) "Swap" #[.int .i64 (i : Int), .int .i64 (k : Int)] w K := by
  obtain ⟨v, hp, h1⟩ := isW_of hS
  refine clW_s (f := 134) (meth_via (inf := Try.t77) (by kernel_rfl) (by kernel_rfl) (by kernel_rfl) (loadW hp h1)) ?_
  refine solo_waiting_Swap_calls (t0 := v) (t1 := .int .i64 (i : Int)) (t2 := .int .i64 (k : Int)) ?_
  unfold solo_waiting_Swap
  have hil := (List.getElem?_eq_some_iff.1 hx).1
  have hkl := (List.getElem?_eq_some_iff.1 hy).1
  refine dr_s h1 fun w3 h3 => ?_
  refine ixS_rd h3 1 rfl (fun g hg => own_rd hg) (fun _ => rfl) hy fun q hq => ?_
  refine ldN_of h3 1 rfl hq rfl ?_
  refine ixS_rd h3 1 rfl (fun g hg => own_rd hg) (fun _ => rfl) hx fun p hp' => ?_
  refine ldN_of h3 1 rfl hp' rfl ?_
  refine st_own' h3 1 rfl (fun _ => rfl) hil (x := y) rfl (ints_flat _) fun w4 h4 => ?_
  refine st_own' h4 1 rfl (fun _ => rfl) (by rw [List.length_set]; exact hkl) (x := x) rfl (ints_flat _) fun w5 h5 => ?_
  exact hk _ (isW_mk hp h5)
theorem meth_Push {r : Nat} : (Go.method (prog.types.size + Made.depth) 77 (rW r) "Push").run prog w = .ok (136, rW r) w := by kernel_rfl
theorem w_Push_s {r : Nat} {pre : List Value} {l : List Msg} {x : Msg} (hl : l.length ≤ 1000000) (hS : Sat e w (IsW r pre l :: R)) (hk : ∀ w', Sat e w' (IsW r pre (l ++ [x]) :: R) → K (.tuple #[]) w') :
    clI prog (.iface 77 (rW r)) "Push" #[.iface 37 (.agg x.cs.toArray)] w K := by
  obtain ⟨v, hp, h1⟩ := isW_of hS
  refine clW_s meth_Push ?_
  refine solo_waiting_Push_calls (t0 := rW r) (t1 := .iface 37 (.agg x.cs.toArray)) ?_
  unfold solo_waiting_Push
  refine dr_s h1 fun w3 h3 => ?_
  refine ncP_p (ld1_at h3 0 rfl (pre_get hp) ?_)
  refine tyA_ok (by kernel_rfl) ?_
  refine ⟨ld1_at h3 0 rfl (pre_get hp) ⟨rfl, rfl⟩, ?_⟩
  refine bsl1 (vs := x.cs) rfl rfl h3 fun bb w4 h4 => ?_
  refine ⟨ld1_at h4 1 rfl (pre_get hp) ⟨rfl, rfl⟩, ?_⟩
  refine apS_own te_66 te_66.und (f := Msg.cs) (m := [x]) (fun _ => rfl) (fun _ => ints_flat _) (h4.selR [_, _, _] [_, _, _] [2, 0, 1] (by decide) rfl) (blk_rd1 (Nat.le_refl _)) (by simp; omega) fun v' w5 h5 => ?_
  have hfl := h5.own_cells 0 rfl
  refine ncP_p (stN_at h5 2 rfl (vs := [v']) hfl.1 rfl (by simp [hp]) (fun c hc => by rw [List.mem_singleton.1 hc]; exact hfl.2) (pre_set hp) fun w6 h6 => ?_)
  exact hk _ (isW_mk hp (h6.selR [_, _, _] [_, _] [2, 0] (by decide) rfl))
theorem meth_Pop {r : Nat} : (Go.method (prog.types.size + Made.depth) 77 (rW r) "Pop").run prog w = .ok (135, rW r) w := by kernel_rfl
theorem w_Pop_s {r : Nat} {pre : List Value} {l : List Msg} {x : Msg} (hl : l.length ≤ 1000000) (hS : Sat e w (IsW r pre (l ++ [x]) :: R)) (hk : ∀ w', Sat e w' (IsW r pre l :: R) → K (.iface 37 (.agg x.cs.toArray)) w') :
    clI prog (.iface 77 (rW r)) "Pop" #[] w K := by
  obtain ⟨v, hp, h1⟩ := isW_of hS
  refine clW_s meth_Pop ?_
  refine solo_waiting_Pop_calls (t0 := rW r) ?_
  unfold solo_waiting_Pop
  have hlen : (l ++ [x]).length = l.length + 1 := by simp
  have hxl : (l ++ [x])[l.length]? = some x := by simp
  refine ncP_p (ld1_at h1 0 rfl (pre_get hp) ?_)
  refine lnS_rd h1 1 rfl (fun g hg => own_rd hg) ?_
  rw [hlen]
  refine dec_s (by omega) (by omega) ?_
  rw [Nat.add_sub_cancel]
  refine ncP_p (ld1_at h1 0 rfl (pre_get hp) ?_)
  refine ixS_rd h1 1 rfl (fun g hg => own_rd hg) (fun _ => rfl) hxl fun p hp' => ?_
  refine ldN_of h1 1 rfl hp' rfl ?_
  rw [zero_37]
  refine al_s (cs := Msg.zero.cs) h1 rfl fun d w3 h3 => ?_
  refine stN_at h3 0 rfl (vs := x.cs) rfl rfl (by decide) (ints_flat _) (cs' := x.cs) (by rfl) fun w4 h4 => ?_
  refine ncP_p (ld1_at h4 1 rfl (pre_get hp) ?_)
  refine slc_own h4 2 rfl (fun _ => rfl) (hi := l.length) (by omega) fun v' h6 => ?_
  rw [List.take_left' rfl] at h6
  have hfl := h6.own_cells 2 rfl
  refine ncP_p (stN_at h6 1 rfl (vs := [v']) hfl.1 rfl (by simp [hp]) (fun c hc => by rw [List.mem_singleton.1 hc]; exact hfl.2) (pre_set hp) fun w7 h7 => ?_)
  refine ldN_at h7 0 (vs := x.cs) rfl (by rfl) rfl ?_
  exact hk _ (isW_mk hp h7.drop)
end Go.Proofs.Ytfcnjbannejchaa
namespace Go.Proofs.Ytfcnjbannejchaa
open Go Go.E
set_option maxRecDepth 100000
variable {e w : World} {R : List HP} {K : KV}

theorem quo_s {k : IntKind} {a b : Int} (hb : b ≠ 0) (h : K (.int k (k.wrap (a.tdiv b))) w) : bi .quo k (.int k a) (.int k b) w K := ⟨a, b, rfl, rfl, fun _ => hb, h⟩
def Heapy (l : List Msg) (n : Nat) : Prop := ∀ (i : Nat) (x y : Msg), 0 < i → i < n → l[i]? = some x → l[(i - 1) / 2]? = some y → ¬ MLt x y
def UpInv (l : List Msg) (j : Nat) : Prop :=
  (∀ (i : Nat) (x y : Msg), 0 < i → i ≠ j → l[i]? = some x → l[(i - 1) / 2]? = some y → ¬ MLt x y) ∧
  ∀ (i : Nat) (x y : Msg), 0 < i → 0 < j → (i - 1) / 2 = j → l[i]? = some x → l[(j - 1) / 2]? = some y → ¬ MLt x y
def DownInv (l : List Msg) (j n : Nat) : Prop :=
  (∀ (i : Nat) (x y : Msg), 0 < i → i < n → (i - 1) / 2 ≠ j → l[i]? = some x → l[(i - 1) / 2]? = some y → ¬ MLt x y) ∧
  ∀ (i : Nat) (x y : Msg), 0 < i → i < n → 0 < j → (i - 1) / 2 = j → l[i]? = some x → l[(j - 1) / 2]? = some y → ¬ MLt x y
theorem Heapy.min {l : List Msg} {n : Nat} (h : Heapy l n) (hn : n ≤ l.length) {z : Msg} (hz : l[0]? = some z) : ∀ (i : Nat) (x : Msg), i < n → l[i]? = some x → ¬ MLt x z := by
  intro i
  induction i using Nat.strongRecOn with
  | _ i ih =>
    intro x hi hx
    by_cases h0 : i = 0
    · subst h0
      rw [hz] at hx
      injection hx with hx
      subst hx
      exact MLt.irrefl _
    · obtain ⟨y, hy⟩ := get_of_lt (l := l) (j := (i - 1) / 2) (by omega)
      exact mLE_trans (h i x y (by omega) hi hx hy) (ih _ (by omega) y (by omega) hy)
theorem UpInv.done {l : List Msg} {j : Nat} (h : UpInv l j) (hj : j = 0 ∨ ∃ x y, l[j]? = some x ∧ l[(j - 1) / 2]? = some y ∧ ¬ MLt x y) : Heapy l l.length := by
  intro i x y hi _ hx hy
  by_cases hij : i = j
  · subst hij
    rcases hj with hj | ⟨x', y', hx', hy', hn⟩
    · omega
    · rw [hx] at hx'
      rw [hy] at hy'
      injection hx' with hx'
      injection hy' with hy'
      subst hx' hy'
      exact hn
  · exact h.1 i x y hi hij hx hy
theorem UpInv.step {l : List Msg} {j : Nat} {x y : Msg} (h : UpInv l j) (hj : 0 < j) (hx : l[j]? = some x) (hy : l[(j - 1) / 2]? = some y) (hlt : MLt x y) : UpInv (swapM l ((j - 1) / 2) j y x) ((j - 1) / 2) := by
  obtain ⟨h1, h2⟩ := h
  have hg := swapM_get (i := (j - 1) / 2) (k := j) hy hx
  constructor
  · intro i a b hi hij ha hb
    rw [hg] at ha hb
    by_cases e1 : i = j
    · subst e1
      rw [if_pos rfl] at ha
      rw [if_neg (by omega), if_pos rfl] at hb
      injection ha with ha
      injection hb with hb
      subst ha hb
      exact hlt.asymm
    · rw [if_neg e1, if_neg hij] at ha
      by_cases e2 : (i - 1) / 2 = j
      · rw [if_pos e2] at hb
        injection hb with hb
        subst hb
        exact h2 i a y hi hj e2 ha hy
      · rw [if_neg e2] at hb
        by_cases e3 : (i - 1) / 2 = (j - 1) / 2
        · rw [if_pos e3] at hb
          injection hb with hb
          subst hb
          have := h1 i a y hi e1 ha (by rw [e3]; exact hy)
          intro hax
          exact this (hax.trans hlt)
        · rw [if_neg e3] at hb
          exact h1 i a b hi e1 ha hb
  · intro i a b hi hp hpar ha hb
    rw [hg] at ha hb
    rw [if_neg (by omega), if_neg (by omega)] at hb
    have hyb := h1 ((j - 1) / 2) y b hp (by omega) hy hb
    by_cases e1 : i = j
    · rw [if_pos e1] at ha
      injection ha with ha
      subst ha
      exact hyb
    · rw [if_neg e1, if_neg (by omega)] at ha
      have := h1 i a y hi e1 ha (by rw [hpar]; exact hy)
      exact mLE_trans this hyb

theorem up_s {q j0 : Nat} {pre : List Value} {l : List Msg} (hj : j0 < l.length) (hl : l.length ≤ 1000000) (hS : Sat e w (IsW q pre l :: R)) (hk : ∀ l' w', l'.Perm l → (UpInv l j0 → Heapy l' l'.length) → Sat e w' (IsW q pre l' :: R) → K (.tuple #[]) w') :
    Cl prog 74 #[.iface 77 (rW q), .int .i64 (j0 : Int)] w K := by
  refine heap_up_calls ?_
  unfold heap_up
  refine lpi1 (fun z t1 w => ∃ (j : Nat) (l' : List Msg), t1 = .int .i64 (j : Int) ∧ z = j ∧ j < l'.length ∧ l'.Perm l ∧ (UpInv l j0 → UpInv l' j) ∧ Sat e w (IsW q pre l' :: R)) j0
    ⟨j0, l, rfl, rfl, hj, .refl _, id, hS⟩ ?_
  rintro j _ w g ⟨j', l', rfl, rfl, hjl, hp, hinv, h1⟩ hg
  have hlen := hp.length_eq
  refine sub_s (by omega) (by omega) (quo_s (by decide) ?_)
  by_cases h0 : j = 0
  · subst h0
    refine eq_t rfl (gd_tf (gd_tf (gd_tf (gd_tf (gd_tf (pk_t (iff_t (hk _ _ hp (fun hu => (hinv hu).done (.inl rfl)) h1))))))))
  · have e1 : IntKind.i64.wrap (((j : Int) - 1).tdiv 2) = (((j - 1) / 2 : Nat) : Int) := by
      rw [Int.tdiv_eq_ediv_of_nonneg (by omega), wrap_i64 (by omega) (by omega)]
      omega
    rw [e1]
    obtain ⟨x, hx⟩ := get_of_lt hjl
    obtain ⟨y, hy⟩ := get_of_lt (l := l') (j := (j - 1) / 2) (by omega)
    refine eq_f (by omega) (gd_ff (gd_ff (gd_ff (gd_ff ?_))))
    refine w_Less_s hx hy h1 fun w2 h2 => ?_
    by_cases hlt : cmpM x y < 0
    · rw [decide_eq_true hlt]
      refine gd_ff (not_t (pk_f (iff_f ?_)))
      refine w_Swap_s hy hx h2 fun w3 h3 => ?_
      refine hg _ _ _ (by omega) ⟨(j - 1) / 2, _, rfl, rfl, by rw [swapM_len]; omega, (swapM_perm hy hx).trans hp, fun hu => (hinv hu).step (by omega) hx hy (cmpM_lt.1 hlt), h3⟩
    · rw [decide_eq_false hlt]
      refine gd_ff (not_f (pk_f (iff_t (hk _ _ hp (fun hu => (hinv hu).done (.inr ⟨x, y, hx, hy, fun h => hlt (cmpM_lt.2 h)⟩)) h2))))

theorem DownInv.done {l : List Msg} {j n : Nat} (h : DownInv l j n) (hj : ∀ (i : Nat) (x y : Msg), 0 < i → i < n → (i - 1) / 2 = j → l[i]? = some x → l[j]? = some y → ¬ MLt x y) : Heapy l n := by
  intro i x y hi hn hx hy
  by_cases hij : (i - 1) / 2 = j
  · exact hj i x y hi hn hij hx (by rw [← hij]; exact hy)
  · exact h.1 i x y hi hn hij hx hy
/-- c is j's smallest child, and below it. -/
theorem DownInv.step {l : List Msg} {j c n : Nat} {x y : Msg} (h : DownInv l j n) (hc0 : 0 < c) (hcn : c < n) (hcj : (c - 1) / 2 = j) (hx : l[j]? = some x) (hy : l[c]? = some y) (hlt : MLt y x)
    (hmin : ∀ (i : Nat) (a : Msg), 0 < i → i < n → (i - 1) / 2 = j → l[i]? = some a → ¬ MLt a y) : DownInv (swapM l j c x y) c n := by
  obtain ⟨h1, h2⟩ := h
  have hg := swapM_get (i := j) (k := c) hx hy
  constructor
  · intro i a b hi hn hij ha hb
    rw [hg] at ha hb
    rw [if_neg hij] at hb
    by_cases e1 : i = c
    · subst e1
      rw [if_pos rfl] at ha
      rw [if_pos hcj] at hb
      injection ha with ha
      injection hb with hb
      subst ha hb
      exact hlt.asymm
    · rw [if_neg e1] at ha
      by_cases e2 : (i - 1) / 2 = j
      · rw [if_pos e2] at hb
        rw [if_neg (by omega)] at ha
        injection hb with hb
        subst hb
        exact hmin i a hi hn e2 ha
      · rw [if_neg e2] at hb
        by_cases e3 : i = j
        · rw [if_pos e3] at ha
          injection ha with ha
          subst ha
          subst e3
          exact h2 c y b hc0 hcn hi hcj hy hb
        · rw [if_neg e3] at ha
          exact h1 i a b hi hn e2 ha hb
  · intro i a b hi hn hc hpar ha hb
    rw [hg] at ha hb
    rw [if_neg (by omega), if_neg (by omega)] at ha
    rw [if_neg (by omega), if_pos hcj] at hb
    injection hb with hb
    subst hb
    exact h1 i a y hi hn (by omega) ha (by rw [hpar]; exact hy)

theorem down_s {q i0 n : Nat} {pre : List Value} {l : List Msg} (hn : n ≤ l.length) (hi0 : i0 ≤ n) (hl : l.length ≤ 1000000) (hS : Sat e w (IsW q pre l :: R))
    (hk : ∀ l' b w', l'.Perm l → (∀ i, n ≤ i → l'[i]? = l[i]?) → (DownInv l i0 n → Heapy l' n) → Sat e w' (IsW q pre l' :: R) → K (.bool b) w') :
    Cl prog 54 #[.iface 77 (rW q), .int .i64 (i0 : Int), .int .i64 (n : Int)] w K := by
  refine heap_down_calls ?_
  unfold heap_down
  refine J1.cut (fun t7 w => ∃ (i : Nat) (l' : List Msg), t7 = .int .i64 (i : Int) ∧ l'.Perm l ∧ (∀ i, n ≤ i → l'[i]? = l[i]?) ∧ (DownInv l i0 n → Heapy l' n) ∧ Sat e w (IsW q pre l' :: R)) (fun k1 hcut => ?_) ?_
  · refine lpi1 (fun z t7 w => ∃ (j : Nat) (l' : List Msg), t7 = .int .i64 (j : Int) ∧ z = n - j ∧ j ≤ n ∧ l'.Perm l ∧ (∀ i, n ≤ i → l'[i]? = l[i]?) ∧ (DownInv l i0 n → DownInv l' j n) ∧ Sat e w (IsW q pre l' :: R)) (n - i0)
      ⟨i0, l, rfl, rfl, hi0, .refl _, fun _ _ => rfl, id, hS⟩ ?_
    rintro z _ w g ⟨j, l', rfl, rfl, hjn, hp, htail, hinv, h1⟩ hg
    have hlen := hp.length_eq
    refine muln_s (a := 2) (by omega) (addn_s (b := 1) (by omega) ?_)
    refine ge_c (fun c1 => ?_) (fun c1 => ?_)
    · refine gd_tf (gd_tf (pk_t (iff_t (hcut _ _ ⟨j, l', rfl, hp, htail, fun hd => (hinv hd).done fun i x y hi hin hpar _ _ => ?_, h1⟩))))
      omega
    · refine gd_ff (gd_ff (lt_f (by omega) (pk_f (iff_f ?_))))
      refine addn_s (b := 1) (by omega) ?_
      obtain ⟨x, hx⟩ := get_of_lt (l := l') (j := j) (by omega)
      obtain ⟨y1, hy1⟩ := get_of_lt (l := l') (j := 2 * j + 1) (by omega)
      -- what is left where the smallest child is known
      have hrest : ∀ (c : Nat) (y : Msg) w', (c = 2 * j + 1 ∨ c = 2 * j + 1 + 1) → c < n → l'[c]? = some y → (∀ (i : Nat) (a : Msg), 0 < i → i < n → (i - 1) / 2 = j → l'[i]? = some a → ¬ MLt a y) → Sat e w' (IsW q pre l' :: R) →
          clI prog (.iface 77 (rW q)) "Less" #[.int .i64 (c : Int), .int .i64 (j : Int)] w' fun t38 w => bnot t38 w fun t39 w => iff' t39 (k1 (.int .i64 (j : Int)) w)
            (clI prog (.iface 77 (rW q)) "Swap" #[.int .i64 (j : Int), .int .i64 (c : Int)] w fun _ w => g [.int .i64 (c : Int)] w) := by
        intro c y w' hc hcn hy hmin h2
        refine w_Less_s hy hx h2 fun w3 h3 => ?_
        by_cases hlt : cmpM y x < 0
        · rw [decide_eq_true hlt]
          refine not_t (iff_f ?_)
          refine w_Swap_s hx hy h3 fun w4 h4 => ?_
          refine hg _ _ _ (by omega) ⟨c, _, rfl, rfl, by omega, (swapM_perm hx hy).trans hp, fun i hi => ?_, fun hd => (hinv hd).step (by omega) hcn (by omega) hx hy (cmpM_lt.1 hlt) hmin, h4⟩
          rw [swapM_get hx hy, if_neg (by omega), if_neg (by omega)]
          exact htail i hi
        · rw [decide_eq_false hlt]
          refine not_f (iff_t (hcut _ _ ⟨j, l', rfl, hp, htail, fun hd => (hinv hd).done fun i a b hi hin hpar ha hb => ?_, h3⟩))
          rw [hx] at hb
          injection hb with hb
          subst hb
          exact mLE_trans (hmin i a hi hin hpar ha) (fun h => hlt (cmpM_lt.2 h))
      refine lt_c (fun c2 => ?_) (fun c2 => ?_)
      · obtain ⟨y2, hy2⟩ := get_of_lt (l := l') (j := 2 * j + 1 + 1) (by omega)
        refine gd_tt (gd_tt (gd_tt (gd_tt ?_)))
        refine w_Less_s hy2 hy1 h1 fun w2 h2 => ?_
        by_cases hlt : cmpM y2 y1 < 0
        · rw [decide_eq_true hlt]
          refine pk_t (iff_t ?_)
          refine hrest (2 * j + 1 + 1) y2 _ (.inr rfl) (by omega) hy2 (fun i a hi hin hpar ha => ?_) h2
          have : i = 2 * j + 1 ∨ i = 2 * j + 1 + 1 := by omega
          rcases this with rfl | rfl
          · rw [hy1] at ha; injection ha with ha; subst ha; exact (cmpM_lt.1 hlt).asymm
          · rw [hy2] at ha; injection ha with ha; subst ha; exact MLt.irrefl _
        · rw [decide_eq_false hlt]
          refine pk_t (iff_f ?_)
          refine hrest (2 * j + 1) y1 _ (.inl rfl) (by omega) hy1 (fun i a hi hin hpar ha => ?_) h2
          have : i = 2 * j + 1 ∨ i = 2 * j + 1 + 1 := by omega
          rcases this with rfl | rfl
          · rw [hy1] at ha; injection ha with ha; subst ha; exact MLt.irrefl _
          · rw [hy2] at ha; injection ha with ha; subst ha; exact fun h => hlt (cmpM_lt.2 h)
      · refine gd_ft (gd_ft (gd_ft (gd_ft (pk_f (iff_f ?_)))))
        refine hrest (2 * j + 1) y1 _ (.inl rfl) (by omega) hy1 (fun i a hi hin hpar ha => ?_) h1
        have : i = 2 * j + 1 := by omega
        subst this
        rw [hy1] at ha; injection ha with ha; subst ha; exact MLt.irrefl _
  · rintro _ w ⟨i, l', rfl, hp, htail, hd, h2⟩
    exact gt_d (hk _ _ _ hp htail hd h2)

theorem heapPush_s {q : Nat} {pre : List Value} {l : List Msg} {x : Msg} (hl : l.length ≤ 999999) (hS : Sat e w (IsW q pre l :: R))
    (hk : ∀ l' w', l'.Perm (l ++ [x]) → (Heapy l l.length → Heapy l' l'.length) → Sat e w' (IsW q pre l' :: R) → K (.tuple #[]) w') :
    Cl prog 50 #[.iface 77 (rW q), .iface 37 (.agg x.cs.toArray)] w K := by
  refine heap_Push_calls ?_
  unfold heap_Push
  refine w_Push_s (by omega) hS fun w2 h2 => ?_
  refine w_Len_s h2 fun w3 h3 => ?_
  have hlen : (l ++ [x]).length = l.length + 1 := by simp
  refine dec_s (by omega) (by omega) ?_
  refine up_s (by omega) (by omega) h3 fun l' w4 hp hu h4 => hk _ _ hp (fun hh => hu ⟨fun i a b hi hij ha hb => ?_, fun i a b hi hj hpar ha hb => ?_⟩) h4
  · have hil := (List.getElem?_eq_some_iff.1 ha).1
    rw [List.getElem?_append_left (by omega)] at ha hb
    exact hh i a b hi (by omega) ha hb
  · have hil := (List.getElem?_eq_some_iff.1 ha).1
    omega

theorem heapPop_s {q : Nat} {pre : List Value} {l : List Msg} {x : Msg} (hx : l[0]? = some x) (hl : l.length ≤ 1000000) (hS : Sat e w (IsW q pre l :: R))
    (hk : ∀ l' w', (l' ++ [x]).Perm l → (Heapy l l.length → Heapy l' l'.length) → Sat e w' (IsW q pre l' :: R) → K (.iface 37 (.agg x.cs.toArray)) w') :
    Cl prog 30 #[.iface 77 (rW q)] w K := by
  refine heap_Pop_calls ?_
  unfold heap_Pop
  have h0 := (List.getElem?_eq_some_iff.1 hx).1
  obtain ⟨n, hn⟩ : ∃ n, l.length = n + 1 := ⟨l.length - 1, by omega⟩
  obtain ⟨y, hy⟩ := get_of_lt (l := l) (j := n) (by omega)
  refine w_Len_s hS fun w2 h2 => ?_
  rw [hn]
  refine dec_s (by omega) (by omega) ?_
  rw [Nat.add_sub_cancel]
  refine w_Swap_s (i := 0) (k := n) hx hy h2 fun w3 h3 => ?_
  have hp1 := swapM_perm hx hy
  refine down_s (i0 := 0) (n := n) (by rw [swapM_len]; omega) (by omega) (by rw [swapM_len]; omega) h3 fun l2 bb w4 hp2 htail hd h4 => ?_
  have hl2 : l2.length = n + 1 := by rw [hp2.length_eq, swapM_len, hn]
  have hln : l2[n]? = some x := by rw [htail n (Nat.le_refl _), swapM_get hx hy, if_pos rfl]
  have hsp : l2 = l2.take n ++ [x] := by
    have := take_snoc hln
    rw [List.take_of_length_le (by omega)] at this
    exact this
  have hpf : (l2.take n ++ [x]).Perm l := by rw [← hsp]; exact hp2.trans hp1
  rw [hsp] at h4
  refine w_Pop_s (by rw [List.length_take]; omega) h4 fun w5 h5 => hk _ _ hpf (fun hh => ?_) h5
  have hh2 := hd ⟨fun i a b hi hin hpar ha hb => ?_, fun i a b hi hin hj => by omega⟩
  · intro i a b hi hin ha hb
    rw [List.length_take] at hin
    rw [List.getElem?_take, if_pos (by omega)] at ha hb
    exact hh2 i a b hi (by omega) ha hb
  · rw [swapM_get hx hy, if_neg (by omega), if_neg (by omega)] at ha hb
    exact hh i a b hi (by omega) ha hb

end Go.Proofs.Ytfcnjbannejchaa
