/- Queues: List, by the shelf's contract of slices.SortFunc. Conditions: at most a thousand messages. -/
import Derived.Test.YtenglfaeohgkfaaGreatPrioD
import Derived.Test.YtenglfaeohgkfaaGreatEngT
import Derived.Test.YtenglfaeohgkfaaGreatSortLay
namespace Go.Proofs.YtenglfaeohgkfaaGreat
open Go Go.E
set_option maxRecDepth 100000
variable {e w : World} {R : List HP} {K : KV}

instance : Inhabited Msg := ⟨Msg.zero⟩
def cfM (x y : Msg) : Int := cmpK x.key y.key
theorem ltM {x y : Msg} : Go.Proofs.ltOf cfM x y = true ↔ KeyLt x.key y.key := by
  unfold Go.Proofs.ltOf cfM
  rw [decide_eq_true_eq]
  exact cmpK_lt
theorem ltM_no {x y : Msg} : Go.Proofs.ltOf cfM x y = false ↔ ¬ KeyLt x.key y.key := by
  rw [← ltM]
  cases Go.Proofs.ltOf cfM x y <;> simp
theorem swoM : Go.Sort.SWO (Go.Proofs.ltOf cfM) where
  irrefl _ := ltM_no.2 (KeyLt.irrefl _)
  trans _ _ _ h1 h2 := ltM.2 ((ltM.1 h1).trans (ltM.1 h2))
  ntrans _ _ _ h1 h2 := ltM_no.2 (keyLE_trans (ltM_no.1 h1) (ltM_no.1 h2))
def Upk (l : List Msg) : Prop := l.Pairwise fun a b => KeyLt a.key b.key
theorem up_of {l : List Msg} (hn : (l.map Msg.key).Nodup) (h : l.Pairwise fun a b => Go.Proofs.ltOf cfM b a = false) : Upk l := by
  rw [List.nodup_iff_pairwise_ne, List.pairwise_map] at hn
  have := List.pairwise_and_iff.2 ⟨hn, h⟩
  refine this.imp fun {a b} ⟨h1, h2⟩ => ?_
  rcases KeyLt.tri a.key b.key with h3 | h3 | h3
  · exact h3
  · exact absurd h3 h1
  · exact absurd h3 (ltM_no.1 h2)
theorem up_unique {a b : List Msg} (ha : Upk a) (hb : Upk b) (hp : a.Perm b) : a = b :=
  List.Perm.eq_of_pairwise (le := fun x y : Msg => KeyLt x.key y.key) (fun _ _ _ _ h k => absurd k h.asymm) ha hb hp
theorem nodup_of_at {m : List (Key × Nat)} {l : List Msg} (h : AtOk m l) : (l.map Msg.key).Nodup := by
  rw [List.nodup_iff_pairwise_ne, List.pairwise_map, List.pairwise_iff_getElem]
  intro i j hi hj hij he
  have := h.inj (List.getElem?_eq_getElem hi) (List.getElem?_eq_getElem hj) he
  omega
theorem prio_keys {q : Nat} {room : Int} {l : List Msg} (h : Sat e w (IsPrio q room l :: R)) : (l.map Msg.key).Nodup := by
  obtain ⟨_, _, _, ha, _⟩ := prio_of h
  exact nodup_of_at ha

theorem eqNil_s {A : Option Addr} {n c : Nat} {xo yo : Operand} (hk : K (.bool A.isNone) w) : bO prog .eql 47 xo yo (.slice A n c) (.slice none 0 0) w K := by
  cases A with
  | none => exact ex_oV (w' := w) (v := .bool true) (by kernel_rfl) hk
  | some a => exact ex_oV (w' := w) (v := .bool false) (by kernel_rfl) hk
theorem clone_s {v : Value} {l : List Msg} {S : HP} (hl : l.length ≤ 1000000) (hS : Sat e w (S :: R)) (hr : ∀ g, S g → rdS 6 Msg.cs v l g)
    (hk : ∀ v' w', Sat e w' (ownS 26 6 Msg.cs v' l :: S :: R) → K v' w') : Cl prog 81 #[v] w K := by
  refine slices_Clone_api_Msg_api_Msg_calls ?_
  unfold slices_Clone_api_Msg_api_Msg
  obtain ⟨A, c, rfl, _⟩ := hS.shape 0 rfl hr
  refine eqNil_s ?_
  cases A with
  | none =>
    have hl0 : l = [] := by
      obtain ⟨g, hg, _⟩ := hS.get 0 rfl
      obtain ⟨A', c', h1, h2, h3⟩ := hr g hg
      injection h1 with e1 e2 e3
      by_cases h0 : 0 < l.length
      · obtain ⟨a, ha, _⟩ := h3 h0
        rw [← e1] at ha
        cases ha
      · exact List.length_eq_zero_iff.1 (by omega)
    subst hl0
    exact iff_t (hk _ _ (hS.own_nil 26 6 Msg.cs))
  | some a =>
    refine iff_f ?_
    refine bsl0 hS Msg.cs fun v1 w2 h2 => ?_
    refine apS_own te_47 und_47 (f := Msg.cs) (fun _ => rfl) (fun _ => ints_flat _) h2 hr (by simp; omega) fun v2 w3 h3 => ?_
    rw [List.nil_append] at h3
    exact hk _ _ h3

theorem oneCell_ints (ns : List Int) : ∀ v ∈ ints ns, v.oneCell' = true := by
  intro v hv
  simp only [ints, List.mem_map] at hv
  obtain ⟨n, _, rfl⟩ := hv
  rfl
theorem list1_s {e W : World} {R : List HP} {K : KV} (x y : Msg) (hS : Sat e W R) (hk : ∀ w', Sat e w' R → K (.int .i64 (cfM x y)) w') : Cl prog 83 (#[.agg x.cs.toArray, .agg y.cs.toArray] ++ #[]) W K := by
  refine prio_Queue_List_1_calls (t0 := .agg x.cs.toArray) (t1 := .agg y.cs.toArray) ?_
  unfold prio_Queue_List_1
  refine al_s (cs := x.cs) hS rfl fun b2 w1 h1 => ?_
  refine al_s (cs := y.cs) h1 rfl fun b3 w2 h2 => ?_
  refine fld_at (ldN_at h2 1 (vs := x.key.cs) rfl (by rfl) rfl ?_)
  refine fld_at (ldN_at h2 0 (vs := y.key.cs) rfl (by rfl) rfl ?_)
  exact vtime_Cmp_s h2 fun w3 h3 => hk _ h3.drop.drop
theorem sortM_s {v : Value} {l : List Msg} (hl : l.length ≤ 1000000) (hS : Sat e w (ownS 26 6 Msg.cs v l :: R))
    (hk : ∀ l' w', l'.Perm l → (l'.Pairwise fun a b => Go.Proofs.ltOf cfM b a = false) → Sat e w' (ownS 26 6 Msg.cs v l' :: R) → K (.tuple #[]) w') :
    Cl prog 82 #[v, .func (.func 83) #[] #[]] w K :=
  sortF_s (P := prog) (size := 6) (f := Msg.cs) Tryz.sortMsg (fun w => Tryz.isAgg26 w) (fun w => Tryz.sizeOf26 w) (fun _ => rfl) (fun _ => oneCell_ints _) cfM swoM (by kernel_rfl) (by kernel_rfl) (fun _ _ _ _ x y h hk => list1_s x y h hk) (by omega) hS hk
theorem prio_List_s {q : Nat} {room : Int} {l : List Msg} (hl : l.length ≤ 1000000) (hS : Sat e w (IsPrio q room l :: R))
    (hk : ∀ v l' w', l'.Perm l → Upk l' → Sat e w' (ownS 26 6 Msg.cs v l' :: IsPrio q room l :: R) → K v w') : Cl prog 47 #[.pointer (some ⟨q, 0, none⟩)] w K := by
  refine prio_Queue_List_calls ?_
  unfold prio_Queue_List
  obtain ⟨v, b, m, ha, h1⟩ := prio_of hS
  refine ncP_p (fld_at (ld1_at h1 0 rfl (v := v) rfl ?_))
  refine clone_s hl (h1.pick 1 rfl) (fun g hg => own_rd hg) fun v2 w2 h2 => ?_
  refine sortM_s hl h2 fun l' w3 hp hs h3 => ?_
  have hnd := (hp.map Msg.key).nodup_iff.2 (nodup_of_at ha)
  exact hk _ l' _ hp (up_of hnd hs) (Sat.swap (prio_mk ha (h3.selR [_, _, _, _] [_, _, _, _] [2, 1, 3, 0] (by decide) rfl)))

end Go.Proofs.YtenglfaeohgkfaaGreat
