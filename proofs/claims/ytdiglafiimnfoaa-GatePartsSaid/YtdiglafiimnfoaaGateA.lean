/- Gate: what each function of the gate does. Conditions: the gate holds at most 256 messages. -/
import Derived.Test.YtdiglafiimnfoaaData
import Derived.Test.YtdiglafiimnfoaaPfTy
import Derived.Test.YtdiglafiimnfoaaPf0
import Derived.Test.YtdiglafiimnfoaaPf1
import Derived.Test.YtdiglafiimnfoaaPf2
import Derived.Test.YtdiglafiimnfoaaPf3
import Derived.Test.YtdiglafiimnfoaaPf4
import Derived.Test.YtdiglafiimnfoaaPf5
import Derived.Test.YtdiglafiimnfoaaPf6
import Derived.Test.YtdiglafiimnfoaaPf7
import Derived.Test.YtdiglafiimnfoaaPf8
import Derived.Test.YtdiglafiimnfoaaPf9
import Derived.Test.YtdiglafiimnfoaaPf10
import Derived.Test.YtdiglafiimnfoaaPf11
import Derived.Test.YtdiglafiimnfoaaPf12
import Derived.Test.YtdiglafiimnfoaaPf13
import Derived.Test.YtdiglafiimnfoaaPf14
import Derived.Test.YtdiglafiimnfoaaPf15
import Derived.Test.YtdiglafiimnfoaaPf16
import Derived.Test.YtdiglafiimnfoaaPf17
import Derived.Test.YtdiglafiimnfoaaPf18
namespace Go.Proofs.Ytdiglafiimnfoaa
open Go Go.E
set_option maxRecDepth 100000

def IsGate (g : Nat) (fl : Int) (l : List Kept) : HP := hex fun v : Value => sepL [blk g 161 [.int .i64 fl, v], ownS 163 9 Kept.cs v l]

variable {e w : World} {R : List HP} {K : KV}
theorem gate_New_s (hS : Sat e w R) (hk : ∀ g w', Sat e w' (IsGate g 0 [] :: R) → K (.pointer (some ⟨g, 0, none⟩)) w') : Cl prog 61 #[] w K := by
  refine gate_New_calls ?_
  unfold gate_New
  rw [zero_161]
  refine ⟨_, rfl, ?_⟩
  refine al_s (cs := [.int .i64 0, .slice none 0 0]) hS rfl fun b w1 h1 => ?_
  exact hk _ _ (.mk_ex (.slice none 0 0) (.join (l' := [_, _]) (h1.own_nil 163 9 Kept.cs).swap))

def holdE (fl : Int) (l : List Kept) (c : Key) : Int := if c.T < fl then 110 else if 256 ≤ l.length then 2 else 0
def holdL (fl : Int) (l : List Kept) (c : Key) (m : Msg) : List Kept := if c.T < fl then l else if 256 ≤ l.length then l else l ++ [⟨c, m⟩]


theorem gate_Hold_s {g : Nat} {fl : Int} {l : List Kept} (c : Key) (m : Msg) (hS : Sat e w (IsGate g fl l :: R)) (hl : l.length ≤ 256)
    (hk : ∀ w', Sat e w' (IsGate g fl (holdL fl l c m) :: R) → K (.int .i64 (holdE fl l c)) w') : Cl prog 62 #[.pointer (some ⟨g, 0, none⟩), .agg c.cs.toArray, .agg m.cs.toArray] w K := by
  obtain ⟨v, h0⟩ := hS.ex
  have h1 := h0.split
  refine gate_Gate_Hold_calls ?_
  unfold gate_Gate_Hold
  refine al_s (cs := c.cs) h1 rfl fun b4 w1 h2 => ?_
  refine al_s (cs := m.cs) h2 rfl fun b5 w2 h3 => ?_
  refine dr_s h3 fun w3 h4 => ?_
  refine fld_at ?_
  refine ld1_at h4 1 rfl rfl ?_
  refine ncP_p ?_
  refine fld_at ?_
  refine ld1_at h4 2 rfl rfl ?_
  refine lt_c (fun c1 => ?_) (fun c1 => ?_)
  · refine iff_t ?_
    have := hk w3
    simp only [holdE, holdL, if_pos c1] at this
    exact this (.mk_ex v (.join (l' := [_, _]) h4.drop.drop))
  · refine iff_f ?_
    refine ncP_p ?_
    refine fld_at ?_
    refine ld1_at h4 2 rfl rfl ?_
    refine lnS_rd h4 3 rfl (fun g hg => own_rd hg) ?_
    refine ge_c (fun c2 => ?_) (fun c2 => ?_)
    · refine iff_t ?_
      have := hk w3
      have c3 : 256 ≤ l.length := by omega
      simp only [holdE, holdL, if_neg c1, if_pos c3] at this
      exact this (.mk_ex v (.join (l' := [_, _]) h4.drop.drop))
    · refine iff_f ?_
      refine dr_s h4 fun w4 h5 => ?_
      refine ncP_p ?_
      refine fld_at ?_
      refine ld1_at h5 2 rfl rfl ?_
      refine ldN_at h5 1 (vs := c.cs) rfl (by rfl) rfl ?_
      refine ldN_at h5 0 (vs := m.cs) rfl (by rfl) rfl ?_
      rw [zero_163]
      refine bld_s (Kept.cs ⟨c, m⟩) (by kernel_rfl) ?_
      refine ⟨ld1_at h5 2 rfl rfl ⟨rfl, rfl⟩, ?_⟩
      refine bsl1 (vs := Kept.cs ⟨c, m⟩) rfl rfl h5 fun b30 w5 h6 => ?_
      refine ⟨ld1_at h6 3 rfl rfl ⟨rfl, rfl⟩, ?_⟩
      have hb : (l.length + [(⟨c, m⟩ : Kept)].length) * 72 ≤ 140737488355328 := by
        simp only [List.length_cons, List.length_nil]
        omega
      have h6' := h6.pick 4 rfl
      refine apS_own te_159 und_159 (f := Kept.cs) (fun _ => rfl) (fun _ => ints_flat _) h6' (m := [⟨c, m⟩]) (blk_rd1 (f := Kept.cs) (x := ⟨c, m⟩) (Nat.le_refl _)) hb fun v' w6 h7 => ?_
      refine ncP_p ?_
      refine fld_at ?_
      refine st1_at h7 4 rfl (h7.own_cells 0 rfl) (by simp) rfl fun w7 h8 => ?_
      have := hk w7
      have c3 : ¬ 256 ≤ l.length := by omega
      simp only [holdE, holdL, if_neg c1, if_neg c3] at this
      exact this (.mk_ex v' (.join (l' := [_, _]) (h8.selR [_, _, _, _, _] [_, _] [4, 0] (by decide) rfl)))

theorem messages_s {v : Value} {l : List Kept} {S : HP} (hS : Sat e w (S :: R)) (hr : ∀ g, S g → rdS 9 Kept.cs v l g) (hl : l.length ≤ 1000000)
    (hk : ∀ v' w', Sat e w' (ownS 63 6 Msg.cs v' (l.map Kept.m) :: S :: R) → K v' w') : Cl prog 100 #[v] w K := by
  refine gate_messages_calls ?_
  unfold gate_messages
  rw [zero_163]
  refine lnS_rd hS 0 rfl hr ?_
  refine lp2 (fun t3 t8 w => ∃ j : Nat, j ≤ l.length ∧ t8 = .int .i64 j ∧ Sat e w (ownS 63 6 Msg.cs t3 ((l.take j).map Kept.m) :: S :: R)) (fun _ t8 _ => l.length - nOf t8)
    ⟨0, Nat.zero_le _, rfl, by simpa using hS.own_nil 63 6 Msg.cs⟩ ?_
  rintro t3 _ w g ⟨j, hj, rfl, h1⟩ hg
  refine lt_c (fun c => ?_) (fun c => ?_)
  · refine iff_t ?_
    obtain ⟨x, hx⟩ := get_of_lt (l := l) (j := j) (by omega)
    refine ixS_rd h1 1 rfl hr (fun _ => rfl) hx fun a ha => ?_
    refine ldN_of h1 1 rfl ha rfl ?_
    refine al_s (cs := ints [0, 0, 0, 0, 0, 0, 0, 0, 0]) h1 rfl fun b5 w2 h2 => ?_
    refine stN_at h2 0 rfl (vs := x.cs) rfl rfl (by simp [ints]) (ints_flat _) (cs' := x.cs) (by kernel_rfl) fun w3 h3 => ?_
    refine fld_at ?_
    refine ldN_at h3 0 (vs := x.m.cs) rfl (by rfl) rfl ?_
    refine push1 te_78 (f := Msg.cs) (fun _ => rfl) (fun _ => ints_flat _) (h3.pick 1 rfl) (x := x.m) rfl (by simp; omega) fun v' w4 h4 => ?_
    refine inc_s (by omega) ?_
    refine hg _ _ _ ⟨j + 1, by omega, rfl, ?_⟩ (by simp [nOf]; omega)
    have h5 := h4.selR [_, _, _] [_, _] [0, 2] (by decide) rfl
    rw [take_snoc hx, List.map_append]
    exact h5
  · refine iff_f ?_
    obtain rfl : j = l.length := by omega
    refine hk _ _ ?_
    simpa using h1

theorem gate_Held_s {g : Nat} {fl : Int} {l : List Kept} (hS : Sat e w (IsGate g fl l :: R)) (hl : l.length ≤ 1000000)
    (hk : ∀ v' w', Sat e w' (ownS 63 6 Msg.cs v' (l.map Kept.m) :: IsGate g fl l :: R) → K v' w') : Cl prog 64 #[.pointer (some ⟨g, 0, none⟩)] w K := by
  obtain ⟨v, h0⟩ := hS.ex
  have h1 := h0.split
  refine gate_Gate_Held_calls ?_
  unfold gate_Gate_Held
  refine ncP_p ?_
  refine fld_at ?_
  refine ld1_at h1 0 rfl rfl ?_
  refine messages_s h1.swap (fun g hg => own_rd hg) hl fun v' w' h2 => ?_
  refine hk _ _ (Sat.swap (.mk_ex v (.join (l' := [_, _]) (h2.selR [_, _, _] [_, _, _] [2, 1, 0] (by decide) rfl))))

theorem gate_part_s {g : Nat} {fl : Int} {l : List Kept} {C : HP} {fv : Value} (p : Kept → Bool) (hS : Sat e w (IsGate g fl l :: C :: R)) (hl : l.length ≤ 1000000)
    (hp : ∀ (w : World) (R : List HP) (K : KV) (x : Kept), Sat e w (C :: R) → (∀ w', Sat e w' (C :: R) → K (.bool (p x)) w') → clV prog fv #[.agg x.cs.toArray] w K)
    (hk : ∀ v' w', Sat e w' (ownS 163 9 Kept.cs v' (l.filter p) :: IsGate g fl (l.filter (fun x => !p x)) :: C :: R) → K v' w') :
    Cl prog 95 #[.pointer (some ⟨g, 0, none⟩), fv] w K := by
  obtain ⟨v, h0⟩ := hS.ex
  have h1 := h0.split
  refine gate_Gate_part_calls ?_
  unfold gate_Gate_part
  rw [zero_163]
  refine ncP_p ?_
  refine fld_at ?_
  refine ld1_at h1 0 rfl rfl ?_
  refine lnS_rd h1 1 rfl (fun g hg => own_rd hg) ?_
  refine lp3 (fun t5 t6 t14 w => ∃ j : Nat, j ≤ l.length ∧ t14 = .int .i64 j ∧ Sat e w (ownS 163 9 Kept.cs t5 ((l.take j).filter p) :: ownS 163 9 Kept.cs t6 ((l.take j).filter fun x => !p x) ::
      blk g 161 [.int .i64 fl, v] :: ownS 163 9 Kept.cs v l :: C :: R)) (fun _ _ t14 _ => l.length - nOf t14)
    ⟨0, Nat.zero_le _, rfl, by simpa using (h1.own_nil 163 9 Kept.cs).own_nil 163 9 Kept.cs⟩ ?_
  rintro t5 t6 _ w gg ⟨j, hj, rfl, h1⟩ hg
  refine lt_c (fun c => ?_) (fun c => ?_)
  · refine iff_t ?_
    obtain ⟨x, hx⟩ := get_of_lt (l := l) (j := j) (by omega)
    have hf1 : ((l.take (j + 1)).filter p) = (l.take j).filter p ++ if p x then [x] else [] := by
      rw [take_snoc hx, List.filter_append]
      cases hpx : p x <;> simp [hpx]
    have hf2 : ((l.take (j + 1)).filter fun x => !p x) = (l.take j).filter (fun x => !p x) ++ if p x then [] else [x] := by
      rw [take_snoc hx, List.filter_append]
      cases hpx : p x <;> simp [hpx]
    have hn1 := List.length_filter_le p (l.take j)
    have hn2 := List.length_filter_le (fun x => !p x) (l.take j)
    have hn3 : (l.take j).length ≤ 1000000 := by simp; omega
    refine J2.cut (fun t5 t6 w => Sat e w (ownS 163 9 Kept.cs t5 ((l.take (j + 1)).filter p) :: ownS 163 9 Kept.cs t6 ((l.take (j + 1)).filter fun x => !p x) ::
      blk g 161 [.int .i64 fl, v] :: ownS 163 9 Kept.cs v l :: C :: R)) (fun k hkk => ?_) (fun t5 t6 w h2 => ?_)
    · refine ixS_rd h1 3 rfl (fun g hg => own_rd hg) (fun _ => rfl) hx fun a ha => ?_
      refine ldN_of h1 3 rfl ha rfl ?_
      refine al_s (cs := ints [0, 0, 0, 0, 0, 0, 0, 0, 0]) h1 rfl fun b8 w2 h2 => ?_
      refine stN_at h2 0 rfl (vs := x.cs) rfl rfl (by simp [ints]) (ints_flat _) (cs' := x.cs) (by kernel_rfl) fun w3 h3 => ?_
      refine ldN_at h3 0 (vs := x.cs) rfl (by rfl) rfl ?_
      refine hp _ _ _ x (h3.pick 5 rfl) fun w4 h4 => ?_
      have h5 := h4.selR [_, _, _, _, _, _] [_, _, _, _, _, _] [1, 2, 3, 4, 5, 0] (by decide) rfl
      cases hpx : p x with
      | true =>
        refine iff_t ?_
        refine ldN_at h5 0 (vs := x.cs) rfl (by rfl) rfl ?_
        refine push1 te_159 (f := Kept.cs) (fun _ => rfl) (fun _ => ints_flat _) (h5.pick 1 rfl) (x := x) rfl (by omega) fun v' w5 h6 => ?_
        refine hkk _ _ _ ?_
        rw [hf1, hf2]
        simp only [hpx, if_true, List.append_nil]
        exact h6.selR [_, _, _, _, _, _] [_, _, _, _, _] [0, 2, 3, 4, 5] (by decide) rfl
      | false =>
        refine iff_f ?_
        refine ldN_at h5 0 (vs := x.cs) rfl (by rfl) rfl ?_
        refine push1 te_159 (f := Kept.cs) (fun _ => rfl) (fun _ => ints_flat _) (h5.pick 2 rfl) (x := x) rfl (by omega) fun v' w5 h6 => ?_
        refine hkk _ _ _ ?_
        rw [hf1, hf2]
        simp only [hpx, Bool.false_eq_true, if_false, List.append_nil]
        exact h6.selR [_, _, _, _, _, _] [_, _, _, _, _] [2, 0, 3, 4, 5] (by decide) rfl
    · refine inc_s (by omega) ?_
      exact hg _ _ _ _ ⟨j + 1, by omega, rfl, h2⟩ (by simp [nOf]; omega)
  · refine iff_f ?_
    obtain rfl : j = l.length := by omega
    rw [List.take_length] at h1
    refine ncP_p ?_
    refine fld_at ?_
    refine st1_at h1 2 rfl (h1.own_cells 1 rfl) (by simp) rfl fun w2 h2 => ?_
    refine hk _ _ (Sat.swap (.mk_ex t6 (.join (l' := [_, _]) (h2.selR [_, _, _, _, _] [_, _, _, _] [2, 1, 0, 4] (by decide) rfl))))

theorem retract1_s {b : Nat} {k : Key} {x : Kept} (hS : Sat e w (blk b 61 k.cs :: R)) (hk : ∀ w', Sat e w' (blk b 61 k.cs :: R) → K (.bool (decide (x.m.key = k))) w') :
    clV prog (.func (.func 102) #[] #[.pointer (some ⟨b, 0, none⟩)]) #[.agg x.cs.toArray] w K := by
  refine ⟨_, _, _, rfl, ?_⟩
  refine gate_Gate_Retract_1_calls (t0 := .agg x.cs.toArray) (t1 := .pointer (some ⟨b, 0, none⟩)) ?_
  unfold gate_Gate_Retract_1
  refine al_s (cs := x.cs) hS rfl fun b2 w1 h1 => ?_
  refine fld_at ?_
  refine fld_at ?_
  refine ldN_at h1 0 (vs := x.m.key.cs) rfl (by rfl) rfl ?_
  refine ldN_at h1 1 (vs := k.cs) rfl (by rfl) rfl ?_
  refine bO_eq (ns := x.m.key.ns) (ms := k.ns) eqT_61 agg_61 egt_61 (by decide) rfl ?_
  rw [Key.eq_ns]
  exact hk _ h1.drop

def retN (l : List Kept) (k : Key) : Nat := (l.filter fun x => decide (x.m.key = k)).length
def retL (l : List Kept) (k : Key) : List Kept := l.filter fun x => !decide (x.m.key = k)
theorem gate_Retract_s {g : Nat} {fl : Int} {l : List Kept} (k : Key) (hS : Sat e w (IsGate g fl l :: R)) (hl : l.length ≤ 1000000)
    (hk : ∀ w', Sat e w' (IsGate g fl (retL l k) :: R) → K (.tuple #[.int .i64 (retN l k), .int .i64 (if retN l k = 0 then 209 else 0)]) w') : Cl prog 68 #[.pointer (some ⟨g, 0, none⟩), .agg k.cs.toArray] w K := by
  refine gate_Gate_Retract_calls ?_
  unfold gate_Gate_Retract
  refine al_s (cs := k.cs) hS rfl fun b3 w1 h1 => ?_
  refine gate_part_s (fun x => decide (x.m.key = k)) h1.swap hl (fun w R K x h hk => retract1_s h hk) fun v' w2 h2 => ?_
  refine lnS_rd h2 0 rfl (fun g hg => own_rd hg) ?_
  have h3 := hk w2 (h2.selR [_, _, _] [_] [1] (by decide) rfl)
  refine eq_c (fun c => ?_) (fun c => ?_)
  · refine iff_t ?_
    have c' : retN l k = 0 := by unfold retN; omega
    rw [if_pos c', c'] at h3
    exact h3
  · refine iff_f ?_
    have c' : ¬ retN l k = 0 := by unfold retN; omega
    rw [if_neg c'] at h3
    exact h3

theorem same_s {u v : Value} {a b : List Msg} {S T : HP} (hS : Sat e w (S :: T :: R)) (hr : ∀ g, S g → rdS 6 Msg.cs u a g) (hr' : ∀ g, T g → rdS 6 Msg.cs v b g) (hl : a.length ≤ 1000000)
    (hk : ∀ w', Sat e w' (S :: T :: R) → K (.bool (decide (a = b))) w') : Cl prog 66 #[u, v] w K := by
  refine pacelinelaw14_same_calls ?_
  unfold pacelinelaw14_same
  refine lnS_rd hS 0 rfl hr ?_
  refine lnS_rd hS 1 rfl hr' ?_
  refine ne_c (fun c => ?_) (fun c => ?_)
  · refine iff_t ?_
    have := hk _ hS
    rw [decide_eq_false (fun e => c (by rw [e]))] at this
    exact this
  · refine iff_f ?_
    have c' : a.length = b.length := by omega
    refine lp1 (fun t5 w => ∃ j : Nat, j ≤ a.length ∧ t5 = .int .i64 j ∧ a.take j = b.take j ∧ Sat e w (S :: T :: R)) (fun t5 _ => a.length - nOf t5) ⟨0, Nat.zero_le _, rfl, rfl, hS⟩ ?_
    rintro _ w g ⟨j, hj, rfl, he, h1⟩ hg
    refine lnS_rd h1 0 rfl hr ?_
    refine lt_c (fun c => ?_) (fun c => ?_)
    · refine iff_t ?_
      obtain ⟨x, hx⟩ := get_of_lt (l := a) (j := j) (by omega)
      obtain ⟨y, hy⟩ := get_of_lt (l := b) (j := j) (by omega)
      refine dr_s h1 fun w2 h2 => ?_
      refine ixS_rd h2 0 rfl hr (fun _ => rfl) hx fun p hp => ?_
      refine ldN_of h2 0 rfl hp rfl ?_
      refine ixS_rd h2 1 rfl hr' (fun _ => rfl) hy fun q hq => ?_
      refine ldN_of h2 1 rfl hq rfl ?_
      refine bO_ne (ns := x.ns) (ms := y.ns) eqT_63 agg_63 egt_63 (by decide) rfl ?_
      rw [Msg.eq_ns]
      by_cases hxy : x = y
      · rw [decide_eq_true hxy]
        refine iff_f ?_
        refine inc_s (by omega) ?_
        exact hg _ _ ⟨j + 1, by omega, rfl, by rw [take_snoc hx, take_snoc hy, he, hxy], h2⟩ (by simp [nOf]; omega)
      · rw [decide_eq_false hxy]
        refine iff_t ?_
        have := hk _ h2
        rw [decide_eq_false (fun e => hxy (by rw [e, hy] at hx; cases hx; rfl))] at this
        exact this
    · refine iff_f ?_
      obtain rfl : j = a.length := by omega
      have := hk _ h1
      rw [List.take_length, c', List.take_length] at he
      rw [decide_eq_true he] at this
      exact this

end Go.Proofs.Ytdiglafiimnfoaa
