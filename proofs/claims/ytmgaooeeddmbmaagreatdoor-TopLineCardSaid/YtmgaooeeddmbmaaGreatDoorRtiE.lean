/- The least time: Outputs and Lbts. Conditions: at most a hundred members. -/
import Derived.Test.YtmgaooeeddmbmaaGreatDoorRtiD
import Derived.Test.YtmgaooeeddmbmaaGreatDoorPf0
import Derived.Test.YtmgaooeeddmbmaaGreatDoorPf1
import Derived.Test.YtmgaooeeddmbmaaGreatDoorPf2
import Derived.Test.YtmgaooeeddmbmaaGreatDoorPf3
import Derived.Test.YtmgaooeeddmbmaaGreatDoorPf4
namespace Go.Proofs.YtmgaooeeddmbmaaGreatDoor
open Go Go.E
set_option maxRecDepth 100000
variable {e w : World} {R : List HP} {K : KV}
variable {b1 b3 b4 : Nat} {v v3 v4 v5 : Value} {l : List LM} {out : List Int} {op hg : List Bool} {S : HP}

theorem get_set_c {α : Type} {l : List α} {i j : Nat} {x y : α} (h : (l.set i x)[j]? = some y) : (i = j ∧ y = x) ∨ (i ≠ j ∧ l[j]? = some y) := by
  rw [List.getElem?_set] at h
  by_cases hij : i = j
  · rw [if_pos hij] at h
    split at h
    · injection h with h; exact .inl ⟨hij, h.symm⟩
    · cases h
  · rw [if_neg hij] at h
    exact .inr ⟨hij, h⟩
theorem OutOk.close (h : OutOk l out op hg) (i : Nat) : OutOk l out (op.set i false) hg :=
  ⟨h.n1, by rw [List.length_set, h.n2], h.n3, fun j m hm hj => by
    rcases get_set_c hj with ⟨_, e⟩ | ⟨_, e⟩
    · cases e
    · exact h.op j m hm e, h.hi, h.lo⟩
theorem OutOk.low (h : OutOk l out op hg) {i j : Nat} {mi mj : LM} {oi oj : Int} (hmi : l[i]? = some mi) (hri : mi.reg = true) (hoi : out[i]? = some oi) (hoj : out[j]? = some oj) :
    OutOk l (out.set j (min oj (mj.later (max (addT mj.time 0) oi)))) op hg := by
  refine ⟨by rw [List.length_set, h.n1], h.n2, h.n3, h.op, fun k m o hm hr ho => ?_, fun X hX hall k m o hm hr ho => ?_⟩
  · rcases get_set_c ho with ⟨rfl, rfl⟩ | ⟨_, ho⟩
    · have := h.hi _ _ _ hm hr hoj
      omega
    · exact h.hi k m o hm hr ho
  · rcases get_set_c ho with ⟨rfl, rfl⟩ | ⟨_, ho⟩
    · have h1 := h.lo X hX hall _ _ _ hm hr hoj
      have h2 := h.lo X hX hall _ _ _ hmi hri hoi
      have h3 : X ≤ mj.later (max (addT mj.time 0) oi) := le_addT (by omega) hX
      omega
    · exact h.lo X hX hall k m o hm hr ho
def opens (l : List Bool) : Nat := l.countP (· == true)
theorem opens_set : ∀ {l : List Bool} {i : Nat}, l[i]? = some true → opens (l.set i false) < opens l
  | [], _, h => by simp at h
  | b :: l, 0, h => by
    simp only [List.getElem?_cons_zero, Option.some.injEq] at h
    subst h
    simp [opens]
  | b :: l, i + 1, h => by
    simp only [List.getElem?_cons_succ] at h
    have := opens_set h
    simp only [opens, List.set_cons_succ, List.countP_cons] at this ⊢
    omega

theorem out_rest {g : Again} (hl : l.length ≤ 100) (ok : OutOk l out op hg) (hS : Sat e w (OS b1 b3 b4 v v3 v4 v5 out op hg S R)) (hr : ∀ g, S g → rdS 7 LM.cs v l g)
    (hag : ∀ out' op' w', OutOk l out' op' hg → opens op' < opens op → Sat e w' (OS b1 b3 b4 v v3 v4 v5 out' op' hg S R) → g [pt b3, pt b4, v5, .func (.func 43) #[] #[pt b1, pt b4, pt b3]] w')
    (hk : ∀ w', Sat e w' (OS b1 b3 b4 v v3 v4 v5 out op hg S R) → K v3 w') : lbts_Outputs_r (pt b1) (pt b3) (pt b4) v5 (.func (.func 43) #[] #[pt b1, pt b4, pt b3]) g w K := by
  unfold lbts_Outputs_r
  refine lb_least_s hl ok.n1 ok.n2 hS hr (fun w1 h1 => ?_) (fun i w1 hi h1 => ?_)
  · refine ge_f (by omega) (iff_f ?_)
    exact ld1_at h1 1 rfl (v := v3) rfl (hk _ h1)
  · refine ge_t (by omega) (iff_t ?_)
    have hil : i < op.length := (List.getElem?_eq_some_iff.1 hi).1
    have hn2 := ok.n2
    have hn1 := ok.n1
    obtain ⟨mi, hmi⟩ := get_of_lt (l := l) (j := i) (by omega)
    have hri := ok.op i mi hmi hi
    refine ld1_at h1 3 rfl (v := v4) rfl ?_
    refine st_own h1 4 rfl (fun _ => rfl) hil (x := false) rfl (bC_flat false) fun w2 h2 => ?_
    have ok2 := ok.close i
    have hlt := opens_set hi
    refine ld1_at h2 0 rfl (v := v) rfl (lnS_rd h2 6 rfl hr ?_)
    refine lp1 (fun t64 w => ∃ (j : Nat) (out' : List Int), j ≤ l.length ∧ t64 = .int .i64 j ∧ OutOk l out' (op.set i false) hg ∧ Sat e w (OS b1 b3 b4 v v3 v4 v5 out' (op.set i false) hg S R)) (fun t64 _ => l.length - nOf t64)
      ⟨0, out, Nat.zero_le _, rfl, ok2, h2⟩ ?_
    rintro _ w3 g1 ⟨j, out', hj, rfl, ok3, h3⟩ hg1
    refine lt_c (fun c => iff_t ?_) (fun c => iff_f ?_)
    · have hn31 := ok3.n1
      have hn32 := ok3.n2
      have hn33 := ok3.n3
      obtain ⟨mj, hmj⟩ := get_of_lt (l := l) (j := j) (by omega)
      obtain ⟨oj, hoj⟩ := get_of_lt (l := out') (j := j) (by omega)
      obtain ⟨oi, hoi⟩ := get_of_lt (l := out') (j := i) (by omega)
      obtain ⟨pj, hpj⟩ := get_of_lt (l := op.set i false) (j := j) (by omega)
      obtain ⟨gj, hgj⟩ := get_of_lt (l := hg) (j := j) (by omega)
      refine J0.cut (fun w => ∃ out', OutOk l out' (op.set i false) hg ∧ Sat e w (OS b1 b3 b4 v v3 v4 v5 out' (op.set i false) hg S R)) (fun k hkk => ?_) (fun w4 ⟨out2, ok4, h4⟩ => ?_)
      · refine ixS_rd h3 6 rfl hr (fun _ => rfl) hmj fun a ha => ?_
        refine ldN_of h3 6 rfl ha rfl ?_
        rw [zero_101]
        refine al_s (cs := [.bool false, .bool false, .int .i64 0, .int .i64 0, .int .i64 0, .int .i64 0, .int .i64 0]) h3 rfl fun b13 w4 h4 => ?_
        refine stN_at h4 0 rfl (vs := mj.cs) rfl rfl (by simp) (mj.flat) (cs' := mj.cs) (by kernel_rfl) fun w5 h5 => ?_
        refine ld1_at h5 4 rfl (v := v4) rfl ?_
        refine ixS_rd h5 5 rfl (fun g hg => own_rd hg) (fun _ => rfl) hpj fun a2 ha2 => ?_
        refine ld1_of h5 5 rfl ha2 (by rfl) ?_
        have skip : k w5 := hkk _ ⟨out', ok3, h5.drop⟩
        cases pj with
        | false => exact gd_ft (gd_ft (gd_ft (gd_ft (pk_f (iff_f skip)))))
        | true =>
          refine gd_tt (gd_tt (gd_tt ?_))
          refine ixS_rd h5 6 rfl (fun g hg => own_rd hg) (fun _ => rfl) hgj fun a3 ha3 => ?_
          refine gd_tt (ld1_of h5 6 rfl ha3 (by rfl) (pk_t ?_))
          cases gj with
          | false => exact iff_f skip
          | true =>
            refine iff_t ?_
            refine dr_s h5 fun w6 h6 => ?_
            refine ld1_at h6 2 rfl (v := v3) rfl (ld1_at h6 2 rfl (v := v3) rfl ?_)
            refine ixS_rd h6 3 rfl (fun g hg => own_rd hg) (fun _ => rfl) hoj fun a4 ha4 => ?_
            refine ld1_of h6 3 rfl ha4 (by rfl) ?_
            refine ldN_at h6 0 (vs := mj.cs) rfl (by rfl) rfl ?_
            refine fld_at (ld1_at h6 0 rfl (v := .int .i64 mj.time) rfl ?_)
            refine ld1_at h6 2 rfl (v := v3) rfl ?_
            refine ixS_rd h6 3 rfl (fun g hg => own_rd hg) (fun _ => rfl) hoi fun a5 ha5 => ?_
            refine ld1_of h6 3 rfl ha5 (by rfl) ?_
            refine lb_clamp_s ?_
            have r1 := ld1_at (K := fun v' w'' => v' = v3 ∧ w'' = w6) h6 2 rfl (v := v3) (off := 0) rfl ⟨rfl, rfl⟩
            have r2 := ldN_at (K := fun v' w'' => v' = .agg mj.cs.toArray ∧ w'' = w6) (off := 0) h6 0 (vs := mj.cs) rfl (by rfl) rfl ⟨rfl, rfl⟩
            have r3 := ld1_of (K := fun v' w'' => v' = .int .i64 oj ∧ w'' = w6) h6 3 rfl ha4 (by rfl) ⟨rfl, rfl⟩
            refine ⟨ld1_of h6 3 rfl ha5 (by rfl) ⟨rfl, rfl⟩, r1, r2, r3, r1, r1, max_s ⟨r2, r3, r1, r1, ?_⟩⟩
            refine lb_later_s h6 fun w7 h7 => ?_
            have s1 := ld1_at (K := fun v' w'' => v' = v3 ∧ w'' = w7) h7 2 rfl (v := v3) (off := 0) rfl ⟨rfl, rfl⟩
            refine ⟨ld1_of h7 3 rfl ha4 (by rfl) ⟨rfl, rfl⟩, s1, s1, min_s ⟨s1, ?_⟩⟩
            refine st_own' h7 3 rfl (fun _ => rfl) (by omega) (x := min oj (mj.later (max (addT mj.time 0) oi))) rfl (intsK_flat _) fun w8 h8 => ?_
            exact hkk _ ⟨_, ok3.low hmi hri hoi hoj, h8.drop⟩
      · refine inc_s (by omega) ?_
        exact hg1 _ _ ⟨j + 1, out2, by omega, rfl, ok4, h4⟩ (by simp [nOf]; omega)
    · exact hag _ _ _ ok3 hlt h3

theorem lb_Outputs_s (hl : l.length ≤ 100) (hS : Sat e w (S :: R)) (hr : ∀ g, S g → rdS 7 LM.cs v l g) (hv : v.cells.toList = [v] ∧ flat v = true)
    (hk : ∀ v3 out op hg w', OutOk l out op hg → Sat e w' (II v3 out :: S :: R) → K v3 w') : Cl prog 26 #[v] w K := by
  refine lbts_Outputs_calls ?_
  unfold lbts_Outputs
  refine al_s (cs := [v]) hS hv.1 fun b1 w1 h1 => ?_
  have fin : ∀ n x0 x1 x2 x3 w (g : Again), (∃ (b3 b4 : Nat) (v3 v4 : Value) (out : List Int) (op hg : List Bool), x0 = pt b3 ∧ x1 = pt b4 ∧ x3 = .func (.func 43) #[] #[pt b1, pt b4, pt b3] ∧ n = opens op ∧ OutOk l out op hg ∧ Sat e w (OS b1 b3 b4 v v3 v4 x2 out op hg S R)) →
      (∀ m x0' x1' x2' x3' w', (∃ (b3 b4 : Nat) (v3 v4 : Value) (out : List Int) (op hg : List Bool), x0' = pt b3 ∧ x1' = pt b4 ∧ x3' = .func (.func 43) #[] #[pt b1, pt b4, pt b3] ∧ m = opens op ∧ OutOk l out op hg ∧ Sat e w' (OS b1 b3 b4 v v3 v4 x2' out op hg S R)) → m < n → g [x0', x1', x2', x3'] w') →
      lbts_Outputs_r (pt b1) x0 x1 x2 x3 g w K := by
    rintro n _ _ v5 _ w g ⟨b3, b4, v3, v4, out, op, hg, rfl, rfl, rfl, rfl, ok, h2⟩ hag
    refine out_rest hl ok h2 hr (fun out' op' w' ok' hlt h3 => hag _ _ _ _ _ _ ⟨b3, b4, v3, v4, out', op', hg, rfl, rfl, rfl, rfl, ok', h3⟩ hlt) fun w' h3 => ?_
    exact hk _ _ _ _ _ ok (h3.selR [_, _, _, _, _, _, _] [_, _] [2, 6] (by decide) rfl)
  refine sgi4 (fun n x0 x1 x2 x3 w => ∃ (b3 b4 : Nat) (v3 v4 : Value) (out : List Int) (op hg : List Bool), x0 = pt b3 ∧ x1 = pt b4 ∧ x3 = .func (.func 43) #[] #[pt b1, pt b4, pt b3] ∧ n = opens op ∧ OutOk l out op hg ∧ Sat e w (OS b1 b3 b4 v v3 v4 x2 out op hg S R))
    (fun g hag => ?_) fun n x0 x1 x2 x3 w g h hag => fin n x0 x1 x2 x3 w g h hag
  refine ld1_at h1 0 rfl (v := v) rfl (lnS_rd h1 1 rfl hr ?_)
  refine mkS_own te_23 (by omega) h1 (intsK .i64) (fun _ => rfl) 0 (by rw [zero_3]; rfl) fun v3 w2 h2 => ?_
  rw [zero_23]
  refine al_s (cs := [.slice none 0 0]) h2 rfl fun b3 w3 h3 => ?_
  refine st1_at h3 0 rfl (h3.own_cells 1 rfl) (by decide) rfl fun w4 h4 => ?_
  refine ld1_at h4 2 rfl (v := v) rfl (lnS_rd h4 3 rfl hr ?_)
  refine mkS_own te_99 (by omega) h4 bC (fun _ => rfl) false (by rw [zero_4]; rfl) fun v4 w5 h5 => ?_
  rw [zero_99]
  refine al_s (cs := [.slice none 0 0]) h5 rfl fun b4 w6 h6 => ?_
  refine st1_at h6 0 rfl (h6.own_cells 1 rfl) (by decide) rfl fun w7 h7 => ?_
  refine ld1_at h7 4 rfl (v := v) rfl (lnS_rd h7 5 rfl hr ?_)
  refine mkS_own te_99 (by omega) h7 bC (fun _ => rfl) false (by rw [zero_4]; rfl) fun v5 w8 h8 => ?_
  refine ld1_at h8 5 rfl (v := v) rfl (lnS_rd h8 6 rfl hr ?_)
  have h9 : Sat e w8 (OS b1 b3 b4 v v3 v4 v5 (List.replicate l.length 0) (List.replicate l.length false) (List.replicate l.length false) S R) := h8.selR [_, _, _, _, _, _, _] [_, _, _, _, _, _, _] [5, 3, 4, 1, 2, 0, 6] (by decide) rfl
  refine lp1 (fun t25 w => ∃ (j : Nat) (out : List Int) (op hg : List Bool), j ≤ l.length ∧ t25 = .int .i64 j ∧ out.length = l.length ∧ op.length = l.length ∧ hg.length = l.length ∧
      (∀ (i : Nat) (m : LM), l[i]? = some m → op[i]? = some true → m.reg = true) ∧ (∀ (i : Nat) (m : LM), i < j → l[i]? = some m → m.reg = true → out[i]? = some m.lat) ∧ Sat e w (OS b1 b3 b4 v v3 v4 v5 out op hg S R)) (fun t25 _ => l.length - nOf t25)
    ⟨0, _, _, _, Nat.zero_le _, rfl, by simp, by simp, by simp, fun i m _ h => by rw [List.getElem?_replicate] at h; split at h <;> simp at h, fun i m h => by omega, h9⟩ ?_
  rintro _ w9 g3 ⟨j, out, op, hg, hj, rfl, n1, n2, n3, hop, hout, h10⟩ hag3
  refine lt_c (fun c => iff_t ?_) (fun c => iff_f ?_)
  · obtain ⟨m, hm⟩ := get_of_lt (l := l) (j := j) (by omega)
    refine J0.cut (fun w => ∃ (out : List Int) (op hg : List Bool), out.length = l.length ∧ op.length = l.length ∧ hg.length = l.length ∧ (∀ (i : Nat) (m : LM), l[i]? = some m → op[i]? = some true → m.reg = true) ∧ (∀ (i : Nat) (m : LM), i < j + 1 → l[i]? = some m → m.reg = true → out[i]? = some m.lat) ∧ Sat e w (OS b1 b3 b4 v v3 v4 v5 out op hg S R)) (fun k hkk => ?_)
      (fun w4 ⟨out2, op2, hg2, n1', n2', n3', hop', hout', h4⟩ => ?_)
    · refine ixS_rd h10 6 rfl hr (fun _ => rfl) hm fun a ha => ?_
      refine ldN_of h10 6 rfl ha rfl ?_
      rw [zero_101]
      refine al_s (cs := [.bool false, .bool false, .int .i64 0, .int .i64 0, .int .i64 0, .int .i64 0, .int .i64 0]) h10 rfl fun b7 w4 h4 => ?_
      refine stN_at h4 0 rfl (vs := m.cs) rfl rfl (by simp) (m.flat) (cs' := m.cs) (by kernel_rfl) fun w5 h5 => ?_
      refine ld1_at h5 2 rfl (v := v3) rfl ?_
      refine st_own h5 3 rfl (fun _ => rfl) (by omega) (x := 1125899906842624) rfl (intsK_flat _) fun w6 h6 => ?_
      have hset : ∀ (x : Int), m.reg = true → x = m.lat → ∀ (i : Nat) (m' : LM), i < j + 1 → l[i]? = some m' → m'.reg = true → ((out.set j 1125899906842624).set j x)[i]? = some m'.lat := by
        intro x _ hx i m' hi hm' hr'
        rw [List.getElem?_set]
        by_cases hij : j = i
        · subst hij
          rw [hm] at hm'
          injection hm' with e1
          subst e1
          rw [if_pos rfl, if_pos (by simp; omega), hx]
        · rw [if_neg hij, List.getElem?_set, if_neg hij]
          exact hout i m' (by omega) hm' hr'
      refine fld_at (ld1_at h6 0 rfl (v := .bool m.reg) rfl ?_)
      refine iff_b _ (fun hreg => ?_) (fun hreg => ?_)
      · refine ldN_at h6 0 (vs := m.cs) rfl (by rfl) rfl ?_
        refine lb_own_s h6 fun w7 h7 => ?_
        refine xt_02 (xt_12 ?_)
        refine dr_s h7 fun w8 h8 => ?_
        refine ld1_at h8 2 rfl (v := v3) rfl (ld1_at h8 4 rfl (v := v4) rfl ?_)
        refine ldN_at h8 0 (vs := m.cs) rfl (by rfl) rfl ?_
        refine lb_later_s h8 fun w9 h9 => ?_
        refine ⟨ld1_at h9 4 rfl (v := v4) rfl ⟨rfl, rfl⟩, ld1_at h9 2 rfl (v := v3) rfl ⟨rfl, rfl⟩, ?_⟩
        refine st_own' h9 3 rfl (fun _ => rfl) (by simp; omega) (x := m.lat) rfl (intsK_flat _) fun w10 h10 => ?_
        refine ⟨ld1_at h10 4 rfl (v := v4) rfl ⟨rfl, rfl⟩, ?_⟩
        refine st_own' h10 5 rfl (fun _ => rfl) (by omega) (x := true) rfl (bC_flat _) fun w11 h11 => ?_
        refine st_own' h11 6 rfl (fun _ => rfl) (by omega) (x := m.own.2) rfl (bC_flat _) fun w12 h12 => ?_
        refine hkk _ ⟨_, _, _, by simpa using n1, by simpa using n2, by simpa using n3, fun i m' hm' ho' => ?_, hset _ hreg rfl, h12.drop⟩
        rcases get_set_c ho' with ⟨rfl, _⟩ | ⟨_, ho'⟩
        · rw [hm] at hm'
          injection hm' with e1
          rw [← e1, hreg]
        · exact hop i m' hm' ho'
      · refine hkk _ ⟨_, _, _, by simpa using n1, n2, n3, hop, fun i m' hi hm' hr' => ?_, h6.drop⟩
        rw [List.getElem?_set]
        by_cases hij : j = i
        · subst hij
          rw [hm] at hm'
          injection hm' with e1
          rw [← e1, hreg] at hr'
          cases hr'
        · rw [if_neg hij]
          exact hout i m' (by omega) hm' hr'
    · refine inc_s (by omega) ?_
      exact hag3 _ _ ⟨j + 1, out2, op2, hg2, by omega, rfl, n1', n2', n3', hop', hout', h4⟩ (by simp [nOf]; omega)
  · obtain rfl : j = l.length := by omega
    have ok : OutOk l out op hg := ⟨n1, n2, n3, hop, fun i m o hm hr ho => by
        rw [hout i m (List.getElem?_eq_some_iff.1 hm).1 hm hr] at ho
        injection ho with ho
        omega, fun X _ hall i m o hm hr ho => by
        rw [hout i m (List.getElem?_eq_some_iff.1 hm).1 hm hr] at ho
        injection ho with ho
        rw [← ho]
        exact hall m (List.mem_of_getElem? hm) hr⟩
    refine out_rest hl ok h10 hr (fun out' op' w' ok' hlt h3 => hag (opens op') _ _ _ _ _ ⟨b3, b4, v3, v4, out', op', hg, rfl, rfl, rfl, rfl, ok', h3⟩) fun w' h3 => ?_
    exact hk _ _ _ _ _ ok (h3.selR [_, _, _, _, _, _, _] [_, _] [2, 6] (by decide) rfl)

/-- Lbts: at least what all began with. -/
theorem lb_Lbts_s {i : Int} (hl : l.length ≤ 100) (hS : Sat e w (S :: R)) (hr : ∀ g, S g → rdS 7 LM.cs v l g) (hv : v.cells.toList = [v] ∧ flat v = true)
    (hk : ∀ (b : Int) w', (∀ X, X ≤ Inf → (∀ m ∈ l, m.reg = true → X ≤ m.lat) → X ≤ b) → Sat e w' (S :: R) → K (.int .i64 b) w') : Cl prog 39 #[v, .int .i64 i] w K := by
  refine lbts_Lbts_calls ?_
  unfold lbts_Lbts
  refine lb_Outputs_s hl hS hr hv fun v3 out op hg w1 ok h1 => ?_
  have hn1 := ok.n1
  refine lnS_rd h1 0 rfl (fun g hg => own_rd hg) ?_
  refine lp2 (fun t5 t11 w => ∃ (j : Nat) (b : Int), j ≤ l.length ∧ t11 = .int .i64 j ∧ t5 = .int .i64 b ∧ (∀ X, X ≤ Inf → (∀ m ∈ l, m.reg = true → X ≤ m.lat) → X ≤ b) ∧ Sat e w (II v3 out :: S :: R)) (fun _ t11 _ => l.length - nOf t11)
    ⟨0, 1125899906842624, Nat.zero_le _, rfl, rfl, fun X hX _ => hX, h1⟩ ?_
  rintro _ _ w g ⟨j, b, hj, rfl, rfl, hb, h2⟩ hag
  refine lt_c (fun c => iff_t ?_) (fun c => iff_f ?_)
  · obtain ⟨m, hm⟩ := get_of_lt (l := l) (j := j) (by omega)
    obtain ⟨o, ho⟩ := get_of_lt (l := out) (j := j) (by omega)
    refine J1.cut (fun t w => ∃ b : Int, t = .int .i64 b ∧ (∀ X, X ≤ Inf → (∀ m ∈ l, m.reg = true → X ≤ m.lat) → X ≤ b) ∧ Sat e w (II v3 out :: S :: R)) (fun k hkk => ?_) (fun t w3 ⟨b2, ht, hb2, h3⟩ => ?_)
    · refine ixS_rd h2 0 rfl (fun g hg => own_rd hg) (fun _ => rfl) ho fun a ha => ?_
      refine ld1_of h2 0 rfl ha (by rfl) ?_
      refine ne_c (fun c2 => ?_) (fun c2 => ?_)
      · refine gd_tt (gd_tt (gd_tt ?_))
        refine ixS_rd h2 1 rfl hr (fun _ => rfl) hm fun a2 ha2 => ?_
        obtain ⟨ab, ao, ac⟩ := a2
        refine gd_tt (fld_of ha2 fun a3 ha3 => gd_tt (ld1_of h2 1 rfl ha3 (v := .bool m.reg) (by rfl) (pk_t ?_)))
        refine iff_b _ (fun hreg => ?_) (fun hreg => hkk _ _ ⟨b, rfl, hb, h2⟩)
        refine min_s (hkk _ _ ⟨min b o, rfl, fun X hX hall => ?_, h2⟩)
        have h4 := hb X hX hall
        have h5 := ok.lo X hX hall j m o hm hreg ho
        omega
      · refine gd_ft (gd_ft (gd_ft (gd_ft (gd_ft (pk_f (iff_f ?_))))))
        exact hkk _ _ ⟨b, rfl, hb, h2⟩
    · subst ht
      refine inc_s (by omega) ?_
      exact hag _ _ _ ⟨j + 1, b2, by omega, rfl, rfl, hb2, h3⟩ (by simp [nOf]; omega)
  · exact hk b _ hb h2.drop
end Go.Proofs.YtmgaooeeddmbmaaGreatDoor
