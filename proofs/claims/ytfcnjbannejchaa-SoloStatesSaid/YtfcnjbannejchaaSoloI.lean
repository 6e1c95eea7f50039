/- What is sent: Sent, Spread, Starts, Step. Conditions: the federation may be. -/
import Derived.Test.YtfcnjbannejchaaSoloH
namespace Go.Proofs.Ytfcnjbannejchaa
open Go Go.E
set_option maxRecDepth 100000
variable {e w : World} {L R : List HP} {K : KV} {S S2 : HP}

theorem modulo_s {n : Int} (h0 : 0 ≤ n) (hk : K (.int .i64 (n % 1000)) w) : Cl prog 80 #[.int .i64 n] w K := by
  refine table_modulo_calls ?_
  unfold table_modulo
  refine rem_s (by decide) ?_
  rw [Int.tmod_eq_emod_of_nonneg h0]
  refine lt_f (by omega) (iff_f ?_)
  exact hk
def sentM (f seq now body : Int) (o : Out) : Msg := ⟨⟨addT now o.Delay, f, seq⟩, -1, o.Class, (body + o.Add) % 1000⟩
theorem sent_s {f seq now body : Int} {o : Out} (hb : 0 ≤ body) (hA : 0 ≤ o.Add) (hS : Sat e w L) (hk : ∀ w', Sat e w' L → K (.agg (sentM f seq now body o).cs.toArray) w') :
    Cl prog 56 #[.int .i64 f, .int .i64 seq, .int .i64 now, .int .i64 body, .agg o.cs.toArray] w K := by
  refine table_Sent_calls ?_
  unfold table_Sent
  refine al_s (cs := o.cs) hS rfl fun t9 w1 h1 => ?_
  rw [zero_37]
  refine al_s (cs := Msg.zero.cs) h1 rfl fun t10 w2 h2 => ?_
  refine dr_s h2 fun w3 h3 => ?_
  refine fld_at (ld1_at h3 1 rfl (v := .int .i64 o.Delay) rfl ?_)
  refine fld_at (ld1_at h3 1 rfl (v := .int .i64 o.Class) rfl ?_)
  refine fld_at (ld1_at h3 1 rfl (v := .int .i64 o.Add) rfl ?_)
  refine vtime_Add_s ?_
  have oA : ld1 (.pointer (some ⟨t9, 0 + 2, none⟩)) w3 (fun v' w'' => v' = .int .i64 o.Add ∧ w'' = w3) := ld1_at h3 1 rfl (v := .int .i64 o.Add) rfl ⟨rfl, rfl⟩
  have oC : ld1 (.pointer (some ⟨t9, 0 + 0, none⟩)) w3 (fun v' w'' => v' = .int .i64 o.Class ∧ w'' = w3) := ld1_at h3 1 rfl (v := .int .i64 o.Class) rfl ⟨rfl, rfl⟩
  have key : ∀ K : KV, K (.agg (ints [addT now o.Delay, f, seq]).toArray) w3 → bld (zeroD prog 35) #[(0, 1), (1, 1), (2, 1)] [(0, .int .i64 (addT now o.Delay)), (1, .int .i64 f), (2, .int .i64 seq)] w3 K := fun K h => bld_s (ints [addT now o.Delay, f, seq]) (by kernel_rfl) h
  have e0 : (body % 1000 + o.Add % 1000) % 1000 = (body + o.Add) % 1000 := by omega
  have fin : bld #[.int .i64 0, .int .i64 0, .int .i64 0, .int .i64 0, .int .i64 0, .int .i64 0] #[(0, 3), (3, 1), (4, 1), (5, 1)] [(0, .agg (ints [addT now o.Delay, f, seq]).toArray), (1, .int .i64 (-1)), (2, .int .i64 o.Class), (3, .int .i64 ((body % 1000 + o.Add % 1000) % 1000))] w3 fun t27 w =>
      stN 6 (.pointer (some ⟨t10, 0, none⟩)) t27 w fun _ w => ldN 6 (.pointer (some ⟨t10, 0, none⟩)) w fun r0 _ => K r0 w := by
    rw [e0]
    refine bld_s (sentM f seq now body o).cs (by kernel_rfl) ?_
    refine stN_at h3 0 rfl (vs := (sentM f seq now body o).cs) rfl rfl (by simp [ints, Msg.ns, Msg.zero]) (ints_flat _) (cs' := (sentM f seq now body o).cs) (by rfl) fun w4 h4 => ?_
    refine ldN_at h4 0 (vs := (sentM f seq now body o).cs) rfl (by rfl) rfl ?_
    exact hk _ h4.drop.drop
  have mA : ∀ K : KV, K (.int .i64 (o.Add % 1000)) w3 → Cl prog 80 #[.int .i64 o.Add] w3 K := fun K h => modulo_s hA h
  have mB : ∀ K : KV, K (.int .i64 (body % 1000)) w3 → Cl prog 80 #[.int .i64 body] w3 K := fun K h => modulo_s hb h
  have mS : ∀ K : KV, K (.int .i64 ((body % 1000 + o.Add % 1000) % 1000)) w3 → Cl prog 80 #[.int .i64 (body % 1000 + o.Add % 1000)] w3 K := fun K h => modulo_s (by omega) h
  refine ⟨oA, oC, ?_, ?_⟩
  · refine key _ ⟨oA, oC, mB _ ⟨oA, oC, mA _ ⟨oC, add_s (by omega) (by omega) (mS _ ⟨oC, ?_⟩)⟩⟩⟩
    exact fin
  · refine mB _ ⟨oA, oC, key _ ⟨oA, oC, mA _ ⟨oC, add_s (by omega) (by omega) (mS _ ⟨oC, ?_⟩)⟩⟩, ?_⟩
    · exact fin
    · refine mA _ ⟨oC, add_s (by omega) (by omega) ⟨key _ ⟨oA, oC, mS _ ⟨oC, ?_⟩⟩, mS _ ⟨oC, key _ ⟨oA, oC, ?_⟩⟩⟩⟩
      · exact fin
      · exact fin

/-! ### Spread -/
def spreadL (ps : List Int) (feds : List Fed) (f seq now body : Int) (outs : List Out) : List Msg := outs.zipIdx.flatMap fun p => (routesL ps f p.1.Class feds).map fun to => { sentM f (seq + p.2) now body p.1 with To := to }
theorem spreadL_snoc (ps : List Int) (feds : List Fed) (f seq now body : Int) (outs : List Out) (o : Out) : spreadL ps feds f seq now body (outs ++ [o]) = spreadL ps feds f seq now body outs ++ (routesL ps f o.Class feds).map fun to => { sentM f (seq + outs.length) now body o with To := to } := by
  unfold spreadL
  rw [List.zipIdx_append, List.flatMap_append]
  simp
theorem spreadL_len (ps : List Int) (feds : List Fed) (f seq now body : Int) (outs : List Out) : (spreadL ps feds f seq now body outs).length ≤ outs.length * feds.length := by
  have key : ∀ (l : List (Out × Nat)), (l.flatMap fun p => (routesL ps f p.1.Class feds).map fun to => ({ sentM f (seq + p.2) now body p.1 with To := to } : Msg)).length ≤ l.length * feds.length := by
    intro l
    induction l with
    | nil => simp
    | cons p l ih =>
      rw [List.flatMap_cons, List.length_append, List.length_map, List.length_cons, Nat.add_mul]
      have := routesL_len ps f p.1.Class feds
      omega
  have := key outs.zipIdx
  rw [List.length_zipIdx] at this
  exact this
/-- What may be sent in a federation of so many classes. -/
def okSend (n : Nat) (o : Out) : Prop := 0 ≤ o.Class ∧ o.Class < n ∧ 0 ≤ o.Add
theorem spread_s {x : WdX} {f seq now body : Int} {v : Value} {outs : List Out} (i k : Nat) (hi : L[i]? = some S) (hk2 : L[k]? = some S2) (hS : Sat e w L) (hr : ∀ g, S g → RdWd x g) (hr2 : ∀ g, S2 g → rdS 3 Out.cs v outs g) (hs : x.short) (ht : okTree x.Parents)
    (ho : ∀ o ∈ outs, okSend x.Parents.length o) (hl : outs.length ≤ 1000) (hb : 0 ≤ body) (hq : 0 ≤ seq ∧ seq ≤ 1125899906842624)
    (hk : ∀ v w', Sat e w' (ownS 37 6 Msg.cs v (spreadL x.w.Parents x.w.Feds f seq now body outs) :: L) → K v w') : Cl prog 32 #[.agg x.cs.toArray, .int .i64 f, .int .i64 seq, .int .i64 now, .int .i64 body, v] w K := by
  refine config_Spread_calls ?_
  unfold config_Spread
  refine al_s (cs := x.cs) hS rfl fun b w1 h1 => ?_
  have hi1 : (blk b 25 x.cs :: L)[i + 1]? = some S := by simpa using hi
  have hk1 : (blk b 25 x.cs :: L)[k + 1]? = some S2 := by simpa using hk2
  refine lnS_rd h1 (k + 1) hk1 hr2 ?_
  have hfl := hs.feds
  rw [zero_63, zero_37]
  have hflat := wd_cells i hi hS hr
  refine lpi2 (fun q t13 t21 w => ∃ j : Nat, j ≤ outs.length ∧ t21 = .int .i64 j ∧ q = outs.length - j ∧ Sat e w (ownS 37 6 Msg.cs t13 (spreadL x.w.Parents x.w.Feds f seq now body (outs.take j)) :: blk b 25 x.cs :: L)) outs.length
    ⟨0, Nat.zero_le _, rfl, rfl, h1.own_nil 37 6 Msg.cs⟩ ?_
  rintro q t13 _ w g ⟨j, hj, rfl, rfl, h2⟩ hg
  refine lt_c (fun c0 => iff_t ?_) (fun c0 => iff_f ?_)
  · obtain ⟨o, hoj⟩ := get_of_lt (l := outs) (j := j) (by omega)
    obtain ⟨o1, o2, o3⟩ := ho o (List.mem_of_getElem? hoj)
    have hlen : (outs.take j).length = j := by rw [List.length_take]; omega
    have hsn : spreadL x.w.Parents x.w.Feds f seq now body (outs.take (j + 1)) = spreadL x.w.Parents x.w.Feds f seq now body (outs.take j) ++ (routesL x.w.Parents f o.Class x.w.Feds).map fun to => { sentM f (seq + j) now body o with To := to } := by
      rw [take_snoc hoj, spreadL_snoc, hlen]
    have hsl := spreadL_len x.w.Parents x.w.Feds f seq now body (outs.take j)
    have hfl2 : x.w.Feds.length ≤ 1000 := by simp only [WdX.w, List.length_map]; exact hfl
    rw [hlen] at hsl
    have hsl2 : j * x.w.Feds.length ≤ 1000 * 1000 := Nat.mul_le_mul (by omega) hfl2
    have hi2 : (ownS 37 6 Msg.cs t13 (spreadL x.w.Parents x.w.Feds f seq now body (outs.take j)) :: blk b 25 x.cs :: L)[i + 2]? = some S := by simpa using hi
    have hk3 : (ownS 37 6 Msg.cs t13 (spreadL x.w.Parents x.w.Feds f seq now body (outs.take j)) :: blk b 25 x.cs :: L)[k + 2]? = some S2 := by simpa using hk2
    refine ixS_rd h2 (k + 2) hk3 hr2 (fun _ => rfl) hoj fun a ha => ?_
    refine ldN_of h2 (k + 2) hk3 ha rfl ?_
    refine al_s (cs := ints [0, 0, 0]) h2 rfl fun t w3 h3 => ?_
    refine stN_at h3 0 rfl (vs := o.cs) rfl rfl (by decide) (ints_flat _) (cs' := o.cs) (by rfl) fun w4 h4 => ?_
    refine add_s (by omega) (by omega) ?_
    refine ldN_at h4 0 (vs := o.cs) rfl (by rfl) rfl ?_
    refine sent_s hb o3 h4 fun w5 h5 => ?_
    refine al_s (cs := Msg.zero.cs) h5 rfl fun tm w6 h6 => ?_
    generalize hm : sentM f (seq + j) now body o = m at hsn h6 ⊢
    have hmc : m.Class = o.Class := by rw [← hm]; rfl
    refine stN_at h6 0 rfl (vs := m.cs) rfl rfl (by decide) (ints_flat _) (cs' := m.cs) (by rfl) fun w7 h7 => ?_
    refine ldN_at h7 3 (vs := x.cs) rfl (by rfl) rfl ?_
    refine fld_at (ld1_at h7 0 rfl (v := .int .i64 m.Class) rfl ?_)
    rw [hmc]
    refine routes_s (x := x) (i + 4) (by simpa using hi) h7 hr hs ht ⟨o1, o2⟩ fun tv w8 h8 => ?_
    refine lnS_rd h8 0 rfl (fun g hg => own_rd hg) ?_
    generalize hrt : routesL x.w.Parents f o.Class x.w.Feds = rt at hsn h8 ⊢
    have hrtl : rt.length ≤ 1000 := by rw [← hrt]; exact Nat.le_trans (routesL_len _ _ _ _) hfl2
    refine lpi2 (fun q t13 t40 w => ∃ (n : Nat) (m' : Msg), n ≤ rt.length ∧ t40 = .int .i64 n ∧ q = rt.length - n ∧ (∀ to, { m' with To := to } = { m with To := to }) ∧
        Sat e w (ownS 37 6 Msg.cs t13 (spreadL x.w.Parents x.w.Feds f seq now body (outs.take j) ++ (rt.take n).map fun to => { m with To := to }) :: ownS 3 1 (intsK .i64) tv rt :: blk tm 37 m'.cs :: blk t 63 o.cs :: blk b 25 x.cs :: L)) rt.length
      ⟨0, m, Nat.zero_le _, rfl, rfl, fun _ => rfl, by simpa using h8.selR [_, _, _, _, _] [_, _, _, _, _] [3, 0, 1, 2, 4] (by decide) rfl⟩ ?_
    rintro q t13' _ w g2 ⟨n, m', hn, rfl, rfl, hmm, h9⟩ hg2
    refine lt_c (fun c1 => iff_t ?_) (fun c1 => iff_f ?_)
    · obtain ⟨to, hto⟩ := get_of_lt (l := rt) (j := n) (by omega)
      refine ixS_rd h9 1 rfl (fun g hg => own_rd hg) (fun _ => rfl) hto fun a ha => ?_
      refine ld1_of h9 1 rfl ha (v := .int .i64 to) rfl ?_
      refine fld_at (stN_at h9 2 rfl (vs := ints [to]) rfl rfl (Nat.le_of_ble_eq_true rfl) (ints_flat _) (cs' := ({ m' with To := to } : Msg).cs) (by rfl) fun w10 h10 => ?_)
      refine ldN_at h10 2 (vs := ({ m' with To := to } : Msg).cs) rfl (by rfl) rfl ?_
      refine push1 te_58 (f := Msg.cs) (fun _ => rfl) (fun _ => ints_flat _) h10 (x := { m' with To := to }) rfl (by rw [List.length_append, List.length_map, List.length_take]; omega) fun v' w11 h11 => ?_
      refine inc_s (by omega) ?_
      refine hg2 _ _ _ _ (by omega) ⟨n + 1, { m' with To := to }, by omega, rfl, rfl, fun to' => hmm to', ?_⟩
      rw [take_snoc hto, List.map_append, ← List.append_assoc, List.map_singleton, ← hmm to]
      exact h11
    · have en : n = rt.length := by omega
      rw [en, List.take_length, ← hsn] at h9
      refine inc_s (by omega) ?_
      exact hg _ _ _ _ (by omega) ⟨j + 1, by omega, rfl, rfl, h9.selR [_, _, _, _, _] [_, _] [0, 4] (by decide) rfl⟩
  · have ej : j = outs.length := by omega
    rw [ej, List.take_length] at h2
    exact hk _ _ (h2.selR [_, _] [_] [0] (by decide) rfl)
end Go.Proofs.Ytfcnjbannejchaa
