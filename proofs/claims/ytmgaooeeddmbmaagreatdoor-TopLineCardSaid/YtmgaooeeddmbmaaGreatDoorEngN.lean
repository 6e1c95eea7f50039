/- The engine, part N: an element of an owned slice, makeSlice, one of many components. Conditions: none. -/
import Derived.Test.YtmgaooeeddmbmaaGreatDoorEngM
import Derived.Test.YtmgaooeeddmbmaaGreatDoorEngO
namespace Go.E
open Go.RowKit

theorem nc_p {x : Addr} {w : World} {K : KV} (h : K (.pointer (some x)) w) : nc (.pointer (some x)) w K := ⟨rfl, h⟩
section
variable {e w : World} {L R l : List HP} {K : KV} {P Q : HP}
/-- One of many. -/
theorem Sat.focus {l' : List HP} (h : Sat e w (sepL l' :: R)) (i : Nat) (hi : l'[i]? = some P) : Sat e w (P :: sepL (l'.eraseIdx i) :: R) := by
  have h1 := h.split
  have h2 := h1.perm ((pick_perm l' i P hi).append_right R)
  exact (Sat.join (l' := l'.eraseIdx i) (l := P :: R) (h2.perm (by
    have : (P :: l'.eraseIdx i ++ R).Perm (l'.eraseIdx i ++ P :: R) := List.perm_middle.symm
    exact this))).swap
theorem Sat.unfocus {l' : List HP} (i : Nat) (hi : l'[i]? = some P) (h : Sat e w (Q :: sepL (l'.eraseIdx i) :: R)) : Sat e w (sepL (l'.set i Q) :: R) := by
  have h1 := h.swap.split
  have h2 : Sat e w (Q :: l'.eraseIdx i ++ R) := h1.perm (List.perm_middle (l₁ := l'.eraseIdx i) (a := Q) (l₂ := R))
  exact Sat.join (h2.perm ((set_perm l' i P Q hi).append_right R))
end

section
variable {α : Type} {e w : World} {L : List HP} {K : KV} {size : Nat} {f : α → List Value} {v : Value} {l : List α} {t : TypeId}
/-- An owned slice that isn't empty is a block. -/
theorem Sat.own_open (h : Sat e w L) (i : Nat) (hi : L[i]? = some (ownS t size f v l)) (hl : 0 < l.length) :
    ∃ b c cs, v = .slice (some ⟨b, 0, none⟩) l.length c ∧ cs.length = c * size ∧ l.length ≤ c ∧ cs.take (l.length * size) = l.flatMap f ∧ Sat e w (L.set i (blk b t cs)) := by
  have h1 := h.pick i hi
  obtain ⟨k1, k2, d, s1, s2, q, rr⟩ := h1.mem
  rcases q with ⟨_, rfl⟩ | ⟨b, c, cs, hv, hb, hc, hn, hx⟩
  · simp at hl
  · refine ⟨b, c, cs, hv, hc, hn, hx, ?_⟩
    have h2 : Sat e w (blk b t cs :: L.eraseIdx i) := ⟨h1.os, h1.tape, h1.output, h1.drawn, h1.size, k1, k2, d, s1, s2, hb, rr⟩
    exact h2.perm (set_perm L i _ _ hi)
theorem ixS_sl {b off n c j : Nat} {k : IntKind} (hj : j < n) (hk : K (.pointer (some ⟨b, off + j * size, none⟩)) w) : ixS size (.slice (some ⟨b, off, none⟩) n c) (.int k (j : Int)) w K := by
  refine ⟨_, _, _, _, _, rfl, rfl, by omega, by omega, ?_⟩
  have e1 : ((⟨b, off, none⟩ : Addr).add ((j : Int).toNat * size)) = ⟨b, off + j * size, none⟩ := by
    unfold Addr.add
    split
    · rename_i h0
      have h1 : j * size = 0 := by simpa using h0
      rw [h1]; rfl
    · simp
  rw [e1]
  exact hk
theorem flatMap_set (hf : ∀ x, (f x).length = size) : ∀ (l : List α) (j : Nat) (x : α) (rest : List Value), j < l.length → wrL (l.flatMap f ++ rest) (j * size) (f x) = (l.set j x).flatMap f ++ rest
  | [], j, x, rest, h => by simp at h
  | y :: l, 0, x, rest, h => by
    simp only [wrL, Nat.zero_mul, List.take_zero, List.nil_append, Nat.zero_add, List.flatMap_cons, List.append_assoc, List.set_cons_zero]
    rw [hf x, ← hf y, List.drop_left]
  | y :: l, j + 1, x, rest, h => by
    have ih := flatMap_set hf l j x rest (by simpa using h)
    simp only [List.flatMap_cons, List.set_cons_succ, List.append_assoc]
    rw [← ih]
    simp only [wrL]
    rw [show (j + 1) * size = (f y).length + j * size from by rw [hf, Nat.add_mul]; omega, List.take_append, List.take_of_length_le (by omega), Nat.add_sub_cancel_left, show (f y).length + j * size + (f x).length = (f y).length + (j * size + (f x).length) from by omega, ← List.drop_drop, List.drop_left]
    simp
/-- Behind a store into it. -/
theorem own_set {b c j : Nat} {cs cs' : List Value} {x : α} {g : Hp} (hf : ∀ x, (f x).length = size) (hc : cs.length = c * size) (hn : l.length ≤ c) (hx : cs.take (l.length * size) = l.flatMap f) (hj : j < l.length) (hw : wrL cs (j * size) (f x) = cs') (h : blk b t cs' g) :
    ownS t size f (.slice (some ⟨b, 0, none⟩) l.length c) (l.set j x) g := by
  have e1 : cs = l.flatMap f ++ cs.drop (l.length * size) := by rw [← hx, List.take_append_drop]
  have e2 : cs' = (l.set j x).flatMap f ++ cs.drop (l.length * size) := by rw [← hw, e1, flatMap_set hf l j x _ hj, ← e1]
  have e3 : ((l.set j x).flatMap f).length = l.length * size := by rw [flatMap_length hf, List.length_set]
  have e4 : l.length * size ≤ c * size := Nat.mul_le_mul_right _ hn
  refine .inr ⟨b, c, cs', by rw [List.length_set], h, ?_, by simpa using hn, ?_⟩
  · rw [e2, List.length_append, e3, List.length_drop, hc]; omega
  · rw [e2, List.length_set, ← e3, List.take_left]

theorem range_mod {z : Array Value} {x : α} (hz : z.toList = f x) (hs : z.size = size) : ∀ n, ((Array.range (n * size)).map (z[· % z.size]!)).toList = (List.replicate n x).flatMap f
  | 0 => by simp
  | n + 1 => by
    have ih := range_mod hz hs n
    simp only [Array.toList_map, Array.toList_range] at ih ⊢
    rw [Nat.add_mul, Nat.one_mul, List.range_add, List.map_append, ih, List.replicate_succ', List.flatMap_append]
    congr 1
    rw [List.map_map, List.flatMap_cons, List.flatMap_nil, List.append_nil, ← hz]
    apply List.ext_getElem
    · simp [hs]
    · intro i h1 h2
      simp only [List.length_map, List.length_range] at h1
      simp only [List.getElem_map, List.getElem_range, Function.comp, hs]
      rw [Nat.mul_add_mod_self_right, Nat.mod_eq_of_lt h1, Array.getElem_toList]
      rw [getElem!_pos z i (by omega)]

theorem mkS_own {P : Program} {st : TypeId} {bytes : Nat} (T : TE P st t size bytes) {n : Nat} (hb : n * bytes ≤ 140737488355328) (hS : Sat e w L) (f : α → List Value) (hf : ∀ x, (f x).length = size) (x : α) (hz : (zeroD P t).toList = f x)
    (hk : ∀ v w', Sat e w' (ownS t size f v (List.replicate n x) :: L) → K v w') : mkS P st (.int .i64 (n : Int)) (.int .i64 (n : Int)) w K := by
  obtain ⟨i, z, hi, h1, h2, h3, h4⟩ := T.inf
  have hn : n ≤ 140737488355328 := Nat.le_trans (Nat.le_mul_of_pos_right _ T.pos.2) hb
  have hzz : z.cells.toList = f x := by
    rw [← hz]
    unfold zeroD
    simp only [hi, Option.bind_some, h3]
  have hask : ∀ (x : Nat) (w' : World), (askRoom x).run P w' = .ok () w' := by
    intro x w'
    unfold askRoom
    split <;> rfl
  have hbi : ¬ ((bytes : Int) * (n : Int) > 2 ^ 48) := by
    have h0 : ((bytes * n : Nat) : Int) ≤ 140737488355328 := by rw [Nat.mul_comm]; exact Int.ofNat_le.2 hb
    rw [Int.natCast_mul] at h0
    have e1 : (2 : Int) ^ 48 = 281474976710656 := by decide
    rw [e1]
    omega
  obtain ⟨A, hA⟩ : ∃ A : Array Value, A = (Array.range (n * size)).map ((if n * size = 0 then #[] else z.cells)[· % (if n * size = 0 then #[] else z.cells).size]!) := ⟨_, rfl⟩
  have hAl : A.toList = (List.replicate n x).flatMap f := by
    rw [hA]
    by_cases h0 : n * size = 0
    · have : n = 0 := by
        rcases Nat.mul_eq_zero.1 h0 with h | h
        · exact h
        · have := T.pos.1; omega
      subst this
      simp
    · simp only [if_neg h0]
      exact range_mod hzz h4 n
  have g1 : decide ((bytes : Int) * (n : Int) > 2 ^ 48) = false := decide_eq_false hbi
  have g2 : decide ((n : Int) < 0) = false := decide_eq_false (by omega)
  have g3 : decide ((n : Int) > (n : Int)) = false := decide_eq_false (by omega)
  refine ex_oV (w' := w.alloc (.cells A t)) (v := .slice (some ⟨w.heap.size, 0, none⟩) n n) ?_ (hk _ _ ?_)
  · unfold Instr.makeSlice
    simp only [Sem.run_bind, run_und T.und, Result.andThen_ok, asInt, asIntOf, Sem.run_pure, run_ti hi, h2, wrap_i64 (show -9223372036854775808 ≤ (n : Int) from by omega) (show (n : Int) ≤ 9223372036854775807 from by omega), g1, g2, g3, Bool.or_false, Bool.false_eq_true, if_false, hask, Int.toNat_natCast, run_sz hi, h1]
    by_cases h0 : n * size = 0
    · simp only [if_pos h0, Sem.run_bind, Sem.run_pure, Result.andThen_ok, newRow, newObj, Sem.run, hA, World.alloc]
    · simp only [if_neg h0, Sem.run_bind, Sem.run_pure, Result.andThen_ok, run_zero hi h3, newRow, newObj, Sem.run, hA, World.alloc]
  · refine ((hS.alloc _).imp fun g hg => ?_)
    refine .inr ⟨w.heap.size, n, A.toList, by simp, by simpa using hg, ?_, by simp, ?_⟩
    · rw [hAl, flatMap_length hf, List.length_replicate]
    · rw [hAl, List.take_of_length_le (by rw [flatMap_length hf]; exact Nat.le_refl _)]
end

section
variable {P : Program} {w : World} {K : KV}
theorem and1_s {t : TypeId} {xo yo : Operand} {a : Int} (hk : K (.int .i64 (a % 2)) w) : bO P .and t xo yo (.int .i64 a) (.int .i64 1) w K := by
  refine ex_oV (w' := w) (v := .int .i64 (a % 2)) ?_ hk
  have h1 : IntKind.i64.wrap ((BitVec.ofInt 64 a &&& BitVec.ofInt 64 1).toNat : Int) = a % 2 := by
    have h2 : (BitVec.ofInt 64 a &&& BitVec.ofInt 64 1).toNat = (a % 2).toNat := by
      rw [BitVec.toNat_and, BitVec.toNat_ofInt, BitVec.toNat_ofInt]
      have e1 : ((1 : Int) % ((2 ^ 64 : Nat) : Int)).toNat = 2 ^ 1 - 1 := by decide
      rw [e1, Nat.and_two_pow_sub_one_eq_mod]
      omega
    rw [h2]
    exact wrap_i64 (by omega) (by omega) |>.trans (by omega)
  simp only [Sem.run_bind, run_guard_int, Result.andThen_ok, binOp, Op.intBits, ne_eq, not_true_eq_false, if_false, Sem.run_pure]
  exact congrArg (fun z => Result.ok (Value.int .i64 z) w) h1
theorem shr1_s {t : TypeId} {xo yo : Operand} {a : Int} {j : IntKind} (hk : K (.int .i64 (a / 2)) w) : bO P .shr t xo yo (.int .i64 a) (.int j 1) w K := by
  refine ex_oV (w' := w) (v := .int .i64 (a / 2)) ?_ hk
  have hg : (eqGuard .shr t xo yo (.int .i64 a) (.int j 1)).run P w = .ok () w := rfl
  simp only [Sem.run_bind, hg, Result.andThen_ok, binOp, Op.shift, Sem.run_pure, Int.reduceLT, if_false]
  have e1 : min (1 : Int).toNat IntKind.i64.bits = 1 := by decide
  rw [e1]
  have e2 : a.fdiv (2 ^ 1) = a / 2 := by
    rw [show (2 : Int) ^ 1 = 2 from by decide, Int.fdiv_eq_ediv_of_nonneg _ (by decide)]
  rw [e2]
theorem ixA_at {b off len size j : Nat} {k : IntKind} (hj : j < len) (hk : K (.pointer (some ⟨b, off + j * size, none⟩)) w) : ixA len size (.pointer (some ⟨b, off, none⟩)) (.int k (j : Int)) w K := by
  refine ⟨_, _, _, rfl, rfl, by omega, by omega, ?_⟩
  have e1 : ((⟨b, off, none⟩ : Addr).add ((j : Int).toNat * size)) = ⟨b, off + j * size, none⟩ := by
    unfold Addr.add
    split
    · rename_i h0
      have h1 : j * size = 0 := by simpa using h0
      rw [h1]; rfl
    · simp
  rw [e1]
  exact hk
theorem slA_s {t e : TypeId} {n b off : Nat} {i : TypeInfo} {h : Nat} (hu : P.underlying t = some (.array n e)) (hi : P.info? e = some i) (hh : h ≤ n) (hk : K (.slice (some ⟨b, off, none⟩) h n) w) :
    slA P t (.pointer (some ⟨b, off, none⟩)) none (some (.int .i64 (h : Int))) w K := by
  refine ex_oV (w' := w) (v := .slice (some ⟨b, off, none⟩) h n) ?_ hk
  have hb : (Instr.sliceBounds false n n none (some (.int .i64 (h : Int))) none).run P w = .ok (0, h, n) w := by
    unfold Instr.sliceBounds Instr.sliceBound
    simp only [Sem.run_bind, asIntOf, Sem.run_pure, Result.andThen_ok, Bool.false_eq_true, if_false]
    rw [if_pos ⟨by omega, by omega⟩]
    simp
  unfold Instr.sliceAt
  simp only [Sem.run_bind, run_und hu, Result.andThen_ok, Instr.sureAddr, Sem.run_pure, hb, run_sz hi, Nat.zero_mul, Nat.sub_zero]
  have e1 : (⟨b, off, none⟩ : Addr).add 0 = ⟨b, off, none⟩ := rfl
  rw [e1]
  simp
end
end Go.E
