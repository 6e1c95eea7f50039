/- The engine, part H: integers, tests, equality of structs of integers. Conditions: none. -/
import Derived.Test.YtmgaooeeddmbmaaGreatDoorEngG
namespace Go.E
open Go.RowKit

section
variable {w : World} {K : KV} {A B : Prop} {a b : Int} {k : IntKind}
theorem wrap_i64 {n : Int} (h1 : -9223372036854775808 ≤ n) (h2 : n ≤ 9223372036854775807) : IntKind.i64.wrap n = n := by
  have e1 : (2 : Int) ^ 64 = 18446744073709551616 := by decide
  have e2 : (2 : Int) ^ 63 = 9223372036854775808 := by decide
  simp only [IntKind.wrap, IntKind.bits, IntKind.signed, Bool.true_and, decide_eq_true_eq, e1, show 64 - 1 = 63 from rfl, e2]
  split <;> omega
theorem iff_t (h : A) : iff' (.bool true) A B := ⟨true, rfl, fun _ => h, (fun e => by cases e)⟩
theorem iff_f (h : B) : iff' (.bool false) A B := ⟨false, rfl, (fun e => by cases e), fun _ => h⟩
theorem iff_b (q : Bool) (h1 : q = true → A) (h2 : q = false → B) : iff' (.bool q) A B := ⟨q, rfl, h1, h2⟩
theorem pk_t {x y : Value} (h : K x w) : pk (.bool true) x y w K := ⟨true, rfl, h⟩
theorem pk_f {x y : Value} (h : K y w) : pk (.bool false) x y w K := ⟨false, rfl, h⟩
theorem gd_tt {body : KV → Prop} (h : body K) : gd (.bool true) true body w K := ⟨fun _ => h, (fun e => by cases e)⟩
theorem gd_ff {body : KV → Prop} (h : body K) : gd (.bool false) false body w K := ⟨fun _ => h, (fun e => by cases e)⟩
theorem gd_tf {body : KV → Prop} (h : K undef w) : gd (.bool true) false body w K := ⟨(fun e => by cases e), fun _ => h⟩
theorem gd_ft {body : KV → Prop} (h : K undef w) : gd (.bool false) true body w K := ⟨(fun e => by cases e), fun _ => h⟩
theorem not_t (h : K (.bool false) w) : bnot (.bool true) w K := ⟨true, rfl, h⟩
theorem not_f (h : K (.bool true) w) : bnot (.bool false) w K := ⟨false, rfl, h⟩
theorem ncP_p {x : Addr} {p : Prop} (h : p) : ncP (.pointer (some x)) p := ⟨rfl, h⟩
theorem bnp_s (x : Addr) (h : K (.bool false) w) : bn .eql (.pointer (some x)) w K := ⟨some x, rfl, h⟩
theorem bnp_n (h : K (.bool true) w) : bn .eql (.pointer none) w K := ⟨none, rfl, h⟩
theorem bnn_s (x : Addr) (h : K (.bool true) w) : bn .neq (.pointer (some x)) w K := ⟨some x, rfl, h⟩
theorem bnn_n (h : K (.bool false) w) : bn .neq (.pointer none) w K := ⟨none, rfl, h⟩
theorem xt_s {i : Nat} {vs : Array Value} {v : Value} (hv : vs[i]? = some v) (h : K v w) : xt i (.tuple vs) w K := ⟨vs, v, rfl, hv, h⟩
theorem bi_s {op : BinOp} (hd : isDiv op = false) (h : K (intBin op k a b) w) : bi op k (.int k a) (.int k b) w K := ⟨a, b, rfl, rfl, (fun e => by rw [hd] at e; cases e), h⟩
theorem add_s (h1 : -9223372036854775808 ≤ a + b) (h2 : a + b ≤ 9223372036854775807) (h : K (.int .i64 (a + b)) w) : bi .add .i64 (.int .i64 a) (.int .i64 b) w K := bi_s rfl (by simp only [intBin, wrap_i64 h1 h2]; exact h)
theorem sub_s (h1 : -9223372036854775808 ≤ a - b) (h2 : a - b ≤ 9223372036854775807) (h : K (.int .i64 (a - b)) w) : bi .sub .i64 (.int .i64 a) (.int .i64 b) w K := bi_s rfl (by simp only [intBin, wrap_i64 h1 h2]; exact h)
theorem mul_s (h1 : -9223372036854775808 ≤ a * b) (h2 : a * b ≤ 9223372036854775807) (h : K (.int .i64 (a * b)) w) : bi .mul .i64 (.int .i64 a) (.int .i64 b) w K := bi_s rfl (by simp only [intBin, wrap_i64 h1 h2]; exact h)
theorem rem_s (hb : b ≠ 0) (h : K (.int k (a.tmod b)) w) : bi .rem k (.int k a) (.int k b) w K := ⟨a, b, rfl, rfl, fun _ => hb, h⟩
theorem inc_s {j : Nat} (h2 : (j : Int) < 9223372036854775807) (h : K (.int .i64 ((j + 1 : Nat) : Int)) w) : bi .add .i64 (.int .i64 (j : Int)) (.int .i64 1) w K := add_s (by omega) (by omega) (by rw [show ((j : Int) + 1) = ((j + 1 : Nat) : Int) from by omega]; exact h)
theorem lt_t (c : a < b) (h : K (.bool true) w) : bi .lss k (.int k a) (.int k b) w K := bi_s rfl (by simp only [intBin, decide_eq_true c]; exact h)
theorem lt_f (c : ¬ a < b) (h : K (.bool false) w) : bi .lss k (.int k a) (.int k b) w K := bi_s rfl (by simp only [intBin, decide_eq_false c]; exact h)
theorem lt_c (h1 : a < b → K (.bool true) w) (h2 : ¬ a < b → K (.bool false) w) : bi .lss k (.int k a) (.int k b) w K := by
  by_cases c : a < b
  · exact lt_t c (h1 c)
  · exact lt_f c (h2 c)
theorem le_t (c : a ≤ b) (h : K (.bool true) w) : bi .leq k (.int k a) (.int k b) w K := bi_s rfl (by simp only [intBin, decide_eq_true c]; exact h)
theorem le_f (c : ¬ a ≤ b) (h : K (.bool false) w) : bi .leq k (.int k a) (.int k b) w K := bi_s rfl (by simp only [intBin, decide_eq_false c]; exact h)
theorem le_c (h1 : a ≤ b → K (.bool true) w) (h2 : ¬ a ≤ b → K (.bool false) w) : bi .leq k (.int k a) (.int k b) w K := by
  by_cases c : a ≤ b
  · exact le_t c (h1 c)
  · exact le_f c (h2 c)
theorem gt_t (c : b < a) (h : K (.bool true) w) : bi .gtr k (.int k a) (.int k b) w K := bi_s rfl (by simp only [intBin, decide_eq_true (show a > b from c)]; exact h)
theorem gt_f (c : ¬ b < a) (h : K (.bool false) w) : bi .gtr k (.int k a) (.int k b) w K := bi_s rfl (by simp only [intBin, decide_eq_false (show ¬ a > b from c)]; exact h)
theorem gt_c (h1 : b < a → K (.bool true) w) (h2 : ¬ b < a → K (.bool false) w) : bi .gtr k (.int k a) (.int k b) w K := by
  by_cases c : b < a
  · exact gt_t c (h1 c)
  · exact gt_f c (h2 c)
theorem ge_t (c : b ≤ a) (h : K (.bool true) w) : bi .geq k (.int k a) (.int k b) w K := bi_s rfl (by simp only [intBin, decide_eq_true (show a ≥ b from c)]; exact h)
theorem ge_f (c : ¬ b ≤ a) (h : K (.bool false) w) : bi .geq k (.int k a) (.int k b) w K := bi_s rfl (by simp only [intBin, decide_eq_false (show ¬ a ≥ b from c)]; exact h)
theorem ge_c (h1 : b ≤ a → K (.bool true) w) (h2 : ¬ b ≤ a → K (.bool false) w) : bi .geq k (.int k a) (.int k b) w K := by
  by_cases c : b ≤ a
  · exact ge_t c (h1 c)
  · exact ge_f c (h2 c)
theorem eq_t (c : a = b) (h : K (.bool true) w) : bi .eql k (.int k a) (.int k b) w K := bi_s rfl (by simp only [intBin, beq_iff_eq.2 c]; exact h)
theorem eq_f (c : ¬ a = b) (h : K (.bool false) w) : bi .eql k (.int k a) (.int k b) w K := bi_s rfl (by simp only [intBin, beq_eq_false_iff_ne.2 c]; exact h)
theorem eq_c (h1 : a = b → K (.bool true) w) (h2 : ¬ a = b → K (.bool false) w) : bi .eql k (.int k a) (.int k b) w K := by
  by_cases c : a = b
  · exact eq_t c (h1 c)
  · exact eq_f c (h2 c)
theorem ne_t (c : ¬ a = b) (h : K (.bool true) w) : bi .neq k (.int k a) (.int k b) w K := bi_s rfl (by simp only [intBin, bne, beq_eq_false_iff_ne.2 c]; exact h)
theorem ne_f (c : a = b) (h : K (.bool false) w) : bi .neq k (.int k a) (.int k b) w K := bi_s rfl (by simp only [intBin, bne, beq_iff_eq.2 c]; exact h)
theorem ne_c (h1 : ¬ a = b → K (.bool true) w) (h2 : a = b → K (.bool false) w) : bi .neq k (.int k a) (.int k b) w K := by
  by_cases c : a = b
  · exact ne_f c (h2 c)
  · exact ne_t c (h1 c)
theorem beq_s {p q : Bool} (h : K (.bool (p == q)) w) : bb .eql (.bool p) (.bool q) w K := ⟨p, q, rfl, rfl, h⟩
theorem bne_s {p q : Bool} (h : K (.bool (p != q)) w) : bb .neq (.bool p) (.bool q) w K := ⟨p, q, rfl, rfl, h⟩
theorem min_s (h : K (.int k (min a b)) w) : mnI k (.int k a) (.int k b) w K := ⟨a, b, rfl, rfl, by
  have e : (if b < a then b else a) = min a b := by split <;> omega
  rw [e]; exact h⟩
theorem max_s (h : K (.int k (max a b)) w) : mxI k (.int k a) (.int k b) w K := ⟨a, b, rfl, rfl, by
  have e : (if b > a then b else a) = max a b := by split <;> omega
  rw [e]; exact h⟩
theorem cv_s {j : IntKind} (h : K (.int k (k.wrap a)) w) : cvI k (.int j a) w K := ⟨j, a, rfl, h⟩
end

/-! ### Structs of integers -/
def ints (ns : List Int) : List Value := ns.map (Value.int .i64)
def intsK (k : IntKind) (n : Int) : List Value := [.int k n]
theorem intsK_flat {k : IntKind} (n : Int) : ∀ v ∈ intsK k n, flat v = true := by
  intro v hv
  simp only [intsK, List.mem_singleton] at hv
  subst hv
  rfl
theorem ints_flat (ns : List Int) : ∀ v ∈ ints ns, flat v = true := by
  intro v hv
  obtain ⟨n, _, rfl⟩ := List.mem_map.1 hv
  rfl
theorem ints_length (ns : List Int) : (ints ns).length = ns.length := by simp [ints]

/-- Is t an int, or a struct of such, without holes? Its size. -/
def eqT (P : Program) : Nat → TypeId → Option Nat
  | 0, _ => none
  | n + 1, t =>
    match P.underlying t with
    | some (.int .i64) => some 1
    | some (.struct fs) => match P.stoodInHeld t with
      | true => none
      | false => fs.toList.foldl (fun (acc : Option Nat) f => match acc with
        | none => none
        | some off => match decide (f.name ≠ "_") && decide (f.offset = off) && okT P f.type, eqT P n f.type with
          | true, some s => match decide (szD P f.type = s) with | true => some (off + s) | false => none
          | _, _ => none) (some 0)
    | _ => none

section
variable {P : Program} {w : World}
theorem foldl_none {α : Type} (g : Option Nat → α → Option Nat) (hg : ∀ x, g none x = none) : ∀ l : List α, l.foldl g none = none
  | [] => rfl
  | x :: l => by simp only [List.foldl_cons, hg]; exact foldl_none g hg l

theorem run_eqIn : ∀ (n : Nat) (t : TypeId) (s : Nat), eqT P n t = some s → ∀ (d : Nat) (ns ms : List Int), ns.length = s → ms.length = s → ∀ w : World,
    (isAggT P t = false → ∀ a b, ns = [a] → ms = [b] → (Op.equalIn (d + n) t (.int .i64 a) (.int .i64 b)).run P w = .ok (ns == ms) w) ∧
    (isAggT P t = true → (Op.equalIn (d + n) t (.agg (ints ns).toArray) (.agg (ints ms).toArray)).run P w = .ok (ns == ms) w) := by
  intro n
  induction n with
  | zero => intro t s h; simp [eqT] at h
  | succ n ih =>
    intro t s h d ns ms hns hms w
    unfold eqT at h
    split at h
    · rename_i hu
      constructor
      · rintro _ a b rfl rfl
        have := run_equalIn_int (P := P) w (d + n) t .i64 .i64 a b hu
        rw [show d + (n + 1) = d + n + 1 from by omega, this]
        simp
      · intro hg
        simp [isAggT, hu, isAggD] at hg
    · rename_i fs hu
      split at h
      · cases h
      · rename_i hst
        constructor
        · intro hg
          simp [isAggT, hu, isAggD] at hg
        · intro _
          have hfo : P.fieldsOf t = fs := by simp [Program.fieldsOf, hu]
          rw [show d + (n + 1) = d + n + 1 from by omega, run_equalIn_struct (P := P) w (d + n) t _ _ (by rw [hfo]; exact hu) hst, hfo]
          -- the fields, one behind the other
          have key : ∀ (l : List Field) (off : Nat), l.foldl (fun (acc : Option Nat) f => match acc with
              | none => none
              | some off => match decide (f.name ≠ "_") && decide (f.offset = off) && okT P f.type, eqT P n f.type with
                | true, some s => match decide (szD P f.type = s) with | true => some (off + s) | false => none
                | _, _ => none) (some off) = some s → (Op.eqFields (d + n) (ints ns).toArray (ints ms).toArray l).run P w = .ok (ns.drop off == ms.drop off) w := by
            intro l
            induction l with
            | nil =>
              intro off ho
              simp only [List.foldl_nil, Option.some.injEq] at ho
              subst ho
              rw [List.drop_of_length_le (by omega), List.drop_of_length_le (by omega)]
              rfl
            | cons f l ihl =>
              intro off ho
              simp only [List.foldl_cons] at ho
              cases hc : (decide (f.name ≠ "_") && decide (f.offset = off) && okT P f.type) with
              | false =>
                rw [hc] at ho
                simp only at ho
                rw [foldl_none _ (fun _ => rfl)] at ho
                cases ho
              | true =>
                cases he : eqT P n f.type with
                | none =>
                  rw [hc, he] at ho
                  simp only at ho
                  rw [foldl_none _ (fun _ => rfl)] at ho
                  cases ho
                | some sf =>
                  rw [hc, he] at ho
                  simp only at ho
                  cases hz : decide (szD P f.type = sf) with
                  | false =>
                    rw [hz] at ho
                    simp only at ho
                    rw [foldl_none _ (fun _ => rfl)] at ho
                    cases ho
                  | true =>
                    rw [hz] at ho
                    simp only at ho
                    simp only [Bool.and_eq_true, decide_eq_true_eq] at hc hz
                    obtain ⟨⟨hname, hoff⟩, hok⟩ := hc
                    have hle : off + sf ≤ s := by
                      have mono : ∀ (l : List Field) (o : Nat), l.foldl (fun (acc : Option Nat) f => match acc with
                          | none => none
                          | some off => match decide (f.name ≠ "_") && decide (f.offset = off) && okT P f.type, eqT P n f.type with
                            | true, some s => match decide (szD P f.type = s) with | true => some (off + s) | false => none
                            | _, _ => none) (some o) = some s → o ≤ s := by
                        intro l
                        induction l with
                        | nil => intro o h; simp at h; omega
                        | cons g l ih2 =>
                          intro o h
                          simp only [List.foldl_cons] at h
                          split at h
                          · rename_i s2 _ _
                            split at h
                            · have := ih2 _ h; omega
                            · rw [foldl_none _ (fun _ => rfl)] at h; cases h
                          · rw [foldl_none _ (fun _ => rfl)] at h; cases h
                      exact mono l _ ho
                    obtain ⟨d', i, z, hd, hi, hz0, hs, hg, hz'⟩ := okT_inv hok
                    have hsz : i.size = sf := by omega
                    have hA : ∀ (xs : List Int), xs.length = s → (xs.drop off) = (xs.drop off).take sf ++ xs.drop (off + sf) := fun xs hxs => by
                      rw [← List.drop_drop, List.take_append_drop]
                    have hcut : ∀ xs : List Int, xs.length = s → ((ints xs).toArray.extract off (off + sf)) = (ints ((xs.drop off).take sf)).toArray := fun xs hxs => by
                      apply Array.ext'
                      simp [ints]
                    have hl1 : ((ns.drop off).take sf).length = sf := by simp; omega
                    have hl2 : ((ms.drop off).take sf).length = sf := by simp; omega
                    have heq : (ns.drop off == ms.drop off) = (((ns.drop off).take sf == (ms.drop off).take sf) && (ns.drop (off + sf) == ms.drop (off + sf))) := by
                      rw [Bool.eq_iff_iff]
                      simp only [beq_iff_eq, Bool.and_eq_true]
                      constructor
                      · intro e
                        rw [← List.drop_drop, ← List.drop_drop, e]
                        exact ⟨rfl, rfl⟩
                      · rintro ⟨e1, e2⟩
                        rw [hA ns hns, hA ms hms, e1, e2]
                    have hrest := ihl (off + sf) ho
                    have ihf := ih f.type sf he d _ _ hl1 hl2 w
                    rw [Op.eqFields, if_pos hname]
                    cases hag : isAggT P f.type with
                    | true =>
                      have p1 : (part f.type (ints ns).toArray f.offset).run P w = .ok (.agg (ints ((ns.drop off).take sf)).toArray) w := by
                        rw [run_partN hd hi (hg ▸ hag), hoff, hsz, hcut ns hns]
                      have p2 : (part f.type (ints ms).toArray f.offset).run P w = .ok (.agg (ints ((ms.drop off).take sf)).toArray) w := by
                        rw [run_partN hd hi (hg ▸ hag), hoff, hsz, hcut ms hms]
                      have p3 := ihf.2 hag
                      simp only [Sem.run_bind, p1, p2, p3, Result.andThen_ok]
                      rw [heq]
                      cases hb : ((ns.drop off).take sf == (ms.drop off).take sf) with
                      | true => simpa using hrest
                      | false => simp
                    | false =>
                      have hone : sf = 1 := by
                        cases n with
                        | zero => simp [eqT] at he
                        | succ n =>
                          unfold eqT at he
                          split at he
                          · simpa using he.symm
                          · rename_i h2; simp [isAggT, h2, isAggD] at hag
                          · cases he
                      subst hone
                      obtain ⟨x, hx⟩ : ∃ x, (ns.drop off).take 1 = [x] := by
                        match h1 : (ns.drop off).take 1, hl1 with
                        | [x], _ => exact ⟨x, rfl⟩
                      obtain ⟨y, hy⟩ : ∃ y, (ms.drop off).take 1 = [y] := by
                        match h1 : (ms.drop off).take 1, hl2 with
                        | [y], _ => exact ⟨y, rfl⟩
                      have gx : ns[off]? = some x := by
                        have : ((ns.drop off).take 1)[0]? = some x := by rw [hx]; rfl
                        simpa [List.getElem?_take, List.getElem?_drop] using this
                      have gy : ms[off]? = some y := by
                        have : ((ms.drop off).take 1)[0]? = some y := by rw [hy]; rfl
                        simpa [List.getElem?_take, List.getElem?_drop] using this
                      have p1 : (part f.type (ints ns).toArray f.offset).run P w = .ok (.int .i64 x) w := run_part1 hd (hg ▸ hag) (by rw [hoff]; simp [ints, gx])
                      have p2 : (part f.type (ints ms).toArray f.offset).run P w = .ok (.int .i64 y) w := run_part1 hd (hg ▸ hag) (by rw [hoff]; simp [ints, gy])
                      have p3 := ihf.1 hag x y hx hy
                      simp only [Sem.run_bind, p1, p2, p3, Result.andThen_ok]
                      rw [heq]
                      cases hb : ((ns.drop off).take 1 == (ms.drop off).take 1) with
                      | true => simpa using hrest
                      | false => simp
          have := key fs.toList 0 h
          simpa using this
    · cases h

theorem bO_eq {K : KV} {t : TypeId} {xo yo : Operand} {ns ms : List Int} {n : Nat} (hT : eqT P n t = some ns.length) (hg : isAggT P t = true) (hgd : P.eqGuardType P.depth t = false) (hn : n ≤ 10000) (hl : ms.length = ns.length) (hk : K (.bool (ns == ms)) w) :
    bO P .eql t xo yo (.agg (ints ns).toArray) (.agg (ints ms).toArray) w K := by
  have h := (run_eqIn n t _ hT (10000 - n) ns ms rfl hl w).2 hg
  rw [show 10000 - n + n = 10000 from by omega] at h
  refine ex_oV (w' := w) (v := .bool (ns == ms)) ?_ hk
  simp only [Sem.run_bind, run_eqGuard_agg (P := P) w .eql t xo yo _ _ hgd, Result.andThen_ok]
  rw [run_eql_struct, h]
  rfl
theorem bO_ne {K : KV} {t : TypeId} {xo yo : Operand} {ns ms : List Int} {n : Nat} (hT : eqT P n t = some ns.length) (hg : isAggT P t = true) (hgd : P.eqGuardType P.depth t = false) (hn : n ≤ 10000) (hl : ms.length = ns.length) (hk : K (.bool (!(ns == ms))) w) :
    bO P .neq t xo yo (.agg (ints ns).toArray) (.agg (ints ms).toArray) w K := by
  have h := (run_eqIn n t _ hT (10000 - n) ns ms rfl hl w).2 hg
  rw [show 10000 - n + n = 10000 from by omega] at h
  refine ex_oV (w' := w) (v := .bool (!(ns == ms))) ?_ hk
  simp only [Sem.run_bind, run_eqGuard_agg (P := P) w .neq t xo yo _ _ hgd, Result.andThen_ok]
  rw [run_neq_struct, h]
  rfl
end

end Go.E
