/- The run-time infrastructure: bits, what memory holds, checks that hold. Conditions: none. -/
import Derived.Test.YtmgaooeeddmbmaaGreatDoorPrioD
import Derived.Test.YtmgaooeeddmbmaaGreatDoorEngJ
import Derived.Test.YtmgaooeeddmbmaaGreatDoorPf0
import Derived.Test.YtmgaooeeddmbmaaGreatDoorPf1
import Derived.Test.YtmgaooeeddmbmaaGreatDoorPf2
import Derived.Test.YtmgaooeeddmbmaaGreatDoorPf3
import Derived.Test.YtmgaooeeddmbmaaGreatDoorPf4
namespace Go.Proofs.YtmgaooeeddmbmaaGreatDoor
open Go Go.E
set_option maxRecDepth 100000
variable {e w : World} {R : List HP} {K : KV}
abbrev pt (n : Nat) : Value := .pointer (some ⟨n, 0, none⟩)

/-! ### Bits -/
theorem bit_and {x y z : Int} (h : IntKind.u32.wrap ((BitVec.ofInt 32 x &&& BitVec.ofInt 32 y).toNat : Int) = z) {t : TypeId} {xo yo : Operand} (hk : K (.int .u32 z) w) : bO prog .and t xo yo (.int .u32 x) (.int .u32 y) w K := by
  refine ex_oV (w' := w) (v := .int .u32 z) ?_ hk
  simp only [Sem.run_bind, run_guard_int, Result.andThen_ok, binOp, Op.intBits, ne_eq, not_true_eq_false, if_false, Sem.run_pure]
  exact congrArg (fun z => Result.ok (Value.int .u32 z) w) h
theorem bit_or {x y z : Int} (h : IntKind.u32.wrap ((BitVec.ofInt 32 x ||| BitVec.ofInt 32 y).toNat : Int) = z) {t : TypeId} {xo yo : Operand} (hk : K (.int .u32 z) w) : bO prog .or t xo yo (.int .u32 x) (.int .u32 y) w K := by
  refine ex_oV (w' := w) (v := .int .u32 z) ?_ hk
  simp only [Sem.run_bind, run_guard_int, Result.andThen_ok, binOp, Op.intBits, ne_eq, not_true_eq_false, if_false, Sem.run_pure]
  exact congrArg (fun z => Result.ok (Value.int .u32 z) w) h
def bitV (c : Nat) : Int := 2 ^ c
def bitW (is : Bool) (c : Nat) : Int := if is then 2 ^ c else 0
theorem shl_s {c : Nat} (hc : c < 8) {t : TypeId} {xo yo : Operand} (hk : K (.int .u32 (bitV c)) w) : bO prog .shl t xo yo (.int .u32 1) (.int .u64 (c : Int)) w K := by
  refine ex_oV (w' := w) (v := .int .u32 (bitV c)) ?_ hk
  have hg : (eqGuard .shl t xo yo (.int .u32 1) (.int .u64 (c : Int))).run prog w = .ok () w := rfl
  simp only [Sem.run_bind, hg, Result.andThen_ok, binOp, Op.shift]
  rw [if_neg (by omega)]
  simp only [Sem.run_pure, Int.toNat_natCast]
  refine congrArg (fun z => Result.ok (Value.int .u32 z) w) ?_
  exact (show ∀ c, c < 8 → IntKind.u32.wrap (1 * 2 ^ min c IntKind.u32.bits) = bitV c by decide) c hc
theorem shr_s {c : Nat} (hc : c < 8) {t : TypeId} {xo yo : Operand} (hk : K (.int .u32 1) w) : bO prog .shr t xo yo (.int .u32 (bitV c)) (.int .u64 (c : Int)) w K := by
  refine ex_oV (w' := w) (v := .int .u32 1) ?_ hk
  have hg : (eqGuard .shr t xo yo (.int .u32 (bitV c)) (.int .u64 (c : Int))).run prog w = .ok () w := rfl
  simp only [Sem.run_bind, hg, Result.andThen_ok, binOp, Op.shift]
  rw [if_neg (by omega)]
  simp only [Sem.run_pure, Int.toNat_natCast]
  refine congrArg (fun z => Result.ok (Value.int .u32 z) w) ?_
  exact (show ∀ c, c < 8 → (bitV c).fdiv (2 ^ min c IntKind.u32.bits) = 1 by decide) c hc
theorem or_bit {c : Nat} (hc : c < 8) : IntKind.u32.wrap ((BitVec.ofInt 32 0 ||| BitVec.ofInt 32 (bitV c)).toNat : Int) = bitV c :=
  (show ∀ c, c < 8 → IntKind.u32.wrap ((BitVec.ofInt 32 0 ||| BitVec.ofInt 32 (bitV c)).toNat : Int) = bitV c by decide) c hc
theorem and_bit {is : Bool} {a b : Nat} (ha : a < 8) (hb : b < 8) : IntKind.u32.wrap ((BitVec.ofInt 32 (bitW is a) &&& BitVec.ofInt 32 (bitV b)).toNat : Int) = bitW (is && a == b) a :=
  (show ∀ is, ∀ a, a < 8 → ∀ b, b < 8 → IntKind.u32.wrap ((BitVec.ofInt 32 (bitW is a) &&& BitVec.ofInt 32 (bitV b)).toNat : Int) = bitW (is && a == b) a by decide) is a ha b hb
theorem one_bit : IntKind.u32.wrap ((BitVec.ofInt 32 1 &&& BitVec.ofInt 32 1).toNat : Int) = 1 := by decide
theorem bitW_ne {is : Bool} {a : Nat} : ¬ bitW is a = 0 ↔ is = true := by
  unfold bitW
  cases is
  · simp
  · have : (2 : Int) ^ a ≠ 0 := Int.pow_ne_zero (by decide)
    simp [this]

/-! ### In memory -/
structure Mb where
  (is con : Bool) (time look kind ask sent : Int) (q : Nat) (subs : Int)
def Mb.cs (m : Mb) : List Value := [.bool m.is, .bool m.con, .int .i64 m.time, .int .i64 m.look, .int .i64 m.kind, .int .i64 m.ask, .int .i64 m.sent, pt m.q, .slice none 0 0, .int .u32 m.subs]
def upM {α : Type} (s : Nat → α) (j : Nat) (m : α) : Nat → α := fun i => if i = j then m else s i
def rcs (pv tv : Value) (s : Nat → Mb) : List Value := [pv, tv] ++ [s 0, s 1, s 2, s 3, s 4, s 5, s 6, s 7].flatMap Mb.cs ++ [.bool false]
def tcs (av : Value) (p s : Nat → Int) : List Value := [av, .int .u32 (p 0), .int .u32 (p 1), .int .u32 (p 2), .int .u32 (p 3), .int .u32 (p 4), .int .u32 (p 5), .int .u32 (p 6), .int .u32 (p 7), .int .u32 (s 0), .int .u32 (s 1), .int .u32 (s 2), .int .u32 (s 3), .int .u32 (s 4), .int .u32 (s 5), .int .u32 (s 6), .int .u32 (s 7)]
theorem rcs_len (pv tv : Value) (s : Nat → Mb) : (rcs pv tv s).length = 83 := rfl
theorem tcs_len (av : Value) (p s : Nat → Int) : (tcs av p s).length = 17 := rfl
theorem rcs_row (pv tv : Value) (s : Nat → Mb) : ∀ j, j < 8 → ((rcs pv tv s).drop (2 + j * 10)).take 10 = (s j).cs
  | 0, _ => rfl | 1, _ => rfl | 2, _ => rfl | 3, _ => rfl | 4, _ => rfl | 5, _ => rfl | 6, _ => rfl | 7, _ => rfl
  | n + 8, h => by omega
theorem rcs_get {pv tv : Value} {s : Nat → Mb} {j k : Nat} {v : Value} (hj : j < 8) (hk : k < 10) (h : (s j).cs[k]? = some v) : (rcs pv tv s)[2 + j * 10 + k]? = some v := by
  have h1 := congrArg (fun l => l[k]?) (rcs_row pv tv s j hj)
  simp only [List.getElem?_take, List.getElem?_drop, if_pos hk] at h1
  rw [h1, h]
theorem rcs_set {pv tv v : Value} {s : Nat → Mb} {m : Mb} {k : Nat} : ∀ j, j < 8 → k < 10 → (s j).cs.set k v = m.cs → wrL (rcs pv tv s) (2 + j * 10 + k) [v] = rcs pv tv (upM s j m) := by
  intro j hj hk h
  have hw : ∀ (l : List Value) (n : Nat) (v : Value), n < l.length → wrL l n [v] = l.set n v := by
    intro l n v hn
    unfold wrL
    rw [List.set_eq_take_append_cons_drop, if_pos hn]
    simp
  rw [hw _ _ _ (by rw [rcs_len]; omega)]
  have hl : ∀ m : Mb, m.cs.length = 10 := fun _ => rfl
  apply List.ext_getElem?
  intro i
  rw [List.getElem?_set]
  have key : ∀ (s : Nat → Mb) (a b : Nat), a < 8 → b < 10 → (rcs pv tv s)[2 + a * 10 + b]? = (s a).cs[b]? := by
    intro s a b ha hb
    have h1 := congrArg (fun l => l[b]?) (rcs_row pv tv s a ha)
    simp only [List.getElem?_take, List.getElem?_drop, if_pos hb] at h1
    exact h1
  by_cases h1 : i < 2
  · rw [if_neg (by omega)]
    match i, h1 with
    | 0, _ => rfl
    | 1, _ => rfl
  · by_cases h2 : i < 82
    · obtain ⟨a, b, hb, rfl⟩ : ∃ a b, b < 10 ∧ i = 2 + a * 10 + b := ⟨(i - 2) / 10, (i - 2) % 10, by omega, by omega⟩
      have ha : a < 8 := by omega
      rw [key _ _ _ ha hb, key _ _ _ ha hb, rcs_len]
      by_cases he : a = j
      · subst he
        simp only [upM, if_true]
        rw [← h, List.getElem?_set, hl]
        by_cases hbk : k = b
        · subst hbk
          rw [if_pos rfl, if_pos (by omega), if_pos rfl, if_pos hb]
        · rw [if_neg (by omega), if_neg hbk]
      · rw [if_neg (by omega)]
        simp only [upM, if_neg he]
    · rw [if_neg (by omega)]
      by_cases h3 : i = 82
      · subst h3; rfl
      · rw [List.getElem?_eq_none (by rw [rcs_len]; omega), List.getElem?_eq_none (by rw [rcs_len]; omega)]
theorem tcs_p {av : Value} {p s : Nat → Int} : ∀ j, j < 8 → (tcs av p s)[1 + j * 1]? = some (.int .u32 (p j))
  | 0, _ => rfl | 1, _ => rfl | 2, _ => rfl | 3, _ => rfl | 4, _ => rfl | 5, _ => rfl | 6, _ => rfl | 7, _ => rfl
  | n + 8, h => by omega
theorem tcs_s {av : Value} {p s : Nat → Int} : ∀ j, j < 8 → (tcs av p s)[9 + j * 1]? = some (.int .u32 (s j))
  | 0, _ => rfl | 1, _ => rfl | 2, _ => rfl | 3, _ => rfl | 4, _ => rfl | 5, _ => rfl | 6, _ => rfl | 7, _ => rfl
  | n + 8, h => by omega
theorem tcs_setP {av : Value} {p s : Nat → Int} {x : Int} : ∀ j, j < 8 → wrL (tcs av p s) (1 + j * 1) [.int .u32 x] = tcs av (upM p j x) s
  | 0, _ => rfl | 1, _ => rfl | 2, _ => rfl | 3, _ => rfl | 4, _ => rfl | 5, _ => rfl | 6, _ => rfl | 7, _ => rfl
  | n + 8, h => by omega
theorem tcs_setS {av : Value} {p s : Nat → Int} {x : Int} : ∀ j, j < 8 → wrL (tcs av p s) (9 + j * 1) [.int .u32 x] = tcs av p (upM s j x)
  | 0, _ => rfl | 1, _ => rfl | 2, _ => rfl | 3, _ => rfl | 4, _ => rfl | 5, _ => rfl | 6, _ => rfl | 7, _ => rfl
  | n + 8, h => by omega

/-! ### Checks that hold -/
def chkC (e : Int) : List Value := [.bool true, .int .i64 e]
theorem chkC_flat (e : Int) : ∀ v ∈ chkC e, flat v = true := by simp [chkC, flat]
theorem chk_s {c : Bool} {n : Int} (hk : K (.agg #[.bool c, .int .i64 n]) w) : bld (zeroD prog 61) #[(0, 1), (1, 1)] [(0, .bool c), (1, .int .i64 n)] w K := bld_s [.bool c, .int .i64 n] (by kernel_rfl) hk
theorem nil_s {n : Nat} (hk : K (.bool false) w) : bO prog .neq 58 (.tmp n) (.const .nilIface) .nilIface .nilIface w K := by
  refine ex_oV (w' := w) (v := .bool false) ?_ hk
  kernel_rfl
theorem rti_all_s {f : Int} {v : Value} {l : List Int} {S : HP} (hS : Sat e w (S :: R)) (hr : ∀ g, S g → rdS 2 chkC v l g) (hl : l.length ≤ 100) (hk : ∀ w', Sat e w' (S :: R) → K .nilIface w') : Cl prog 17 #[.int .i64 f, v] w K := by
  refine rti_all_calls ?_
  unfold rti_all
  refine lnS_rd hS 0 rfl hr ?_
  refine lp1 (fun t9 w => ∃ j : Nat, j ≤ l.length ∧ t9 = .int .i64 j ∧ Sat e w (S :: R)) (fun t9 _ => l.length - nOf t9) ⟨0, Nat.zero_le _, rfl, hS⟩ ?_
  rintro _ w g ⟨j, hj, rfl, h1⟩ hg
  refine lt_c (fun c => iff_t ?_) (fun c => iff_f ?_)
  · obtain ⟨x, hx⟩ := get_of_lt (l := l) (j := j) (by omega)
    refine ixS_rd h1 0 rfl hr (fun _ => rfl) hx fun a ha => ?_
    refine ldN_of h1 0 rfl ha rfl ?_
    rw [zero_61]
    refine al_s (cs := [.bool false, .int .i64 0]) h1 rfl fun b w2 h2 => ?_
    refine stN_at h2 0 rfl (vs := chkC x) rfl rfl (by simp) (chkC_flat x) (cs' := chkC x) (by kernel_rfl) fun w3 h3 => ?_
    refine fld_at (ld1_at h3 0 rfl (v := .bool true) rfl (not_t (iff_f ?_)))
    refine inc_s (by omega) ?_
    exact hg _ _ ⟨j + 1, by omega, rfl, h3.drop⟩ (by simp [nOf]; omega)
  · exact hk _ h1
end Go.Proofs.YtmgaooeeddmbmaaGreatDoor
