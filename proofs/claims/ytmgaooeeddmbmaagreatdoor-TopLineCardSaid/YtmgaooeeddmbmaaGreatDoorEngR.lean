/- The engine, part R: small steps on lengths, halves, and the exchange of two elements of an owned slice. Conditions: none. -/
import Derived.Test.YtmgaooeeddmbmaaGreatDoorEngP
namespace Go.E
open Go.RowKit
section
variable {P : Program} {w : World} {K : KV}
theorem addn_s {a b : Nat} (h1 : a + b < 9223372036854775807) (h : K (.int .i64 ((a + b : Nat) : Int)) w) : bi .add .i64 (.int .i64 (a : Int)) (.int .i64 (b : Int)) w K :=
  add_s (by omega) (by omega) (by rw [show (a : Int) + (b : Int) = ((a + b : Nat) : Int) from by omega]; exact h)
theorem subn_s {a b : Nat} (h1 : b ≤ a) (h2 : a < 9223372036854775807) (h : K (.int .i64 ((a - b : Nat) : Int)) w) : bi .sub .i64 (.int .i64 (a : Int)) (.int .i64 (b : Int)) w K :=
  sub_s (by omega) (by omega) (by rw [show (a : Int) - (b : Int) = ((a - b : Nat) : Int) from by omega]; exact h)
theorem dec_s {a : Nat} (h1 : 1 ≤ a) (h2 : a < 9223372036854775807) (h : K (.int .i64 ((a - 1 : Nat) : Int)) w) : bi .sub .i64 (.int .i64 (a : Int)) (.int .i64 1) w K := subn_s (b := 1) h1 h2 h
theorem muln_s {a b : Nat} (h1 : a * b < 9223372036854775807) (h : K (.int .i64 ((a * b : Nat) : Int)) w) : bi .mul .i64 (.int .i64 (a : Int)) (.int .i64 (b : Int)) w K :=
  mul_s (by have : (0 : Int) ≤ ((a * b : Nat) : Int) := (by omega); rw [Int.natCast_mul] at this; omega) (by have : ((a * b : Nat) : Int) < 9223372036854775807 := (by omega); rw [Int.natCast_mul] at this; omega) (by rw [← Int.natCast_mul]; exact h)
theorem ltn_c {k : IntKind} {a b : Nat} (h1 : a < b → K (.bool true) w) (h2 : b ≤ a → K (.bool false) w) : bi .lss k (.int k (a : Int)) (.int k (b : Int)) w K :=
  lt_c (fun c => h1 (by omega)) (fun c => h2 (by omega))
theorem wrap_u64n {n : Nat} (h : n < 9223372036854775807) : IntKind.u64.wrap (n : Int) = n := by
  unfold IntKind.wrap
  simp only [IntKind.bits, IntKind.signed]
  have : (n : Int) % 2 ^ 64 = n := Int.emod_eq_of_lt (by omega) (by omega)
  simp
  omega
/-- int(uint(n) >> 1) -/
theorem half_s {t : TypeId} {xo yo : Nat → Operand} {n : Nat} (h : n < 9223372036854775807) (hk : K (.int .i64 ((n / 2 : Nat) : Int)) w) :
    cvI .u64 (.int .i64 (n : Int)) w fun x w => bO P .shr t (xo 0) (yo 0) x (.int .u64 1) w fun y w => cvI .i64 y w K := by
  refine cv_s ?_
  rw [wrap_u64n h]
  refine ex_oV (w' := w) (v := .int .u64 ((n / 2 : Nat) : Int)) ?_ ?_
  · have hg : (eqGuard .shr t (xo 0) (yo 0) (.int .u64 (n : Int)) (.int .u64 1)).run P w = .ok () w := rfl
    simp only [Sem.run_bind, hg, Result.andThen_ok, binOp, Op.shift, Sem.run_pure, Int.reduceLT, if_false]
    have e1 : min (1 : Int).toNat IntKind.u64.bits = 1 := by decide
    rw [e1]
    have e2 : (n : Int).fdiv (2 ^ 1) = ((n / 2 : Nat) : Int) := by
      rw [show (2 : Int) ^ 1 = 2 from by decide, Int.fdiv_eq_ediv_of_nonneg _ (by decide)]
      omega
    rw [e2]
  · refine cv_s ?_
    rw [wrap_i64 (by omega) (by omega)]
    exact hk
end
section
variable {α : Type} {e w : World} {R : List HP} {K : KV} {size : Nat} {f : α → List Value} {v : Value} {l : List α} {t : TypeId}
/-- s[i], s[j] = s[j], s[i], as in Go's library. -/
theorem swap_s {i j : Nat} {x y : α} (hf : ∀ x, (f x).length = size) (hff : ∀ x, ∀ c ∈ f x, flat c = true) (hx : l[i]? = some x) (hy : l[j]? = some y) (hS : Sat e w (ownS t size f v l :: R))
    (hk : ∀ w', Sat e w' (ownS t size f v ((l.set i y).set j x) :: R) → K undef w') :
    ixS size v (.int .i64 (j : Int)) w fun p _ => ldN size p w fun a _ => ixS size v (.int .i64 (i : Int)) w fun q _ => ldN size q w fun b _ =>
      ixS size v (.int .i64 (i : Int)) w fun q _ => stN size q a w fun _ w => ixS size v (.int .i64 (j : Int)) w fun p _ => stN size p b w K := by
  have hi : i < l.length := (List.getElem?_eq_some_iff.1 hx).1
  have hj : j < l.length := (List.getElem?_eq_some_iff.1 hy).1
  refine ixS_rd hS 0 rfl (fun g hg => own_rd hg) hf hy fun p hp => ?_
  refine ldN_of hS 0 rfl hp (hf y) ?_
  refine ixS_rd hS 0 rfl (fun g hg => own_rd hg) hf hx fun q hq => ?_
  refine ldN_of hS 0 rfl hq (hf x) ?_
  refine st_own' hS 0 rfl hf hi (x := y) rfl (hff y) fun w1 h1 => ?_
  refine st_own' h1 0 rfl hf (by rw [List.length_set]; exact hj) (x := x) rfl (hff x) fun w2 h2 => ?_
  exact hk _ h2
end

section
variable {α : Type}
theorem get_mid {X Y : List α} {a : α} {n : Nat} (h : n = X.length) : (X ++ a :: Y)[n]? = some a := by subst h; simp
theorem set_mid {X Y : List α} {a b : α} {n : Nat} (h : n = X.length) : (X ++ a :: Y).set n b = X ++ b :: Y := by subst h; simp
theorem get_mid2 {X M Y : List α} {a b : α} {n : Nat} (h : n = X.length + 1 + M.length) : (X ++ a :: (M ++ b :: Y))[n]? = some b := by
  rw [show X ++ a :: (M ++ b :: Y) = (X ++ a :: M) ++ b :: Y from by simp]
  exact get_mid (by rw [h]; simp; omega)
theorem set_mid2 {X M Y : List α} {a b c : α} {n : Nat} (h : n = X.length + 1 + M.length) : (X ++ a :: (M ++ b :: Y)).set n c = X ++ a :: (M ++ c :: Y) := by
  rw [show X ++ a :: (M ++ b :: Y) = (X ++ a :: M) ++ b :: Y from by simp, set_mid (by rw [h]; simp; omega)]
  simp
theorem swap_mid {X M Y : List α} {a b : α} {i j : Nat} (h1 : i = X.length) (h2 : j = X.length + 1 + M.length) : ((X ++ a :: (M ++ b :: Y)).set i b).set j a = X ++ b :: (M ++ a :: Y) := by
  rw [set_mid h1, set_mid2 h2]
theorem swap_mid' {X M Y : List α} {a b : α} {i j : Nat} (h1 : i = X.length) (h2 : j = X.length + 1 + M.length) : ((X ++ a :: (M ++ b :: Y)).set j a).set i b = X ++ b :: (M ++ a :: Y) := by
  rw [set_mid2 h2, set_mid h1]
theorem drop_cons {l : List α} {i : Nat} {x : α} (h : l[i]? = some x) : l.drop i = x :: l.drop (i + 1) := by
  obtain ⟨hi, he⟩ := List.getElem?_eq_some_iff.1 h
  rw [← he, ← List.drop_eq_getElem_cons]
end
end Go.E
