/- An element of an array that is a value, where it has several cells. Conditions: none. -/
import Derived.Test.YtmgaooeeddmbmaaGreatDoorEngV
namespace Go.E
open Go.RowKit
section
variable {P : Program} {w : World} {K : KV} {α : Type} {f : α → List Value} {l : List α} {x : α} {s : Nat}
theorem flat_row (hf : ∀ x, (f x).length = s) : ∀ {l : List α} {j : Nat}, l[j]? = some x → ((l.flatMap f).drop (j * s)).take s = f x
  | [], _, h => by simp at h
  | y :: l, 0, h => by
    obtain rfl : y = x := by simpa using h
    rw [List.flatMap_cons, Nat.zero_mul, List.drop_zero, List.take_left' (hf y)]
  | y :: l, j + 1, h => by
    rw [List.flatMap_cons, Nat.succ_mul, Nat.add_comm, ← List.drop_drop, List.drop_left' (hf y)]
    exact flat_row hf (l := l) (j := j) (by simpa using h)
theorem ixV_n {t e : TypeId} {n j : Nat} {k : IntKind} (hu : P.underlying t = some (.array n e)) (ho : okT P e = true) (ha : isAggT P e = true) (hs : szD P e = s) (hf : ∀ x, (f x).length = s) (hj : j < n) (hx : l[j]? = some x) (h : K (.agg (f x).toArray) w) :
    ixV P t (.agg (l.flatMap f).toArray) (.int k (j : Int)) w K := by
  obtain ⟨d, i, z, hd, hi, hz, hs', hg, hz'⟩ := okT_inv ho
  refine ex_oV (w' := w) (v := .agg (f x).toArray) ?_ h
  unfold Instr.index
  simp only [Sem.run_bind, asIntOf, Sem.run_pure, Result.andThen_ok, run_und hu]
  rw [if_pos ⟨by omega, by omega⟩]
  simp only [Sem.run_bind, run_sz hi, Result.andThen_ok, Int.toNat_natCast]
  rw [← hs', hs, run_partN hd hi (hg ▸ ha), ← hs', hs]
  congr 2
  rw [List.extract_toArray, List.extract_eq_take_drop, Nat.add_sub_cancel_left, flat_row hf hx]
end
end Go.E
