/- The law SoloRises. Conditions: none. -/
import Derived.Test.YtfcnjbannejchaaGreatSoloS
namespace Go.Proofs.YtfcnjbannejchaaGreat
open Go Go.E
set_option maxRecDepth 100000
variable {e w : World} {L Q : List HP} {K : KV} {S S2 : HP}

theorem wf8s {n : Int} (h : (Lit.int .u8 n).wf = true) : 0 ≤ n ∧ n ≤ 255 := by
  simp only [Lit.wf, IntKind.min, IntKind.max, IntKind.signed, IntKind.bits] at h
  simp at h
  omega
/-- The log's messages, of one federate, rise by their keys. -/
theorem log_keys {wd : Wd} {R : RS} {k : Nat} (hR : RunOk wd R k) {f i : Nat} {a b : Done} (ha : (logR R f)[i]? = some a) (hb : (logR R f)[i + 1]? = some b) : KeyLt a.m.key b.m.key := by
  unfold logR at ha hb
  rw [if_pos (by omega), Int.toNat_natCast] at ha hb
  cases hf : R.feds[f]? with
  | none => rw [hf] at ha; simp at ha
  | some x =>
    rw [hf] at ha hb
    simp only [Option.map_some, Option.getD_some] at ha hb
    have h1 := hR.inc x (List.mem_of_getElem? hf)
    have h2 := List.pairwise_iff_getElem.1 h1 i (i + 1) (List.getElem?_eq_some_iff.1 ha).1 (List.getElem?_eq_some_iff.1 hb).1 (by omega)
    rw [(List.getElem?_eq_some_iff.1 ha).2, (List.getElem?_eq_some_iff.1 hb).2] at h2
    have h3 := (hR.logs f x hf a (List.mem_of_getElem? ha)).1
    have h4 := (hR.logs f x hf b (List.mem_of_getElem? hb)).1
    rcases h2 with h2 | h2
    · exact h2
    · omega
theorem log_len {wd : Wd} {R : RS} {k : Nat} (hR : RunOk wd R k) (f : Int) : (logR R f).length ≤ k := by
  unfold logR
  split
  · cases hf : R.feds[f.toNat]? with
    | none => simp
    | some x => exact (hR.sent x (List.mem_of_getElem? hf)).2.2
  · simp
end Go.Proofs.YtfcnjbannejchaaGreat
