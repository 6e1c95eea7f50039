/-
  No cell of these rows narrows 'for every input' (looked for: loops, veiled, ifaces, maps, wideKeys, modest, calm, conditions, laid).
  DERIVED. THE GIVEN ROWS OF THIS SEAT. 5 by the template 'for every input the law returns true; each argument reads behind the call as it read before'; 0 by the template 'total and deterministic' (their statements: YtfcnjbannejchaaTotals.lean).
  GIVEN WITH THE SEED: the statements are not yours to turn. If you find one false, say at which input.
  Laid BY PROGRAM, IN A SANDBOX (cutbox-rows.mjs): the forced cells as the released guide's own fill.sh prints them over the translation d1c266bc458266ed… (all of the seat's roots in one cut). By AI agents, Wed Nov 11 2026. No macro, syntax, notation, axiom, sorry.
-/
import Derived.Test.YtfcnjbannejchaaChecked
import GoSem.Claim
import GoSem.ClaimJoined
import GoSem.ClaimMapViews
import Derived.JoinedTies
import Derived.KernelRfl
namespace Go.Proofs.Ytfcnjbannejchaa
/- THE CELL 'sum', in the pinned program and in every row, IS THE sha256 OF THE DUMP (.gsa) THAT YtfcnjbannejchaaProg.lean LOADS. Nothing in Lean hashes anything: it is a label: what it is worth is what the hold of that sum in a sandbox is worth. -/
noncomputable def Try.pinned : Pinned := { name := "ytfcnjbannejchaa", sum := "d1c266bc458266ed07aa2f71b3804f2b1de5a8547ffa5c8ca38aed3a6629a057", checked := Try.checked }
namespace Rows
def none {H : Type} : Left H := { results := [], args := [] }

/-- 'pacelinelaw09.SoloRises': WHATEVER THE INPUT: true; the input reads as it did. -/
def soloRisesSpec : ChangeSpec := { name := "soloRises", fn := fun _ => fun
  | [d1, d2] => { results := [.lit (.bool true)], args := [d1, d2] }
  | _ => none }
def soloRisesRow : OpenClaim := { program := "ytfcnjbannejchaa", sum := "d1c266bc458266ed07aa2f71b3804f2b1de5a8547ffa5c8ca38aed3a6629a057", func := "paceline/pacelinelaw09.SoloRises", spec := "soloRises", unfollowed := true, recurses := true, plainKeys := false, apart := false }
def SoloRisesSaid : Prop := soloRisesRow.holds Try.pinned (OpenSpec.ofChange soloRisesSpec)

/-- ITS FALSE NEIGHBOUR: 'it returns false'. Refute it at one input. -/
def soloRisesWrong : ChangeSpec := { name := "soloRises", fn := fun _ => fun
  | [d1, d2] => { results := [.lit (.bool false)], args := [d1, d2] }
  | _ => none }
def SoloRisesWrongFalsely : Prop := soloRisesRow.holds Try.pinned (OpenSpec.ofChange soloRisesWrong)

/-- 'pacelinelaw09.SoloStates': WHATEVER THE INPUT: true; the input reads as it did. -/
def soloStatesSpec : ChangeSpec := { name := "soloStates", fn := fun _ => fun
  | [d1, d2] => { results := [.lit (.bool true)], args := [d1, d2] }
  | _ => none }
def soloStatesRow : OpenClaim := { program := "ytfcnjbannejchaa", sum := "d1c266bc458266ed07aa2f71b3804f2b1de5a8547ffa5c8ca38aed3a6629a057", func := "paceline/pacelinelaw09.SoloStates", spec := "soloStates", unfollowed := true, recurses := true, plainKeys := false, apart := false }
def SoloStatesSaid : Prop := soloStatesRow.holds Try.pinned (OpenSpec.ofChange soloStatesSpec)

/-- ITS FALSE NEIGHBOUR: 'it returns false'. Refute it at one input. -/
def soloStatesWrong : ChangeSpec := { name := "soloStates", fn := fun _ => fun
  | [d1, d2] => { results := [.lit (.bool false)], args := [d1, d2] }
  | _ => none }
def SoloStatesWrongFalsely : Prop := soloStatesRow.holds Try.pinned (OpenSpec.ofChange soloStatesWrong)

/-- 'pacelinelaw09.SoloEnds': WHATEVER THE INPUT: true; the input reads as it did. -/
def soloEndsSpec : ChangeSpec := { name := "soloEnds", fn := fun _ => fun
  | [d1, d2] => { results := [.lit (.bool true)], args := [d1, d2] }
  | _ => none }
def soloEndsRow : OpenClaim := { program := "ytfcnjbannejchaa", sum := "d1c266bc458266ed07aa2f71b3804f2b1de5a8547ffa5c8ca38aed3a6629a057", func := "paceline/pacelinelaw09.SoloEnds", spec := "soloEnds", unfollowed := true, recurses := true, plainKeys := false, apart := false }
def SoloEndsSaid : Prop := soloEndsRow.holds Try.pinned (OpenSpec.ofChange soloEndsSpec)

/-- ITS FALSE NEIGHBOUR: 'it returns false'. Refute it at one input. -/
def soloEndsWrong : ChangeSpec := { name := "soloEnds", fn := fun _ => fun
  | [d1, d2] => { results := [.lit (.bool false)], args := [d1, d2] }
  | _ => none }
def SoloEndsWrongFalsely : Prop := soloEndsRow.holds Try.pinned (OpenSpec.ofChange soloEndsWrong)

/-- 'pacelinelaw09.SoloKinds': WHATEVER THE INPUT: true; the input reads as it did. -/
def soloKindsSpec : ChangeSpec := { name := "soloKinds", fn := fun _ => fun
  | [d1, d2, d3] => { results := [.lit (.bool true)], args := [d1, d2, d3] }
  | _ => none }
def soloKindsRow : OpenClaim := { program := "ytfcnjbannejchaa", sum := "d1c266bc458266ed07aa2f71b3804f2b1de5a8547ffa5c8ca38aed3a6629a057", func := "paceline/pacelinelaw09.SoloKinds", spec := "soloKinds", unfollowed := true, recurses := true, plainKeys := false, apart := false }
def SoloKindsSaid : Prop := soloKindsRow.holds Try.pinned (OpenSpec.ofChange soloKindsSpec)

/-- ITS FALSE NEIGHBOUR: 'it returns false'. Refute it at one input. -/
def soloKindsWrong : ChangeSpec := { name := "soloKinds", fn := fun _ => fun
  | [d1, d2, d3] => { results := [.lit (.bool false)], args := [d1, d2, d3] }
  | _ => none }
def SoloKindsWrongFalsely : Prop := soloKindsRow.holds Try.pinned (OpenSpec.ofChange soloKindsWrong)

/-- 'pacelinelaw09.SoloCounts': WHATEVER THE INPUT: true; the input reads as it did. -/
def soloCountsSpec : ChangeSpec := { name := "soloCounts", fn := fun _ => fun
  | [d1, d2] => { results := [.lit (.bool true)], args := [d1, d2] }
  | _ => none }
def soloCountsRow : OpenClaim := { program := "ytfcnjbannejchaa", sum := "d1c266bc458266ed07aa2f71b3804f2b1de5a8547ffa5c8ca38aed3a6629a057", func := "paceline/pacelinelaw09.SoloCounts", spec := "soloCounts", unfollowed := true, recurses := true, plainKeys := false, apart := false }
def SoloCountsSaid : Prop := soloCountsRow.holds Try.pinned (OpenSpec.ofChange soloCountsSpec)

/-- ITS FALSE NEIGHBOUR: 'it returns false'. Refute it at one input. -/
def soloCountsWrong : ChangeSpec := { name := "soloCounts", fn := fun _ => fun
  | [d1, d2] => { results := [.lit (.bool false)], args := [d1, d2] }
  | _ => none }
def SoloCountsWrongFalsely : Prop := soloCountsRow.holds Try.pinned (OpenSpec.ofChange soloCountsWrong)

/- THE SECOND FORM. 'bulk': how many values and letters a reading holds, each counted each time it is reached (what is shared counts as often as it is met; a slice's spare places count too). A statement '..UptoSaid' is the law's where the arguments, and the package variables that the reading takes, are together of bulk at most 1048576: NARROWER than '..Said'. Prove '..Said' where nothing that the law and all that it calls make is longer than what came in: it says more and counts as full. Else prove '..UptoSaid'. A law counts once. -/
mutual
def uptoBulk {H : Type} : DataW H → Nat
  | .lit (.string bytes) => bytes.length + 1
  | .lit _ => 1
  | .nil => 1
  | .ptr d => uptoBulk d + 1
  | .slice elems spare => uptoBulkAll elems + uptoBulkAll spare + 1
  | .agg parts => uptoBulkAll parts + 1
  | .iface _ d => uptoBulk d + 1
  | .map entries => uptoBulkEntries entries + 1
  | .held _ => 1
def uptoBulkAll {H : Type} : List (DataW H) → Nat
  | [] => 0
  | d :: r => uptoBulk d + uptoBulkAll r
def uptoBulkEntries {H : Type} : List (Lit × DataW H) → Nat
  | [] => 0
  | x :: r => uptoBulkEntry x + uptoBulkEntries r
def uptoBulkEntry {H : Type} : Lit × DataW H → Nat
  | (.string bytes, d) => bytes.length + uptoBulk d + 1
  | (_, d) => uptoBulk d + 1
 end
def uptoSmall : (H : Type) → List (DataW H) → Bool := fun _ ds => decide (uptoBulkAll ds ≤ 1048576)
def OpenSpec.upto (s : _root_.Go.ChangeSpec) : _root_.Go.OpenSpec := { _root_.Go.OpenSpec.ofChange s with cond := some uptoSmall }

/-- 'pacelinelaw09.SoloRises', WHERE WHAT IT READS IS OF BULK AT MOST 1048576: true; the input reads as it did. -/
def soloRisesUptoRow : OpenClaim := { program := "ytfcnjbannejchaa", sum := "d1c266bc458266ed07aa2f71b3804f2b1de5a8547ffa5c8ca38aed3a6629a057", func := "paceline/pacelinelaw09.SoloRises", spec := "soloRises", unfollowed := true, recurses := true, plainKeys := false, apart := false, narrowed := true }
def SoloRisesUptoSaid : Prop := soloRisesUptoRow.holds Try.pinned (OpenSpec.upto soloRisesSpec)

/-- 'pacelinelaw09.SoloStates', WHERE WHAT IT READS IS OF BULK AT MOST 1048576: true; the input reads as it did. -/
def soloStatesUptoRow : OpenClaim := { program := "ytfcnjbannejchaa", sum := "d1c266bc458266ed07aa2f71b3804f2b1de5a8547ffa5c8ca38aed3a6629a057", func := "paceline/pacelinelaw09.SoloStates", spec := "soloStates", unfollowed := true, recurses := true, plainKeys := false, apart := false, narrowed := true }
def SoloStatesUptoSaid : Prop := soloStatesUptoRow.holds Try.pinned (OpenSpec.upto soloStatesSpec)

/-- 'pacelinelaw09.SoloEnds', WHERE WHAT IT READS IS OF BULK AT MOST 1048576: true; the input reads as it did. -/
def soloEndsUptoRow : OpenClaim := { program := "ytfcnjbannejchaa", sum := "d1c266bc458266ed07aa2f71b3804f2b1de5a8547ffa5c8ca38aed3a6629a057", func := "paceline/pacelinelaw09.SoloEnds", spec := "soloEnds", unfollowed := true, recurses := true, plainKeys := false, apart := false, narrowed := true }
def SoloEndsUptoSaid : Prop := soloEndsUptoRow.holds Try.pinned (OpenSpec.upto soloEndsSpec)

/-- 'pacelinelaw09.SoloKinds', WHERE WHAT IT READS IS OF BULK AT MOST 1048576: true; the input reads as it did. -/
def soloKindsUptoRow : OpenClaim := { program := "ytfcnjbannejchaa", sum := "d1c266bc458266ed07aa2f71b3804f2b1de5a8547ffa5c8ca38aed3a6629a057", func := "paceline/pacelinelaw09.SoloKinds", spec := "soloKinds", unfollowed := true, recurses := true, plainKeys := false, apart := false, narrowed := true }
def SoloKindsUptoSaid : Prop := soloKindsUptoRow.holds Try.pinned (OpenSpec.upto soloKindsSpec)

/-- 'pacelinelaw09.SoloCounts', WHERE WHAT IT READS IS OF BULK AT MOST 1048576: true; the input reads as it did. -/
def soloCountsUptoRow : OpenClaim := { program := "ytfcnjbannejchaa", sum := "d1c266bc458266ed07aa2f71b3804f2b1de5a8547ffa5c8ca38aed3a6629a057", func := "paceline/pacelinelaw09.SoloCounts", spec := "soloCounts", unfollowed := true, recurses := true, plainKeys := false, apart := false, narrowed := true }
def SoloCountsUptoSaid : Prop := soloCountsUptoRow.holds Try.pinned (OpenSpec.upto soloCountsSpec)

end Rows
end Go.Proofs.Ytfcnjbannejchaa
