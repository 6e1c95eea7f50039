/-
  No cell of these rows narrows 'for every input' (looked for: loops, veiled, ifaces, maps, wideKeys, modest, calm, conditions, laid).
  DERIVED. THE GIVEN ROWS OF THIS SEAT. 12 by the template 'for every input the law returns true; each argument reads behind the call as it read before'; 0 by the template 'total and deterministic' (their statements: YtdiglafiimnfoaaTotals.lean).
  GIVEN WITH THE SEED: the statements are not yours to turn. If you find one false, say at which input.
  Laid BY PROGRAM, IN A SANDBOX (cutbox-rows.mjs): the forced cells as the released guide's own fill.sh prints them over the translation 3eecb07888e22d06… (all of the seat's roots in one cut). By AI agents, Wed Nov 11 2026. No macro, syntax, notation, axiom, sorry.
-/
import Derived.Test.YtdiglafiimnfoaaChecked
import GoSem.Claim
import GoSem.ClaimJoined
import GoSem.ClaimMapViews
import Derived.JoinedTies
import Derived.KernelRfl
namespace Go.Proofs.Ytdiglafiimnfoaa
/- THE CELL 'sum', in the pinned program and in every row, IS THE sha256 OF THE DUMP (.gsa) THAT YtdiglafiimnfoaaProg.lean LOADS. Nothing in Lean hashes anything: it is a label: what it is worth is what the hold of that sum in a sandbox is worth. -/
noncomputable def Try.pinned : Pinned := { name := "ytdiglafiimnfoaa", sum := "3eecb07888e22d0692dea89cc6aad282f69e328102e25a6c49d18723be7d05af", checked := Try.checked }
namespace Rows
def none {H : Type} : Left H := { results := [], args := [] }

/-- 'pacelinelaw16.CutScript': WHATEVER THE INPUT: true; the input reads as it did. -/
def cutScriptSpec : ChangeSpec := { name := "cutScript", fn := fun _ => fun
  | [d1, d2] => { results := [.lit (.bool true)], args := [d1, d2] }
  | _ => none }
def cutScriptRow : OpenClaim := { program := "ytdiglafiimnfoaa", sum := "3eecb07888e22d0692dea89cc6aad282f69e328102e25a6c49d18723be7d05af", func := "paceline/pacelinelaw16.CutScript", spec := "cutScript", unfollowed := true, recurses := true, plainKeys := false, apart := false }
def CutScriptSaid : Prop := cutScriptRow.holds Try.pinned (OpenSpec.ofChange cutScriptSpec)

/-- ITS FALSE NEIGHBOUR: 'it returns false'. Refute it at one input. -/
def cutScriptWrong : ChangeSpec := { name := "cutScript", fn := fun _ => fun
  | [d1, d2] => { results := [.lit (.bool false)], args := [d1, d2] }
  | _ => none }
def CutScriptWrongFalsely : Prop := cutScriptRow.holds Try.pinned (OpenSpec.ofChange cutScriptWrong)

/-- 'pacelinelaw16.CutBelow': WHATEVER THE INPUT: true; the input reads as it did. -/
def cutBelowSpec : ChangeSpec := { name := "cutBelow", fn := fun _ => fun
  | [d1, d2] => { results := [.lit (.bool true)], args := [d1, d2] }
  | _ => none }
def cutBelowRow : OpenClaim := { program := "ytdiglafiimnfoaa", sum := "3eecb07888e22d0692dea89cc6aad282f69e328102e25a6c49d18723be7d05af", func := "paceline/pacelinelaw16.CutBelow", spec := "cutBelow", unfollowed := true, recurses := true, plainKeys := false, apart := false }
def CutBelowSaid : Prop := cutBelowRow.holds Try.pinned (OpenSpec.ofChange cutBelowSpec)

/-- ITS FALSE NEIGHBOUR: 'it returns false'. Refute it at one input. -/
def cutBelowWrong : ChangeSpec := { name := "cutBelow", fn := fun _ => fun
  | [d1, d2] => { results := [.lit (.bool false)], args := [d1, d2] }
  | _ => none }
def CutBelowWrongFalsely : Prop := cutBelowRow.holds Try.pinned (OpenSpec.ofChange cutBelowWrong)

/-- 'pacelinelaw16.CutWaits': WHATEVER THE INPUT: true; the input reads as it did. -/
def cutWaitsSpec : ChangeSpec := { name := "cutWaits", fn := fun _ => fun
  | [d1, d2, d3, d4, d5, d6] => { results := [.lit (.bool true)], args := [d1, d2, d3, d4, d5, d6] }
  | _ => none }
def cutWaitsRow : OpenClaim := { program := "ytdiglafiimnfoaa", sum := "3eecb07888e22d0692dea89cc6aad282f69e328102e25a6c49d18723be7d05af", func := "paceline/pacelinelaw16.CutWaits", spec := "cutWaits", unfollowed := true, recurses := true, plainKeys := false, apart := false }
def CutWaitsSaid : Prop := cutWaitsRow.holds Try.pinned (OpenSpec.ofChange cutWaitsSpec)

/-- ITS FALSE NEIGHBOUR: 'it returns false'. Refute it at one input. -/
def cutWaitsWrong : ChangeSpec := { name := "cutWaits", fn := fun _ => fun
  | [d1, d2, d3, d4, d5, d6] => { results := [.lit (.bool false)], args := [d1, d2, d3, d4, d5, d6] }
  | _ => none }
def CutWaitsWrongFalsely : Prop := cutWaitsRow.holds Try.pinned (OpenSpec.ofChange cutWaitsWrong)

/-- 'pacelinelaw10.LinkCounts': WHATEVER THE INPUT: true; the input reads as it did. -/
def linkCountsSpec : ChangeSpec := { name := "linkCounts", fn := fun _ => fun
  | [d] => { results := [.lit (.bool true)], args := [d] }
  | _ => none }
def linkCountsRow : OpenClaim := { program := "ytdiglafiimnfoaa", sum := "3eecb07888e22d0692dea89cc6aad282f69e328102e25a6c49d18723be7d05af", func := "paceline/pacelinelaw10.LinkCounts", spec := "linkCounts", unfollowed := true, recurses := true, plainKeys := false, apart := false }
def LinkCountsSaid : Prop := linkCountsRow.holds Try.pinned (OpenSpec.ofChange linkCountsSpec)

/-- ITS FALSE NEIGHBOUR: 'it returns false'. Refute it at one input. -/
def linkCountsWrong : ChangeSpec := { name := "linkCounts", fn := fun _ => fun
  | [d] => { results := [.lit (.bool false)], args := [d] }
  | _ => none }
def LinkCountsWrongFalsely : Prop := linkCountsRow.holds Try.pinned (OpenSpec.ofChange linkCountsWrong)

/-- 'pacelinelaw10.LinkFull': WHATEVER THE INPUT: true; the input reads as it did. -/
def linkFullSpec : ChangeSpec := { name := "linkFull", fn := fun _ => fun
  | [d1, d2] => { results := [.lit (.bool true)], args := [d1, d2] }
  | _ => none }
def linkFullRow : OpenClaim := { program := "ytdiglafiimnfoaa", sum := "3eecb07888e22d0692dea89cc6aad282f69e328102e25a6c49d18723be7d05af", func := "paceline/pacelinelaw10.LinkFull", spec := "linkFull", unfollowed := true, recurses := true, plainKeys := false, apart := false }
def LinkFullSaid : Prop := linkFullRow.holds Try.pinned (OpenSpec.ofChange linkFullSpec)

/-- ITS FALSE NEIGHBOUR: 'it returns false'. Refute it at one input. -/
def linkFullWrong : ChangeSpec := { name := "linkFull", fn := fun _ => fun
  | [d1, d2] => { results := [.lit (.bool false)], args := [d1, d2] }
  | _ => none }
def LinkFullWrongFalsely : Prop := linkFullRow.holds Try.pinned (OpenSpec.ofChange linkFullWrong)

/-- 'pacelinelaw10.LinkScript': WHATEVER THE INPUT: true; the input reads as it did. -/
def linkScriptSpec : ChangeSpec := { name := "linkScript", fn := fun _ => fun
  | [d1, d2, d3] => { results := [.lit (.bool true)], args := [d1, d2, d3] }
  | _ => none }
def linkScriptRow : OpenClaim := { program := "ytdiglafiimnfoaa", sum := "3eecb07888e22d0692dea89cc6aad282f69e328102e25a6c49d18723be7d05af", func := "paceline/pacelinelaw10.LinkScript", spec := "linkScript", unfollowed := true, recurses := true, plainKeys := false, apart := false }
def LinkScriptSaid : Prop := linkScriptRow.holds Try.pinned (OpenSpec.ofChange linkScriptSpec)

/-- ITS FALSE NEIGHBOUR: 'it returns false'. Refute it at one input. -/
def linkScriptWrong : ChangeSpec := { name := "linkScript", fn := fun _ => fun
  | [d1, d2, d3] => { results := [.lit (.bool false)], args := [d1, d2, d3] }
  | _ => none }
def LinkScriptWrongFalsely : Prop := linkScriptRow.holds Try.pinned (OpenSpec.ofChange linkScriptWrong)

/-- 'pacelinelaw03.PrioSorts': WHATEVER THE INPUT: true; the input reads as it did. -/
def prioSortsSpec : ChangeSpec := { name := "prioSorts", fn := fun _ => fun
  | [d] => { results := [.lit (.bool true)], args := [d] }
  | _ => none }
def prioSortsRow : OpenClaim := { program := "ytdiglafiimnfoaa", sum := "3eecb07888e22d0692dea89cc6aad282f69e328102e25a6c49d18723be7d05af", func := "paceline/pacelinelaw03.PrioSorts", spec := "prioSorts", unfollowed := true, recurses := true, plainKeys := false, apart := false }
def PrioSortsSaid : Prop := prioSortsRow.holds Try.pinned (OpenSpec.ofChange prioSortsSpec)

/-- ITS FALSE NEIGHBOUR: 'it returns false'. Refute it at one input. -/
def prioSortsWrong : ChangeSpec := { name := "prioSorts", fn := fun _ => fun
  | [d] => { results := [.lit (.bool false)], args := [d] }
  | _ => none }
def PrioSortsWrongFalsely : Prop := prioSortsRow.holds Try.pinned (OpenSpec.ofChange prioSortsWrong)

/-- 'pacelinelaw04.CalendarDays': WHATEVER THE INPUT: true; the input reads as it did. -/
def calendarDaysSpec : ChangeSpec := { name := "calendarDays", fn := fun _ => fun
  | [d1, d2] => { results := [.lit (.bool true)], args := [d1, d2] }
  | _ => none }
def calendarDaysRow : OpenClaim := { program := "ytdiglafiimnfoaa", sum := "3eecb07888e22d0692dea89cc6aad282f69e328102e25a6c49d18723be7d05af", func := "paceline/pacelinelaw04.CalendarDays", spec := "calendarDays", inPlace := ["slices.overlaps[paceline/api.Msg]"], unfollowed := true, recurses := true, plainKeys := false, apart := false }
def CalendarDaysSaid : Prop := calendarDaysRow.holds Try.pinned (OpenSpec.ofChange calendarDaysSpec)

/-- ITS FALSE NEIGHBOUR: 'it returns false'. Refute it at one input. -/
def calendarDaysWrong : ChangeSpec := { name := "calendarDays", fn := fun _ => fun
  | [d1, d2] => { results := [.lit (.bool false)], args := [d1, d2] }
  | _ => none }
def CalendarDaysWrongFalsely : Prop := calendarDaysRow.holds Try.pinned (OpenSpec.ofChange calendarDaysWrong)

/-- 'pacelinelaw14.GateOpens': WHATEVER THE INPUT: true; the input reads as it did. -/
def gateOpensSpec : ChangeSpec := { name := "gateOpens", fn := fun _ => fun
  | [d1, d2] => { results := [.lit (.bool true)], args := [d1, d2] }
  | _ => none }
def gateOpensRow : OpenClaim := { program := "ytdiglafiimnfoaa", sum := "3eecb07888e22d0692dea89cc6aad282f69e328102e25a6c49d18723be7d05af", func := "paceline/pacelinelaw14.GateOpens", spec := "gateOpens", unfollowed := true, recurses := true, plainKeys := false, apart := false }
def GateOpensSaid : Prop := gateOpensRow.holds Try.pinned (OpenSpec.ofChange gateOpensSpec)

/-- ITS FALSE NEIGHBOUR: 'it returns false'. Refute it at one input. -/
def gateOpensWrong : ChangeSpec := { name := "gateOpens", fn := fun _ => fun
  | [d1, d2] => { results := [.lit (.bool false)], args := [d1, d2] }
  | _ => none }
def GateOpensWrongFalsely : Prop := gateOpensRow.holds Try.pinned (OpenSpec.ofChange gateOpensWrong)

/-- 'pacelinelaw14.GateParts': WHATEVER THE INPUT: true; the input reads as it did. -/
def gatePartsSpec : ChangeSpec := { name := "gateParts", fn := fun _ => fun
  | [d1, d2, d3] => { results := [.lit (.bool true)], args := [d1, d2, d3] }
  | _ => none }
def gatePartsRow : OpenClaim := { program := "ytdiglafiimnfoaa", sum := "3eecb07888e22d0692dea89cc6aad282f69e328102e25a6c49d18723be7d05af", func := "paceline/pacelinelaw14.GateParts", spec := "gateParts", unfollowed := true, recurses := true, plainKeys := false, apart := false }
def GatePartsSaid : Prop := gatePartsRow.holds Try.pinned (OpenSpec.ofChange gatePartsSpec)

/-- ITS FALSE NEIGHBOUR: 'it returns false'. Refute it at one input. -/
def gatePartsWrong : ChangeSpec := { name := "gateParts", fn := fun _ => fun
  | [d1, d2, d3] => { results := [.lit (.bool false)], args := [d1, d2, d3] }
  | _ => none }
def GatePartsWrongFalsely : Prop := gatePartsRow.holds Try.pinned (OpenSpec.ofChange gatePartsWrong)

/-- 'pacelinelaw14.GateOnce': WHATEVER THE INPUT: true; the input reads as it did. -/
def gateOnceSpec : ChangeSpec := { name := "gateOnce", fn := fun _ => fun
  | [d] => { results := [.lit (.bool true)], args := [d] }
  | _ => none }
def gateOnceRow : OpenClaim := { program := "ytdiglafiimnfoaa", sum := "3eecb07888e22d0692dea89cc6aad282f69e328102e25a6c49d18723be7d05af", func := "paceline/pacelinelaw14.GateOnce", spec := "gateOnce", unfollowed := true, recurses := true, plainKeys := false, apart := false }
def GateOnceSaid : Prop := gateOnceRow.holds Try.pinned (OpenSpec.ofChange gateOnceSpec)

/-- ITS FALSE NEIGHBOUR: 'it returns false'. Refute it at one input. -/
def gateOnceWrong : ChangeSpec := { name := "gateOnce", fn := fun _ => fun
  | [d] => { results := [.lit (.bool false)], args := [d] }
  | _ => none }
def GateOnceWrongFalsely : Prop := gateOnceRow.holds Try.pinned (OpenSpec.ofChange gateOnceWrong)

/-- 'pacelinelaw14.GateScript': WHATEVER THE INPUT: true; the input reads as it did. -/
def gateScriptSpec : ChangeSpec := { name := "gateScript", fn := fun _ => fun
  | [d] => { results := [.lit (.bool true)], args := [d] }
  | _ => none }
def gateScriptRow : OpenClaim := { program := "ytdiglafiimnfoaa", sum := "3eecb07888e22d0692dea89cc6aad282f69e328102e25a6c49d18723be7d05af", func := "paceline/pacelinelaw14.GateScript", spec := "gateScript", unfollowed := true, recurses := true, plainKeys := false, apart := false }
def GateScriptSaid : Prop := gateScriptRow.holds Try.pinned (OpenSpec.ofChange gateScriptSpec)

/-- ITS FALSE NEIGHBOUR: 'it returns false'. Refute it at one input. -/
def gateScriptWrong : ChangeSpec := { name := "gateScript", fn := fun _ => fun
  | [d] => { results := [.lit (.bool false)], args := [d] }
  | _ => none }
def GateScriptWrongFalsely : Prop := gateScriptRow.holds Try.pinned (OpenSpec.ofChange gateScriptWrong)

/- THE SECOND FORM. 'bulk': how many values and letters a reading holds, each counted each time it is reached (what is shared counts as often as it is met; a slice's spare places count too). A statement '..UptoSaid' is the law's where the arguments, and the package variables that the reading takes, are together of bulk at most 1048576: NARROWER than '..Said'. Prove '..Said' where nothing that the law and all that it calls make is longer than what came in: it says more and counts as full. Else prove '..UptoSaid'. A law counts once. -/
mutual
def uptoBulk {H : Type} : DataW H → Nat
  | .lit (.string bytes) => bytes.length + 1
  | .lit _ => 1
  | .nil => 1
  | .ptr d => uptoBulk d + 1
  | .slice elems spare => uptoBulkAll elems + uptoBulkAll spare + 1
  | .agg parts => uptoBulkAll parts + 1
  | .iface _ d => uptoBulk d + 1
  | .map entries => uptoBulkEntries entries + 1
  | .held _ => 1
def uptoBulkAll {H : Type} : List (DataW H) → Nat
  | [] => 0
  | d :: r => uptoBulk d + uptoBulkAll r
def uptoBulkEntries {H : Type} : List (Lit × DataW H) → Nat
  | [] => 0
  | x :: r => uptoBulkEntry x + uptoBulkEntries r
def uptoBulkEntry {H : Type} : Lit × DataW H → Nat
  | (.string bytes, d) => bytes.length + uptoBulk d + 1
  | (_, d) => uptoBulk d + 1
 end
def uptoSmall : (H : Type) → List (DataW H) → Bool := fun _ ds => decide (uptoBulkAll ds ≤ 1048576)
def OpenSpec.upto (s : _root_.Go.ChangeSpec) : _root_.Go.OpenSpec := { _root_.Go.OpenSpec.ofChange s with cond := some uptoSmall }

/-- 'pacelinelaw16.CutScript', WHERE WHAT IT READS IS OF BULK AT MOST 1048576: true; the input reads as it did. -/
def cutScriptUptoRow : OpenClaim := { program := "ytdiglafiimnfoaa", sum := "3eecb07888e22d0692dea89cc6aad282f69e328102e25a6c49d18723be7d05af", func := "paceline/pacelinelaw16.CutScript", spec := "cutScript", unfollowed := true, recurses := true, plainKeys := false, apart := false, narrowed := true }
def CutScriptUptoSaid : Prop := cutScriptUptoRow.holds Try.pinned (OpenSpec.upto cutScriptSpec)

/-- 'pacelinelaw16.CutBelow', WHERE WHAT IT READS IS OF BULK AT MOST 1048576: true; the input reads as it did. -/
def cutBelowUptoRow : OpenClaim := { program := "ytdiglafiimnfoaa", sum := "3eecb07888e22d0692dea89cc6aad282f69e328102e25a6c49d18723be7d05af", func := "paceline/pacelinelaw16.CutBelow", spec := "cutBelow", unfollowed := true, recurses := true, plainKeys := false, apart := false, narrowed := true }
def CutBelowUptoSaid : Prop := cutBelowUptoRow.holds Try.pinned (OpenSpec.upto cutBelowSpec)

/-- 'pacelinelaw16.CutWaits', WHERE WHAT IT READS IS OF BULK AT MOST 1048576: true; the input reads as it did. -/
def cutWaitsUptoRow : OpenClaim := { program := "ytdiglafiimnfoaa", sum := "3eecb07888e22d0692dea89cc6aad282f69e328102e25a6c49d18723be7d05af", func := "paceline/pacelinelaw16.CutWaits", spec := "cutWaits", unfollowed := true, recurses := true, plainKeys := false, apart := false, narrowed := true }
def CutWaitsUptoSaid : Prop := cutWaitsUptoRow.holds Try.pinned (OpenSpec.upto cutWaitsSpec)

/-- 'pacelinelaw10.LinkCounts', WHERE WHAT IT READS IS OF BULK AT MOST 1048576: true; the input reads as it did. -/
def linkCountsUptoRow : OpenClaim := { program := "ytdiglafiimnfoaa", sum := "3eecb07888e22d0692dea89cc6aad282f69e328102e25a6c49d18723be7d05af", func := "paceline/pacelinelaw10.LinkCounts", spec := "linkCounts", unfollowed := true, recurses := true, plainKeys := false, apart := false, narrowed := true }
def LinkCountsUptoSaid : Prop := linkCountsUptoRow.holds Try.pinned (OpenSpec.upto linkCountsSpec)

/-- 'pacelinelaw10.LinkFull', WHERE WHAT IT READS IS OF BULK AT MOST 1048576: true; the input reads as it did. -/
def linkFullUptoRow : OpenClaim := { program := "ytdiglafiimnfoaa", sum := "3eecb07888e22d0692dea89cc6aad282f69e328102e25a6c49d18723be7d05af", func := "paceline/pacelinelaw10.LinkFull", spec := "linkFull", unfollowed := true, recurses := true, plainKeys := false, apart := false, narrowed := true }
def LinkFullUptoSaid : Prop := linkFullUptoRow.holds Try.pinned (OpenSpec.upto linkFullSpec)

/-- 'pacelinelaw10.LinkScript', WHERE WHAT IT READS IS OF BULK AT MOST 1048576: true; the input reads as it did. -/
def linkScriptUptoRow : OpenClaim := { program := "ytdiglafiimnfoaa", sum := "3eecb07888e22d0692dea89cc6aad282f69e328102e25a6c49d18723be7d05af", func := "paceline/pacelinelaw10.LinkScript", spec := "linkScript", unfollowed := true, recurses := true, plainKeys := false, apart := false, narrowed := true }
def LinkScriptUptoSaid : Prop := linkScriptUptoRow.holds Try.pinned (OpenSpec.upto linkScriptSpec)

/-- 'pacelinelaw03.PrioSorts', WHERE WHAT IT READS IS OF BULK AT MOST 1048576: true; the input reads as it did. -/
def prioSortsUptoRow : OpenClaim := { program := "ytdiglafiimnfoaa", sum := "3eecb07888e22d0692dea89cc6aad282f69e328102e25a6c49d18723be7d05af", func := "paceline/pacelinelaw03.PrioSorts", spec := "prioSorts", unfollowed := true, recurses := true, plainKeys := false, apart := false, narrowed := true }
def PrioSortsUptoSaid : Prop := prioSortsUptoRow.holds Try.pinned (OpenSpec.upto prioSortsSpec)

/-- 'pacelinelaw04.CalendarDays', WHERE WHAT IT READS IS OF BULK AT MOST 1048576: true; the input reads as it did. -/
def calendarDaysUptoRow : OpenClaim := { program := "ytdiglafiimnfoaa", sum := "3eecb07888e22d0692dea89cc6aad282f69e328102e25a6c49d18723be7d05af", func := "paceline/pacelinelaw04.CalendarDays", spec := "calendarDays", inPlace := ["slices.overlaps[paceline/api.Msg]"], unfollowed := true, recurses := true, plainKeys := false, apart := false, narrowed := true }
def CalendarDaysUptoSaid : Prop := calendarDaysUptoRow.holds Try.pinned (OpenSpec.upto calendarDaysSpec)

/-- 'pacelinelaw14.GateOpens', WHERE WHAT IT READS IS OF BULK AT MOST 1048576: true; the input reads as it did. -/
def gateOpensUptoRow : OpenClaim := { program := "ytdiglafiimnfoaa", sum := "3eecb07888e22d0692dea89cc6aad282f69e328102e25a6c49d18723be7d05af", func := "paceline/pacelinelaw14.GateOpens", spec := "gateOpens", unfollowed := true, recurses := true, plainKeys := false, apart := false, narrowed := true }
def GateOpensUptoSaid : Prop := gateOpensUptoRow.holds Try.pinned (OpenSpec.upto gateOpensSpec)

/-- 'pacelinelaw14.GateParts', WHERE WHAT IT READS IS OF BULK AT MOST 1048576: true; the input reads as it did. -/
def gatePartsUptoRow : OpenClaim := { program := "ytdiglafiimnfoaa", sum := "3eecb07888e22d0692dea89cc6aad282f69e328102e25a6c49d18723be7d05af", func := "paceline/pacelinelaw14.GateParts", spec := "gateParts", unfollowed := true, recurses := true, plainKeys := false, apart := false, narrowed := true }
def GatePartsUptoSaid : Prop := gatePartsUptoRow.holds Try.pinned (OpenSpec.upto gatePartsSpec)

/-- 'pacelinelaw14.GateOnce', WHERE WHAT IT READS IS OF BULK AT MOST 1048576: true; the input reads as it did. -/
def gateOnceUptoRow : OpenClaim := { program := "ytdiglafiimnfoaa", sum := "3eecb07888e22d0692dea89cc6aad282f69e328102e25a6c49d18723be7d05af", func := "paceline/pacelinelaw14.GateOnce", spec := "gateOnce", unfollowed := true, recurses := true, plainKeys := false, apart := false, narrowed := true }
def GateOnceUptoSaid : Prop := gateOnceUptoRow.holds Try.pinned (OpenSpec.upto gateOnceSpec)

/-- 'pacelinelaw14.GateScript', WHERE WHAT IT READS IS OF BULK AT MOST 1048576: true; the input reads as it did. -/
def gateScriptUptoRow : OpenClaim := { program := "ytdiglafiimnfoaa", sum := "3eecb07888e22d0692dea89cc6aad282f69e328102e25a6c49d18723be7d05af", func := "paceline/pacelinelaw14.GateScript", spec := "gateScript", unfollowed := true, recurses := true, plainKeys := false, apart := false, narrowed := true }
def GateScriptUptoSaid : Prop := gateScriptUptoRow.holds Try.pinned (OpenSpec.upto gateScriptSpec)

end Rows
end Go.Proofs.Ytdiglafiimnfoaa
