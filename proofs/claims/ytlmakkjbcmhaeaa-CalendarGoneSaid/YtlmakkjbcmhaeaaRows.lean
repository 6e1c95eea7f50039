/-
  No cell of these rows narrows 'for every input' (looked for: loops, veiled, ifaces, maps, wideKeys, modest, calm, conditions, laid).
  DERIVED. THE GIVEN ROWS OF THIS SEAT. 5 by the template 'for every input the law returns true; each argument reads behind the call as it read before'; 0 by the template 'total and deterministic' (their statements: YtlmakkjbcmhaeaaTotals.lean).
  GIVEN WITH THE SEED: the statements are not yours to turn. If you find one false, say at which input.
  Laid BY PROGRAM, IN A SANDBOX (cutbox-rows.mjs): the forced cells as the released guide's own fill.sh prints them over the translation 41d111fa7a57c3b7… (all of the seat's roots in one cut). By AI agents, Wed Nov 11 2026. No macro, syntax, notation, axiom, sorry.
-/
import Derived.Test.YtlmakkjbcmhaeaaChecked
import GoSem.Claim
import GoSem.ClaimJoined
import GoSem.ClaimMapViews
import Derived.JoinedTies
import Derived.KernelRfl
namespace Go.Proofs.Ytlmakkjbcmhaeaa
/- THE CELL 'sum', in the pinned program and in every row, IS THE sha256 OF THE DUMP (.gsa) THAT YtlmakkjbcmhaeaaProg.lean LOADS. Nothing in Lean hashes anything: it is a label: what it is worth is what the hold of that sum in a sandbox is worth. -/
noncomputable def Try.pinned : Pinned := { name := "ytlmakkjbcmhaeaa", sum := "41d111fa7a57c3b73b17f6dc48db7e543239af811d084fa1a6f61cf6e8e1b1e9", checked := Try.checked }
namespace Rows
def none {H : Type} : Left H := { results := [], args := [] }

/-- 'pacelinelaw04.CalendarDays': WHATEVER THE INPUT: true; the input reads as it did. -/
def calendarDaysSpec : ChangeSpec := { name := "calendarDays", fn := fun _ => fun
  | [d1, d2] => { results := [.lit (.bool true)], args := [d1, d2] }
  | _ => none }
def calendarDaysRow : OpenClaim := { program := "ytlmakkjbcmhaeaa", sum := "41d111fa7a57c3b73b17f6dc48db7e543239af811d084fa1a6f61cf6e8e1b1e9", func := "paceline/pacelinelaw04.CalendarDays", spec := "calendarDays", inPlace := ["slices.overlaps[paceline/api.Msg]"], unfollowed := true, recurses := true, plainKeys := false, apart := false }
def CalendarDaysSaid : Prop := calendarDaysRow.holds Try.pinned (OpenSpec.ofChange calendarDaysSpec)

/-- ITS FALSE NEIGHBOUR: 'it returns false'. Refute it at one input. -/
def calendarDaysWrong : ChangeSpec := { name := "calendarDays", fn := fun _ => fun
  | [d1, d2] => { results := [.lit (.bool false)], args := [d1, d2] }
  | _ => none }
def CalendarDaysWrongFalsely : Prop := calendarDaysRow.holds Try.pinned (OpenSpec.ofChange calendarDaysWrong)

/-- 'pacelinelaw04.CalendarGone': WHATEVER THE INPUT: true; the input reads as it did. -/
def calendarGoneSpec : ChangeSpec := { name := "calendarGone", fn := fun _ => fun
  | [d1, d2, d3] => { results := [.lit (.bool true)], args := [d1, d2, d3] }
  | _ => none }
def calendarGoneRow : OpenClaim := { program := "ytlmakkjbcmhaeaa", sum := "41d111fa7a57c3b73b17f6dc48db7e543239af811d084fa1a6f61cf6e8e1b1e9", func := "paceline/pacelinelaw04.CalendarGone", spec := "calendarGone", inPlace := ["slices.overlaps[paceline/api.Msg]"], unfollowed := true, recurses := true, plainKeys := false, apart := false }
def CalendarGoneSaid : Prop := calendarGoneRow.holds Try.pinned (OpenSpec.ofChange calendarGoneSpec)

/-- ITS FALSE NEIGHBOUR: 'it returns false'. Refute it at one input. -/
def calendarGoneWrong : ChangeSpec := { name := "calendarGone", fn := fun _ => fun
  | [d1, d2, d3] => { results := [.lit (.bool false)], args := [d1, d2, d3] }
  | _ => none }
def CalendarGoneWrongFalsely : Prop := calendarGoneRow.holds Try.pinned (OpenSpec.ofChange calendarGoneWrong)

/-- 'pacelinelaw04.CalendarAny': WHATEVER THE INPUT: true; the input reads as it did. -/
def calendarAnySpec : ChangeSpec := { name := "calendarAny", fn := fun _ => fun
  | [d1, d2, d3] => { results := [.lit (.bool true)], args := [d1, d2, d3] }
  | _ => none }
def calendarAnyRow : OpenClaim := { program := "ytlmakkjbcmhaeaa", sum := "41d111fa7a57c3b73b17f6dc48db7e543239af811d084fa1a6f61cf6e8e1b1e9", func := "paceline/pacelinelaw04.CalendarAny", spec := "calendarAny", inPlace := ["slices.overlaps[paceline/api.Msg]"], unfollowed := true, recurses := true, plainKeys := false, apart := false }
def CalendarAnySaid : Prop := calendarAnyRow.holds Try.pinned (OpenSpec.ofChange calendarAnySpec)

/-- ITS FALSE NEIGHBOUR: 'it returns false'. Refute it at one input. -/
def calendarAnyWrong : ChangeSpec := { name := "calendarAny", fn := fun _ => fun
  | [d1, d2, d3] => { results := [.lit (.bool false)], args := [d1, d2, d3] }
  | _ => none }
def CalendarAnyWrongFalsely : Prop := calendarAnyRow.holds Try.pinned (OpenSpec.ofChange calendarAnyWrong)

/-- 'pacelinelaw04.CalendarScript': WHATEVER THE INPUT: true; the input reads as it did. -/
def calendarScriptSpec : ChangeSpec := { name := "calendarScript", fn := fun _ => fun
  | [d1, d2, d3] => { results := [.lit (.bool true)], args := [d1, d2, d3] }
  | _ => none }
def calendarScriptRow : OpenClaim := { program := "ytlmakkjbcmhaeaa", sum := "41d111fa7a57c3b73b17f6dc48db7e543239af811d084fa1a6f61cf6e8e1b1e9", func := "paceline/pacelinelaw04.CalendarScript", spec := "calendarScript", inPlace := ["slices.overlaps[paceline/api.Msg]"], unfollowed := true, recurses := true, plainKeys := false, apart := false }
def CalendarScriptSaid : Prop := calendarScriptRow.holds Try.pinned (OpenSpec.ofChange calendarScriptSpec)

/-- ITS FALSE NEIGHBOUR: 'it returns false'. Refute it at one input. -/
def calendarScriptWrong : ChangeSpec := { name := "calendarScript", fn := fun _ => fun
  | [d1, d2, d3] => { results := [.lit (.bool false)], args := [d1, d2, d3] }
  | _ => none }
def CalendarScriptWrongFalsely : Prop := calendarScriptRow.holds Try.pinned (OpenSpec.ofChange calendarScriptWrong)

/-- 'pacelinelaw04.CalendarHeap': WHATEVER THE INPUT: true; the input reads as it did. -/
def calendarHeapSpec : ChangeSpec := { name := "calendarHeap", fn := fun _ => fun
  | [d1, d2] => { results := [.lit (.bool true)], args := [d1, d2] }
  | _ => none }
def calendarHeapRow : OpenClaim := { program := "ytlmakkjbcmhaeaa", sum := "41d111fa7a57c3b73b17f6dc48db7e543239af811d084fa1a6f61cf6e8e1b1e9", func := "paceline/pacelinelaw04.CalendarHeap", spec := "calendarHeap", inPlace := ["slices.overlaps[paceline/api.Msg]"], unfollowed := true, recurses := true, plainKeys := false, apart := false }
def CalendarHeapSaid : Prop := calendarHeapRow.holds Try.pinned (OpenSpec.ofChange calendarHeapSpec)

/-- ITS FALSE NEIGHBOUR: 'it returns false'. Refute it at one input. -/
def calendarHeapWrong : ChangeSpec := { name := "calendarHeap", fn := fun _ => fun
  | [d1, d2] => { results := [.lit (.bool false)], args := [d1, d2] }
  | _ => none }
def CalendarHeapWrongFalsely : Prop := calendarHeapRow.holds Try.pinned (OpenSpec.ofChange calendarHeapWrong)

/- THE SECOND FORM. 'bulk': how many values and letters a reading holds, each counted each time it is reached (what is shared counts as often as it is met; a slice's spare places count too). A statement '..UptoSaid' is the law's where the arguments, and the package variables that the reading takes, are together of bulk at most 1048576: NARROWER than '..Said'. Prove '..Said' where nothing that the law and all that it calls make is longer than what came in: it says more and counts as full. Else prove '..UptoSaid'. A law counts once. -/
mutual
def uptoBulk {H : Type} : DataW H → Nat
  | .lit (.string bytes) => bytes.length + 1
  | .lit _ => 1
  | .nil => 1
  | .ptr d => uptoBulk d + 1
  | .slice elems spare => uptoBulkAll elems + uptoBulkAll spare + 1
  | .agg parts => uptoBulkAll parts + 1
  | .iface _ d => uptoBulk d + 1
  | .map entries => uptoBulkEntries entries + 1
  | .held _ => 1
def uptoBulkAll {H : Type} : List (DataW H) → Nat
  | [] => 0
  | d :: r => uptoBulk d + uptoBulkAll r
def uptoBulkEntries {H : Type} : List (Lit × DataW H) → Nat
  | [] => 0
  | x :: r => uptoBulkEntry x + uptoBulkEntries r
def uptoBulkEntry {H : Type} : Lit × DataW H → Nat
  | (.string bytes, d) => bytes.length + uptoBulk d + 1
  | (_, d) => uptoBulk d + 1
 end
def uptoSmall : (H : Type) → List (DataW H) → Bool := fun _ ds => decide (uptoBulkAll ds ≤ 1048576)
def OpenSpec.upto (s : _root_.Go.ChangeSpec) : _root_.Go.OpenSpec := { _root_.Go.OpenSpec.ofChange s with cond := some uptoSmall }

/-- 'pacelinelaw04.CalendarDays', WHERE WHAT IT READS IS OF BULK AT MOST 1048576: true; the input reads as it did. -/
def calendarDaysUptoRow : OpenClaim := { program := "ytlmakkjbcmhaeaa", sum := "41d111fa7a57c3b73b17f6dc48db7e543239af811d084fa1a6f61cf6e8e1b1e9", func := "paceline/pacelinelaw04.CalendarDays", spec := "calendarDays", inPlace := ["slices.overlaps[paceline/api.Msg]"], unfollowed := true, recurses := true, plainKeys := false, apart := false, narrowed := true }
def CalendarDaysUptoSaid : Prop := calendarDaysUptoRow.holds Try.pinned (OpenSpec.upto calendarDaysSpec)

/-- 'pacelinelaw04.CalendarGone', WHERE WHAT IT READS IS OF BULK AT MOST 1048576: true; the input reads as it did. -/
def calendarGoneUptoRow : OpenClaim := { program := "ytlmakkjbcmhaeaa", sum := "41d111fa7a57c3b73b17f6dc48db7e543239af811d084fa1a6f61cf6e8e1b1e9", func := "paceline/pacelinelaw04.CalendarGone", spec := "calendarGone", inPlace := ["slices.overlaps[paceline/api.Msg]"], unfollowed := true, recurses := true, plainKeys := false, apart := false, narrowed := true }
def CalendarGoneUptoSaid : Prop := calendarGoneUptoRow.holds Try.pinned (OpenSpec.upto calendarGoneSpec)

/-- 'pacelinelaw04.CalendarAny', WHERE WHAT IT READS IS OF BULK AT MOST 1048576: true; the input reads as it did. -/
def calendarAnyUptoRow : OpenClaim := { program := "ytlmakkjbcmhaeaa", sum := "41d111fa7a57c3b73b17f6dc48db7e543239af811d084fa1a6f61cf6e8e1b1e9", func := "paceline/pacelinelaw04.CalendarAny", spec := "calendarAny", inPlace := ["slices.overlaps[paceline/api.Msg]"], unfollowed := true, recurses := true, plainKeys := false, apart := false, narrowed := true }
def CalendarAnyUptoSaid : Prop := calendarAnyUptoRow.holds Try.pinned (OpenSpec.upto calendarAnySpec)

/-- 'pacelinelaw04.CalendarScript', WHERE WHAT IT READS IS OF BULK AT MOST 1048576: true; the input reads as it did. -/
def calendarScriptUptoRow : OpenClaim := { program := "ytlmakkjbcmhaeaa", sum := "41d111fa7a57c3b73b17f6dc48db7e543239af811d084fa1a6f61cf6e8e1b1e9", func := "paceline/pacelinelaw04.CalendarScript", spec := "calendarScript", inPlace := ["slices.overlaps[paceline/api.Msg]"], unfollowed := true, recurses := true, plainKeys := false, apart := false, narrowed := true }
def CalendarScriptUptoSaid : Prop := calendarScriptUptoRow.holds Try.pinned (OpenSpec.upto calendarScriptSpec)

/-- 'pacelinelaw04.CalendarHeap', WHERE WHAT IT READS IS OF BULK AT MOST 1048576: true; the input reads as it did. -/
def calendarHeapUptoRow : OpenClaim := { program := "ytlmakkjbcmhaeaa", sum := "41d111fa7a57c3b73b17f6dc48db7e543239af811d084fa1a6f61cf6e8e1b1e9", func := "paceline/pacelinelaw04.CalendarHeap", spec := "calendarHeap", inPlace := ["slices.overlaps[paceline/api.Msg]"], unfollowed := true, recurses := true, plainKeys := false, apart := false, narrowed := true }
def CalendarHeapUptoSaid : Prop := calendarHeapUptoRow.holds Try.pinned (OpenSpec.upto calendarHeapSpec)

end Rows
end Go.Proofs.Ytlmakkjbcmhaeaa
