/-
  No cell of these rows narrows 'for every input' (looked for: loops, veiled, ifaces, maps, wideKeys, modest, calm, conditions, laid).
  DERIVED. THE GIVEN ROWS OF THIS SEAT. 5 by the template 'for every input the law returns true; each argument reads behind the call as it read before'; 0 by the template 'total and deterministic' (their statements: YtbfjpmbgjgjckaaTotals.lean).
  GIVEN WITH THE SEED: the statements are not yours to turn. If you find one false, say at which input.
  Laid BY PROGRAM, IN A SANDBOX (cutbox-rows.mjs): the forced cells as the released guide's own fill.sh prints them over the translation f421c23dfee5b6aa… (all of the seat's roots in one cut). By AI agents, Wed Nov 11 2026. No macro, syntax, notation, axiom, sorry.
-/
import Derived.Test.YtbfjpmbgjgjckaaChecked
import GoSem.Claim
import GoSem.ClaimJoined
import GoSem.ClaimMapViews
import Derived.JoinedTies
import Derived.KernelRfl
namespace Go.Proofs.Ytbfjpmbgjgjckaa
/- THE CELL 'sum', in the pinned program and in every row, IS THE sha256 OF THE DUMP (.gsa) THAT YtbfjpmbgjgjckaaProg.lean LOADS. Nothing in Lean hashes anything: it is a label: what it is worth is what the hold of that sum in a sandbox is worth. -/
noncomputable def Try.pinned : Pinned := { name := "ytbfjpmbgjgjckaa", sum := "f421c23dfee5b6aab7acad98a8565b32320bb54f2ad9f3b995906403388b2916", checked := Try.checked }
namespace Rows
def none {H : Type} : Left H := { results := [], args := [] }

/-- 'pacelinelaw03.PrioTwice': WHATEVER THE INPUT: true; the input reads as it did. -/
def prioTwiceSpec : ChangeSpec := { name := "prioTwice", fn := fun _ => fun
  | [d1, d2] => { results := [.lit (.bool true)], args := [d1, d2] }
  | _ => none }
def prioTwiceRow : OpenClaim := { program := "ytbfjpmbgjgjckaa", sum := "f421c23dfee5b6aab7acad98a8565b32320bb54f2ad9f3b995906403388b2916", func := "paceline/pacelinelaw03.PrioTwice", spec := "prioTwice", unfollowed := true, recurses := true, plainKeys := false, apart := false }
def PrioTwiceSaid : Prop := prioTwiceRow.holds Try.pinned (OpenSpec.ofChange prioTwiceSpec)

/-- ITS FALSE NEIGHBOUR: 'it returns false'. Refute it at one input. -/
def prioTwiceWrong : ChangeSpec := { name := "prioTwice", fn := fun _ => fun
  | [d1, d2] => { results := [.lit (.bool false)], args := [d1, d2] }
  | _ => none }
def PrioTwiceWrongFalsely : Prop := prioTwiceRow.holds Try.pinned (OpenSpec.ofChange prioTwiceWrong)

/-- 'pacelinelaw03.PrioBelow': WHATEVER THE INPUT: true; the input reads as it did. -/
def prioBelowSpec : ChangeSpec := { name := "prioBelow", fn := fun _ => fun
  | [d1, d2] => { results := [.lit (.bool true)], args := [d1, d2] }
  | _ => none }
def prioBelowRow : OpenClaim := { program := "ytbfjpmbgjgjckaa", sum := "f421c23dfee5b6aab7acad98a8565b32320bb54f2ad9f3b995906403388b2916", func := "paceline/pacelinelaw03.PrioBelow", spec := "prioBelow", unfollowed := true, recurses := true, plainKeys := false, apart := false }
def PrioBelowSaid : Prop := prioBelowRow.holds Try.pinned (OpenSpec.ofChange prioBelowSpec)

/-- ITS FALSE NEIGHBOUR: 'it returns false'. Refute it at one input. -/
def prioBelowWrong : ChangeSpec := { name := "prioBelow", fn := fun _ => fun
  | [d1, d2] => { results := [.lit (.bool false)], args := [d1, d2] }
  | _ => none }
def PrioBelowWrongFalsely : Prop := prioBelowRow.holds Try.pinned (OpenSpec.ofChange prioBelowWrong)

/-- 'pacelinelaw03.PrioFirst': WHATEVER THE INPUT: true; the input reads as it did. -/
def prioFirstSpec : ChangeSpec := { name := "prioFirst", fn := fun _ => fun
  | [d1, d2] => { results := [.lit (.bool true)], args := [d1, d2] }
  | _ => none }
def prioFirstRow : OpenClaim := { program := "ytbfjpmbgjgjckaa", sum := "f421c23dfee5b6aab7acad98a8565b32320bb54f2ad9f3b995906403388b2916", func := "paceline/pacelinelaw03.PrioFirst", spec := "prioFirst", unfollowed := true, recurses := true, plainKeys := false, apart := false }
def PrioFirstSaid : Prop := prioFirstRow.holds Try.pinned (OpenSpec.ofChange prioFirstSpec)

/-- ITS FALSE NEIGHBOUR: 'it returns false'. Refute it at one input. -/
def prioFirstWrong : ChangeSpec := { name := "prioFirst", fn := fun _ => fun
  | [d1, d2] => { results := [.lit (.bool false)], args := [d1, d2] }
  | _ => none }
def PrioFirstWrongFalsely : Prop := prioFirstRow.holds Try.pinned (OpenSpec.ofChange prioFirstWrong)

/-- 'pacelinelaw03.PrioGone': WHATEVER THE INPUT: true; the input reads as it did. -/
def prioGoneSpec : ChangeSpec := { name := "prioGone", fn := fun _ => fun
  | [d1, d2] => { results := [.lit (.bool true)], args := [d1, d2] }
  | _ => none }
def prioGoneRow : OpenClaim := { program := "ytbfjpmbgjgjckaa", sum := "f421c23dfee5b6aab7acad98a8565b32320bb54f2ad9f3b995906403388b2916", func := "paceline/pacelinelaw03.PrioGone", spec := "prioGone", unfollowed := true, recurses := true, plainKeys := false, apart := false }
def PrioGoneSaid : Prop := prioGoneRow.holds Try.pinned (OpenSpec.ofChange prioGoneSpec)

/-- ITS FALSE NEIGHBOUR: 'it returns false'. Refute it at one input. -/
def prioGoneWrong : ChangeSpec := { name := "prioGone", fn := fun _ => fun
  | [d1, d2] => { results := [.lit (.bool false)], args := [d1, d2] }
  | _ => none }
def PrioGoneWrongFalsely : Prop := prioGoneRow.holds Try.pinned (OpenSpec.ofChange prioGoneWrong)

/-- 'pacelinelaw03.PrioScript': WHATEVER THE INPUT: true; the input reads as it did. -/
def prioScriptSpec : ChangeSpec := { name := "prioScript", fn := fun _ => fun
  | [d1, d2] => { results := [.lit (.bool true)], args := [d1, d2] }
  | _ => none }
def prioScriptRow : OpenClaim := { program := "ytbfjpmbgjgjckaa", sum := "f421c23dfee5b6aab7acad98a8565b32320bb54f2ad9f3b995906403388b2916", func := "paceline/pacelinelaw03.PrioScript", spec := "prioScript", unfollowed := true, recurses := true, plainKeys := false, apart := false }
def PrioScriptSaid : Prop := prioScriptRow.holds Try.pinned (OpenSpec.ofChange prioScriptSpec)

/-- ITS FALSE NEIGHBOUR: 'it returns false'. Refute it at one input. -/
def prioScriptWrong : ChangeSpec := { name := "prioScript", fn := fun _ => fun
  | [d1, d2] => { results := [.lit (.bool false)], args := [d1, d2] }
  | _ => none }
def PrioScriptWrongFalsely : Prop := prioScriptRow.holds Try.pinned (OpenSpec.ofChange prioScriptWrong)

/- THE SECOND FORM. 'bulk': how many values and letters a reading holds, each counted each time it is reached (what is shared counts as often as it is met; a slice's spare places count too). A statement '..UptoSaid' is the law's where the arguments, and the package variables that the reading takes, are together of bulk at most 1048576: NARROWER than '..Said'. Prove '..Said' where nothing that the law and all that it calls make is longer than what came in: it says more and counts as full. Else prove '..UptoSaid'. A law counts once. -/
mutual
def uptoBulk {H : Type} : DataW H → Nat
  | .lit (.string bytes) => bytes.length + 1
  | .lit _ => 1
  | .nil => 1
  | .ptr d => uptoBulk d + 1
  | .slice elems spare => uptoBulkAll elems + uptoBulkAll spare + 1
  | .agg parts => uptoBulkAll parts + 1
  | .iface _ d => uptoBulk d + 1
  | .map entries => uptoBulkEntries entries + 1
  | .held _ => 1
def uptoBulkAll {H : Type} : List (DataW H) → Nat
  | [] => 0
  | d :: r => uptoBulk d + uptoBulkAll r
def uptoBulkEntries {H : Type} : List (Lit × DataW H) → Nat
  | [] => 0
  | x :: r => uptoBulkEntry x + uptoBulkEntries r
def uptoBulkEntry {H : Type} : Lit × DataW H → Nat
  | (.string bytes, d) => bytes.length + uptoBulk d + 1
  | (_, d) => uptoBulk d + 1
 end
def uptoSmall : (H : Type) → List (DataW H) → Bool := fun _ ds => decide (uptoBulkAll ds ≤ 1048576)
def OpenSpec.upto (s : _root_.Go.ChangeSpec) : _root_.Go.OpenSpec := { _root_.Go.OpenSpec.ofChange s with cond := some uptoSmall }

/-- 'pacelinelaw03.PrioTwice', WHERE WHAT IT READS IS OF BULK AT MOST 1048576: true; the input reads as it did. -/
def prioTwiceUptoRow : OpenClaim := { program := "ytbfjpmbgjgjckaa", sum := "f421c23dfee5b6aab7acad98a8565b32320bb54f2ad9f3b995906403388b2916", func := "paceline/pacelinelaw03.PrioTwice", spec := "prioTwice", unfollowed := true, recurses := true, plainKeys := false, apart := false, narrowed := true }
def PrioTwiceUptoSaid : Prop := prioTwiceUptoRow.holds Try.pinned (OpenSpec.upto prioTwiceSpec)

/-- 'pacelinelaw03.PrioBelow', WHERE WHAT IT READS IS OF BULK AT MOST 1048576: true; the input reads as it did. -/
def prioBelowUptoRow : OpenClaim := { program := "ytbfjpmbgjgjckaa", sum := "f421c23dfee5b6aab7acad98a8565b32320bb54f2ad9f3b995906403388b2916", func := "paceline/pacelinelaw03.PrioBelow", spec := "prioBelow", unfollowed := true, recurses := true, plainKeys := false, apart := false, narrowed := true }
def PrioBelowUptoSaid : Prop := prioBelowUptoRow.holds Try.pinned (OpenSpec.upto prioBelowSpec)

/-- 'pacelinelaw03.PrioFirst', WHERE WHAT IT READS IS OF BULK AT MOST 1048576: true; the input reads as it did. -/
def prioFirstUptoRow : OpenClaim := { program := "ytbfjpmbgjgjckaa", sum := "f421c23dfee5b6aab7acad98a8565b32320bb54f2ad9f3b995906403388b2916", func := "paceline/pacelinelaw03.PrioFirst", spec := "prioFirst", unfollowed := true, recurses := true, plainKeys := false, apart := false, narrowed := true }
def PrioFirstUptoSaid : Prop := prioFirstUptoRow.holds Try.pinned (OpenSpec.upto prioFirstSpec)

/-- 'pacelinelaw03.PrioGone', WHERE WHAT IT READS IS OF BULK AT MOST 1048576: true; the input reads as it did. -/
def prioGoneUptoRow : OpenClaim := { program := "ytbfjpmbgjgjckaa", sum := "f421c23dfee5b6aab7acad98a8565b32320bb54f2ad9f3b995906403388b2916", func := "paceline/pacelinelaw03.PrioGone", spec := "prioGone", unfollowed := true, recurses := true, plainKeys := false, apart := false, narrowed := true }
def PrioGoneUptoSaid : Prop := prioGoneUptoRow.holds Try.pinned (OpenSpec.upto prioGoneSpec)

/-- 'pacelinelaw03.PrioScript', WHERE WHAT IT READS IS OF BULK AT MOST 1048576: true; the input reads as it did. -/
def prioScriptUptoRow : OpenClaim := { program := "ytbfjpmbgjgjckaa", sum := "f421c23dfee5b6aab7acad98a8565b32320bb54f2ad9f3b995906403388b2916", func := "paceline/pacelinelaw03.PrioScript", spec := "prioScript", unfollowed := true, recurses := true, plainKeys := false, apart := false, narrowed := true }
def PrioScriptUptoSaid : Prop := prioScriptUptoRow.holds Try.pinned (OpenSpec.upto prioScriptSpec)

end Rows
end Go.Proofs.Ytbfjpmbgjgjckaa
