/-
  No cell of these rows narrows 'for every input' (looked for: loops, veiled, ifaces, maps, wideKeys, modest, calm, conditions, laid).
  DERIVED. THE GIVEN ROWS OF THIS SEAT. 7 by the template 'for every input the law returns true; each argument reads behind the call as it read before'; 0 by the template 'total and deterministic' (their statements: YtbopajpmadlmhaaGreatTotals.lean).
  GIVEN WITH THE SEED: the statements are not yours to turn. If you find one false, say at which input.
  Laid BY PROGRAM, IN A SANDBOX (cutbox-rows.mjs): the forced cells as the released guide's own fill.sh prints them over the translation e0094fa6d5e16dda… (all of the seat's roots in one cut). By AI agents, Wed Nov 11 2026. No macro, syntax, notation, axiom, sorry.
-/
import Derived.Test.YtbopajpmadlmhaaGreatChecked
import GoSem.Claim
import GoSem.ClaimJoined
import GoSem.ClaimMapViews
import Derived.JoinedTies
import Derived.KernelRfl
namespace Go.Proofs.YtbopajpmadlmhaaGreat
/- THE CELL 'sum', in the pinned program and in every row, IS THE sha256 OF THE DUMP (.gsa) THAT YtbopajpmadlmhaaGreatProg.lean LOADS. Nothing in Lean hashes anything: it is a label: what it is worth is what the hold of that sum in a sandbox is worth. -/
noncomputable def Tryz.pinned : Pinned := { name := "ytbopajpmadlmhaagreat", sum := "e0094fa6d5e16dda71994b223f8d533f3d7c2676e61538aedab63293ba39ece2", checked := Tryz.checked }
namespace Rows
def none {H : Type} : Left H := { results := [], args := [] }

/-- 'pacelinelaw15.WarpStates': WHATEVER THE INPUT: true; the input reads as it did. -/
def warpStatesSpec : ChangeSpec := { name := "warpStates", fn := fun _ => fun
  | [d1, d2] => { results := [.lit (.bool true)], args := [d1, d2] }
  | _ => none }
def warpStatesRow : OpenClaim := { program := "ytbopajpmadlmhaagreat", sum := "e0094fa6d5e16dda71994b223f8d533f3d7c2676e61538aedab63293ba39ece2", func := "paceline/pacelinelaw15.WarpStates", spec := "warpStates", inPlace := ["internal/reflectlite.TypeOf"], unfollowed := true, recurses := true, plainKeys := false, apart := false }
def WarpStatesSaid : Prop := warpStatesRow.holds Tryz.pinned (OpenSpec.ofChange warpStatesSpec)

/-- ITS FALSE NEIGHBOUR: 'it returns false'. Refute it at one input. -/
def warpStatesWrong : ChangeSpec := { name := "warpStates", fn := fun _ => fun
  | [d1, d2] => { results := [.lit (.bool false)], args := [d1, d2] }
  | _ => none }
def WarpStatesWrongFalsely : Prop := warpStatesRow.holds Tryz.pinned (OpenSpec.ofChange warpStatesWrong)

/-- 'pacelinelaw15.WarpAnti': WHATEVER THE INPUT: true; the input reads as it did. -/
def warpAntiSpec : ChangeSpec := { name := "warpAnti", fn := fun _ => fun
  | [d1, d2, d3] => { results := [.lit (.bool true)], args := [d1, d2, d3] }
  | _ => none }
def warpAntiRow : OpenClaim := { program := "ytbopajpmadlmhaagreat", sum := "e0094fa6d5e16dda71994b223f8d533f3d7c2676e61538aedab63293ba39ece2", func := "paceline/pacelinelaw15.WarpAnti", spec := "warpAnti", inPlace := ["internal/reflectlite.TypeOf"], unfollowed := true, recurses := true, plainKeys := false, apart := false }
def WarpAntiSaid : Prop := warpAntiRow.holds Tryz.pinned (OpenSpec.ofChange warpAntiSpec)

/-- ITS FALSE NEIGHBOUR: 'it returns false'. Refute it at one input. -/
def warpAntiWrong : ChangeSpec := { name := "warpAnti", fn := fun _ => fun
  | [d1, d2, d3] => { results := [.lit (.bool false)], args := [d1, d2, d3] }
  | _ => none }
def WarpAntiWrongFalsely : Prop := warpAntiRow.holds Tryz.pinned (OpenSpec.ofChange warpAntiWrong)

/-- 'pacelinelaw15.WarpTwice': WHATEVER THE INPUT: true; the input reads as it did. -/
def warpTwiceSpec : ChangeSpec := { name := "warpTwice", fn := fun _ => fun
  | [d1, d2] => { results := [.lit (.bool true)], args := [d1, d2] }
  | _ => none }
def warpTwiceRow : OpenClaim := { program := "ytbopajpmadlmhaagreat", sum := "e0094fa6d5e16dda71994b223f8d533f3d7c2676e61538aedab63293ba39ece2", func := "paceline/pacelinelaw15.WarpTwice", spec := "warpTwice", inPlace := ["internal/reflectlite.TypeOf"], unfollowed := true, recurses := true, plainKeys := false, apart := false }
def WarpTwiceSaid : Prop := warpTwiceRow.holds Tryz.pinned (OpenSpec.ofChange warpTwiceSpec)

/-- ITS FALSE NEIGHBOUR: 'it returns false'. Refute it at one input. -/
def warpTwiceWrong : ChangeSpec := { name := "warpTwice", fn := fun _ => fun
  | [d1, d2] => { results := [.lit (.bool false)], args := [d1, d2] }
  | _ => none }
def WarpTwiceWrongFalsely : Prop := warpTwiceRow.holds Tryz.pinned (OpenSpec.ofChange warpTwiceWrong)

/-- 'pacelinelaw15.WarpSettles': WHATEVER THE INPUT: true; the input reads as it did. -/
def warpSettlesSpec : ChangeSpec := { name := "warpSettles", fn := fun _ => fun
  | [d1, d2] => { results := [.lit (.bool true)], args := [d1, d2] }
  | _ => none }
def warpSettlesRow : OpenClaim := { program := "ytbopajpmadlmhaagreat", sum := "e0094fa6d5e16dda71994b223f8d533f3d7c2676e61538aedab63293ba39ece2", func := "paceline/pacelinelaw15.WarpSettles", spec := "warpSettles", inPlace := ["internal/reflectlite.TypeOf"], unfollowed := true, recurses := true, plainKeys := false, apart := false }
def WarpSettlesSaid : Prop := warpSettlesRow.holds Tryz.pinned (OpenSpec.ofChange warpSettlesSpec)

/-- ITS FALSE NEIGHBOUR: 'it returns false'. Refute it at one input. -/
def warpSettlesWrong : ChangeSpec := { name := "warpSettles", fn := fun _ => fun
  | [d1, d2] => { results := [.lit (.bool false)], args := [d1, d2] }
  | _ => none }
def WarpSettlesWrongFalsely : Prop := warpSettlesRow.holds Tryz.pinned (OpenSpec.ofChange warpSettlesWrong)

/-- 'pacelinelaw15.WarpPromise': WHATEVER THE INPUT: true; the input reads as it did. -/
def warpPromiseSpec : ChangeSpec := { name := "warpPromise", fn := fun _ => fun
  | [d] => { results := [.lit (.bool true)], args := [d] }
  | _ => none }
def warpPromiseRow : OpenClaim := { program := "ytbopajpmadlmhaagreat", sum := "e0094fa6d5e16dda71994b223f8d533f3d7c2676e61538aedab63293ba39ece2", func := "paceline/pacelinelaw15.WarpPromise", spec := "warpPromise", inPlace := ["internal/reflectlite.TypeOf"], unfollowed := true, recurses := true, plainKeys := false, apart := false }
def WarpPromiseSaid : Prop := warpPromiseRow.holds Tryz.pinned (OpenSpec.ofChange warpPromiseSpec)

/-- ITS FALSE NEIGHBOUR: 'it returns false'. Refute it at one input. -/
def warpPromiseWrong : ChangeSpec := { name := "warpPromise", fn := fun _ => fun
  | [d] => { results := [.lit (.bool false)], args := [d] }
  | _ => none }
def WarpPromiseWrongFalsely : Prop := warpPromiseRow.holds Tryz.pinned (OpenSpec.ofChange warpPromiseWrong)

/-- 'pacelinelaw15.WarpRefuses': WHATEVER THE INPUT: true; the input reads as it did. -/
def warpRefusesSpec : ChangeSpec := { name := "warpRefuses", fn := fun _ => fun
  | [d1, d2] => { results := [.lit (.bool true)], args := [d1, d2] }
  | _ => none }
def warpRefusesRow : OpenClaim := { program := "ytbopajpmadlmhaagreat", sum := "e0094fa6d5e16dda71994b223f8d533f3d7c2676e61538aedab63293ba39ece2", func := "paceline/pacelinelaw15.WarpRefuses", spec := "warpRefuses", inPlace := ["internal/reflectlite.TypeOf"], unfollowed := true, recurses := true, plainKeys := false, apart := false }
def WarpRefusesSaid : Prop := warpRefusesRow.holds Tryz.pinned (OpenSpec.ofChange warpRefusesSpec)

/-- ITS FALSE NEIGHBOUR: 'it returns false'. Refute it at one input. -/
def warpRefusesWrong : ChangeSpec := { name := "warpRefuses", fn := fun _ => fun
  | [d1, d2] => { results := [.lit (.bool false)], args := [d1, d2] }
  | _ => none }
def WarpRefusesWrongFalsely : Prop := warpRefusesRow.holds Tryz.pinned (OpenSpec.ofChange warpRefusesWrong)

/-- 'pacelinelaw15.WarpScript': WHATEVER THE INPUT: true; the input reads as it did. -/
def warpScriptSpec : ChangeSpec := { name := "warpScript", fn := fun _ => fun
  | [d1, d2, d3] => { results := [.lit (.bool true)], args := [d1, d2, d3] }
  | _ => none }
def warpScriptRow : OpenClaim := { program := "ytbopajpmadlmhaagreat", sum := "e0094fa6d5e16dda71994b223f8d533f3d7c2676e61538aedab63293ba39ece2", func := "paceline/pacelinelaw15.WarpScript", spec := "warpScript", inPlace := ["internal/reflectlite.TypeOf"], unfollowed := true, recurses := true, plainKeys := false, apart := false }
def WarpScriptSaid : Prop := warpScriptRow.holds Tryz.pinned (OpenSpec.ofChange warpScriptSpec)

/-- ITS FALSE NEIGHBOUR: 'it returns false'. Refute it at one input. -/
def warpScriptWrong : ChangeSpec := { name := "warpScript", fn := fun _ => fun
  | [d1, d2, d3] => { results := [.lit (.bool false)], args := [d1, d2, d3] }
  | _ => none }
def WarpScriptWrongFalsely : Prop := warpScriptRow.holds Tryz.pinned (OpenSpec.ofChange warpScriptWrong)

/- THE SECOND FORM. 'bulk': how many values and letters a reading holds, each counted each time it is reached (what is shared counts as often as it is met; a slice's spare places count too). A statement '..UptoSaid' is the law's where the arguments, and the package variables that the reading takes, are together of bulk at most 1048576: NARROWER than '..Said'. Prove '..Said' where nothing that the law and all that it calls make is longer than what came in: it says more and counts as full. Else prove '..UptoSaid'. A law counts once. -/
mutual
def uptoBulk {H : Type} : DataW H → Nat
  | .lit (.string bytes) => bytes.length + 1
  | .lit _ => 1
  | .nil => 1
  | .ptr d => uptoBulk d + 1
  | .slice elems spare => uptoBulkAll elems + uptoBulkAll spare + 1
  | .agg parts => uptoBulkAll parts + 1
  | .iface _ d => uptoBulk d + 1
  | .map entries => uptoBulkEntries entries + 1
  | .held _ => 1
def uptoBulkAll {H : Type} : List (DataW H) → Nat
  | [] => 0
  | d :: r => uptoBulk d + uptoBulkAll r
def uptoBulkEntries {H : Type} : List (Lit × DataW H) → Nat
  | [] => 0
  | x :: r => uptoBulkEntry x + uptoBulkEntries r
def uptoBulkEntry {H : Type} : Lit × DataW H → Nat
  | (.string bytes, d) => bytes.length + uptoBulk d + 1
  | (_, d) => uptoBulk d + 1
 end
def uptoSmall : (H : Type) → List (DataW H) → Bool := fun _ ds => decide (uptoBulkAll ds ≤ 1048576)
def OpenSpec.upto (s : _root_.Go.ChangeSpec) : _root_.Go.OpenSpec := { _root_.Go.OpenSpec.ofChange s with cond := some uptoSmall }

/-- 'pacelinelaw15.WarpStates', WHERE WHAT IT READS IS OF BULK AT MOST 1048576: true; the input reads as it did. -/
def warpStatesUptoRow : OpenClaim := { program := "ytbopajpmadlmhaagreat", sum := "e0094fa6d5e16dda71994b223f8d533f3d7c2676e61538aedab63293ba39ece2", func := "paceline/pacelinelaw15.WarpStates", spec := "warpStates", inPlace := ["internal/reflectlite.TypeOf"], unfollowed := true, recurses := true, plainKeys := false, apart := false, narrowed := true }
def WarpStatesUptoSaid : Prop := warpStatesUptoRow.holds Tryz.pinned (OpenSpec.upto warpStatesSpec)

/-- 'pacelinelaw15.WarpAnti', WHERE WHAT IT READS IS OF BULK AT MOST 1048576: true; the input reads as it did. -/
def warpAntiUptoRow : OpenClaim := { program := "ytbopajpmadlmhaagreat", sum := "e0094fa6d5e16dda71994b223f8d533f3d7c2676e61538aedab63293ba39ece2", func := "paceline/pacelinelaw15.WarpAnti", spec := "warpAnti", inPlace := ["internal/reflectlite.TypeOf"], unfollowed := true, recurses := true, plainKeys := false, apart := false, narrowed := true }
def WarpAntiUptoSaid : Prop := warpAntiUptoRow.holds Tryz.pinned (OpenSpec.upto warpAntiSpec)

/-- 'pacelinelaw15.WarpTwice', WHERE WHAT IT READS IS OF BULK AT MOST 1048576: true; the input reads as it did. -/
def warpTwiceUptoRow : OpenClaim := { program := "ytbopajpmadlmhaagreat", sum := "e0094fa6d5e16dda71994b223f8d533f3d7c2676e61538aedab63293ba39ece2", func := "paceline/pacelinelaw15.WarpTwice", spec := "warpTwice", inPlace := ["internal/reflectlite.TypeOf"], unfollowed := true, recurses := true, plainKeys := false, apart := false, narrowed := true }
def WarpTwiceUptoSaid : Prop := warpTwiceUptoRow.holds Tryz.pinned (OpenSpec.upto warpTwiceSpec)

/-- 'pacelinelaw15.WarpSettles', WHERE WHAT IT READS IS OF BULK AT MOST 1048576: true; the input reads as it did. -/
def warpSettlesUptoRow : OpenClaim := { program := "ytbopajpmadlmhaagreat", sum := "e0094fa6d5e16dda71994b223f8d533f3d7c2676e61538aedab63293ba39ece2", func := "paceline/pacelinelaw15.WarpSettles", spec := "warpSettles", inPlace := ["internal/reflectlite.TypeOf"], unfollowed := true, recurses := true, plainKeys := false, apart := false, narrowed := true }
def WarpSettlesUptoSaid : Prop := warpSettlesUptoRow.holds Tryz.pinned (OpenSpec.upto warpSettlesSpec)

/-- 'pacelinelaw15.WarpPromise', WHERE WHAT IT READS IS OF BULK AT MOST 1048576: true; the input reads as it did. -/
def warpPromiseUptoRow : OpenClaim := { program := "ytbopajpmadlmhaagreat", sum := "e0094fa6d5e16dda71994b223f8d533f3d7c2676e61538aedab63293ba39ece2", func := "paceline/pacelinelaw15.WarpPromise", spec := "warpPromise", inPlace := ["internal/reflectlite.TypeOf"], unfollowed := true, recurses := true, plainKeys := false, apart := false, narrowed := true }
def WarpPromiseUptoSaid : Prop := warpPromiseUptoRow.holds Tryz.pinned (OpenSpec.upto warpPromiseSpec)

/-- 'pacelinelaw15.WarpRefuses', WHERE WHAT IT READS IS OF BULK AT MOST 1048576: true; the input reads as it did. -/
def warpRefusesUptoRow : OpenClaim := { program := "ytbopajpmadlmhaagreat", sum := "e0094fa6d5e16dda71994b223f8d533f3d7c2676e61538aedab63293ba39ece2", func := "paceline/pacelinelaw15.WarpRefuses", spec := "warpRefuses", inPlace := ["internal/reflectlite.TypeOf"], unfollowed := true, recurses := true, plainKeys := false, apart := false, narrowed := true }
def WarpRefusesUptoSaid : Prop := warpRefusesUptoRow.holds Tryz.pinned (OpenSpec.upto warpRefusesSpec)

/-- 'pacelinelaw15.WarpScript', WHERE WHAT IT READS IS OF BULK AT MOST 1048576: true; the input reads as it did. -/
def warpScriptUptoRow : OpenClaim := { program := "ytbopajpmadlmhaagreat", sum := "e0094fa6d5e16dda71994b223f8d533f3d7c2676e61538aedab63293ba39ece2", func := "paceline/pacelinelaw15.WarpScript", spec := "warpScript", inPlace := ["internal/reflectlite.TypeOf"], unfollowed := true, recurses := true, plainKeys := false, apart := false, narrowed := true }
def WarpScriptUptoSaid : Prop := warpScriptUptoRow.holds Tryz.pinned (OpenSpec.upto warpScriptSpec)

end Rows
end Go.Proofs.YtbopajpmadlmhaaGreat
