/-
  No cell of these rows narrows 'for every input' (looked for: loops, veiled, ifaces, maps, wideKeys, modest, calm, conditions, laid).
  DERIVED. THE GIVEN ROWS OF THIS SEAT. 4 by the template 'for every input the law returns true; each argument reads behind the call as it read before'; 0 by the template 'total and deterministic' (their statements: YtenglfaeohgkfaaTotals.lean).
  GIVEN WITH THE SEED: the statements are not yours to turn. If you find one false, say at which input.
  Laid BY PROGRAM, IN A SANDBOX (cutbox-rows.mjs): the forced cells as the released guide's own fill.sh prints them over the translation aa965a6a35b2e566… (all of the seat's roots in one cut). By AI agents, Wed Nov 11 2026. No macro, syntax, notation, axiom, sorry.
-/
import Derived.Test.YtenglfaeohgkfaaChecked
import GoSem.Claim
import GoSem.ClaimJoined
import GoSem.ClaimMapViews
import Derived.JoinedTies
import Derived.KernelRfl
namespace Go.Proofs.Ytenglfaeohgkfaa
/- THE CELL 'sum', in the pinned program and in every row, IS THE sha256 OF THE DUMP (.gsa) THAT YtenglfaeohgkfaaProg.lean LOADS. Nothing in Lean hashes anything: it is a label: what it is worth is what the hold of that sum in a sandbox is worth. -/
noncomputable def Try.pinned : Pinned := { name := "ytenglfaeohgkfaa", sum := "aa965a6a35b2e56632e669d22b0c69a3c92ff03d05c5d2826b9b5ae7c87c89fd", checked := Try.checked }
namespace Rows
def none {H : Type} : Left H := { results := [], args := [] }

/-- 'pacelinelaw12.CmbOrder': WHATEVER THE INPUT: true; the input reads as it did. -/
def cmbOrderSpec : ChangeSpec := { name := "cmbOrder", fn := fun _ => fun
  | [d] => { results := [.lit (.bool true)], args := [d] }
  | _ => none }
def cmbOrderRow : OpenClaim := { program := "ytenglfaeohgkfaa", sum := "aa965a6a35b2e56632e669d22b0c69a3c92ff03d05c5d2826b9b5ae7c87c89fd", func := "paceline/pacelinelaw12.CmbOrder", spec := "cmbOrder", unfollowed := true, recurses := true, plainKeys := false, apart := false }
def CmbOrderSaid : Prop := cmbOrderRow.holds Try.pinned (OpenSpec.ofChange cmbOrderSpec)

/-- ITS FALSE NEIGHBOUR: 'it returns false'. Refute it at one input. -/
def cmbOrderWrong : ChangeSpec := { name := "cmbOrder", fn := fun _ => fun
  | [d] => { results := [.lit (.bool false)], args := [d] }
  | _ => none }
def CmbOrderWrongFalsely : Prop := cmbOrderRow.holds Try.pinned (OpenSpec.ofChange cmbOrderWrong)

/-- 'pacelinelaw12.CmbPromise': WHATEVER THE INPUT: true; the input reads as it did. -/
def cmbPromiseSpec : ChangeSpec := { name := "cmbPromise", fn := fun _ => fun
  | [d] => { results := [.lit (.bool true)], args := [d] }
  | _ => none }
def cmbPromiseRow : OpenClaim := { program := "ytenglfaeohgkfaa", sum := "aa965a6a35b2e56632e669d22b0c69a3c92ff03d05c5d2826b9b5ae7c87c89fd", func := "paceline/pacelinelaw12.CmbPromise", spec := "cmbPromise", unfollowed := true, recurses := true, plainKeys := false, apart := false }
def CmbPromiseSaid : Prop := cmbPromiseRow.holds Try.pinned (OpenSpec.ofChange cmbPromiseSpec)

/-- ITS FALSE NEIGHBOUR: 'it returns false'. Refute it at one input. -/
def cmbPromiseWrong : ChangeSpec := { name := "cmbPromise", fn := fun _ => fun
  | [d] => { results := [.lit (.bool false)], args := [d] }
  | _ => none }
def CmbPromiseWrongFalsely : Prop := cmbPromiseRow.holds Try.pinned (OpenSpec.ofChange cmbPromiseWrong)

/-- 'pacelinelaw12.CmbAlone': WHATEVER THE INPUT: true; the input reads as it did. -/
def cmbAloneSpec : ChangeSpec := { name := "cmbAlone", fn := fun _ => fun
  | [d] => { results := [.lit (.bool true)], args := [d] }
  | _ => none }
def cmbAloneRow : OpenClaim := { program := "ytenglfaeohgkfaa", sum := "aa965a6a35b2e56632e669d22b0c69a3c92ff03d05c5d2826b9b5ae7c87c89fd", func := "paceline/pacelinelaw12.CmbAlone", spec := "cmbAlone", unfollowed := true, recurses := true, plainKeys := false, apart := false }
def CmbAloneSaid : Prop := cmbAloneRow.holds Try.pinned (OpenSpec.ofChange cmbAloneSpec)

/-- ITS FALSE NEIGHBOUR: 'it returns false'. Refute it at one input. -/
def cmbAloneWrong : ChangeSpec := { name := "cmbAlone", fn := fun _ => fun
  | [d] => { results := [.lit (.bool false)], args := [d] }
  | _ => none }
def CmbAloneWrongFalsely : Prop := cmbAloneRow.holds Try.pinned (OpenSpec.ofChange cmbAloneWrong)

/-- 'pacelinelaw12.CmbEdge': WHATEVER THE INPUT: true; the input reads as it did. -/
def cmbEdgeSpec : ChangeSpec := { name := "cmbEdge", fn := fun _ => fun
  | [d1, d2] => { results := [.lit (.bool true)], args := [d1, d2] }
  | _ => none }
def cmbEdgeRow : OpenClaim := { program := "ytenglfaeohgkfaa", sum := "aa965a6a35b2e56632e669d22b0c69a3c92ff03d05c5d2826b9b5ae7c87c89fd", func := "paceline/pacelinelaw12.CmbEdge", spec := "cmbEdge", unfollowed := true, recurses := true, plainKeys := false, apart := false }
def CmbEdgeSaid : Prop := cmbEdgeRow.holds Try.pinned (OpenSpec.ofChange cmbEdgeSpec)

/-- ITS FALSE NEIGHBOUR: 'it returns false'. Refute it at one input. -/
def cmbEdgeWrong : ChangeSpec := { name := "cmbEdge", fn := fun _ => fun
  | [d1, d2] => { results := [.lit (.bool false)], args := [d1, d2] }
  | _ => none }
def CmbEdgeWrongFalsely : Prop := cmbEdgeRow.holds Try.pinned (OpenSpec.ofChange cmbEdgeWrong)

/- THE SECOND FORM. 'bulk': how many values and letters a reading holds, each counted each time it is reached (what is shared counts as often as it is met; a slice's spare places count too). A statement '..UptoSaid' is the law's where the arguments, and the package variables that the reading takes, are together of bulk at most 1048576: NARROWER than '..Said'. Prove '..Said' where nothing that the law and all that it calls make is longer than what came in: it says more and counts as full. Else prove '..UptoSaid'. A law counts once. -/
mutual
def uptoBulk {H : Type} : DataW H → Nat
  | .lit (.string bytes) => bytes.length + 1
  | .lit _ => 1
  | .nil => 1
  | .ptr d => uptoBulk d + 1
  | .slice elems spare => uptoBulkAll elems + uptoBulkAll spare + 1
  | .agg parts => uptoBulkAll parts + 1
  | .iface _ d => uptoBulk d + 1
  | .map entries => uptoBulkEntries entries + 1
  | .held _ => 1
def uptoBulkAll {H : Type} : List (DataW H) → Nat
  | [] => 0
  | d :: r => uptoBulk d + uptoBulkAll r
def uptoBulkEntries {H : Type} : List (Lit × DataW H) → Nat
  | [] => 0
  | x :: r => uptoBulkEntry x + uptoBulkEntries r
def uptoBulkEntry {H : Type} : Lit × DataW H → Nat
  | (.string bytes, d) => bytes.length + uptoBulk d + 1
  | (_, d) => uptoBulk d + 1
 end
def uptoSmall : (H : Type) → List (DataW H) → Bool := fun _ ds => decide (uptoBulkAll ds ≤ 1048576)
def OpenSpec.upto (s : _root_.Go.ChangeSpec) : _root_.Go.OpenSpec := { _root_.Go.OpenSpec.ofChange s with cond := some uptoSmall }

/-- 'pacelinelaw12.CmbOrder', WHERE WHAT IT READS IS OF BULK AT MOST 1048576: true; the input reads as it did. -/
def cmbOrderUptoRow : OpenClaim := { program := "ytenglfaeohgkfaa", sum := "aa965a6a35b2e56632e669d22b0c69a3c92ff03d05c5d2826b9b5ae7c87c89fd", func := "paceline/pacelinelaw12.CmbOrder", spec := "cmbOrder", unfollowed := true, recurses := true, plainKeys := false, apart := false, narrowed := true }
def CmbOrderUptoSaid : Prop := cmbOrderUptoRow.holds Try.pinned (OpenSpec.upto cmbOrderSpec)

/-- 'pacelinelaw12.CmbPromise', WHERE WHAT IT READS IS OF BULK AT MOST 1048576: true; the input reads as it did. -/
def cmbPromiseUptoRow : OpenClaim := { program := "ytenglfaeohgkfaa", sum := "aa965a6a35b2e56632e669d22b0c69a3c92ff03d05c5d2826b9b5ae7c87c89fd", func := "paceline/pacelinelaw12.CmbPromise", spec := "cmbPromise", unfollowed := true, recurses := true, plainKeys := false, apart := false, narrowed := true }
def CmbPromiseUptoSaid : Prop := cmbPromiseUptoRow.holds Try.pinned (OpenSpec.upto cmbPromiseSpec)

/-- 'pacelinelaw12.CmbAlone', WHERE WHAT IT READS IS OF BULK AT MOST 1048576: true; the input reads as it did. -/
def cmbAloneUptoRow : OpenClaim := { program := "ytenglfaeohgkfaa", sum := "aa965a6a35b2e56632e669d22b0c69a3c92ff03d05c5d2826b9b5ae7c87c89fd", func := "paceline/pacelinelaw12.CmbAlone", spec := "cmbAlone", unfollowed := true, recurses := true, plainKeys := false, apart := false, narrowed := true }
def CmbAloneUptoSaid : Prop := cmbAloneUptoRow.holds Try.pinned (OpenSpec.upto cmbAloneSpec)

/-- 'pacelinelaw12.CmbEdge', WHERE WHAT IT READS IS OF BULK AT MOST 1048576: true; the input reads as it did. -/
def cmbEdgeUptoRow : OpenClaim := { program := "ytenglfaeohgkfaa", sum := "aa965a6a35b2e56632e669d22b0c69a3c92ff03d05c5d2826b9b5ae7c87c89fd", func := "paceline/pacelinelaw12.CmbEdge", spec := "cmbEdge", unfollowed := true, recurses := true, plainKeys := false, apart := false, narrowed := true }
def CmbEdgeUptoSaid : Prop := cmbEdgeUptoRow.holds Try.pinned (OpenSpec.upto cmbEdgeSpec)

end Rows
end Go.Proofs.Ytenglfaeohgkfaa
