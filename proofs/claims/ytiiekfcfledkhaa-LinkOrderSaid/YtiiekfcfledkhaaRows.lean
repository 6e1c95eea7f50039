/-
  No cell of these rows narrows 'for every input' (looked for: loops, veiled, ifaces, maps, wideKeys, modest, calm, conditions, laid).
  DERIVED. THE GIVEN ROWS OF THIS SEAT. 12 by the template 'for every input the law returns true; each argument reads behind the call as it read before'; 0 by the template 'total and deterministic' (their statements: YtiiekfcfledkhaaTotals.lean).
  GIVEN WITH THE SEED: the statements are not yours to turn. If you find one false, say at which input.
  Laid BY PROGRAM, IN A SANDBOX (cutbox-rows.mjs): the forced cells as the released guide's own fill.sh prints them over the translation 529767483d046660… (all of the seat's roots in one cut). By AI agents, Wed Nov 11 2026. No macro, syntax, notation, axiom, sorry.
-/
import Derived.Test.YtiiekfcfledkhaaChecked
import GoSem.Claim
import GoSem.ClaimJoined
import GoSem.ClaimMapViews
import Derived.JoinedTies
import Derived.KernelRfl
namespace Go.Proofs.Ytiiekfcfledkhaa
/- THE CELL 'sum', in the pinned program and in every row, IS THE sha256 OF THE DUMP (.gsa) THAT YtiiekfcfledkhaaProg.lean LOADS. Nothing in Lean hashes anything: it is a label: what it is worth is what the hold of that sum in a sandbox is worth. -/
noncomputable def Try.pinned : Pinned := { name := "ytiiekfcfledkhaa", sum := "529767483d046660b752866f4c21af1b71218774dd79ec22392ac085ed67dc17", checked := Try.checked }
namespace Rows
def none {H : Type} : Left H := { results := [], args := [] }

/-- 'pacelinelaw14.GateRetracts': WHATEVER THE INPUT: true; the input reads as it did. -/
def gateRetractsSpec : ChangeSpec := { name := "gateRetracts", fn := fun _ => fun
  | [d1, d2] => { results := [.lit (.bool true)], args := [d1, d2] }
  | _ => none }
def gateRetractsRow : OpenClaim := { program := "ytiiekfcfledkhaa", sum := "529767483d046660b752866f4c21af1b71218774dd79ec22392ac085ed67dc17", func := "paceline/pacelinelaw14.GateRetracts", spec := "gateRetracts", unfollowed := true, recurses := true, plainKeys := false, apart := false }
def GateRetractsSaid : Prop := gateRetractsRow.holds Try.pinned (OpenSpec.ofChange gateRetractsSpec)

/-- ITS FALSE NEIGHBOUR: 'it returns false'. Refute it at one input. -/
def gateRetractsWrong : ChangeSpec := { name := "gateRetracts", fn := fun _ => fun
  | [d1, d2] => { results := [.lit (.bool false)], args := [d1, d2] }
  | _ => none }
def GateRetractsWrongFalsely : Prop := gateRetractsRow.holds Try.pinned (OpenSpec.ofChange gateRetractsWrong)

/-- 'pacelinelaw11.ClockLeast': WHATEVER THE INPUT: true; the input reads as it did. -/
def clockLeastSpec : ChangeSpec := { name := "clockLeast", fn := fun _ => fun
  | [d1, d2, d3] => { results := [.lit (.bool true)], args := [d1, d2, d3] }
  | _ => none }
def clockLeastRow : OpenClaim := { program := "ytiiekfcfledkhaa", sum := "529767483d046660b752866f4c21af1b71218774dd79ec22392ac085ed67dc17", func := "paceline/pacelinelaw11.ClockLeast", spec := "clockLeast", unfollowed := true, recurses := true, plainKeys := false, apart := false }
def ClockLeastSaid : Prop := clockLeastRow.holds Try.pinned (OpenSpec.ofChange clockLeastSpec)

/-- ITS FALSE NEIGHBOUR: 'it returns false'. Refute it at one input. -/
def clockLeastWrong : ChangeSpec := { name := "clockLeast", fn := fun _ => fun
  | [d1, d2, d3] => { results := [.lit (.bool false)], args := [d1, d2, d3] }
  | _ => none }
def ClockLeastWrongFalsely : Prop := clockLeastRow.holds Try.pinned (OpenSpec.ofChange clockLeastWrong)

/-- 'pacelinelaw10.LinkOrder': WHATEVER THE INPUT: true; the input reads as it did. -/
def linkOrderSpec : ChangeSpec := { name := "linkOrder", fn := fun _ => fun
  | [d1, d2, d3] => { results := [.lit (.bool true)], args := [d1, d2, d3] }
  | _ => none }
def linkOrderRow : OpenClaim := { program := "ytiiekfcfledkhaa", sum := "529767483d046660b752866f4c21af1b71218774dd79ec22392ac085ed67dc17", func := "paceline/pacelinelaw10.LinkOrder", spec := "linkOrder", plainKeys := false, apart := false }
def LinkOrderSaid : Prop := linkOrderRow.holds Try.pinned (OpenSpec.ofChange linkOrderSpec)

/-- ITS FALSE NEIGHBOUR: 'it returns false'. Refute it at one input. -/
def linkOrderWrong : ChangeSpec := { name := "linkOrder", fn := fun _ => fun
  | [d1, d2, d3] => { results := [.lit (.bool false)], args := [d1, d2, d3] }
  | _ => none }
def LinkOrderWrongFalsely : Prop := linkOrderRow.holds Try.pinned (OpenSpec.ofChange linkOrderWrong)

/-- 'pacelinelaw10.LinkApart': WHATEVER THE INPUT: true; the input reads as it did. -/
def linkApartSpec : ChangeSpec := { name := "linkApart", fn := fun _ => fun
  | [d1, d2, d3] => { results := [.lit (.bool true)], args := [d1, d2, d3] }
  | _ => none }
def linkApartRow : OpenClaim := { program := "ytiiekfcfledkhaa", sum := "529767483d046660b752866f4c21af1b71218774dd79ec22392ac085ed67dc17", func := "paceline/pacelinelaw10.LinkApart", spec := "linkApart", plainKeys := false, apart := false }
def LinkApartSaid : Prop := linkApartRow.holds Try.pinned (OpenSpec.ofChange linkApartSpec)

/-- ITS FALSE NEIGHBOUR: 'it returns false'. Refute it at one input. -/
def linkApartWrong : ChangeSpec := { name := "linkApart", fn := fun _ => fun
  | [d1, d2, d3] => { results := [.lit (.bool false)], args := [d1, d2, d3] }
  | _ => none }
def LinkApartWrongFalsely : Prop := linkApartRow.holds Try.pinned (OpenSpec.ofChange linkApartWrong)

/-- 'pacelinelaw11.ClockGoes': WHATEVER THE INPUT: true; the input reads as it did. -/
def clockGoesSpec : ChangeSpec := { name := "clockGoes", fn := fun _ => fun
  | [d1, d2] => { results := [.lit (.bool true)], args := [d1, d2] }
  | _ => none }
def clockGoesRow : OpenClaim := { program := "ytiiekfcfledkhaa", sum := "529767483d046660b752866f4c21af1b71218774dd79ec22392ac085ed67dc17", func := "paceline/pacelinelaw11.ClockGoes", spec := "clockGoes", unfollowed := true, recurses := true, plainKeys := false, apart := false }
def ClockGoesSaid : Prop := clockGoesRow.holds Try.pinned (OpenSpec.ofChange clockGoesSpec)

/-- ITS FALSE NEIGHBOUR: 'it returns false'. Refute it at one input. -/
def clockGoesWrong : ChangeSpec := { name := "clockGoes", fn := fun _ => fun
  | [d1, d2] => { results := [.lit (.bool false)], args := [d1, d2] }
  | _ => none }
def ClockGoesWrongFalsely : Prop := clockGoesRow.holds Try.pinned (OpenSpec.ofChange clockGoesWrong)

/-- 'pacelinelaw11.ClockAlone': WHATEVER THE INPUT: true; the input reads as it did. -/
def clockAloneSpec : ChangeSpec := { name := "clockAlone", fn := fun _ => fun
  | [d1, d2] => { results := [.lit (.bool true)], args := [d1, d2] }
  | _ => none }
def clockAloneRow : OpenClaim := { program := "ytiiekfcfledkhaa", sum := "529767483d046660b752866f4c21af1b71218774dd79ec22392ac085ed67dc17", func := "paceline/pacelinelaw11.ClockAlone", spec := "clockAlone", unfollowed := true, recurses := true, plainKeys := false, apart := false }
def ClockAloneSaid : Prop := clockAloneRow.holds Try.pinned (OpenSpec.ofChange clockAloneSpec)

/-- ITS FALSE NEIGHBOUR: 'it returns false'. Refute it at one input. -/
def clockAloneWrong : ChangeSpec := { name := "clockAlone", fn := fun _ => fun
  | [d1, d2] => { results := [.lit (.bool false)], args := [d1, d2] }
  | _ => none }
def ClockAloneWrongFalsely : Prop := clockAloneRow.holds Try.pinned (OpenSpec.ofChange clockAloneWrong)

/-- 'pacelinelaw16.CutColours': WHATEVER THE INPUT: true; the input reads as it did. -/
def cutColoursSpec : ChangeSpec := { name := "cutColours", fn := fun _ => fun
  | [d1, d2, d3] => { results := [.lit (.bool true)], args := [d1, d2, d3] }
  | _ => none }
def cutColoursRow : OpenClaim := { program := "ytiiekfcfledkhaa", sum := "529767483d046660b752866f4c21af1b71218774dd79ec22392ac085ed67dc17", func := "paceline/pacelinelaw16.CutColours", spec := "cutColours", unfollowed := true, recurses := true, plainKeys := false, apart := false }
def CutColoursSaid : Prop := cutColoursRow.holds Try.pinned (OpenSpec.ofChange cutColoursSpec)

/-- ITS FALSE NEIGHBOUR: 'it returns false'. Refute it at one input. -/
def cutColoursWrong : ChangeSpec := { name := "cutColours", fn := fun _ => fun
  | [d1, d2, d3] => { results := [.lit (.bool false)], args := [d1, d2, d3] }
  | _ => none }
def CutColoursWrongFalsely : Prop := cutColoursRow.holds Try.pinned (OpenSpec.ofChange cutColoursWrong)

/-- 'pacelinelaw16.CutQuiet': WHATEVER THE INPUT: true; the input reads as it did. -/
def cutQuietSpec : ChangeSpec := { name := "cutQuiet", fn := fun _ => fun
  | [d1, d2] => { results := [.lit (.bool true)], args := [d1, d2] }
  | _ => none }
def cutQuietRow : OpenClaim := { program := "ytiiekfcfledkhaa", sum := "529767483d046660b752866f4c21af1b71218774dd79ec22392ac085ed67dc17", func := "paceline/pacelinelaw16.CutQuiet", spec := "cutQuiet", unfollowed := true, recurses := true, plainKeys := false, apart := false }
def CutQuietSaid : Prop := cutQuietRow.holds Try.pinned (OpenSpec.ofChange cutQuietSpec)

/-- ITS FALSE NEIGHBOUR: 'it returns false'. Refute it at one input. -/
def cutQuietWrong : ChangeSpec := { name := "cutQuiet", fn := fun _ => fun
  | [d1, d2] => { results := [.lit (.bool false)], args := [d1, d2] }
  | _ => none }
def CutQuietWrongFalsely : Prop := cutQuietRow.holds Try.pinned (OpenSpec.ofChange cutQuietWrong)

/-- 'pacelinelaw11.ClockScript': WHATEVER THE INPUT: true; the input reads as it did. -/
def clockScriptSpec : ChangeSpec := { name := "clockScript", fn := fun _ => fun
  | [d1, d2, d3] => { results := [.lit (.bool true)], args := [d1, d2, d3] }
  | _ => none }
def clockScriptRow : OpenClaim := { program := "ytiiekfcfledkhaa", sum := "529767483d046660b752866f4c21af1b71218774dd79ec22392ac085ed67dc17", func := "paceline/pacelinelaw11.ClockScript", spec := "clockScript", unfollowed := true, recurses := true, plainKeys := false, apart := false }
def ClockScriptSaid : Prop := clockScriptRow.holds Try.pinned (OpenSpec.ofChange clockScriptSpec)

/-- ITS FALSE NEIGHBOUR: 'it returns false'. Refute it at one input. -/
def clockScriptWrong : ChangeSpec := { name := "clockScript", fn := fun _ => fun
  | [d1, d2, d3] => { results := [.lit (.bool false)], args := [d1, d2, d3] }
  | _ => none }
def ClockScriptWrongFalsely : Prop := clockScriptRow.holds Try.pinned (OpenSpec.ofChange clockScriptWrong)

/-- 'pacelinelaw11.ClockRises': WHATEVER THE INPUT: true; the input reads as it did. -/
def clockRisesSpec : ChangeSpec := { name := "clockRises", fn := fun _ => fun
  | [d] => { results := [.lit (.bool true)], args := [d] }
  | _ => none }
def clockRisesRow : OpenClaim := { program := "ytiiekfcfledkhaa", sum := "529767483d046660b752866f4c21af1b71218774dd79ec22392ac085ed67dc17", func := "paceline/pacelinelaw11.ClockRises", spec := "clockRises", unfollowed := true, recurses := true, plainKeys := false, apart := false }
def ClockRisesSaid : Prop := clockRisesRow.holds Try.pinned (OpenSpec.ofChange clockRisesSpec)

/-- ITS FALSE NEIGHBOUR: 'it returns false'. Refute it at one input. -/
def clockRisesWrong : ChangeSpec := { name := "clockRises", fn := fun _ => fun
  | [d] => { results := [.lit (.bool false)], args := [d] }
  | _ => none }
def ClockRisesWrongFalsely : Prop := clockRisesRow.holds Try.pinned (OpenSpec.ofChange clockRisesWrong)

/-- 'pacelinelaw14.GateDrops': WHATEVER THE INPUT: true; the input reads as it did. -/
def gateDropsSpec : ChangeSpec := { name := "gateDrops", fn := fun _ => fun
  | [d1, d2] => { results := [.lit (.bool true)], args := [d1, d2] }
  | _ => none }
def gateDropsRow : OpenClaim := { program := "ytiiekfcfledkhaa", sum := "529767483d046660b752866f4c21af1b71218774dd79ec22392ac085ed67dc17", func := "paceline/pacelinelaw14.GateDrops", spec := "gateDrops", unfollowed := true, recurses := true, plainKeys := false, apart := false }
def GateDropsSaid : Prop := gateDropsRow.holds Try.pinned (OpenSpec.ofChange gateDropsSpec)

/-- ITS FALSE NEIGHBOUR: 'it returns false'. Refute it at one input. -/
def gateDropsWrong : ChangeSpec := { name := "gateDrops", fn := fun _ => fun
  | [d1, d2] => { results := [.lit (.bool false)], args := [d1, d2] }
  | _ => none }
def GateDropsWrongFalsely : Prop := gateDropsRow.holds Try.pinned (OpenSpec.ofChange gateDropsWrong)

/-- 'pacelinelaw03.PrioTwice': WHATEVER THE INPUT: true; the input reads as it did. -/
def prioTwiceSpec : ChangeSpec := { name := "prioTwice", fn := fun _ => fun
  | [d1, d2] => { results := [.lit (.bool true)], args := [d1, d2] }
  | _ => none }
def prioTwiceRow : OpenClaim := { program := "ytiiekfcfledkhaa", sum := "529767483d046660b752866f4c21af1b71218774dd79ec22392ac085ed67dc17", func := "paceline/pacelinelaw03.PrioTwice", spec := "prioTwice", unfollowed := true, recurses := true, plainKeys := false, apart := false }
def PrioTwiceSaid : Prop := prioTwiceRow.holds Try.pinned (OpenSpec.ofChange prioTwiceSpec)

/-- ITS FALSE NEIGHBOUR: 'it returns false'. Refute it at one input. -/
def prioTwiceWrong : ChangeSpec := { name := "prioTwice", fn := fun _ => fun
  | [d1, d2] => { results := [.lit (.bool false)], args := [d1, d2] }
  | _ => none }
def PrioTwiceWrongFalsely : Prop := prioTwiceRow.holds Try.pinned (OpenSpec.ofChange prioTwiceWrong)

/- THE SECOND FORM. 'bulk': how many values and letters a reading holds, each counted each time it is reached (what is shared counts as often as it is met; a slice's spare places count too). A statement '..UptoSaid' is the law's where the arguments, and the package variables that the reading takes, are together of bulk at most 1048576: NARROWER than '..Said'. Prove '..Said' where nothing that the law and all that it calls make is longer than what came in: it says more and counts as full. Else prove '..UptoSaid'. A law counts once. -/
mutual
def uptoBulk {H : Type} : DataW H → Nat
  | .lit (.string bytes) => bytes.length + 1
  | .lit _ => 1
  | .nil => 1
  | .ptr d => uptoBulk d + 1
  | .slice elems spare => uptoBulkAll elems + uptoBulkAll spare + 1
  | .agg parts => uptoBulkAll parts + 1
  | .iface _ d => uptoBulk d + 1
  | .map entries => uptoBulkEntries entries + 1
  | .held _ => 1
def uptoBulkAll {H : Type} : List (DataW H) → Nat
  | [] => 0
  | d :: r => uptoBulk d + uptoBulkAll r
def uptoBulkEntries {H : Type} : List (Lit × DataW H) → Nat
  | [] => 0
  | x :: r => uptoBulkEntry x + uptoBulkEntries r
def uptoBulkEntry {H : Type} : Lit × DataW H → Nat
  | (.string bytes, d) => bytes.length + uptoBulk d + 1
  | (_, d) => uptoBulk d + 1
 end
def uptoSmall : (H : Type) → List (DataW H) → Bool := fun _ ds => decide (uptoBulkAll ds ≤ 1048576)
def OpenSpec.upto (s : _root_.Go.ChangeSpec) : _root_.Go.OpenSpec := { _root_.Go.OpenSpec.ofChange s with cond := some uptoSmall }

/-- 'pacelinelaw14.GateRetracts', WHERE WHAT IT READS IS OF BULK AT MOST 1048576: true; the input reads as it did. -/
def gateRetractsUptoRow : OpenClaim := { program := "ytiiekfcfledkhaa", sum := "529767483d046660b752866f4c21af1b71218774dd79ec22392ac085ed67dc17", func := "paceline/pacelinelaw14.GateRetracts", spec := "gateRetracts", unfollowed := true, recurses := true, plainKeys := false, apart := false, narrowed := true }
def GateRetractsUptoSaid : Prop := gateRetractsUptoRow.holds Try.pinned (OpenSpec.upto gateRetractsSpec)

/-- 'pacelinelaw11.ClockLeast', WHERE WHAT IT READS IS OF BULK AT MOST 1048576: true; the input reads as it did. -/
def clockLeastUptoRow : OpenClaim := { program := "ytiiekfcfledkhaa", sum := "529767483d046660b752866f4c21af1b71218774dd79ec22392ac085ed67dc17", func := "paceline/pacelinelaw11.ClockLeast", spec := "clockLeast", unfollowed := true, recurses := true, plainKeys := false, apart := false, narrowed := true }
def ClockLeastUptoSaid : Prop := clockLeastUptoRow.holds Try.pinned (OpenSpec.upto clockLeastSpec)

/-- 'pacelinelaw10.LinkOrder', WHERE WHAT IT READS IS OF BULK AT MOST 1048576: true; the input reads as it did. -/
def linkOrderUptoRow : OpenClaim := { program := "ytiiekfcfledkhaa", sum := "529767483d046660b752866f4c21af1b71218774dd79ec22392ac085ed67dc17", func := "paceline/pacelinelaw10.LinkOrder", spec := "linkOrder", plainKeys := false, apart := false, narrowed := true }
def LinkOrderUptoSaid : Prop := linkOrderUptoRow.holds Try.pinned (OpenSpec.upto linkOrderSpec)

/-- 'pacelinelaw10.LinkApart', WHERE WHAT IT READS IS OF BULK AT MOST 1048576: true; the input reads as it did. -/
def linkApartUptoRow : OpenClaim := { program := "ytiiekfcfledkhaa", sum := "529767483d046660b752866f4c21af1b71218774dd79ec22392ac085ed67dc17", func := "paceline/pacelinelaw10.LinkApart", spec := "linkApart", plainKeys := false, apart := false, narrowed := true }
def LinkApartUptoSaid : Prop := linkApartUptoRow.holds Try.pinned (OpenSpec.upto linkApartSpec)

/-- 'pacelinelaw11.ClockGoes', WHERE WHAT IT READS IS OF BULK AT MOST 1048576: true; the input reads as it did. -/
def clockGoesUptoRow : OpenClaim := { program := "ytiiekfcfledkhaa", sum := "529767483d046660b752866f4c21af1b71218774dd79ec22392ac085ed67dc17", func := "paceline/pacelinelaw11.ClockGoes", spec := "clockGoes", unfollowed := true, recurses := true, plainKeys := false, apart := false, narrowed := true }
def ClockGoesUptoSaid : Prop := clockGoesUptoRow.holds Try.pinned (OpenSpec.upto clockGoesSpec)

/-- 'pacelinelaw11.ClockAlone', WHERE WHAT IT READS IS OF BULK AT MOST 1048576: true; the input reads as it did. -/
def clockAloneUptoRow : OpenClaim := { program := "ytiiekfcfledkhaa", sum := "529767483d046660b752866f4c21af1b71218774dd79ec22392ac085ed67dc17", func := "paceline/pacelinelaw11.ClockAlone", spec := "clockAlone", unfollowed := true, recurses := true, plainKeys := false, apart := false, narrowed := true }
def ClockAloneUptoSaid : Prop := clockAloneUptoRow.holds Try.pinned (OpenSpec.upto clockAloneSpec)

/-- 'pacelinelaw16.CutColours', WHERE WHAT IT READS IS OF BULK AT MOST 1048576: true; the input reads as it did. -/
def cutColoursUptoRow : OpenClaim := { program := "ytiiekfcfledkhaa", sum := "529767483d046660b752866f4c21af1b71218774dd79ec22392ac085ed67dc17", func := "paceline/pacelinelaw16.CutColours", spec := "cutColours", unfollowed := true, recurses := true, plainKeys := false, apart := false, narrowed := true }
def CutColoursUptoSaid : Prop := cutColoursUptoRow.holds Try.pinned (OpenSpec.upto cutColoursSpec)

/-- 'pacelinelaw16.CutQuiet', WHERE WHAT IT READS IS OF BULK AT MOST 1048576: true; the input reads as it did. -/
def cutQuietUptoRow : OpenClaim := { program := "ytiiekfcfledkhaa", sum := "529767483d046660b752866f4c21af1b71218774dd79ec22392ac085ed67dc17", func := "paceline/pacelinelaw16.CutQuiet", spec := "cutQuiet", unfollowed := true, recurses := true, plainKeys := false, apart := false, narrowed := true }
def CutQuietUptoSaid : Prop := cutQuietUptoRow.holds Try.pinned (OpenSpec.upto cutQuietSpec)

/-- 'pacelinelaw11.ClockScript', WHERE WHAT IT READS IS OF BULK AT MOST 1048576: true; the input reads as it did. -/
def clockScriptUptoRow : OpenClaim := { program := "ytiiekfcfledkhaa", sum := "529767483d046660b752866f4c21af1b71218774dd79ec22392ac085ed67dc17", func := "paceline/pacelinelaw11.ClockScript", spec := "clockScript", unfollowed := true, recurses := true, plainKeys := false, apart := false, narrowed := true }
def ClockScriptUptoSaid : Prop := clockScriptUptoRow.holds Try.pinned (OpenSpec.upto clockScriptSpec)

/-- 'pacelinelaw11.ClockRises', WHERE WHAT IT READS IS OF BULK AT MOST 1048576: true; the input reads as it did. -/
def clockRisesUptoRow : OpenClaim := { program := "ytiiekfcfledkhaa", sum := "529767483d046660b752866f4c21af1b71218774dd79ec22392ac085ed67dc17", func := "paceline/pacelinelaw11.ClockRises", spec := "clockRises", unfollowed := true, recurses := true, plainKeys := false, apart := false, narrowed := true }
def ClockRisesUptoSaid : Prop := clockRisesUptoRow.holds Try.pinned (OpenSpec.upto clockRisesSpec)

/-- 'pacelinelaw14.GateDrops', WHERE WHAT IT READS IS OF BULK AT MOST 1048576: true; the input reads as it did. -/
def gateDropsUptoRow : OpenClaim := { program := "ytiiekfcfledkhaa", sum := "529767483d046660b752866f4c21af1b71218774dd79ec22392ac085ed67dc17", func := "paceline/pacelinelaw14.GateDrops", spec := "gateDrops", unfollowed := true, recurses := true, plainKeys := false, apart := false, narrowed := true }
def GateDropsUptoSaid : Prop := gateDropsUptoRow.holds Try.pinned (OpenSpec.upto gateDropsSpec)

/-- 'pacelinelaw03.PrioTwice', WHERE WHAT IT READS IS OF BULK AT MOST 1048576: true; the input reads as it did. -/
def prioTwiceUptoRow : OpenClaim := { program := "ytiiekfcfledkhaa", sum := "529767483d046660b752866f4c21af1b71218774dd79ec22392ac085ed67dc17", func := "paceline/pacelinelaw03.PrioTwice", spec := "prioTwice", unfollowed := true, recurses := true, plainKeys := false, apart := false, narrowed := true }
def PrioTwiceUptoSaid : Prop := prioTwiceUptoRow.holds Try.pinned (OpenSpec.upto prioTwiceSpec)

end Rows
end Go.Proofs.Ytiiekfcfledkhaa
