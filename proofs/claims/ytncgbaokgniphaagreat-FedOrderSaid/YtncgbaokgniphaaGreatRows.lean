/-
  No cell of these rows narrows 'for every input' (looked for: loops, veiled, ifaces, maps, wideKeys, modest, calm, conditions, laid).
  DERIVED. THE GIVEN ROWS OF THIS SEAT. 9 by the template 'for every input the law returns true; each argument reads behind the call as it read before'; 0 by the template 'total and deterministic' (their statements: YtncgbaokgniphaaGreatTotals.lean).
  GIVEN WITH THE SEED: the statements are not yours to turn. If you find one false, say at which input.
  Laid BY PROGRAM, IN A SANDBOX (cutbox-rows.mjs): the forced cells as the released guide's own fill.sh prints them over the translation 062951f9d9b84a25… (all of the seat's roots in one cut). By AI agents, Wed Nov 11 2026. No macro, syntax, notation, axiom, sorry.
-/
import Derived.Test.YtncgbaokgniphaaGreatChecked
import GoSem.Claim
import GoSem.ClaimJoined
import GoSem.ClaimMapViews
import Derived.JoinedTies
import Derived.KernelRfl
namespace Go.Proofs.YtncgbaokgniphaaGreat
/- THE CELL 'sum', in the pinned program and in every row, IS THE sha256 OF THE DUMP (.gsa) THAT YtncgbaokgniphaaGreatProg.lean LOADS. Nothing in Lean hashes anything: it is a label: what it is worth is what the hold of that sum in a sandbox is worth. -/
noncomputable def Tryz.pinned : Pinned := { name := "ytncgbaokgniphaagreat", sum := "062951f9d9b84a2555f60a73fd8230495c9b531177923e328092d25cbc329201", checked := Tryz.checked }
namespace Rows
def none {H : Type} : Left H := { results := [], args := [] }

/-- 'pacelinelaw17.FedOrder': WHATEVER THE INPUT: true; the input reads as it did. -/
def fedOrderSpec : ChangeSpec := { name := "fedOrder", fn := fun _ => fun
  | [d1, d2, d3] => { results := [.lit (.bool true)], args := [d1, d2, d3] }
  | _ => none }
def fedOrderRow : OpenClaim := { program := "ytncgbaokgniphaagreat", sum := "062951f9d9b84a2555f60a73fd8230495c9b531177923e328092d25cbc329201", func := "paceline/pacelinelaw17.FedOrder", spec := "fedOrder", unfollowed := true, recurses := true, plainKeys := false, apart := false }
def FedOrderSaid : Prop := fedOrderRow.holds Tryz.pinned (OpenSpec.ofChange fedOrderSpec)

/-- ITS FALSE NEIGHBOUR: 'it returns false'. Refute it at one input. -/
def fedOrderWrong : ChangeSpec := { name := "fedOrder", fn := fun _ => fun
  | [d1, d2, d3] => { results := [.lit (.bool false)], args := [d1, d2, d3] }
  | _ => none }
def FedOrderWrongFalsely : Prop := fedOrderRow.holds Tryz.pinned (OpenSpec.ofChange fedOrderWrong)

/-- 'pacelinelaw17.FedTwice': WHATEVER THE INPUT: true; the input reads as it did. -/
def fedTwiceSpec : ChangeSpec := { name := "fedTwice", fn := fun _ => fun
  | [d1, d2, d3] => { results := [.lit (.bool true)], args := [d1, d2, d3] }
  | _ => none }
def fedTwiceRow : OpenClaim := { program := "ytncgbaokgniphaagreat", sum := "062951f9d9b84a2555f60a73fd8230495c9b531177923e328092d25cbc329201", func := "paceline/pacelinelaw17.FedTwice", spec := "fedTwice", unfollowed := true, recurses := true, plainKeys := false, apart := false }
def FedTwiceSaid : Prop := fedTwiceRow.holds Tryz.pinned (OpenSpec.ofChange fedTwiceSpec)

/-- ITS FALSE NEIGHBOUR: 'it returns false'. Refute it at one input. -/
def fedTwiceWrong : ChangeSpec := { name := "fedTwice", fn := fun _ => fun
  | [d1, d2, d3] => { results := [.lit (.bool false)], args := [d1, d2, d3] }
  | _ => none }
def FedTwiceWrongFalsely : Prop := fedTwiceRow.holds Tryz.pinned (OpenSpec.ofChange fedTwiceWrong)

/-- 'pacelinelaw17.FedRefuses': WHATEVER THE INPUT: true; the input reads as it did. -/
def fedRefusesSpec : ChangeSpec := { name := "fedRefuses", fn := fun _ => fun
  | [d1, d2, d3, d4] => { results := [.lit (.bool true)], args := [d1, d2, d3, d4] }
  | _ => none }
def fedRefusesRow : OpenClaim := { program := "ytncgbaokgniphaagreat", sum := "062951f9d9b84a2555f60a73fd8230495c9b531177923e328092d25cbc329201", func := "paceline/pacelinelaw17.FedRefuses", spec := "fedRefuses", unfollowed := true, recurses := true, plainKeys := false, apart := false }
def FedRefusesSaid : Prop := fedRefusesRow.holds Tryz.pinned (OpenSpec.ofChange fedRefusesSpec)

/-- ITS FALSE NEIGHBOUR: 'it returns false'. Refute it at one input. -/
def fedRefusesWrong : ChangeSpec := { name := "fedRefuses", fn := fun _ => fun
  | [d1, d2, d3, d4] => { results := [.lit (.bool false)], args := [d1, d2, d3, d4] }
  | _ => none }
def FedRefusesWrongFalsely : Prop := fedRefusesRow.holds Tryz.pinned (OpenSpec.ofChange fedRefusesWrong)

/-- 'pacelinelaw17.FedScript': WHATEVER THE INPUT: true; the input reads as it did. -/
def fedScriptSpec : ChangeSpec := { name := "fedScript", fn := fun _ => fun
  | [d1, d2, d3] => { results := [.lit (.bool true)], args := [d1, d2, d3] }
  | _ => none }
def fedScriptRow : OpenClaim := { program := "ytncgbaokgniphaagreat", sum := "062951f9d9b84a2555f60a73fd8230495c9b531177923e328092d25cbc329201", func := "paceline/pacelinelaw17.FedScript", spec := "fedScript", unfollowed := true, recurses := true, plainKeys := false, apart := false }
def FedScriptSaid : Prop := fedScriptRow.holds Tryz.pinned (OpenSpec.ofChange fedScriptSpec)

/-- ITS FALSE NEIGHBOUR: 'it returns false'. Refute it at one input. -/
def fedScriptWrong : ChangeSpec := { name := "fedScript", fn := fun _ => fun
  | [d1, d2, d3] => { results := [.lit (.bool false)], args := [d1, d2, d3] }
  | _ => none }
def FedScriptWrongFalsely : Prop := fedScriptRow.holds Tryz.pinned (OpenSpec.ofChange fedScriptWrong)

/-- 'pacelinelaw17.FedKinds': WHATEVER THE INPUT: true; the input reads as it did. -/
def fedKindsSpec : ChangeSpec := { name := "fedKinds", fn := fun _ => fun
  | [d1, d2, d3, d4, d5] => { results := [.lit (.bool true)], args := [d1, d2, d3, d4, d5] }
  | _ => none }
def fedKindsRow : OpenClaim := { program := "ytncgbaokgniphaagreat", sum := "062951f9d9b84a2555f60a73fd8230495c9b531177923e328092d25cbc329201", func := "paceline/pacelinelaw17.FedKinds", spec := "fedKinds", unfollowed := true, recurses := true, plainKeys := false, apart := false }
def FedKindsSaid : Prop := fedKindsRow.holds Tryz.pinned (OpenSpec.ofChange fedKindsSpec)

/-- ITS FALSE NEIGHBOUR: 'it returns false'. Refute it at one input. -/
def fedKindsWrong : ChangeSpec := { name := "fedKinds", fn := fun _ => fun
  | [d1, d2, d3, d4, d5] => { results := [.lit (.bool false)], args := [d1, d2, d3, d4, d5] }
  | _ => none }
def FedKindsWrongFalsely : Prop := fedKindsRow.holds Tryz.pinned (OpenSpec.ofChange fedKindsWrong)

/-- 'pacelinelaw17.FedRests': WHATEVER THE INPUT: true; the input reads as it did. -/
def fedRestsSpec : ChangeSpec := { name := "fedRests", fn := fun _ => fun
  | [d1, d2, d3] => { results := [.lit (.bool true)], args := [d1, d2, d3] }
  | _ => none }
def fedRestsRow : OpenClaim := { program := "ytncgbaokgniphaagreat", sum := "062951f9d9b84a2555f60a73fd8230495c9b531177923e328092d25cbc329201", func := "paceline/pacelinelaw17.FedRests", spec := "fedRests", unfollowed := true, recurses := true, plainKeys := false, apart := false }
def FedRestsSaid : Prop := fedRestsRow.holds Tryz.pinned (OpenSpec.ofChange fedRestsSpec)

/-- ITS FALSE NEIGHBOUR: 'it returns false'. Refute it at one input. -/
def fedRestsWrong : ChangeSpec := { name := "fedRests", fn := fun _ => fun
  | [d1, d2, d3] => { results := [.lit (.bool false)], args := [d1, d2, d3] }
  | _ => none }
def FedRestsWrongFalsely : Prop := fedRestsRow.holds Tryz.pinned (OpenSpec.ofChange fedRestsWrong)

/-- 'pacelinelaw17.FedRoom': WHATEVER THE INPUT: true; the input reads as it did. -/
def fedRoomSpec : ChangeSpec := { name := "fedRoom", fn := fun _ => fun
  | [d1, d2, d3, d4] => { results := [.lit (.bool true)], args := [d1, d2, d3, d4] }
  | _ => none }
def fedRoomRow : OpenClaim := { program := "ytncgbaokgniphaagreat", sum := "062951f9d9b84a2555f60a73fd8230495c9b531177923e328092d25cbc329201", func := "paceline/pacelinelaw17.FedRoom", spec := "fedRoom", unfollowed := true, recurses := true, plainKeys := false, apart := false }
def FedRoomSaid : Prop := fedRoomRow.holds Tryz.pinned (OpenSpec.ofChange fedRoomSpec)

/-- ITS FALSE NEIGHBOUR: 'it returns false'. Refute it at one input. -/
def fedRoomWrong : ChangeSpec := { name := "fedRoom", fn := fun _ => fun
  | [d1, d2, d3, d4] => { results := [.lit (.bool false)], args := [d1, d2, d3, d4] }
  | _ => none }
def FedRoomWrongFalsely : Prop := fedRoomRow.holds Tryz.pinned (OpenSpec.ofChange fedRoomWrong)

/-- 'pacelinelaw17.FedPrefix': WHATEVER THE INPUT: true; the input reads as it did. -/
def fedPrefixSpec : ChangeSpec := { name := "fedPrefix", fn := fun _ => fun
  | [d1, d2, d3] => { results := [.lit (.bool true)], args := [d1, d2, d3] }
  | _ => none }
def fedPrefixRow : OpenClaim := { program := "ytncgbaokgniphaagreat", sum := "062951f9d9b84a2555f60a73fd8230495c9b531177923e328092d25cbc329201", func := "paceline/pacelinelaw17.FedPrefix", spec := "fedPrefix", unfollowed := true, recurses := true, plainKeys := false, apart := false }
def FedPrefixSaid : Prop := fedPrefixRow.holds Tryz.pinned (OpenSpec.ofChange fedPrefixSpec)

/-- ITS FALSE NEIGHBOUR: 'it returns false'. Refute it at one input. -/
def fedPrefixWrong : ChangeSpec := { name := "fedPrefix", fn := fun _ => fun
  | [d1, d2, d3] => { results := [.lit (.bool false)], args := [d1, d2, d3] }
  | _ => none }
def FedPrefixWrongFalsely : Prop := fedPrefixRow.holds Tryz.pinned (OpenSpec.ofChange fedPrefixWrong)

/-- 'pacelinelaw17.FedWhole': WHATEVER THE INPUT: true; the input reads as it did. -/
def fedWholeSpec : ChangeSpec := { name := "fedWhole", fn := fun _ => fun
  | [d1, d2] => { results := [.lit (.bool true)], args := [d1, d2] }
  | _ => none }
def fedWholeRow : OpenClaim := { program := "ytncgbaokgniphaagreat", sum := "062951f9d9b84a2555f60a73fd8230495c9b531177923e328092d25cbc329201", func := "paceline/pacelinelaw17.FedWhole", spec := "fedWhole", unfollowed := true, recurses := true, plainKeys := false, apart := false }
def FedWholeSaid : Prop := fedWholeRow.holds Tryz.pinned (OpenSpec.ofChange fedWholeSpec)

/-- ITS FALSE NEIGHBOUR: 'it returns false'. Refute it at one input. -/
def fedWholeWrong : ChangeSpec := { name := "fedWhole", fn := fun _ => fun
  | [d1, d2] => { results := [.lit (.bool false)], args := [d1, d2] }
  | _ => none }
def FedWholeWrongFalsely : Prop := fedWholeRow.holds Tryz.pinned (OpenSpec.ofChange fedWholeWrong)

/- THE SECOND FORM. 'bulk': how many values and letters a reading holds, each counted each time it is reached (what is shared counts as often as it is met; a slice's spare places count too). A statement '..UptoSaid' is the law's where the arguments, and the package variables that the reading takes, are together of bulk at most 1048576: NARROWER than '..Said'. Prove '..Said' where nothing that the law and all that it calls make is longer than what came in: it says more and counts as full. Else prove '..UptoSaid'. A law counts once. -/
mutual
def uptoBulk {H : Type} : DataW H → Nat
  | .lit (.string bytes) => bytes.length + 1
  | .lit _ => 1
  | .nil => 1
  | .ptr d => uptoBulk d + 1
  | .slice elems spare => uptoBulkAll elems + uptoBulkAll spare + 1
  | .agg parts => uptoBulkAll parts + 1
  | .iface _ d => uptoBulk d + 1
  | .map entries => uptoBulkEntries entries + 1
  | .held _ => 1
def uptoBulkAll {H : Type} : List (DataW H) → Nat
  | [] => 0
  | d :: r => uptoBulk d + uptoBulkAll r
def uptoBulkEntries {H : Type} : List (Lit × DataW H) → Nat
  | [] => 0
  | x :: r => uptoBulkEntry x + uptoBulkEntries r
def uptoBulkEntry {H : Type} : Lit × DataW H → Nat
  | (.string bytes, d) => bytes.length + uptoBulk d + 1
  | (_, d) => uptoBulk d + 1
 end
def uptoSmall : (H : Type) → List (DataW H) → Bool := fun _ ds => decide (uptoBulkAll ds ≤ 1048576)
def OpenSpec.upto (s : _root_.Go.ChangeSpec) : _root_.Go.OpenSpec := { _root_.Go.OpenSpec.ofChange s with cond := some uptoSmall }

/-- 'pacelinelaw17.FedOrder', WHERE WHAT IT READS IS OF BULK AT MOST 1048576: true; the input reads as it did. -/
def fedOrderUptoRow : OpenClaim := { program := "ytncgbaokgniphaagreat", sum := "062951f9d9b84a2555f60a73fd8230495c9b531177923e328092d25cbc329201", func := "paceline/pacelinelaw17.FedOrder", spec := "fedOrder", unfollowed := true, recurses := true, plainKeys := false, apart := false, narrowed := true }
def FedOrderUptoSaid : Prop := fedOrderUptoRow.holds Tryz.pinned (OpenSpec.upto fedOrderSpec)

/-- 'pacelinelaw17.FedTwice', WHERE WHAT IT READS IS OF BULK AT MOST 1048576: true; the input reads as it did. -/
def fedTwiceUptoRow : OpenClaim := { program := "ytncgbaokgniphaagreat", sum := "062951f9d9b84a2555f60a73fd8230495c9b531177923e328092d25cbc329201", func := "paceline/pacelinelaw17.FedTwice", spec := "fedTwice", unfollowed := true, recurses := true, plainKeys := false, apart := false, narrowed := true }
def FedTwiceUptoSaid : Prop := fedTwiceUptoRow.holds Tryz.pinned (OpenSpec.upto fedTwiceSpec)

/-- 'pacelinelaw17.FedRefuses', WHERE WHAT IT READS IS OF BULK AT MOST 1048576: true; the input reads as it did. -/
def fedRefusesUptoRow : OpenClaim := { program := "ytncgbaokgniphaagreat", sum := "062951f9d9b84a2555f60a73fd8230495c9b531177923e328092d25cbc329201", func := "paceline/pacelinelaw17.FedRefuses", spec := "fedRefuses", unfollowed := true, recurses := true, plainKeys := false, apart := false, narrowed := true }
def FedRefusesUptoSaid : Prop := fedRefusesUptoRow.holds Tryz.pinned (OpenSpec.upto fedRefusesSpec)

/-- 'pacelinelaw17.FedScript', WHERE WHAT IT READS IS OF BULK AT MOST 1048576: true; the input reads as it did. -/
def fedScriptUptoRow : OpenClaim := { program := "ytncgbaokgniphaagreat", sum := "062951f9d9b84a2555f60a73fd8230495c9b531177923e328092d25cbc329201", func := "paceline/pacelinelaw17.FedScript", spec := "fedScript", unfollowed := true, recurses := true, plainKeys := false, apart := false, narrowed := true }
def FedScriptUptoSaid : Prop := fedScriptUptoRow.holds Tryz.pinned (OpenSpec.upto fedScriptSpec)

/-- 'pacelinelaw17.FedKinds', WHERE WHAT IT READS IS OF BULK AT MOST 1048576: true; the input reads as it did. -/
def fedKindsUptoRow : OpenClaim := { program := "ytncgbaokgniphaagreat", sum := "062951f9d9b84a2555f60a73fd8230495c9b531177923e328092d25cbc329201", func := "paceline/pacelinelaw17.FedKinds", spec := "fedKinds", unfollowed := true, recurses := true, plainKeys := false, apart := false, narrowed := true }
def FedKindsUptoSaid : Prop := fedKindsUptoRow.holds Tryz.pinned (OpenSpec.upto fedKindsSpec)

/-- 'pacelinelaw17.FedRests', WHERE WHAT IT READS IS OF BULK AT MOST 1048576: true; the input reads as it did. -/
def fedRestsUptoRow : OpenClaim := { program := "ytncgbaokgniphaagreat", sum := "062951f9d9b84a2555f60a73fd8230495c9b531177923e328092d25cbc329201", func := "paceline/pacelinelaw17.FedRests", spec := "fedRests", unfollowed := true, recurses := true, plainKeys := false, apart := false, narrowed := true }
def FedRestsUptoSaid : Prop := fedRestsUptoRow.holds Tryz.pinned (OpenSpec.upto fedRestsSpec)

/-- 'pacelinelaw17.FedRoom', WHERE WHAT IT READS IS OF BULK AT MOST 1048576: true; the input reads as it did. -/
def fedRoomUptoRow : OpenClaim := { program := "ytncgbaokgniphaagreat", sum := "062951f9d9b84a2555f60a73fd8230495c9b531177923e328092d25cbc329201", func := "paceline/pacelinelaw17.FedRoom", spec := "fedRoom", unfollowed := true, recurses := true, plainKeys := false, apart := false, narrowed := true }
def FedRoomUptoSaid : Prop := fedRoomUptoRow.holds Tryz.pinned (OpenSpec.upto fedRoomSpec)

/-- 'pacelinelaw17.FedPrefix', WHERE WHAT IT READS IS OF BULK AT MOST 1048576: true; the input reads as it did. -/
def fedPrefixUptoRow : OpenClaim := { program := "ytncgbaokgniphaagreat", sum := "062951f9d9b84a2555f60a73fd8230495c9b531177923e328092d25cbc329201", func := "paceline/pacelinelaw17.FedPrefix", spec := "fedPrefix", unfollowed := true, recurses := true, plainKeys := false, apart := false, narrowed := true }
def FedPrefixUptoSaid : Prop := fedPrefixUptoRow.holds Tryz.pinned (OpenSpec.upto fedPrefixSpec)

/-- 'pacelinelaw17.FedWhole', WHERE WHAT IT READS IS OF BULK AT MOST 1048576: true; the input reads as it did. -/
def fedWholeUptoRow : OpenClaim := { program := "ytncgbaokgniphaagreat", sum := "062951f9d9b84a2555f60a73fd8230495c9b531177923e328092d25cbc329201", func := "paceline/pacelinelaw17.FedWhole", spec := "fedWhole", unfollowed := true, recurses := true, plainKeys := false, apart := false, narrowed := true }
def FedWholeUptoSaid : Prop := fedWholeUptoRow.holds Tryz.pinned (OpenSpec.upto fedWholeSpec)

end Rows
end Go.Proofs.YtncgbaokgniphaaGreat
