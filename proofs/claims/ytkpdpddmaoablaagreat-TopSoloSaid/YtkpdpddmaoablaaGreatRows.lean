/-
  No cell of these rows narrows 'for every input' (looked for: loops, veiled, ifaces, maps, wideKeys, modest, calm, conditions, laid).
  DERIVED. THE GIVEN ROWS OF THIS SEAT. 3 by the template 'for every input the law returns true; each argument reads behind the call as it read before'; 0 by the template 'total and deterministic' (their statements: YtkpdpddmaoablaaGreatTotals.lean).
  GIVEN WITH THE SEED: the statements are not yours to turn. If you find one false, say at which input.
  Laid BY PROGRAM, IN A SANDBOX (cutbox-rows.mjs): the forced cells as the released guide's own fill.sh prints them over the translation 104ad6d1b32da281… (all of the seat's roots in one cut). By AI agents, Wed Nov 11 2026. No macro, syntax, notation, axiom, sorry.
-/
import Derived.Test.YtkpdpddmaoablaaGreatChecked
import GoSem.Claim
import GoSem.ClaimJoined
import GoSem.ClaimMapViews
import Derived.JoinedTies
import Derived.KernelRfl
namespace Go.Proofs.YtkpdpddmaoablaaGreat
/- THE CELL 'sum', in the pinned program and in every row, IS THE sha256 OF THE DUMP (.gsa) THAT YtkpdpddmaoablaaGreatProg.lean LOADS. Nothing in Lean hashes anything: it is a label: what it is worth is what the hold of that sum in a sandbox is worth. -/
noncomputable def Tryz.pinned : Pinned := { name := "ytkpdpddmaoablaagreat", sum := "104ad6d1b32da28144c912c2b8892632b971d31a1170a60d0b8155c6a330e3f7", checked := Tryz.checked }
namespace Rows
def none {H : Type} : Left H := { results := [], args := [] }

/-- 'pacelinetop.TopRing': WHATEVER THE INPUT: true; the input reads as it did. -/
def topRingSpec : ChangeSpec := { name := "topRing", fn := fun _ => fun
  | [d1, d2, d3] => { results := [.lit (.bool true)], args := [d1, d2, d3] }
  | _ => none }
def topRingRow : OpenClaim := { program := "ytkpdpddmaoablaagreat", sum := "104ad6d1b32da28144c912c2b8892632b971d31a1170a60d0b8155c6a330e3f7", func := "paceline/pacelinetop.TopRing", spec := "topRing", unfollowed := true, recurses := true, plainKeys := false, apart := false }
def TopRingSaid : Prop := topRingRow.holds Tryz.pinned (OpenSpec.ofChange topRingSpec)

/-- ITS FALSE NEIGHBOUR: 'it returns false'. Refute it at one input. -/
def topRingWrong : ChangeSpec := { name := "topRing", fn := fun _ => fun
  | [d1, d2, d3] => { results := [.lit (.bool false)], args := [d1, d2, d3] }
  | _ => none }
def TopRingWrongFalsely : Prop := topRingRow.holds Tryz.pinned (OpenSpec.ofChange topRingWrong)

/-- 'pacelinetop.TopKinds': WHATEVER THE INPUT: true; the input reads as it did. -/
def topKindsSpec : ChangeSpec := { name := "topKinds", fn := fun _ => fun
  | [d1, d2, d3, d4, d5] => { results := [.lit (.bool true)], args := [d1, d2, d3, d4, d5] }
  | _ => none }
def topKindsRow : OpenClaim := { program := "ytkpdpddmaoablaagreat", sum := "104ad6d1b32da28144c912c2b8892632b971d31a1170a60d0b8155c6a330e3f7", func := "paceline/pacelinetop.TopKinds", spec := "topKinds", unfollowed := true, recurses := true, plainKeys := false, apart := false }
def TopKindsSaid : Prop := topKindsRow.holds Tryz.pinned (OpenSpec.ofChange topKindsSpec)

/-- ITS FALSE NEIGHBOUR: 'it returns false'. Refute it at one input. -/
def topKindsWrong : ChangeSpec := { name := "topKinds", fn := fun _ => fun
  | [d1, d2, d3, d4, d5] => { results := [.lit (.bool false)], args := [d1, d2, d3, d4, d5] }
  | _ => none }
def TopKindsWrongFalsely : Prop := topKindsRow.holds Tryz.pinned (OpenSpec.ofChange topKindsWrong)

/-- 'pacelinetop.TopSolo': WHATEVER THE INPUT: true; the input reads as it did. -/
def topSoloSpec : ChangeSpec := { name := "topSolo", fn := fun _ => fun
  | [d1, d2, d3] => { results := [.lit (.bool true)], args := [d1, d2, d3] }
  | _ => none }
def topSoloRow : OpenClaim := { program := "ytkpdpddmaoablaagreat", sum := "104ad6d1b32da28144c912c2b8892632b971d31a1170a60d0b8155c6a330e3f7", func := "paceline/pacelinetop.TopSolo", spec := "topSolo", unfollowed := true, recurses := true, plainKeys := false, apart := false }
def TopSoloSaid : Prop := topSoloRow.holds Tryz.pinned (OpenSpec.ofChange topSoloSpec)

/-- ITS FALSE NEIGHBOUR: 'it returns false'. Refute it at one input. -/
def topSoloWrong : ChangeSpec := { name := "topSolo", fn := fun _ => fun
  | [d1, d2, d3] => { results := [.lit (.bool false)], args := [d1, d2, d3] }
  | _ => none }
def TopSoloWrongFalsely : Prop := topSoloRow.holds Tryz.pinned (OpenSpec.ofChange topSoloWrong)

/- THE SECOND FORM. 'bulk': how many values and letters a reading holds, each counted each time it is reached (what is shared counts as often as it is met; a slice's spare places count too). A statement '..UptoSaid' is the law's where the arguments, and the package variables that the reading takes, are together of bulk at most 1048576: NARROWER than '..Said'. Prove '..Said' where nothing that the law and all that it calls make is longer than what came in: it says more and counts as full. Else prove '..UptoSaid'. A law counts once. -/
mutual
def uptoBulk {H : Type} : DataW H → Nat
  | .lit (.string bytes) => bytes.length + 1
  | .lit _ => 1
  | .nil => 1
  | .ptr d => uptoBulk d + 1
  | .slice elems spare => uptoBulkAll elems + uptoBulkAll spare + 1
  | .agg parts => uptoBulkAll parts + 1
  | .iface _ d => uptoBulk d + 1
  | .map entries => uptoBulkEntries entries + 1
  | .held _ => 1
def uptoBulkAll {H : Type} : List (DataW H) → Nat
  | [] => 0
  | d :: r => uptoBulk d + uptoBulkAll r
def uptoBulkEntries {H : Type} : List (Lit × DataW H) → Nat
  | [] => 0
  | x :: r => uptoBulkEntry x + uptoBulkEntries r
def uptoBulkEntry {H : Type} : Lit × DataW H → Nat
  | (.string bytes, d) => bytes.length + uptoBulk d + 1
  | (_, d) => uptoBulk d + 1
 end
def uptoSmall : (H : Type) → List (DataW H) → Bool := fun _ ds => decide (uptoBulkAll ds ≤ 1048576)
def OpenSpec.upto (s : _root_.Go.ChangeSpec) : _root_.Go.OpenSpec := { _root_.Go.OpenSpec.ofChange s with cond := some uptoSmall }

/-- 'pacelinetop.TopRing', WHERE WHAT IT READS IS OF BULK AT MOST 1048576: true; the input reads as it did. -/
def topRingUptoRow : OpenClaim := { program := "ytkpdpddmaoablaagreat", sum := "104ad6d1b32da28144c912c2b8892632b971d31a1170a60d0b8155c6a330e3f7", func := "paceline/pacelinetop.TopRing", spec := "topRing", unfollowed := true, recurses := true, plainKeys := false, apart := false, narrowed := true }
def TopRingUptoSaid : Prop := topRingUptoRow.holds Tryz.pinned (OpenSpec.upto topRingSpec)

/-- 'pacelinetop.TopKinds', WHERE WHAT IT READS IS OF BULK AT MOST 1048576: true; the input reads as it did. -/
def topKindsUptoRow : OpenClaim := { program := "ytkpdpddmaoablaagreat", sum := "104ad6d1b32da28144c912c2b8892632b971d31a1170a60d0b8155c6a330e3f7", func := "paceline/pacelinetop.TopKinds", spec := "topKinds", unfollowed := true, recurses := true, plainKeys := false, apart := false, narrowed := true }
def TopKindsUptoSaid : Prop := topKindsUptoRow.holds Tryz.pinned (OpenSpec.upto topKindsSpec)

/-- 'pacelinetop.TopSolo', WHERE WHAT IT READS IS OF BULK AT MOST 1048576: true; the input reads as it did. -/
def topSoloUptoRow : OpenClaim := { program := "ytkpdpddmaoablaagreat", sum := "104ad6d1b32da28144c912c2b8892632b971d31a1170a60d0b8155c6a330e3f7", func := "paceline/pacelinetop.TopSolo", spec := "topSolo", unfollowed := true, recurses := true, plainKeys := false, apart := false, narrowed := true }
def TopSoloUptoSaid : Prop := topSoloUptoRow.holds Tryz.pinned (OpenSpec.upto topSoloSpec)

end Rows
end Go.Proofs.YtkpdpddmaoablaaGreat
