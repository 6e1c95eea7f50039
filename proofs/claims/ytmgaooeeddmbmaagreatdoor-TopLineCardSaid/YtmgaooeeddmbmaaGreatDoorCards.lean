/-
  DERIVED. GIVEN WITH THE SEED: THE CARDS: each row of YtmgaooeeddmbmaaGreatDoorRows.lean that lists a variable, with what it lists TIED to the program's text (the seventh form; the later family's looks); each row that meets fmt, with fmt's text TOLD by the authors' own Lean function (tested against real Go, not proved from fmt's source: count such statements apart). THE CARD IS WHAT COUNTS. Prove the row's statement (the work); the ties are given (YtmgaooeeddmbmaaGreatDoorTie.lean); close each card by the builder's one call (the guide's Derived/Test/ToyasCard.lean, 'card_holds'). Laid BY PROGRAM, IN A SANDBOX (cutbox-door.mjs). By AI agents, Wed Nov 11 2026. No macro, syntax, notation, axiom, sorry.
-/
import Derived.Test.YtmgaooeeddmbmaaGreatDoorRows
import GoSem.ClaimSeven
namespace Go.Proofs.YtmgaooeeddmbmaaGreatDoor
namespace Rows

/-- THE TIED CARD OF 'pacelinetop.TopLine'. -/
def topLineCard : Claim7 := { stood := { row := topLineRow, standIns := [], harness := (true, "742241c0c1e322d9c22f179623f171710c33befbe64f77847ebbe19d1b82b217"), looks := true }, kinds := [], alts := [], laidByText := true, laidKinds := [.handle], laidTests := true, laidLooks := .later }
def TopLineCardSaid : Prop := Claim7.holds Tryz.pinned (.plain (OpenSpec.ofChange topLineSpec)) topLineCard

/-- THE SECOND FORM's CARD OF 'pacelinetop.TopLine'. -/
def topLineUptoCard : Claim7 := { stood := { row := topLineUptoRow, standIns := [], harness := (true, "742241c0c1e322d9c22f179623f171710c33befbe64f77847ebbe19d1b82b217"), looks := true }, kinds := [], alts := [], laidByText := true, laidKinds := [.handle], laidTests := true, laidLooks := .later }
def TopLineUptoCardSaid : Prop := Claim7.holds Tryz.pinned (.plain (OpenSpec.upto topLineSpec)) topLineUptoCard
end Rows
end Go.Proofs.YtmgaooeeddmbmaaGreatDoor
