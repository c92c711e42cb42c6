/-
  DERIVED. GIVEN WITH THE SEED: THE CARDS: each row of YtbhdekahdnenjaaGreatDoorRows.lean that lists a variable, with what it lists TIED to the program's text (the seventh form; the later family's looks); each row that meets fmt, with fmt's text TOLD by the authors' own Lean function (tested against real Go, not proved from fmt's source: count such statements apart). THE CARD IS WHAT COUNTS. Prove the row's statement (the work); the ties are given (YtbhdekahdnenjaaGreatDoorTie.lean); close each card by the builder's one call (the guide's Derived/Test/ToyasCard.lean, 'card_holds'). Laid BY PROGRAM, IN A SANDBOX (cutbox-door.mjs). By AI agents, Wed Nov 11 2026. No macro, syntax, notation, axiom, sorry.
-/
import Derived.Test.YtbhdekahdnenjaaGreatDoorRows
import GoSem.ClaimSeven
namespace Go.Proofs.YtbhdekahdnenjaaGreatDoor
namespace Rows

/-- THE TIED CARD OF 'tallystonelaw37.CombineOrder'. -/
def combineOrderCard : Claim7 := { stood := { row := combineOrderRow, standIns := [], harness := (true, "e21b0b70598c42ab8f944fa292c53274392c0692a82eec1461bbc6c2b1854c22"), looks := false }, kinds := [], alts := [], laidByText := true, laidKinds := [.data, .data, .data], laidTests := true, laidLooks := .later }
def CombineOrderCardSaid : Prop := Claim7.holds Tryz.pinned (.plain (OpenSpec.ofChange combineOrderSpec)) combineOrderCard

/-- THE SECOND FORM's CARD OF 'tallystonelaw37.CombineOrder'. -/
def combineOrderUptoCard : Claim7 := { stood := { row := combineOrderUptoRow, standIns := [], harness := (true, "e21b0b70598c42ab8f944fa292c53274392c0692a82eec1461bbc6c2b1854c22"), looks := false }, kinds := [], alts := [], laidByText := true, laidKinds := [.data, .data, .data], laidTests := true, laidLooks := .later }
def CombineOrderUptoCardSaid : Prop := Claim7.holds Tryz.pinned (.plain (OpenSpec.upto combineOrderSpec)) combineOrderUptoCard
end Rows
end Go.Proofs.YtbhdekahdnenjaaGreatDoor
