/-
  DERIVED. GIVEN WITH THE SEED: THE CARDS: each row of YtalfikdjclineaaGreatDoorRows.lean that lists a variable, with what it lists TIED to the program's text (the seventh form; the later family's looks); each row that meets fmt, with fmt's text TOLD by the authors' own Lean function (tested against real Go, not proved from fmt's source: count such statements apart). THE CARD IS WHAT COUNTS. Prove the row's statement (the work); the ties are given (YtalfikdjclineaaGreatDoorTie.lean); close each card by the builder's one call (the guide's Derived/Test/ToyasCard.lean, 'card_holds'). Laid BY PROGRAM, IN A SANDBOX (cutbox-door.mjs). By AI agents, Wed Nov 11 2026. No macro, syntax, notation, axiom, sorry.
-/
import Derived.Test.YtalfikdjclineaaGreatDoorRows
import GoSem.ClaimSeven
namespace Go.Proofs.YtalfikdjclineaaGreatDoor
namespace Rows

/-- THE TIED CARD OF 'tallystonelaw17.QuoteCross'. -/
def quoteCrossCard : Claim7 := { stood := { row := quoteCrossRow, standIns := [], harness := (true, "15d6e6e748493b5ff6ed3c1c4abc82b3d411c85b8550687e82279b6b0598ebb5"), looks := false }, kinds := [], alts := [], laidByText := true, laidKinds := [.data, .data, .data], laidTests := true, laidLooks := .later }
def QuoteCrossCardSaid : Prop := Claim7.holds Tryz.pinned (.plain (OpenSpec.ofChange quoteCrossSpec)) quoteCrossCard

/-- THE TIED CARD OF 'tallystonelaw17.QuoteChains'. -/
def quoteChainsCard : Claim7 := { stood := { row := quoteChainsRow, standIns := [], harness := (true, "15d6e6e748493b5ff6ed3c1c4abc82b3d411c85b8550687e82279b6b0598ebb5"), looks := false }, kinds := [], alts := [], laidByText := true, laidKinds := [.data, .data, .data], laidTests := true, laidLooks := .later }
def QuoteChainsCardSaid : Prop := Claim7.holds Tryz.pinned (.plain (OpenSpec.ofChange quoteChainsSpec)) quoteChainsCard

/-- THE SECOND FORM's CARD OF 'tallystonelaw17.QuoteCross'. -/
def quoteCrossUptoCard : Claim7 := { stood := { row := quoteCrossUptoRow, standIns := [], harness := (true, "15d6e6e748493b5ff6ed3c1c4abc82b3d411c85b8550687e82279b6b0598ebb5"), looks := false }, kinds := [], alts := [], laidByText := true, laidKinds := [.data, .data, .data], laidTests := true, laidLooks := .later }
def QuoteCrossUptoCardSaid : Prop := Claim7.holds Tryz.pinned (.plain (OpenSpec.upto quoteCrossSpec)) quoteCrossUptoCard

/-- THE SECOND FORM's CARD OF 'tallystonelaw17.QuoteChains'. -/
def quoteChainsUptoCard : Claim7 := { stood := { row := quoteChainsUptoRow, standIns := [], harness := (true, "15d6e6e748493b5ff6ed3c1c4abc82b3d411c85b8550687e82279b6b0598ebb5"), looks := false }, kinds := [], alts := [], laidByText := true, laidKinds := [.data, .data, .data], laidTests := true, laidLooks := .later }
def QuoteChainsUptoCardSaid : Prop := Claim7.holds Tryz.pinned (.plain (OpenSpec.upto quoteChainsSpec)) quoteChainsUptoCard
end Rows
end Go.Proofs.YtalfikdjclineaaGreatDoor
