/-
  DERIVED. GIVEN WITH THE SEED: THE CARDS: each row of YtniaimjknmhapaaGreatDoorRows.lean that lists a variable, with what it lists TIED to the program's text (the seventh form; the later family's looks); each row that meets fmt, with fmt's text TOLD by the authors' own Lean function (tested against real Go, not proved from fmt's source: count such statements apart). THE CARD IS WHAT COUNTS. Prove the row's statement (the work); the ties are given (YtniaimjknmhapaaGreatDoorTie.lean); close each card by the builder's one call (the guide's Derived/Test/ToyasCard.lean, 'card_holds'). Laid BY PROGRAM, IN A SANDBOX (cutbox-door.mjs). By AI agents, Wed Nov 11 2026. No macro, syntax, notation, axiom, sorry.
-/
import Derived.Test.YtniaimjknmhapaaGreatDoorRows
import GoSem.ClaimSeven
namespace Go.Proofs.YtniaimjknmhapaaGreatDoor
namespace Rows

/-- THE TIED CARD OF 'tallystonelaw37.CombineParent'. -/
def combineParentCard : Claim7 := { stood := { row := combineParentRow, standIns := [], harness := (true, "8f75df818fb74e2a082e7b0d7ba79dc99f1621682f6139f294eefa4f14631853"), looks := false }, kinds := [], alts := [], laidByText := true, laidKinds := [.data, .data, .data], laidTests := true, laidLooks := .later }
def CombineParentCardSaid : Prop := Claim7.holds Tryz.pinned (.plain (OpenSpec.ofChange combineParentSpec)) combineParentCard

/-- THE TIED CARD OF 'tallystonelaw37.CombineFull'. -/
def combineFullCard : Claim7 := { stood := { row := combineFullRow, standIns := [], harness := (true, "8f75df818fb74e2a082e7b0d7ba79dc99f1621682f6139f294eefa4f14631853"), looks := false }, kinds := [], alts := [], laidByText := true, laidKinds := [.data, .data, .data], laidTests := true, laidLooks := .later }
def CombineFullCardSaid : Prop := Claim7.holds Tryz.pinned (.plain (OpenSpec.ofChange combineFullSpec)) combineFullCard

/-- THE TIED CARD OF 'tallystonelaw37.CombineProportional'. -/
def combineProportionalCard : Claim7 := { stood := { row := combineProportionalRow, standIns := [], harness := (true, "8f75df818fb74e2a082e7b0d7ba79dc99f1621682f6139f294eefa4f14631853"), looks := false }, kinds := [], alts := [], laidByText := true, laidKinds := [.data, .data, .data], laidTests := true, laidLooks := .later }
def CombineProportionalCardSaid : Prop := Claim7.holds Tryz.pinned (.plain (OpenSpec.ofChange combineProportionalSpec)) combineProportionalCard

/-- THE TIED CARD OF 'tallystonelaw37.CombineOthers'. -/
def combineOthersCard : Claim7 := { stood := { row := combineOthersRow, standIns := [], harness := (true, "8f75df818fb74e2a082e7b0d7ba79dc99f1621682f6139f294eefa4f14631853"), looks := false }, kinds := [], alts := [], laidByText := true, laidKinds := [.data, .data, .data], laidTests := true, laidLooks := .later }
def CombineOthersCardSaid : Prop := Claim7.holds Tryz.pinned (.plain (OpenSpec.ofChange combineOthersSpec)) combineOthersCard

/-- THE SECOND FORM's CARD OF 'tallystonelaw37.CombineParent'. -/
def combineParentUptoCard : Claim7 := { stood := { row := combineParentUptoRow, standIns := [], harness := (true, "8f75df818fb74e2a082e7b0d7ba79dc99f1621682f6139f294eefa4f14631853"), looks := false }, kinds := [], alts := [], laidByText := true, laidKinds := [.data, .data, .data], laidTests := true, laidLooks := .later }
def CombineParentUptoCardSaid : Prop := Claim7.holds Tryz.pinned (.plain (OpenSpec.upto combineParentSpec)) combineParentUptoCard

/-- THE SECOND FORM's CARD OF 'tallystonelaw37.CombineFull'. -/
def combineFullUptoCard : Claim7 := { stood := { row := combineFullUptoRow, standIns := [], harness := (true, "8f75df818fb74e2a082e7b0d7ba79dc99f1621682f6139f294eefa4f14631853"), looks := false }, kinds := [], alts := [], laidByText := true, laidKinds := [.data, .data, .data], laidTests := true, laidLooks := .later }
def CombineFullUptoCardSaid : Prop := Claim7.holds Tryz.pinned (.plain (OpenSpec.upto combineFullSpec)) combineFullUptoCard

/-- THE SECOND FORM's CARD OF 'tallystonelaw37.CombineProportional'. -/
def combineProportionalUptoCard : Claim7 := { stood := { row := combineProportionalUptoRow, standIns := [], harness := (true, "8f75df818fb74e2a082e7b0d7ba79dc99f1621682f6139f294eefa4f14631853"), looks := false }, kinds := [], alts := [], laidByText := true, laidKinds := [.data, .data, .data], laidTests := true, laidLooks := .later }
def CombineProportionalUptoCardSaid : Prop := Claim7.holds Tryz.pinned (.plain (OpenSpec.upto combineProportionalSpec)) combineProportionalUptoCard

/-- THE SECOND FORM's CARD OF 'tallystonelaw37.CombineOthers'. -/
def combineOthersUptoCard : Claim7 := { stood := { row := combineOthersUptoRow, standIns := [], harness := (true, "8f75df818fb74e2a082e7b0d7ba79dc99f1621682f6139f294eefa4f14631853"), looks := false }, kinds := [], alts := [], laidByText := true, laidKinds := [.data, .data, .data], laidTests := true, laidLooks := .later }
def CombineOthersUptoCardSaid : Prop := Claim7.holds Tryz.pinned (.plain (OpenSpec.upto combineOthersSpec)) combineOthersUptoCard
end Rows
end Go.Proofs.YtniaimjknmhapaaGreatDoor
