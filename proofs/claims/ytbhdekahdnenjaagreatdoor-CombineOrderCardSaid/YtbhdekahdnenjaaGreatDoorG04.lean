/- Lemmas. -/
import Derived.Test.YtbhdekahdnenjaaGreatDoorRows
import Derived.Test.YtbhdekahdnenjaaGreatDoorCards
import Derived.ProofKit
import Derived.SevenTiedAt
set_option linter.unusedVariables false
set_option linter.unusedSimpArgs false
set_option maxRecDepth 100000
set_option maxHeartbeats 16000000
namespace Go.Proofs.YtbhdekahdnenjaaGreatDoor.combineOrder
open Go.ChangeShapes Go.WideShapes Go.ChangeAt Go.RowKit
theorem f0 : Tryz.prog.funcNamed "tallystone/tallystonelaw37.CombineOrder" = some 3 := by kernel_rfl
theorem f1:Rows.combineOrderRow.wfByText (OpenSpec.ofChange Rows.combineOrderSpec):=by kernel_rfl
theorem f2 : Tryz.prog.mainIs = some (true, "e21b0b70598c42ab8f944fa292c53274392c0692a82eec1461bbc6c2b1854c22".toList) := by kernel_rfl
theorem f3:false=Tryz.prog.looks []:=by kernel_rfl
theorem f4:([36,37,5].all fun u=>!Tryz.prog.wantsStandIn u):=by kernel_rfl
theorem f5:false=Rows.combineOrderRow.goesBy Tryz.prog:=by kernel_rfl
end Go.Proofs.YtbhdekahdnenjaaGreatDoor.combineOrder
