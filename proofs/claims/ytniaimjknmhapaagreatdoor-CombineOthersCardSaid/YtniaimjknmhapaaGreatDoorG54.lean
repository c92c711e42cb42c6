/- My texts CardOth. -/
import Derived.Test.YtniaimjknmhapaaGreatDoorRows
import Derived.Test.YtniaimjknmhapaaGreatDoorCards
import Derived.ProofKit
import Derived.SevenTiedAt
set_option linter.unusedVariables false
set_option linter.unusedSimpArgs false
set_option maxRecDepth 100000
set_option maxHeartbeats 16000000
namespace Go.Proofs.YtniaimjknmhapaaGreatDoor.combineOthers
open Go.ChangeShapes Go.WideShapes Go.ChangeAt Go.RowKit
theorem f0 : Tryz.prog.funcNamed "tallystone/tallystonelaw37.CombineOthers" = some 6 := by kernel_rfl
theorem f1:Rows.combineOthersRow.wfByText (OpenSpec.ofChange Rows.combineOthersSpec)=true:=by kernel_rfl
theorem f2 : Tryz.prog.mainIs = some (true, "8f75df818fb74e2a082e7b0d7ba79dc99f1621682f6139f294eefa4f14631853".toList) := by kernel_rfl
theorem f3:false=Tryz.prog.looks []:=by kernel_rfl
theorem f4:([36,3,3].all fun u=>!Tryz.prog.wantsStandIn u)=true:=by kernel_rfl
theorem f5:false=Rows.combineOthersRow.goesBy Tryz.prog:=by kernel_rfl
end Go.Proofs.YtniaimjknmhapaaGreatDoor.combineOthers
