/- Lemmas. -/
import Derived.Test.YtbhdekahdnenjaaGreatDoorRows
import Derived.ProofKit
set_option linter.unusedVariables false
set_option linter.unusedSimpArgs false
set_option maxRecDepth 100000
set_option maxHeartbeats 16000000
namespace Go.Proofs.YtbhdekahdnenjaaGreatDoor.combineOrder
open Go.ChangeShapes Go.WideShapes Go.ChangeAt Go.RowKit
theorem j0:(Rows.combineOrderRow.wf (OpenSpec.ofChange Rows.combineOrderSpec)):=by kernel_rfl
theorem j1:(laidOutB Tryz.prog):=by kernel_rfl
theorem j2:(mapsRowed Tryz.prog):=by kernel_rfl
theorem j3:(Tryz.f3.params.all (Tryz.prog.readableRec ·)):=by kernel_rfl
theorem j4:(namedTie Tryz.prog Rows.combineOrderRow.named Rows.combineOrderSpec.vars):=by kernel_rfl
theorem j5:((Rows.combineOrderRow.stops==[])):=by kernel_rfl
theorem j6:((Tryz.prog.stops==[])):=by kernel_rfl
theorem j7:((Rows.combineOrderRow.knobs==[])):=by kernel_rfl
theorem j8:((Tryz.prog.stopKnobs==[])):=by kernel_rfl
theorem j9:((Rows.combineOrderRow.inPlace==Tryz.prog.inPlace 3)):=by kernel_rfl
theorem j10:((Rows.combineOrderRow.unfollowed==Tryz.prog.unfollowed 3)):=by kernel_rfl
theorem j11:((Rows.combineOrderRow.recurses==Tryz.prog.recurses 3)):=by kernel_rfl
theorem j12:((Rows.combineOrderRow.named==Tryz.prog.varsNamed 3)):=by kernel_rfl
theorem j13:((Rows.combineOrderRow.maps==(Tryz.f3.params.toList++Rows.combineOrderSpec.plain.varTypes Tryz.prog).any (Tryz.prog.mapsRec ·))):=by kernel_rfl
theorem j14:((Rows.combineOrderRow.ifaces==(Tryz.f3.params.toList++Rows.combineOrderSpec.plain.varTypes Tryz.prog).any (Tryz.prog.ifacesRec ·))):=by kernel_rfl
theorem j15:((Rows.combineOrderRow.mapsOut==Tryz.prog.mapsAmong Tryz.f3.resultTypes.toList)):=by kernel_rfl
theorem j16:((Rows.combineOrderRow.loops==(Tryz.f3.params.toList++Rows.combineOrderSpec.plain.varTypes Tryz.prog).any (Tryz.prog.loopsFrom ·))):=by kernel_rfl
theorem j17:((Rows.combineOrderRow.wideKeys==(Tryz.f3.params.toList++Rows.combineOrderSpec.plain.varTypes Tryz.prog++Tryz.f3.resultTypes.toList).any (Tryz.prog.wideKeysFrom ·))):=by kernel_rfl
theorem j18:(Rows.combineOrderSpec.vars.all (Tryz.prog.varReadable ·)):=by kernel_rfl
theorem j19:(Tryz.f3.resultTypes.all (fun t=>Tryz.prog.readableRec t&&decide (t<Tryz.prog.types.size))):=by kernel_rfl
theorem j20:((Rows.combineOrderRow.ifacesOut==Tryz.f3.resultTypes.toList.any (Tryz.prog.ifacesRec ·))):=by kernel_rfl
theorem j21:((Rows.combineOrderRow.loopsOut==Tryz.f3.resultTypes.toList.any (Tryz.prog.loopsFrom ·))):=by kernel_rfl
theorem j22:((Rows.combineOrderRow.plainKeys==Tryz.prog.plainKeys)):=by kernel_rfl
theorem j23:(Rows.combineOrderRow.shortTexts.isNone):=by kernel_rfl
theorem j24:(Tryz.prog.stopsHeard):=by kernel_rfl
theorem j25:(Tryz.prog.mayEnter):=by kernel_rfl
theorem j26:((Rows.combineOrderRow.lifted==Tryz.prog.liftsFinal)):=by kernel_rfl
theorem j27:((Tryz.prog.make==some Rows.combineOrderRow.make)):=by kernel_rfl
theorem j29:((Rows.combineOrderRow.pinned==Rows.combineOrderRow.pinnedBy)):=by kernel_rfl
theorem j30:((Rows.combineOrderRow.veiled==(Tryz.f3.params.toList++Rows.combineOrderSpec.plain.varTypes Tryz.prog++Tryz.f3.resultTypes.toList).any (Tryz.prog.veiledRec ·))):=by kernel_rfl
theorem j31:(Rows.combineOrderRow.veiledFits Tryz.prog Tryz.f3.params.toList (Tryz.f3.params.toList++Rows.combineOrderSpec.plain.varTypes Tryz.prog++Tryz.f3.resultTypes.toList)):=by kernel_rfl
end Go.Proofs.YtbhdekahdnenjaaGreatDoor.combineOrder
