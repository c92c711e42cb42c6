/- My texts RowFull. -/
import Derived.Test.YtniaimjknmhapaaGreatDoorRows
import Derived.ProofKit
set_option linter.unusedVariables false
set_option linter.unusedSimpArgs false
set_option maxRecDepth 100000
set_option maxHeartbeats 16000000
namespace Go.Proofs.YtniaimjknmhapaaGreatDoor.combineFull
open Go.ChangeShapes Go.WideShapes Go.ChangeAt Go.RowKit
theorem j0:(Rows.combineFullRow.wf (OpenSpec.ofChange Rows.combineFullSpec))=true:=by kernel_rfl
theorem j1:(laidOutB Tryz.prog)=true:=by kernel_rfl
theorem j2:(mapsRowed Tryz.prog)=true:=by kernel_rfl
theorem j3:(Tryz.f4.params.all (Tryz.prog.readableRec ·))=true:=by kernel_rfl
theorem j4:(namedTie Tryz.prog Rows.combineFullRow.named Rows.combineFullSpec.vars)=true:=by kernel_rfl
theorem j5:((Rows.combineFullRow.stops==[]))=true:=by kernel_rfl
theorem j6:((Tryz.prog.stops==[]))=true:=by kernel_rfl
theorem j7:((Rows.combineFullRow.knobs==[]))=true:=by kernel_rfl
theorem j8:((Tryz.prog.stopKnobs==[]))=true:=by kernel_rfl
theorem j9:((Rows.combineFullRow.inPlace==Tryz.prog.inPlace 4))=true:=by kernel_rfl
theorem j10:((Rows.combineFullRow.unfollowed==Tryz.prog.unfollowed 4))=true:=by kernel_rfl
theorem j11:((Rows.combineFullRow.recurses==Tryz.prog.recurses 4))=true:=by kernel_rfl
theorem j12:((Rows.combineFullRow.named==Tryz.prog.varsNamed 4))=true:=by kernel_rfl
theorem j13:((Rows.combineFullRow.maps==(Tryz.f4.params.toList++Rows.combineFullSpec.plain.varTypes Tryz.prog).any (Tryz.prog.mapsRec ·)))=true:=by kernel_rfl
theorem j14:((Rows.combineFullRow.ifaces==(Tryz.f4.params.toList++Rows.combineFullSpec.plain.varTypes Tryz.prog).any (Tryz.prog.ifacesRec ·)))=true:=by kernel_rfl
theorem j15:((Rows.combineFullRow.mapsOut==Tryz.prog.mapsAmong Tryz.f4.resultTypes.toList))=true:=by kernel_rfl
theorem j16:((Rows.combineFullRow.loops==(Tryz.f4.params.toList++Rows.combineFullSpec.plain.varTypes Tryz.prog).any (Tryz.prog.loopsFrom ·)))=true:=by kernel_rfl
theorem j17:((Rows.combineFullRow.wideKeys==(Tryz.f4.params.toList++Rows.combineFullSpec.plain.varTypes Tryz.prog++Tryz.f4.resultTypes.toList).any (Tryz.prog.wideKeysFrom ·)))=true:=by kernel_rfl
theorem j18:(Rows.combineFullSpec.vars.all (Tryz.prog.varReadable ·))=true:=by kernel_rfl
theorem j19:(Tryz.f4.resultTypes.all (fun t=>Tryz.prog.readableRec t&&decide (t<Tryz.prog.types.size)))=true:=by kernel_rfl
theorem j20:((Rows.combineFullRow.ifacesOut==Tryz.f4.resultTypes.toList.any (Tryz.prog.ifacesRec ·)))=true:=by kernel_rfl
theorem j21:((Rows.combineFullRow.loopsOut==Tryz.f4.resultTypes.toList.any (Tryz.prog.loopsFrom ·)))=true:=by kernel_rfl
theorem j22:((Rows.combineFullRow.plainKeys==Tryz.prog.plainKeys))=true:=by kernel_rfl
theorem j23:(Rows.combineFullRow.shortTexts.isNone)=true:=by kernel_rfl
theorem j24:(Tryz.prog.stopsHeard)=true:=by kernel_rfl
theorem j25:(Tryz.prog.mayEnter)=true:=by kernel_rfl
theorem j26:((Rows.combineFullRow.lifted==Tryz.prog.liftsFinal))=true:=by kernel_rfl
theorem j27:((Tryz.prog.make==some Rows.combineFullRow.make))=true:=by kernel_rfl
theorem j28:((Rows.combineFullRow.kinds==(if Rows.combineFullRow.domain.isEmpty then [] else Tryz.f4.params.toList.map fun t=>match Tryz.prog.underlying t with | some (.int k)=>some k | _=>none)))=true:=by kernel_rfl
theorem j29:((Rows.combineFullRow.pinned==Rows.combineFullRow.pinnedBy))=true:=by kernel_rfl
theorem j30:((Rows.combineFullRow.veiled==(Tryz.f4.params.toList++Rows.combineFullSpec.plain.varTypes Tryz.prog++Tryz.f4.resultTypes.toList).any (Tryz.prog.veiledRec ·)))=true:=by kernel_rfl
theorem j31:(Rows.combineFullRow.veiledFits Tryz.prog Tryz.f4.params.toList (Tryz.f4.params.toList++Rows.combineFullSpec.plain.varTypes Tryz.prog++Tryz.f4.resultTypes.toList))=true:=by kernel_rfl
end Go.Proofs.YtniaimjknmhapaaGreatDoor.combineFull
