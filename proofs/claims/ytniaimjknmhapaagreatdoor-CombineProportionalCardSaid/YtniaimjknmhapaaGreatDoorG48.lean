/- My texts RowProp. -/
import Derived.Test.YtniaimjknmhapaaGreatDoorRows
import Derived.ProofKit
set_option linter.unusedVariables false
set_option linter.unusedSimpArgs false
set_option maxRecDepth 100000
set_option maxHeartbeats 16000000
namespace Go.Proofs.YtniaimjknmhapaaGreatDoor.combineProportional
open Go.ChangeShapes Go.WideShapes Go.ChangeAt Go.RowKit
theorem j0:(Rows.combineProportionalRow.wf (OpenSpec.ofChange Rows.combineProportionalSpec))=true:=by kernel_rfl
theorem j1:(laidOutB Tryz.prog)=true:=by kernel_rfl
theorem j2:(mapsRowed Tryz.prog)=true:=by kernel_rfl
theorem j3:(Tryz.f5.params.all (Tryz.prog.readableRec ·))=true:=by kernel_rfl
theorem j4:(namedTie Tryz.prog Rows.combineProportionalRow.named Rows.combineProportionalSpec.vars)=true:=by kernel_rfl
theorem j5:((Rows.combineProportionalRow.stops==[]))=true:=by kernel_rfl
theorem j6:((Tryz.prog.stops==[]))=true:=by kernel_rfl
theorem j7:((Rows.combineProportionalRow.knobs==[]))=true:=by kernel_rfl
theorem j8:((Tryz.prog.stopKnobs==[]))=true:=by kernel_rfl
theorem j9:((Rows.combineProportionalRow.inPlace==Tryz.prog.inPlace 5))=true:=by kernel_rfl
theorem j10:((Rows.combineProportionalRow.unfollowed==Tryz.prog.unfollowed 5))=true:=by kernel_rfl
theorem j11:((Rows.combineProportionalRow.recurses==Tryz.prog.recurses 5))=true:=by kernel_rfl
theorem j12:((Rows.combineProportionalRow.named==Tryz.prog.varsNamed 5))=true:=by kernel_rfl
theorem j13:((Rows.combineProportionalRow.maps==(Tryz.f5.params.toList++Rows.combineProportionalSpec.plain.varTypes Tryz.prog).any (Tryz.prog.mapsRec ·)))=true:=by kernel_rfl
theorem j14:((Rows.combineProportionalRow.ifaces==(Tryz.f5.params.toList++Rows.combineProportionalSpec.plain.varTypes Tryz.prog).any (Tryz.prog.ifacesRec ·)))=true:=by kernel_rfl
theorem j15:((Rows.combineProportionalRow.mapsOut==Tryz.prog.mapsAmong Tryz.f5.resultTypes.toList))=true:=by kernel_rfl
theorem j16:((Rows.combineProportionalRow.loops==(Tryz.f5.params.toList++Rows.combineProportionalSpec.plain.varTypes Tryz.prog).any (Tryz.prog.loopsFrom ·)))=true:=by kernel_rfl
theorem j17:((Rows.combineProportionalRow.wideKeys==(Tryz.f5.params.toList++Rows.combineProportionalSpec.plain.varTypes Tryz.prog++Tryz.f5.resultTypes.toList).any (Tryz.prog.wideKeysFrom ·)))=true:=by kernel_rfl
theorem j18:(Rows.combineProportionalSpec.vars.all (Tryz.prog.varReadable ·))=true:=by kernel_rfl
theorem j19:(Tryz.f5.resultTypes.all (fun t=>Tryz.prog.readableRec t&&decide (t<Tryz.prog.types.size)))=true:=by kernel_rfl
theorem j20:((Rows.combineProportionalRow.ifacesOut==Tryz.f5.resultTypes.toList.any (Tryz.prog.ifacesRec ·)))=true:=by kernel_rfl
theorem j21:((Rows.combineProportionalRow.loopsOut==Tryz.f5.resultTypes.toList.any (Tryz.prog.loopsFrom ·)))=true:=by kernel_rfl
theorem j22:((Rows.combineProportionalRow.plainKeys==Tryz.prog.plainKeys))=true:=by kernel_rfl
theorem j23:(Rows.combineProportionalRow.shortTexts.isNone)=true:=by kernel_rfl
theorem j24:(Tryz.prog.stopsHeard)=true:=by kernel_rfl
theorem j25:(Tryz.prog.mayEnter)=true:=by kernel_rfl
theorem j26:((Rows.combineProportionalRow.lifted==Tryz.prog.liftsFinal))=true:=by kernel_rfl
theorem j27:((Tryz.prog.make==some Rows.combineProportionalRow.make))=true:=by kernel_rfl
theorem j28:((Rows.combineProportionalRow.kinds==(if Rows.combineProportionalRow.domain.isEmpty then [] else Tryz.f5.params.toList.map fun t=>match Tryz.prog.underlying t with | some (.int k)=>some k | _=>none)))=true:=by kernel_rfl
theorem j29:((Rows.combineProportionalRow.pinned==Rows.combineProportionalRow.pinnedBy))=true:=by kernel_rfl
theorem j30:((Rows.combineProportionalRow.veiled==(Tryz.f5.params.toList++Rows.combineProportionalSpec.plain.varTypes Tryz.prog++Tryz.f5.resultTypes.toList).any (Tryz.prog.veiledRec ·)))=true:=by kernel_rfl
theorem j31:(Rows.combineProportionalRow.veiledFits Tryz.prog Tryz.f5.params.toList (Tryz.f5.params.toList++Rows.combineProportionalSpec.plain.varTypes Tryz.prog++Tryz.f5.resultTypes.toList))=true:=by kernel_rfl
end Go.Proofs.YtniaimjknmhapaaGreatDoor.combineProportional
