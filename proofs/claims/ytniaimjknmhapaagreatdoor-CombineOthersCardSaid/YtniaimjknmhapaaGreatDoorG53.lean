/- My texts RowOth. -/
import Derived.Test.YtniaimjknmhapaaGreatDoorRows
import Derived.ProofKit
set_option linter.unusedVariables false
set_option linter.unusedSimpArgs false
set_option maxRecDepth 100000
set_option maxHeartbeats 16000000
namespace Go.Proofs.YtniaimjknmhapaaGreatDoor.combineOthers
open Go.ChangeShapes Go.WideShapes Go.ChangeAt Go.RowKit
theorem j0:(Rows.combineOthersRow.wf (OpenSpec.ofChange Rows.combineOthersSpec))=true:=by kernel_rfl
theorem j1:(laidOutB Tryz.prog)=true:=by kernel_rfl
theorem j2:(mapsRowed Tryz.prog)=true:=by kernel_rfl
theorem j3:(Tryz.f6.params.all (Tryz.prog.readableRec ·))=true:=by kernel_rfl
theorem j4:(namedTie Tryz.prog Rows.combineOthersRow.named Rows.combineOthersSpec.vars)=true:=by kernel_rfl
theorem j5:((Rows.combineOthersRow.stops==[]))=true:=by kernel_rfl
theorem j6:((Tryz.prog.stops==[]))=true:=by kernel_rfl
theorem j7:((Rows.combineOthersRow.knobs==[]))=true:=by kernel_rfl
theorem j8:((Tryz.prog.stopKnobs==[]))=true:=by kernel_rfl
theorem j9:((Rows.combineOthersRow.inPlace==Tryz.prog.inPlace 6))=true:=by kernel_rfl
theorem j10:((Rows.combineOthersRow.unfollowed==Tryz.prog.unfollowed 6))=true:=by kernel_rfl
theorem j11:((Rows.combineOthersRow.recurses==Tryz.prog.recurses 6))=true:=by kernel_rfl
theorem j12:((Rows.combineOthersRow.named==Tryz.prog.varsNamed 6))=true:=by kernel_rfl
theorem j13:((Rows.combineOthersRow.maps==(Tryz.f6.params.toList++Rows.combineOthersSpec.plain.varTypes Tryz.prog).any (Tryz.prog.mapsRec ·)))=true:=by kernel_rfl
theorem j14:((Rows.combineOthersRow.ifaces==(Tryz.f6.params.toList++Rows.combineOthersSpec.plain.varTypes Tryz.prog).any (Tryz.prog.ifacesRec ·)))=true:=by kernel_rfl
theorem j15:((Rows.combineOthersRow.mapsOut==Tryz.prog.mapsAmong Tryz.f6.resultTypes.toList))=true:=by kernel_rfl
theorem j16:((Rows.combineOthersRow.loops==(Tryz.f6.params.toList++Rows.combineOthersSpec.plain.varTypes Tryz.prog).any (Tryz.prog.loopsFrom ·)))=true:=by kernel_rfl
theorem j17:((Rows.combineOthersRow.wideKeys==(Tryz.f6.params.toList++Rows.combineOthersSpec.plain.varTypes Tryz.prog++Tryz.f6.resultTypes.toList).any (Tryz.prog.wideKeysFrom ·)))=true:=by kernel_rfl
theorem j18:(Rows.combineOthersSpec.vars.all (Tryz.prog.varReadable ·))=true:=by kernel_rfl
theorem j19:(Tryz.f6.resultTypes.all (fun t=>Tryz.prog.readableRec t&&decide (t<Tryz.prog.types.size)))=true:=by kernel_rfl
theorem j20:((Rows.combineOthersRow.ifacesOut==Tryz.f6.resultTypes.toList.any (Tryz.prog.ifacesRec ·)))=true:=by kernel_rfl
theorem j21:((Rows.combineOthersRow.loopsOut==Tryz.f6.resultTypes.toList.any (Tryz.prog.loopsFrom ·)))=true:=by kernel_rfl
theorem j22:((Rows.combineOthersRow.plainKeys==Tryz.prog.plainKeys))=true:=by kernel_rfl
theorem j23:(Rows.combineOthersRow.shortTexts.isNone)=true:=by kernel_rfl
theorem j24:(Tryz.prog.stopsHeard)=true:=by kernel_rfl
theorem j25:(Tryz.prog.mayEnter)=true:=by kernel_rfl
theorem j26:((Rows.combineOthersRow.lifted==Tryz.prog.liftsFinal))=true:=by kernel_rfl
theorem j27:((Tryz.prog.make==some Rows.combineOthersRow.make))=true:=by kernel_rfl
theorem j28:((Rows.combineOthersRow.kinds==(if Rows.combineOthersRow.domain.isEmpty then [] else Tryz.f6.params.toList.map fun t=>match Tryz.prog.underlying t with | some (.int k)=>some k | _=>none)))=true:=by kernel_rfl
theorem j29:((Rows.combineOthersRow.pinned==Rows.combineOthersRow.pinnedBy))=true:=by kernel_rfl
theorem j30:((Rows.combineOthersRow.veiled==(Tryz.f6.params.toList++Rows.combineOthersSpec.plain.varTypes Tryz.prog++Tryz.f6.resultTypes.toList).any (Tryz.prog.veiledRec ·)))=true:=by kernel_rfl
theorem j31:(Rows.combineOthersRow.veiledFits Tryz.prog Tryz.f6.params.toList (Tryz.f6.params.toList++Rows.combineOthersSpec.plain.varTypes Tryz.prog++Tryz.f6.resultTypes.toList))=true:=by kernel_rfl
end Go.Proofs.YtniaimjknmhapaaGreatDoor.combineOthers
