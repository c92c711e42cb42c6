/- My texts OverOth. -/
import Derived.Test.YtniaimjknmhapaaGreatDoorG51
import Derived.Test.YtniaimjknmhapaaGreatDoorG53
set_option linter.unusedVariables false
set_option linter.unusedSimpArgs false
set_option maxRecDepth 100000
set_option maxHeartbeats 16000000
namespace Go.Proofs.YtniaimjknmhapaaGreatDoor.combineOthers
open Go.ChangeShapes Go.WideShapes Go.ChangeAt Go.RowKit
open Go.ChangeMaps (open_string shut_string)

theorem VK {a b:Bool} (h:a=true) (k:b=true):(a&&b)=true:=by rw [h,k];rfl
theorem closed:joinedFacts Tryz.prog 6 Tryz.f6 Rows.combineOthersSpec Rows.combineOthersRow=true:=by
 unfold joinedFacts;refine(VK (VK (VK (VK (VK (VK (VK (VK (VK (VK (VK (VK (VK (VK (VK (VK (VK (VK (VK (VK (VK (VK (VK (VK (VK (VK (VK (VK (VK (VK (VK j0 j1) j2) j3) j4) j5) j6) j7) j8) j9) j10) j11) j12) j13) j14) j15) j16) j17) j18) j19) j20) j21) j22) j23) j24) j25) j26) j27) ?_) j29) j30) j31)
 kernel_rfl
theorem over:Rows.combineOthersRow.holds Tryz.pinned (OpenSpec.ofChange Rows.combineOthersSpec) :=
 OpenClaim.holds_of_wide 6 Tryz.f6 rfl rfl rfl rfl rfl rfl rfl ⟨rfl,rfl,rfl,rfl,rfl⟩ rfl rfl rfl rfl rfl kR Tryz.func6 closed
  (of_decide_eq_true kR) (by unfold Func.isWrapper;rw [if_neg (of_decide_eq_false kR)];exact⟨rfl,rfl⟩)
  (fun os started H enc _=>lifted os started H enc)
end Go.Proofs.YtniaimjknmhapaaGreatDoor.combineOthers
