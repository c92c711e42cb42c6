/- My texts OverProp. -/
import Derived.Test.YtniaimjknmhapaaGreatDoorG46
import Derived.Test.YtniaimjknmhapaaGreatDoorG48
set_option linter.unusedVariables false
set_option linter.unusedSimpArgs false
set_option maxRecDepth 100000
set_option maxHeartbeats 16000000
namespace Go.Proofs.YtniaimjknmhapaaGreatDoor.combineProportional
open Go.ChangeShapes Go.WideShapes Go.ChangeAt Go.RowKit
open Go.ChangeMaps (open_string shut_string)

theorem VK {a b:Bool} (h:a=true) (k:b=true):(a&&b)=true:=by rw [h,k];rfl
theorem closed:joinedFacts Tryz.prog 5 Tryz.f5 Rows.combineProportionalSpec Rows.combineProportionalRow=true:=by
 unfold joinedFacts;refine(VK (VK (VK (VK (VK (VK (VK (VK (VK (VK (VK (VK (VK (VK (VK (VK (VK (VK (VK (VK (VK (VK (VK (VK (VK (VK (VK (VK (VK (VK (VK j0 j1) j2) j3) j4) j5) j6) j7) j8) j9) j10) j11) j12) j13) j14) j15) j16) j17) j18) j19) j20) j21) j22) j23) j24) j25) j26) j27) ?_) j29) j30) j31)
 kernel_rfl
theorem over:Rows.combineProportionalRow.holds Tryz.pinned (OpenSpec.ofChange Rows.combineProportionalSpec) :=
 OpenClaim.holds_of_wide 5 Tryz.f5 rfl rfl rfl rfl rfl rfl rfl ⟨rfl,rfl,rfl,rfl,rfl⟩ rfl rfl rfl rfl rfl kR Tryz.func5 closed
  (of_decide_eq_true kR) (by unfold Func.isWrapper;rw [if_neg (of_decide_eq_false kR)];exact⟨rfl,rfl⟩)
  (fun os started H enc _=>lifted os started H enc)
end Go.Proofs.YtniaimjknmhapaaGreatDoor.combineProportional
