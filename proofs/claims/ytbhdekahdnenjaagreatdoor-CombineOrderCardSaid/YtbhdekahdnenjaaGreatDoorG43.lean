/- Lemmas. -/
import Derived.Test.YtbhdekahdnenjaaGreatDoorG42
import Derived.Test.YtbhdekahdnenjaaGreatDoorG03
set_option linter.unusedVariables false
set_option linter.unusedSimpArgs false
set_option maxRecDepth 100000
set_option maxHeartbeats 16000000
namespace Go.Proofs.YtbhdekahdnenjaaGreatDoor.combineOrder
open Go.ChangeShapes Go.WideShapes Go.ChangeAt Go.RowKit
open Go.ChangeMaps (open_string shut_string)
theorem a0W {a b:Bool} (h:a) (k:b):(a&&b):=by rw[h,k];rfl
theorem closed:joinedFacts Tryz.prog 3 Tryz.f3 Rows.combineOrderSpec Rows.combineOrderRow:=by
 unfold joinedFacts;refine(a0W (a0W (a0W (a0W (a0W (a0W (a0W (a0W (a0W (a0W (a0W (a0W (a0W (a0W (a0W (a0W (a0W (a0W (a0W (a0W (a0W (a0W (a0W (a0W (a0W (a0W (a0W (a0W (a0W (a0W (a0W j0 j1) j2) j3) j4) j5) j6) j7) j8) j9) j10) j11) j12) j13) j14) j15) j16) j17) j18) j19) j20) j21) j22) j23) j24) j25) j26) j27) ?_) j29) j30) j31)
 kernel_rfl
theorem over:Rows.combineOrderRow.holds Tryz.pinned (OpenSpec.ofChange Rows.combineOrderSpec) :=
 OpenClaim.holds_of_wide 3 Tryz.f3 rfl rfl rfl rfl rfl rfl rfl ⟨rfl,rfl,rfl,rfl,rfl⟩ rfl rfl rfl rfl rfl kR Tryz.func3 closed
  (YZ kR) (by unfold Func.isWrapper;rw[VB (of_decide_eq_false kR)];exact⟨rfl,rfl⟩)
  (fun i a H enc _=>lifted i a H enc)
end Go.Proofs.YtbhdekahdnenjaaGreatDoor.combineOrder
