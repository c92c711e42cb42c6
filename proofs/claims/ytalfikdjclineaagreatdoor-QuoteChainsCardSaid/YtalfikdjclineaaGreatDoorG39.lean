/- My texts LaidT. -/
import Derived.Test.YtalfikdjclineaaGreatDoorRows
import Derived.LaidMore
import Derived.LaidLaws
import Derived.ProofKit
import Derived.OpenShut
import Derived.Test.YtalfikdjclineaaGreatDoorG35
set_option linter.unusedVariables false
set_option linter.unusedSimpArgs false
set_option maxRecDepth 100000
set_option maxHeartbeats 8000000
namespace Go.Proofs.YtalfikdjclineaaGreatDoor
open Go.ChangeShapes Go.WideShapes Go.ChangeAt Go.RowKit
abbrev laid3 : List (String × DataW Unit) := [("math/bits.deBruijn32tab", Rows.laid_math_bits_deBruijn32tab), ("math/bits.deBruijn64tab", Rows.laid_math_bits_deBruijn64tab), ("internal/strconv.uint64pow10", Rows.laid_internal_strconv_uint64pow10)]
theorem door_met (os : Os) (args : Array Value) : laidMetH Tryz.prog laid3 ((World.doorLaid Tryz.prog 24 os).forCall (fun _ _ => 0) ⟨#[], args, []⟩).memory := by
  rw [MakeChecks.laidMetH_plain _ _ _ (by kernel_rfl)]
  exact laidMet_of_run' 8 (by kernel_rfl) (by kernel_rfl)
theorem pow_type : (Tryz.prog.globalNamed "internal/strconv.uint64pow10").map (fun g => (Tryz.prog.globals[g]?).map (·.type)) = some (some 193) := by kernel_rfl
theorem pow_data : (Rows.laid_internal_strconv_uint64pow10 : DataW Unit) = Lib.tabData .u64 Lib.pow10Tab := by rfl
theorem tab_of_laid {W : World} (h : laidMetH Tryz.prog laid3 W) : Lib.TabIs Tryz.prog W "internal/strconv.uint64pow10" .u64 Lib.pow10Tab := by
  rw [MakeChecks.laidMetH_plain _ _ _ (by kernel_rfl)] at h
  obtain ⟨ps, ⟨g0, t0, cs0, f0, p0, q0, hg0, ht0, hv0, hd0, ⟨g1, t1, cs1, f1, p1, q1, hg1, ht1, hv1, hd1, ⟨g2, t2, cs2, f2, p2, q2, hg2, ht2, hv2, hd2, _, _⟩, _⟩, _⟩, _, _⟩ := h
  have e := pow_type
  rw [hg2] at e
  simp only [Option.map_some, Option.some.injEq] at e
  obtain rfl := Option.some.inj (e.symm.trans ht2)
  rw [pow_data] at hd2
  unfold Lib.TabIs
  rw [hv2, <- Lib.cells_of_tab Tryz.underlying193 Tryz.underlying93 (by kernel_rfl) (by kernel_rfl) hd2]
end Go.Proofs.YtalfikdjclineaaGreatDoor
