/-
  The law CombineOthers of layer 37 holds: for every input the Go function returns true and leaves its arguments as they were.
  Condition: at the start the three tables of the library read as the program's own text lays them (the tied card).
-/
import Derived.Test.YtniaimjknmhapaaGreatDoorTie
import Derived.Test.YtniaimjknmhapaaGreatDoorG52
import Derived.Test.YtniaimjknmhapaaGreatDoorG54
set_option linter.unusedVariables false
set_option linter.unusedSimpArgs false
set_option maxRecDepth 100000
set_option maxHeartbeats 16000000
namespace Go.Proofs.YtniaimjknmhapaaGreatDoor.combineOthers
open Go.ChangeShapes Go.WideShapes Go.ChangeAt Go.RowKit
open Go.ChangeMaps (open_string shut_string)

theorem proved : Rows.CombineOthersCardSaid :=
 Claim7.holds_tied_plain_at .later [] [.data, .data, .data] true (true, "8f75df818fb74e2a082e7b0d7ba79dc99f1621682f6139f294eefa4f14631853") false
  over (fun _ h => by cases h) f1 (fun _ h => by cases h) combineOthers_row_tie rfl ⟨rfl, rfl⟩ f2 rfl
  (fun f fn hf hfn => by
   obtain rfl : f = 6 := Option.some.inj (f0.symm.trans hf) |>.symm;obtain rfl : fn = Tryz.f6 := (Option.some.inj (Tryz.func6.symm.trans hfn)).symm
   exact ⟨f3, fun j t ht => by
    rw [Tryz.params6] at ht;have hm : t ∈ [36, 3, 3] := by simpa using Array.mem_of_getElem? ht
    exact (show Tryz.prog.wantsStandIn t = false by simpa using List.all_eq_true.1 f4 t hm)⟩)
  f5
#print axioms proved
end Go.Proofs.YtniaimjknmhapaaGreatDoor.combineOthers
