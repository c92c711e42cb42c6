/-
  The law CombineOrder of layer 37 holds: for every input the Go function returns true and leaves its arguments as they were.
  Condition: at the start the three tables of the library read as the program's own text lays them (the tied card).
-/
import Derived.Test.YtbhdekahdnenjaaGreatDoorTie
import Derived.Test.YtbhdekahdnenjaaGreatDoorG43
import Derived.Test.YtbhdekahdnenjaaGreatDoorG04
set_option linter.unusedVariables false
set_option linter.unusedSimpArgs false
set_option maxRecDepth 100000
set_option maxHeartbeats 16000000
namespace Go.Proofs.YtbhdekahdnenjaaGreatDoor.combineOrder
open Go.ChangeShapes Go.WideShapes Go.ChangeAt Go.RowKit
open Go.ChangeMaps (open_string shut_string)

theorem proved : Rows.CombineOrderCardSaid :=
 Claim7.holds_tied_plain_at .later [] [.data, .data, .data] true (true, "e21b0b70598c42ab8f944fa292c53274392c0692a82eec1461bbc6c2b1854c22") false
  over (fun _ h => by cases h) f1 (fun _ h => by cases h) combineOrder_row_tie rfl ⟨rfl, rfl⟩ f2 rfl
  (fun f fn hf hfn => by
   obtain rfl : f = 3 := Option.some.inj (f0.symm.trans hf) |>.symm;obtain rfl : fn = Tryz.f3 := (Option.some.inj (Tryz.func3.symm.trans hfn)).symm
   exact ⟨f3, fun j t ht => by
    rw [Tryz.params3] at ht;have hm : t ∈ [36, 37, 5] := by simpa using Array.mem_of_getElem? ht
    exact (show Tryz.prog.wantsStandIn t = false by simpa using List.all_eq_true.1 f4 t hm)⟩)
  f5
#print axioms proved
end Go.Proofs.YtbhdekahdnenjaaGreatDoor.combineOrder
