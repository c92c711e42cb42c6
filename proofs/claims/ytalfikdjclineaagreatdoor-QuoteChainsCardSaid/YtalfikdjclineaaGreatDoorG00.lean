/- My texts Base. -/
import Derived.Test.YtalfikdjclineaaGreatDoorProg
import Derived.WalkKit
import Derived.WalkLawsBesides
import Derived.Lib.Hide
import Derived.BigQuiet
import Derived.Deep.QuietTactic
import Derived.Outline
namespace Go.Proofs.YtalfikdjclineaaGreatDoor
open Go.RowKit
theorem z : (∀ {α : Type} {xs : List α} {i : Nat} {h : i < xs.toArray.size}, xs.toArray[i]'h = xs[i]'(by simpa using h)) ∧
    (∀ {α : Type} {a : α} {l : List α} {i : Nat} {h : i + 1 < (a :: l).length}, (a :: l)[i + 1]'h = l[i]'(Nat.lt_of_succ_lt_succ h)) ∧
    (∀ {α : Type} {a : α} {l : List α} {h : 0 < (a :: l).length}, (a :: l)[0]'h = a) ∧
    (∀ {α : Type} {l : List α} {i : Nat} {a : α}, l.toArray.setIfInBounds i a = (l.set i a).toArray) ∧
    (∀ {α : Type} {x a : α} {xs : List α}, (x :: xs).set 0 a = a :: xs) ∧ (∀ {α : Type} {x a : α} {xs : List α} {i : Nat}, (x :: xs).set (i + 1) a = x :: xs.set i a) :=
  ⟨List.getElem_toArray _, List.getElem_cons_succ .., rfl, List.setIfInBounds_toArray .., List.set_cons_zero .., List.set_cons_succ ..⟩
end Go.Proofs.YtalfikdjclineaaGreatDoor
set_option linter.unusedVariables false
set_option linter.unusedSimpArgs false
set_option maxRecDepth 100000
set_option maxHeartbeats 8000000
namespace Go.Proofs.YtalfikdjclineaaGreatDoor
open Go.RowKit

theorem results_tmp4 {fn : Func} {t u v x : Tmp} (h : fn.results = #[.tmp t, .tmp u, .tmp v, .tmp x]) (tmps : Array Value) (P : Program) (w : World) :
    (results fn tmps).run P w = .ok (.tuple #[tmps.getD t undef, tmps.getD u undef, tmps.getD v undef, tmps.getD x undef]) w := by simp [results, h]
theorem ret_int {k : IntKind} {a b : Int} (h : a = b) : Ending.returned (.int k a) = .returned (.int k b) := by rw [h]
theorem ret_bool {a b : Bool} (h : a = b) : Ending.returned (.bool a) = .returned (.bool b) := by rw [h]
theorem bcell {B : Nat} {W w1 : World} (hb : Below B W w1) : (∀ b o, b < B -> w1.cell? ⟨b, o, none⟩ = W.cell? ⟨b, o, none⟩) /\ (∀ b o, b < B -> w1.frozen? ⟨b, o, none⟩ = W.frozen? ⟨b, o, none⟩) :=
  ⟨fun b o h => hb.cell (p := ⟨b, o, none⟩) h, fun b o h => hb.frozen (p := ⟨b, o, none⟩) h⟩
end Go.Proofs.YtalfikdjclineaaGreatDoor
