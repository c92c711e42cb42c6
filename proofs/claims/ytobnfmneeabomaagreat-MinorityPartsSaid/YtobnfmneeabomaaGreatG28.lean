/- My texts GrpR, ItemW. -/
import Derived.Test.YtobnfmneeabomaaGreatG27
set_option linter.unusedVariables false
set_option linter.unusedSimpArgs false
set_option maxRecDepth 100000
set_option maxHeartbeats 8000000
namespace Go.Proofs.YtobnfmneeabomaaGreat
open Go.RowKit
section
variable (w : World)
end

structure Itm where
 ent0 : Int
 lin : Int
 ent : Int
 acct : Int
 partner : Int
 date : Int
 amt : Int
def Itm.cells (x : Itm) : List Value := [.int .i64 x.ent0, .int .i64 x.lin, .int .i64 x.ent, .int .i64 x.acct, .int .i64 x.partner, .int .i64 x.date, .int .i64 x.amt]
def Itm.small (x : Itm) : Prop := -1000000000000 <= x.amt /\ x.amt <= 1000000000000
abbrev ItmsAt := RowsAt Itm.cells 7
namespace Gr
def kind (g : Grp) (a : Int) : Int := (Ch.found g.chart a).kind
def check (g : Grp) (x : Int) : Int := if Gr.valid g = false then 1 else if x < 0 ∨ (g.en : Int) <= x then 2 else 0
def isResult (g : Grp) (a : Int) : Bool := decide (kind g a = 4) || decide (kind g a = 5)
def isEquity (g : Grp) (a : Int) : Bool := decide (kind g a = 3) && decide (a ≠ g.r7)
def sumOf (P : Int -> Bool) : List Itm -> Int
 | [] => 0
 | x :: l => (if P x.acct = true then x.amt else 0) + sumOf P l
theorem sumOf_append (P : Int -> Bool) : ∀ (l m : List Itm), sumOf P (l ++ m) = sumOf P l + sumOf P m
 | [], m => by simp [sumOf]
 | x :: l, m => by simp only [List.cons_append, sumOf, sumOf_append P l m]; omega
theorem sumOf_take (P : Int -> Bool) {l : List Itm} {k : Nat} (hk : k < l.length) : sumOf P (l.take (k + 1)) = sumOf P (l.take k) + (if P l[k].acct = true then l[k].amt else 0) := by
 rw [List.take_succ_eq_append_getElem hk, sumOf_append]; simp [sumOf]
theorem sumOf_bd (P : Int -> Bool) : ∀ (l : List Itm), (∀ x ∈ l, x.small) -> -(1000000000000 * (l.length : Int)) <= sumOf P l /\ sumOf P l <= 1000000000000 * (l.length : Int)
 | [], _ => by simp [sumOf]
 | x :: l, h => by
  have h1 := sumOf_bd P l fun y hy => h y (List.mem_cons_of_mem _ hy)
  have h2 := h x (List.mem_cons_self)
  unfold Itm.small at h2
  simp only [sumOf, List.length_cons]
  split <;> omega
end Gr
theorem ItmsAt.seven {w : World} {B : Nat} {A : Option Addr} {l : List Itm} (h : ItmsAt w B A l) {k : Nat} (hk : k < l.length) : ∃ b o, A = some ⟨b, o, none⟩ /\ b < B /\ w.rangeAt b (o + k * 7) [.int .i64 (l[k]).ent0, .int .i64 (l[k]).lin, .int .i64 (l[k]).ent, .int .i64 (l[k]).acct, .int .i64 (l[k]).partner, .int .i64 (l[k]).date, .int .i64 (l[k]).amt] /\ w.cell? ⟨b, o + k * 7 + 3, none⟩ = some (.int .i64 l[k].acct) /\ w.cell? ⟨b, o + k * 7 + 6, none⟩ = some (.int .i64 l[k].amt) := by
 obtain ⟨b, o, e, hb, hr⟩ := RowsAt.look h hk
 exact ⟨b, o, e, hb, hr, hr 3 _ rfl, hr 6 _ rfl⟩
section
variable (w : World)
end
end Go.Proofs.YtobnfmneeabomaaGreat
