/- My texts RefSums. -/
import Derived.Test.YtobnfmneeabomaaGreatG28
set_option linter.unusedVariables false
set_option linter.unusedSimpArgs false
set_option maxRecDepth 100000
set_option maxHeartbeats 8000000
namespace Go.Proofs.YtobnfmneeabomaaGreat
open Go.RowKit
theorem Gr.sumOf_small {P : Int -> Bool} {l : List Itm} {n : Nat} (hl : l.length = n) (hn : n <= 1000) (hx : ∀ x ∈ l, x.small) : -1000000000000000 <= Gr.sumOf P l /\ Gr.sumOf P l <= 1000000000000000 := by
 have := Gr.sumOf_bd P l hx
 omega
theorem Gr.sumOf_take_small {P : Int -> Bool} {l : List Itm} {n : Nat} (k : Nat) (hl : l.length = n) (hn : n <= 1000) (hx : ∀ x ∈ l, x.small) : -1000000000000000 <= Gr.sumOf P (l.take k) /\ Gr.sumOf P (l.take k) <= 1000000000000000 :=
 Gr.sumOf_small rfl (by rw [List.length_take]; omega) fun x h => hx x (List.mem_of_mem_take h)
section
variable (w : World)
namespace R1
def rd (n N D : Int) : Int := Big.sgn (decide (Int.tdiv (n * N) (Int.gcd (n * N) (1 * D)) < 0)) (Int.tdiv (2 * ((Int.tdiv (n * N) (Int.gcd (n * N) (1 * D))).natAbs : Int) + Int.tdiv (1 * D) (Int.gcd (n * N) (1 * D))) (2 * Int.tdiv (1 * D) (Int.gcd (n * N) (1 * D))))
theorem red_pos (a : Int) {D : Int} (hD : 0 < D) : 0 < Int.tdiv D (Int.gcd a D) := by
 obtain ⟨q, hq⟩ := Int.gcd_dvd_right a D
 have h0 : (0 : Int) <= (Int.gcd a D : Int) := Int.natCast_nonneg _
 obtain ⟨G, hG⟩ : ∃ G, G = (Int.gcd a D : Int) := ⟨_, rfl⟩
 rw [<- hG] at hq h0 ⊢
 have hG0 : G ≠ 0 := by intro e; subst e; rw [Int.zero_mul] at hq; omega
 rw [hq, Int.mul_tdiv_cancel_left _ hG0]
 rw [hq] at hD
 exact Int.pos_of_mul_pos_right hD (by omega)
end R1
end
end Go.Proofs.YtobnfmneeabomaaGreat
