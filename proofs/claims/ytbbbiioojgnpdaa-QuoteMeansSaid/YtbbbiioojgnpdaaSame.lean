/- The comparison of two lists of rates that hold the same rates. -/
import Derived.Test.YtbbbiioojgnpdaaAwake
namespace Go.Proofs.Ytbbbiioojgnpdaa
open Go.RowKit Go.Shelf

theorem below_drewN {n : Nat} {a w : World} (h : Below n a w) (q : Nat) : Below n a (w.drewN q) := ⟨h.os, h.tape, h.output, h.size, h.block⟩

section
variable (w : World)
set_option maxHeartbeats 400000 in
theorem same_any (A B : Option Addr) (n c c' : Nat) (rs : List Rt) (hl : rs.length = n) (hn : n ≤ 1000) (h : RatesAt w w.heap.size A rs) (h' : RatesAt w w.heap.size B rs) :
    Calls Try.prog 18 #[.slice A n c, .slice B n c'] w fun e w' => e = .returned (.bool true) ∧ Below w.heap.size w w' := by
  subst hl
  go_enter Try.func18, Try.ntmps18
  go_wp2
  go_loopw [5] (fun i wr => ∃ k : Nat, k ≤ rs.length ∧ i = .int .i64 k ∧ Below w.heap.size w wr) (fun i _ => rs.length - (intOf i).toNat)
  case atStart => exact ⟨0, Nat.zero_le _, rfl, Below.refl _ _⟩
  case round =>
    obtain ⟨k, hk, rfl, hb⟩ := hrel
    by_cases hlt : k < rs.length
    · obtain ⟨b, o, rfl, hbB, c0, c1, c2, c3⟩ := (h.below hb (Nat.le_refl _)).look hlt
      obtain ⟨b', o', rfl, hbB', d0, d1, d2, d3⟩ := (h'.below hb (Nat.le_refl _)).look hlt
      go_wp2_with (go_quiet (fail))
      go_roundw
      case rel => exact ⟨k + 1, by omega, by go_num, below_drewN hb _⟩
      case measure => simp [intOf]; omega
    · obtain rfl : k = rs.length := by omega
      go_wp2
      go_ret
      exact ⟨rfl, hb⟩
end
end Go.Proofs.Ytbbbiioojgnpdaa
