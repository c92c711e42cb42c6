/- My texts WholeP, InvQ. -/
import Derived.Test.YtccapfbblnnfjaaGreatG44
import Derived.Test.YtccapfbblnnfjaaGreatC46
import Derived.Test.YtccapfbblnnfjaaGreatG46
import Derived.Test.YtccapfbblnnfjaaGreatE00
set_option linter.unusedVariables false
set_option linter.unusedSimpArgs false
set_option maxRecDepth 100000
set_option maxHeartbeats 8000000
namespace Go.Proofs.YtccapfbblnnfjaaGreat
open Go.RowKit
theorem Smp.roles38 {g : Grp} (h : Smp.Is g) : (g.r0 ≠ g.r7 /\ g.r0 ≠ g.r5 /\ g.r0 ≠ g.r1) /\ (g.r7 ≠ g.r5 /\ g.r7 ≠ g.r1) /\ g.r5 ≠ g.r1 := by
 obtain ⟨a, b, d, e, x0, x1, x2, x3, rfl⟩ := h
 refine ⟨⟨?_, ?_, ?_⟩, ⟨?_, ?_⟩, ?_⟩ <;> (simp only [Smp.grp]; decide)
namespace Gr
theorem rd_same (n : Int) {D : Int} (hD : 0 < D) : R1.rd n D D = n := by
 unfold R1.rd
 have hg : (Int.gcd (n * D) (1 * D) : Int) = D := by
  rw [Int.one_mul]
  have h1 : (Int.gcd (n * D) D : Nat) = D.natAbs := by rw [Int.gcd_comm]; exact Int.gcd_eq_natAbs_left (Int.dvd_mul_left n D)
  rw [h1]; omega
 rw [hg, Int.one_mul, Int.tdiv_self (by omega), Int.mul_tdiv_cancel _ (by omega)]
 have h2 : Int.tdiv (2 * (n.natAbs : Int) + 1) (2 * 1) = (n.natAbs : Int) := by
  rw [Int.tdiv_eq_ediv_of_nonneg (by omega)]
  omega
 rw [h2]
 unfold Big.sgn
 by_cases h : n < 0
 ·rw [decide_eq_true h]; simp; omega
 ·rw [decide_eq_false h]; simp; omega
theorem pl_ok {r : List Prt × Int} (h : r.2 = 0) : Po.pl r = r.1 := by
 by_cases h1 : Po.none_ r
 ·rw [Po.pl_yes h1]
  rcases h1 with h2 | h2
  ·exact absurd h h2
  ·exact h2.symm
 ·unfold Po.pl; rw [if_neg h1]
theorem cpost_ok {g : Grp} {m : List Cnt} {x : Int} (h : (cpost g m x).2 = 0) : (capital g m x).2 = 0 := by
 by_cases h1 : (capital g m x).2 = 0
 ·exact h1
 ·unfold cpost at h
  rw [if_pos h1] at h
  exact h
theorem cpost_parts {g : Grp} {m : List Cnt} {x : Int} (hd : (g.r0 ≠ g.r7 /\ g.r0 ≠ g.r5 /\ g.r0 ≠ g.r1) /\ (g.r7 ≠ g.r5 /\ g.r7 ≠ g.r1) /\ g.r5 ≠ g.r1) (h : (cpost g m x).2 = 0) :
  Po.part (Po.pl (cpost g m x)) g.r0 = -(capital g m x).1.1 /\ Po.part (Po.pl (cpost g m x)) g.r7 = -(capital g m x).1.2.1 /\ Po.part (Po.pl (cpost g m x)) g.r5 = (capital g m x).1.2.1 - (capital g m x).1.2.2 /\ Po.part (Po.pl (cpost g m x)) g.r1 = (capital g m x).1.1 + (capital g m x).1.2.2 := by
 obtain ⟨⟨d1, d2, d3⟩, ⟨d4, d5⟩, d6⟩ := hd
 have h0 := cpost_ok h
 rw [pl_ok h]
 have hc : cpost g m x = Po.clean [⟨g.r0, -(capital g m x).1.1⟩, ⟨g.r7, -(capital g m x).1.2.1⟩, ⟨g.r5, (capital g m x).1.2.1 - (capital g m x).1.2.2⟩, ⟨g.r1, (capital g m x).1.1 + (capital g m x).1.2.2⟩] := by
  unfold cpost; rw [if_neg (by rw [h0]; simp)]
 rw [hc] at h ⊢
 refine ⟨?_, ?_, ?_, ?_⟩ <;> (rw [Po.part_clean h]; simp [Po.sum, d1, d2, d3, d4, d5, d6, Ne.symm d1, Ne.symm d2, Ne.symm d3, Ne.symm d4, Ne.symm d5, Ne.symm d6])
theorem clean_zero {l : List Prt} (h : ∀ a, Po.sum a l = 0) : Po.clean l = ([], 0) := by
 have hb : Po.bad l = false := Po.bad_none fun a _ => by rw [h a]; rfl
 unfold Po.clean
 rw [if_neg (by rw [hb]; simp), Po.parts_none h]
theorem cpost_none {g : Grp} {m : List Cnt} {x : Int} (h : (cpost g m x).2 ≠ 0 ∨ elim m x = none) : Po.pl (cpost g m x) = [] := by
 rcases h with h | h
 ·exact Po.pl_yes (.inl h)
 ·by_cases hc : check g x = 0
  ·have h1 : capital g m x = ((0, 0, 0), 0) := by unfold capital; rw [if_neg (by rw [hc]; simp), h]
   refine Po.pl_yes (.inr ?_)
   unfold cpost
   rw [if_neg (by rw [h1]; simp), h1, clean_zero (fun a => by simp [Po.sum])]
  ·have h1 : (capital g m x).2 ≠ 0 := by unfold capital; rw [if_pos hc]; exact hc
   refine Po.pl_yes (.inl ?_)
   unfold cpost
   rw [if_pos h1]; exact h1
theorem capital_whole {g : Grp} {m : List Cnt} {x : Int} {y : Cnt} (he : elim m x = some y) (hD : 0 < y.fD) (hw : y.meth = 2 ∨ y.fN = y.fD) : (capital g m x).1.2.2 = (capital g m x).1.2.1 := by
 unfold capital
 split
 ·rfl
 ·rw [he]
  simp only []
  split
  ·rename_i h3
   rcases hw with h | h
   ·rw [h] at h3; omega
   ·rw [h]; exact rd_same _ hD
  ·rfl
end Gr
namespace Gr
def inv0 (g : Grp) (p : Int) (b : Bool) (z : Itm) : Bool := b && decide (z.acct = g.r0) && decide (z.partner = p)
def invall (g : Grp) (p : Int) : List Cnt -> Int
 | [] => 0
 | y :: m => sumIf (inv0 g p (decide (y.meth = 3))) y.its + invall g p m
theorem invall_append (g : Grp) (p : Int) : ∀ l m : List Cnt, invall g p (l ++ m) = invall g p l + invall g p m
 | [], m => by simp [invall]
 | y :: l, m => by simp only [List.cons_append, invall, invall_append g p l m]; omega
theorem invall_take (g : Grp) (p : Int) {l : List Cnt} {k : Nat} (hk : k < l.length) : invall g p (l.take (k + 1)) = invall g p (l.take k) + sumIf (inv0 g p (decide (l[k].meth = 3))) l[k].its := by
 rw [List.take_succ_eq_append_getElem hk, invall_append]; simp [invall]
theorem invall_bd (g : Grp) (p : Int) : ∀ m : List Cnt, (∀ y ∈ m, y.its.length <= 40 /\ ∀ z ∈ y.its, z.small) -> -(40000000000000 * (m.length : Int)) <= invall g p m /\ invall g p m <= 40000000000000 * (m.length : Int)
 | [], _ => by simp [invall]
 | y :: m, h => by
  have ih := invall_bd g p m fun z hz => h z (List.mem_cons_of_mem _ hz)
  obtain ⟨h1, h2⟩ := h y List.mem_cons_self
  have := sumIf_bd (inv0 g p (decide (y.meth = 3))) y.its h2
  simp only [invall, List.length_cons]
  omega
theorem inv0_false (g : Grp) (p : Int) : ∀ l : List Itm, sumIf (inv0 g p false) l = 0
 | [] => rfl
 | z :: l => by simp only [sumIf, inv0_false g p l]; simp [inv0]
theorem inv0_split (g : Grp) (p d : Int) : ∀ l : List Itm, sumIf (inv0 g p true) l = sumIf (invest1 g p d false) l + sumIf (invest1 g p d true) l
 | [] => rfl
 | z :: l => by
  simp only [sumIf, inv0_split g p d l]
  by_cases h1 : z.acct = g.r0 <;> by_cases h2 : z.partner = p <;> by_cases h3 : d < z.date <;> simp [inv0, invest1, h1, h2, h3] <;> omega
theorem invall_split (g : Grp) (p d : Int) : ∀ m : List Cnt, invall g p m = invest g p d false m + invest g p d true m
 | [] => rfl
 | y :: m => by
  simp only [invall, invest, invall_split g p d m]
  by_cases h : y.meth = 3
  ·rw [if_pos h, if_pos h, decide_eq_true h, inv0_split g p d]; omega
  ·rw [if_neg h, if_neg h, decide_eq_false h, inv0_false]; omega
theorem investments {g : Grp} {m : List Cnt} {x : Int} {y : Cnt} (he : elim m x = some y) (h1 : (capital g m x).2 = 0) : (capital g m x).1.1 + (step g m x).1.1 = invall g x m := by
 have hc : check g x = 0 := by
  by_cases hc : check g x = 0
  ·exact hc
  ·unfold capital at h1; rw [if_pos hc] at h1; exact h1
 rw [invall_split g x y.since m]
 unfold capital step
 rw [if_neg (by rw [hc]; simp), if_neg (by rw [hc]; simp), he]
 simp only []
 by_cases h3 : y.meth = 3
 ·rw [if_pos h3]
 ·rw [if_neg h3]
end Gr
end Go.Proofs.YtccapfbblnnfjaaGreat
