/- My texts Base, GroupStr, Date. -/
import Derived.Test.YtobnfmneeabomaaGreatProg
import Derived.WalkKit
import Derived.WalkLawsBesides
import Derived.Lib.Hide
import Derived.BigQuiet
import Derived.Deep.QuietTactic
import Derived.Outline
import Derived.Laws.IdiomStrings
import Derived.Test.YtobnfmneeabomaaGreatG00
set_option linter.unusedVariables false
set_option linter.unusedSimpArgs false
set_option maxRecDepth 100000
set_option maxHeartbeats 8000000
namespace Go.Proofs.YtobnfmneeabomaaGreat
open Go.RowKit

theorem results_tmp4 {fn : Func} {t u v x : Tmp} (h : fn.results = #[.tmp t, .tmp u, .tmp v, .tmp x]) (tmps : Array Value) (P : Program) (w : World) :
  (results fn tmps).run P w = .ok (.tuple #[tmps.getD t undef, tmps.getD u undef, tmps.getD v undef, tmps.getD x undef]) w := by simp [results, h]
theorem ret_int {k : IntKind} {a b : Int} (h : a = b) : Ending.returned (.int k a) = .returned (.int k b) := by rw [h]
theorem ret_bool {a b : Bool} (h : a = b) : Ending.returned (.bool a) = .returned (.bool b) := by rw [h]
theorem bcell {B : Nat} {W w1 : World} (hb : Below B W w1) : (∀ b o, b < B -> w1.cell? ⟨b, o, none⟩ = W.cell? ⟨b, o, none⟩) /\ (∀ b o, b < B -> w1.frozen? ⟨b, o, none⟩ = W.frozen? ⟨b, o, none⟩) :=
 ⟨fun b o h => hb.cell (p := ⟨b, o, none⟩) h, fun b o h => hb.frozen (p := ⟨b, o, none⟩) h⟩

namespace Gr
theorem allTake (l : List UInt8) (p : UInt8 -> Bool) (k : Nat) (h : k < l.length) : (l.take (k + 1)).all p = ((l.take k).all p && p l[k]) := by
 rw [List.take_succ_eq_append_getElem h, List.all_append]; simp
theorem allMiss (l : List UInt8) (p : UInt8 -> Bool) (k : Nat) (h : k < l.length) (hp : p l[k] = false) : l.all p = false := by
 rw [List.all_eq_false]; exact ⟨l[k], List.getElem_mem h, by simp [hp]⟩
theorem range_all {n : Nat} {P : Nat -> Bool} (h : (List.range n).all P = true) (hn : P n = true) : (List.range (n + 1)).all P = true := by
 rw [List.range_succ, List.all_append, h]; simp [hn]
theorem byte_at (s : ByteArray) (k : Nat) (h : k < s.size) : byteAt s k = (s[k].toNat : Int) := by
 unfold byteAt
 have : k < s.data.toList.length := by simpa using h
 rw [List.getD_eq_getElem?_getD, List.getElem?_eq_getElem this]; rfl
end Gr
section
variable (w : World)
theorem curd_any (s : ByteArray) (hs : s.size <= maxLen) : Calls Tryz.prog 33 #[.string s] w fun e w' => e = .returned (.bool (Gr.isCur s)) /\ w = w' := by
 unfold maxLen at hs
 have hsz : s.data.toList.length = s.size := by simp
 go_enter Tryz.func33, Tryz.ntmps33
 go_wp2
 go_loop [6] (fun i => ∃ k : Nat, k <= s.size /\ i = .int .i64 k /\ (s.data.toList.take k).all Gr.upper = true) (fun i => s.size - (intOf i).toNat)
 case atStart => exact ⟨0, Nat.zero_le _, rfl, rfl⟩
 case round =>
  obtain ⟨k, hk, rfl, ha⟩ := hrel
  have Ha := Lib.hid ha
  clear ha
  by_cases hlt : k < s.size
  ·have hg : s.data.toList[k]'(by omega) = s[k] := rfl
   by_cases h1 : (s[k].toNat : Int) < 65
   ·have hf : Hid (Gr.isCur s = false) := by
     show Gr.isCur s = false
     unfold Gr.isCur
     rw [Gr.allMiss _ _ k (by omega) (by rw [hg]; unfold Gr.upper; simp only [decide_eq_false_iff_not]; omega)]; rfl
    clear hg
    go_wp2
    go_ret
    exact ⟨ret_bool hf.out.symm, rfl⟩
   ·by_cases h2 : 90 < (s[k].toNat : Int)
    ·have hf : Hid (Gr.isCur s = false) := by
      show Gr.isCur s = false
      unfold Gr.isCur
      rw [Gr.allMiss _ _ k (by omega) (by rw [hg]; unfold Gr.upper; simp only [decide_eq_false_iff_not]; omega)]; rfl
     clear hg
     go_wp2
     go_ret
     exact ⟨ret_bool hf.out.symm, rfl⟩
    ·have hf : Hid ((s.data.toList.take (k + 1)).all Gr.upper = true) := by
      show _ = true
      rw [Gr.allTake _ _ k (by omega), Ha.out, hg]
      unfold Gr.upper
      simp; omega
     clear hg
     go_wp2
     go_round
     case rel => exact ⟨k + 1, by omega, by go_num, hf.out⟩
     case measure => simp [intOf]; omega
  ·obtain rfl : k = s.size := by omega
   have hf : Hid (Gr.isCur s = decide (s.size = 3)) := by
    show _ = _
    have h := Ha.out
    rw [List.take_of_length_le (by omega)] at h
    unfold Gr.isCur
    rw [h, Bool.true_and]
   clear hsz
   go_wp2
   go_ret
   refine ⟨ret_bool ?_, rfl⟩
   rw [hf.out, Bool.eq_iff_iff]; simp; omega
theorem letterd_any (x : Int) : Calls Tryz.prog 79 #[.int .u8 x] w fun e w' => e = .returned (.bool (Gr.letter x)) /\ w = w' := by
 by_cases h1 : 97 <= x
 ·by_cases h2 : x <= 122
  ·have hf : Hid (Gr.letter x = true) := by show _ = _; simp [Gr.letter]; omega
   go_enter Tryz.func79, Tryz.ntmps79
   go_wp2
   go_ret
   exact ⟨by rw [hf.out]; rfl, rfl⟩
  ·have h3 : 65 <= x := by omega
   have h4 : ¬ x <= 90 := by omega
   have hf : Hid (Gr.letter x = false) := by show _ = _; simp [Gr.letter]; omega
   go_enter Tryz.func79, Tryz.ntmps79
   go_wp2
   go_ret
   exact ⟨by rw [hf.out]; rfl, rfl⟩
 ·by_cases h3 : 65 <= x
  ·by_cases h4 : x <= 90
   ·have hf : Hid (Gr.letter x = true) := by show _ = _; simp [Gr.letter]; omega
    go_enter Tryz.func79, Tryz.ntmps79
    go_wp2
    go_ret
    exact ⟨by rw [hf.out]; rfl, rfl⟩
   ·have hf : Hid (Gr.letter x = false) := by show _ = _; simp [Gr.letter]; omega
    go_enter Tryz.func79, Tryz.ntmps79
    go_wp2
    go_ret
    exact ⟨by rw [hf.out]; rfl, rfl⟩
  ·have hf : Hid (Gr.letter x = false) := by show _ = _; simp [Gr.letter]; omega
   go_enter Tryz.func79, Tryz.ntmps79
   go_wp2
   go_ret
   exact ⟨by rw [hf.out]; rfl, rfl⟩
theorem named_any (s : ByteArray) (hs : s.size <= maxLen) : Calls Tryz.prog 58 #[.string s] w fun e w' => e = .returned (.bool (Gr.isName s)) /\ w = w' := by
 unfold maxLen at hs
 go_enter Tryz.func58, Tryz.ntmps58
 go_wp2
 go_loop [7] (fun i => ∃ k : Nat, k <= s.size /\ i = .int .i64 k /\ (List.range k).all (Gr.nameAt s) = true) (fun i => s.size - (intOf i).toNat)
 case atStart => exact ⟨0, Nat.zero_le _, rfl, rfl⟩
 case round =>
  obtain ⟨k, hk, rfl, ha⟩ := hrel
  have Ha := Lib.hid ha
  clear ha
  by_cases hlt : k < s.size
  ·have Hat := Lib.hid (Gr.byte_at s k hlt)
   have hbad : Gr.nameAt s k = false -> Hid (Gr.isName s = false) := fun h => by
    show _ = _
    unfold Gr.isName; rw [Ch.all_not hlt h]; rfl
   have hgood : Gr.nameAt s k = true -> Hid ((List.range (k + 1)).all (Gr.nameAt s) = true) := fun h => Gr.range_all Ha.out h
   by_cases hl : Gr.letter (s[k].toNat : Int) = true
   ·have hL := hl
    have hf := hgood (by rw [Gr.nameAt, Hat.out, hl]; rfl)
    clear hl hbad hgood
    go_wp2_with (go_at_call 79; refine (letterd_any _ _).mono ?_; rw [hL]; rintro e w4 ⟨rfl, rfl⟩)
    go_round
    case rel => exact ⟨k + 1, by omega, by go_num, hf.out⟩
    case measure => simp [intOf]; omega
   ·have hL : Gr.letter (s[k].toNat : Int) = false := by simpa using hl
    clear hl
    by_cases h0 : k = 0
    ·have hf := hbad (by rw [Gr.nameAt, Hat.out, hL]; simp [h0])
     subst h0
     clear hbad hgood
     go_wp2_with (go_at_call 79; refine (letterd_any _ _).mono ?_; rw [hL]; rintro e w4 ⟨rfl, rfl⟩)
     go_ret
     exact ⟨ret_bool hf.out.symm, rfl⟩
    have h0b : ((k : Int) == 0) = false := by simp; omega
    by_cases h1 : (s[k].toNat : Int) = 45
    ·have h1b : ((s[k].toNat : Int) != 45) = false := by simp [h1]
     have hf := hgood (by rw [Gr.nameAt, Hat.out, hL, h1]; simp [h0])
     clear hbad hgood h1
     go_wp2_with (go_at_call 79; refine (letterd_any _ _).mono ?_; rw [hL]; rintro e w4 ⟨rfl, rfl⟩)
     go_round
     case rel => exact ⟨k + 1, by omega, by go_num, hf.out⟩
     case measure => simp [intOf]; omega
    have h1b : ((s[k].toNat : Int) != 45) = true := by simp [h1]
    by_cases h2 : (s[k].toNat : Int) < 48
    ·have hf := hbad (by rw [Gr.nameAt, Hat.out, hL]; simp [h1]; omega)
     clear hbad hgood h1 h0
     go_wp2_with (go_at_call 79; refine (letterd_any _ _).mono ?_; rw [hL]; rintro e w4 ⟨rfl, rfl⟩)
     go_ret
     exact ⟨ret_bool hf.out.symm, rfl⟩
    by_cases h3 : 57 < (s[k].toNat : Int)
    ·have hf := hbad (by rw [Gr.nameAt, Hat.out, hL]; simp [h1]; omega)
     clear hbad hgood h1 h0
     go_wp2_with (go_at_call 79; refine (letterd_any _ _).mono ?_; rw [hL]; rintro e w4 ⟨rfl, rfl⟩)
     go_ret
     exact ⟨ret_bool hf.out.symm, rfl⟩
    ·have hf := hgood (by rw [Gr.nameAt, Hat.out, hL]; simp [h0]; omega)
     clear hbad hgood h1 h0
     go_wp2_with (go_at_call 79; refine (letterd_any _ _).mono ?_; rw [hL]; rintro e w4 ⟨rfl, rfl⟩)
     go_round
     case rel => exact ⟨k + 1, by omega, by go_num, hf.out⟩
     case measure => simp [intOf]; omega
  ·obtain rfl : k = s.size := by omega
   have hf : Hid (Gr.isName s = decide (1 <= s.size /\ s.size <= 16)) := by
    show _ = _
    unfold Gr.isName
    rw [Ha.out, Bool.true_and]
   by_cases h1 : (1 : Int) <= (s.size : Int)
   ·go_wp2
    go_ret
    refine ⟨ret_bool ?_, rfl⟩
    rw [hf.out, Bool.eq_iff_iff]; simp; omega
   ·go_wp2
    go_ret
    refine ⟨ret_bool ?_, rfl⟩
    rw [hf.out, Bool.eq_iff_iff]; simp; omega
end

section
variable (y m d : Int) (w : World)

theorem leapB_eq (y : Int) : Cal.leapB y = (y % 4 == 0 && (y % 100 != 0 || y % 400 == 0)) := by
 rw [Bool.eq_iff_iff, Cal.leap_iff]; simp

theorem leap_any (h0 : 0 <= y) : Calls Tryz.prog 112 #[.int .i64 y] w fun e w' => e = .returned (.bool (Cal.leapB y)) /\ w = w' := by
 rw [leapB_eq]
 go_enter Tryz.func112, Tryz.ntmps112
 go_wp2
 all_goals (go_ret; exact ⟨ret_bool (by simp [*]), rfl⟩)

theorem dvalid_any : Calls Tryz.prog 97 #[.int .i64 d] w fun e w' => e = .returned (.bool (decide (-25567 <= d /\ d <= 84005))) /\ w = w' := by
 go_enter Tryz.func97, Tryz.ntmps97
 go_wp2
 all_goals (go_ret; exact ⟨ret_bool (by simp; omega), rfl⟩)

theorem begin_any (h0 : 1 <= y) (h1 : y <= 100000) : Calls Tryz.prog 95 #[.int .i64 y] w fun e w' => e = .returned (.int .i64 (Cal.byear y)) /\ w = w' := by
 go_enter Tryz.func95, Tryz.ntmps95
 go_wp2
 go_ret
 exact ⟨ret_int (by unfold Cal.byear; simp), rfl⟩

theorem tab_at (h1 : 1 <= m) (h2 : m <= 12) : ([Value.int .i64 31, Value.int .i64 28, Value.int .i64 31, Value.int .i64 30, Value.int .i64 31, Value.int .i64 30, Value.int .i64 31, Value.int .i64 31, Value.int .i64 30, Value.int .i64 31, Value.int .i64 30, Value.int .i64 31] : List Value)[m.toNat - 1]? = some (.int .i64 (Cal.tab m)) := by
 have hm : m = 1 ∨ m = 2 ∨ m = 3 ∨ m = 4 ∨ m = 5 ∨ m = 6 ∨ m = 7 ∨ m = 8 ∨ m = 9 ∨ m = 10 ∨ m = 11 ∨ m = 12 := by omega
 rcases hm with rfl | rfl | rfl | rfl | rfl | rfl | rfl | rfl | rfl | rfl | rfl | rfl <;> rfl
theorem ddays_in (hv : 1900 <= y /\ y <= 2199 /\ 1 <= m /\ m <= 12) : Calls Tryz.prog 94 #[.int .i64 y, .int .i64 m] w fun e w' => e = .returned (.int .i64 (Cal.mlen y m)) /\ Below w.heap.size w w' := by
 obtain ⟨h1, h2, h3, h4⟩ := hv
 have hc := tab_at m h3 h4
 by_cases hm : m = 2
 ·subst hm
  clear hc
  go_enter Tryz.func94, Tryz.ntmps94
  go_wp2_with (go_at_call 112; refine (leap_any _ _ (by omega)).mono ?_; rintro e w' ⟨rfl, rfl⟩)
  all_goals (go_ret; exact ⟨ret_int (by simp [Cal.mlen, Cal.tab, *]), (Below.refl _ _).alloc (Nat.le_refl _) _⟩)
 ·have hm2 : (m == 2) = false := by simpa using hm
  have hr : Hid (Cal.mlen y m = Cal.tab m) := by show Cal.mlen y m = Cal.tab m; simp [Cal.mlen, hm]
  go_enter Tryz.func94, Tryz.ntmps94
  go_wp2
  go_ret
  exact ⟨ret_int hr.symm, (Below.refl _ _).alloc (Nat.le_refl _) _⟩

theorem ddays_out (hv : ¬ (1900 <= y /\ y <= 2199 /\ 1 <= m /\ m <= 12)) : Calls Tryz.prog 94 #[.int .i64 y, .int .i64 m] w fun e w' => e = .returned (.int .i64 0) /\ Below w.heap.size w w' := by
 rcases (show y < 1900 ∨ (1900 <= y /\ 2199 < y) ∨ (1900 <= y /\ y <= 2199 /\ m < 1) ∨ (1900 <= y /\ y <= 2199 /\ 1 <= m /\ 12 < m) by omega) with h | ⟨h1, h2⟩ | ⟨h1, h2, h3⟩ | ⟨h1, h2, h3, h4⟩
 all_goals
  clear hv
  go_enter Tryz.func94, Tryz.ntmps94
  go_wp2
  go_ret
  exact ⟨rfl, Below.refl _ _⟩

theorem ddays_any : Calls Tryz.prog 94 #[.int .i64 y, .int .i64 m] w fun e w' => e = .returned (.int .i64 (Cal.days y m)) /\ Below w.heap.size w w' := by
 by_cases h : 1900 <= y /\ y <= 2199 /\ 1 <= m /\ m <= 12
 ·rw [Cal.days_in y m h]; exact ddays_in y m w h
 ·rw [Cal.days_out y m h]; exact ddays_out y m w h
theorem cum_step (k : Nat) (y : Int) (h1 : 1 <= k) (h2 : k <= 12) : Cal.cum y ((k : Int) + 1) = Cal.cum y k + Cal.mlen y k := Cal.cum_succ y k (by omega) (by omega)

theorem dof_bad (h : ¬ Cal.vld y m d) : Calls Tryz.prog 76 #[.int .i64 y, .int .i64 m, .int .i64 d] w fun e w' => e = .returned (.tuple #[.int .i64 0, .int .i64 2]) /\ Below w.heap.size w w' := by
 have hb := Cal.days_bd y m
 rw [Cal.days_vld] at h
 by_cases h1 : d < 1
 ·clear h
  go_enter Tryz.func76, Tryz.ntmps76
  go_wp2
  go_ret2
  exact ⟨rfl, Below.refl _ _⟩
 ·have h2 : Cal.days y m < d := by omega
  clear h
  go_enter Tryz.func76, Tryz.ntmps76
  go_wp2_with (go_at_call 94; refine (ddays_any _ _ _).mono ?_; rintro e w' ⟨rfl, hB⟩)
  go_ret2
  exact ⟨rfl, hB⟩

theorem dof_any (h : Cal.vld y m d) : Calls Tryz.prog 76 #[.int .i64 y, .int .i64 m, .int .i64 d] w fun e w' => e = .returned (.tuple #[.int .i64 (Cal.num y m d), .int .i64 0]) /\ Below w.heap.size w w' := by
 have hb := Cal.days_bd y m
 have hn := Cal.num_bd y m d h
 have hn' := Cal.num_year y m d h
 obtain ⟨g1, g2⟩ := (Cal.days_vld y m d).1 h
 obtain ⟨h1, h2, h3, h4, h5, h6⟩ := h
 have hy := Cal.byear_bd y h1 (by omega)
 go_enter Tryz.func76, Tryz.ntmps76
 go_wp2_with (first | (go_at_call 94; refine (ddays_any _ _ _).mono ?_; rintro e w1 ⟨rfl, hB⟩) | (go_at_call 95; refine (begin_any _ _ (by omega) (by omega)).mono ?_; rintro e w2 ⟨rfl, rfl⟩))
 go_loopw [8, 9] (fun n i wr => ∃ k : Nat, 1 <= k /\ (k : Int) <= m /\ i = .int .i64 k /\ n = .int .i64 (Cal.byear y + Cal.cum y k + d - 1) /\ Below w.heap.size w wr) (fun _ i _ => (m - intOf i).toNat)
 case atStart => exact ⟨1, by omega, by omega, rfl, by simp [Cal.cum_one], hB⟩
 case round =>
  obtain ⟨k, hk1, hk2, rfl, rfl, hB2⟩ := hrel
  have hc := Cal.cum_bd y k (by omega) (by omega)
  by_cases hlt : (k : Int) < m
  ·have hs := Lib.hid (cum_step k y hk1 (by omega))
   have hm := Cal.mlen_bd y k
   go_wp2_with (go_at_call 94; refine (ddays_in _ _ _ ⟨h1, h2, by omega, by omega⟩).mono ?_; rintro e w3 ⟨rfl, hB3⟩)
   go_roundw
   case rel => exact ⟨k + 1, by omega, by omega, by go_num, by have := hs.out; rw [show ((k + 1 : Nat) : Int) = (k : Int) + 1 from rfl, this]; go_num, hB2.trans (hB3.mono hB2.size)⟩
   case measure => simp [intOf]; omega
  ·obtain rfl : m = k := by omega
   go_wp2
   go_ret2
   exact ⟨rfl, hB2⟩

end
end Go.Proofs.YtobnfmneeabomaaGreat
