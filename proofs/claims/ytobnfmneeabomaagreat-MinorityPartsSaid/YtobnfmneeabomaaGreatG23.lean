/- My texts GroupA, GroupB. -/
import Derived.Test.YtobnfmneeabomaaGreatG22
set_option linter.unusedVariables false
set_option linter.unusedSimpArgs false
set_option maxRecDepth 100000
set_option maxHeartbeats 8000000
namespace Go.Proofs.YtobnfmneeabomaaGreat
open Go.RowKit

section
variable (w : World)
theorem based_any (a : Acc) : Calls Tryz.prog 55 #[.agg #[.int .i64 (a).code, .int .i64 (a).kind, .int .i64 (a).basis, .int .i64 (a).parent]] w fun e w' => e = .returned (.bool (Gr.based a)) /\ Below w.heap.size w w' := by
 have hB0 := (Below.refl w.heap.size w).alloc (Nat.le_refl _) (.cells #[.int .i64 (a).code, .int .i64 (a).kind, .int .i64 (a).basis, .int .i64 (a).parent] 111)
 by_cases k1 : a.kind = 1
 ·have kb : (a.kind == 1) = true := by simp [k1]
  have HK := Lib.hid k1
  clear k1
  by_cases hb : a.basis = 1
  ·have hbb : (a.basis == 1) = true := by simp [hb]
   have HV : Hid (Gr.based a = true) := by show _ = _; simp [Gr.based, HK.out, hb]
   clear hb HK
   go_enter Tryz.func55, Tryz.ntmps55
   go_wp2
   go_ret
   exact ⟨by rw [HV.out]; rfl, hB0⟩
  have hb1 : (a.basis == 1) = false := by simp [hb]
  by_cases hb3 : a.basis = 3
  ·have hbb : (a.basis == 3) = true := by simp [hb3]
   have HV : Hid (Gr.based a = true) := by show _ = _; simp [Gr.based, HK.out, hb3]
   clear hb hb3 HK
   go_enter Tryz.func55, Tryz.ntmps55
   go_wp2
   go_ret
   exact ⟨by rw [HV.out]; rfl, hB0⟩
  ·have hbb : (a.basis == 3) = false := by simp [hb3]
   have HV : Hid (Gr.based a = false) := by show _ = _; simp [Gr.based, HK.out, hb, hb3]
   clear hb hb3 HK
   go_enter Tryz.func55, Tryz.ntmps55
   go_wp2
   go_ret
   exact ⟨by rw [HV.out]; rfl, hB0⟩
 have kb1 : (a.kind == 1) = false := by simp [k1]
 by_cases k2 : a.kind = 2
 ·have kb : (a.kind == 2) = true := by simp [k2]
  have HK := Lib.hid k2
  clear k1 k2
  by_cases hb : a.basis = 1
  ·have hbb : (a.basis == 1) = true := by simp [hb]
   have HV : Hid (Gr.based a = true) := by show _ = _; simp [Gr.based, HK.out, hb]
   clear hb HK
   go_enter Tryz.func55, Tryz.ntmps55
   go_wp2
   go_ret
   exact ⟨by rw [HV.out]; rfl, hB0⟩
  have hb1 : (a.basis == 1) = false := by simp [hb]
  by_cases hb3 : a.basis = 3
  ·have hbb : (a.basis == 3) = true := by simp [hb3]
   have HV : Hid (Gr.based a = true) := by show _ = _; simp [Gr.based, HK.out, hb3]
   clear hb hb3 HK
   go_enter Tryz.func55, Tryz.ntmps55
   go_wp2
   go_ret
   exact ⟨by rw [HV.out]; rfl, hB0⟩
  ·have hbb : (a.basis == 3) = false := by simp [hb3]
   have HV : Hid (Gr.based a = false) := by show _ = _; simp [Gr.based, HK.out, hb, hb3]
   clear hb hb3 HK
   go_enter Tryz.func55, Tryz.ntmps55
   go_wp2
   go_ret
   exact ⟨by rw [HV.out]; rfl, hB0⟩
 have kb2 : (a.kind == 2) = false := by simp [k2]
 by_cases k3 : a.kind = 3
 ·have kb : (a.kind == 3) = true := by simp [k3]
  have HK := Lib.hid k3
  clear k1 k2 k3
  by_cases hb : a.basis = 3
  ·have hbb : (a.basis == 3) = true := by simp [hb]
   have HV : Hid (Gr.based a = true) := by show _ = _; simp [Gr.based, HK.out, hb]
   clear hb HK
   go_enter Tryz.func55, Tryz.ntmps55
   go_wp2
   go_ret
   exact ⟨by rw [HV.out]; rfl, hB0⟩
  ·have hbb : (a.basis == 3) = false := by simp [hb]
   have HV : Hid (Gr.based a = false) := by show _ = _; simp [Gr.based, HK.out, hb]
   clear hb HK
   go_enter Tryz.func55, Tryz.ntmps55
   go_wp2
   go_ret
   exact ⟨by rw [HV.out]; rfl, hB0⟩
 have kb3 : (a.kind == 3) = false := by simp [k3]
 have HK := Lib.hid (show ¬ (a.kind = 1 ∨ a.kind = 2) /\ ¬ a.kind = 3 from ⟨by omega, k3⟩)
 clear k1 k2 k3
 by_cases hb : a.basis = 2
 ·have hbb : (a.basis == 2) = true := by simp [hb]
  have HV : Hid (Gr.based a = true) := by show _ = _; simp [Gr.based, HK.out.1, HK.out.2, hb]
  clear hb HK
  go_enter Tryz.func55, Tryz.ntmps55
  go_wp2
  go_ret
  exact ⟨by rw [HV.out]; rfl, hB0⟩
 ·have hbb : (a.basis == 2) = false := by simp [hb]
  have HV : Hid (Gr.based a = false) := by show _ = _; simp [Gr.based, HK.out.1, HK.out.2, hb]
  clear hb HK
  go_enter Tryz.func55, Tryz.ntmps55
  go_wp2
  go_ret
  exact ⟨by rw [HV.out]; rfl, hB0⟩
theorem notbased_any (a : Acc) : Calls Tryz.prog 54 #[.agg #[.int .i64 (a).code, .int .i64 (a).kind, .int .i64 (a).basis, .int .i64 (a).parent]] w fun e w' => e = .returned (.bool (!Gr.based a)) /\ Below w.heap.size w w' := by
 have hB0 := (Below.refl w.heap.size w).alloc (Nat.le_refl _) (.cells #[.int .i64 (a).code, .int .i64 (a).kind, .int .i64 (a).basis, .int .i64 (a).parent] 111)
 go_enter Tryz.func54, Tryz.ntmps54
 go_wp2_with (fail)
 refine (based_any _ a).mono ?_
 rintro e w1 ⟨rfl, hB1⟩
 go_wp2
 go_ret
 exact ⟨rfl, hB0.trans (hB1.mono (by simp))⟩
theorem all_take {α : Type} {l : List α} {P : α -> Bool} {k : Nat} (hk : k < l.length) (h : (l.take k).all P = true) (hp : P l[k] = true) : (l.take (k + 1)).all P = true := by
 rw [List.take_succ_eq_append_getElem hk, List.all_append, h]; simp [hp]
theorem all_miss {α : Type} {l : List α} {P : α -> Bool} {k : Nat} (hk : k < l.length) (hp : P l[k] = false) : l.all P = false := by
 rw [List.all_eq_false]; exact ⟨l[k], List.getElem_mem hk, by simp [hp]⟩
theorem idxbased_any (A : Option Addr) (n c : Nat) (l : List Acc) (hl : l.length = n) (hn : n <= 100000) (h : AccsAt w w.heap.size A l) :
  Calls Tryz.prog 78 #[.slice A n c, .func (.func 54) #[] #[]] w fun e w' => ∃ i : Int, e = .returned (.int .i64 i) /\ (0 <= i ↔ l.all Gr.based = false) /\ Below w.heap.size w w' := by
 subst hl
 go_enter Tryz.func78, Tryz.ntmps78
 go_wp2
 go_loopw [8] (fun i wr => ∃ k : Nat, k <= l.length /\ i = .int .i64 k /\ (l.take k).all Gr.based = true /\ Below w.heap.size w wr) (fun i _ => l.length - (intOf i).toNat)
 case atStart => exact ⟨0, Nat.zero_le _, rfl, rfl, Below.refl _ _⟩
 case round =>
  obtain ⟨k, hk, rfl, ha, hb⟩ := hrel
  have Ha := Lib.hid ha
  clear ha
  by_cases hlt : k < l.length
  ·obtain ⟨b, o, rfl, hbB, c0, c1, c2, c3⟩ := AccsAt.four (RowsAt.below h hb (Nat.le_refl _)) hlt
   have hbw : b < wr.heap.size := Nat.lt_of_lt_of_le hbB hb.size
   by_cases h1 : Gr.based l[k] = true
   ·have hf := Lib.hid (all_take hlt Ha.out h1)
    go_wp2_with (fail)
    refine (notbased_any wr l[k]).mono ?_
    rw [h1]
    rintro e w4 ⟨rfl, hB4⟩
    clear h1
    go_wp2
    go_roundw
    case rel => exact ⟨k + 1, by omega, by go_num, hf.out, hb.trans (hB4.mono hb.size)⟩
    case measure => simp [intOf]; omega
   ·have h1' : Gr.based l[k] = false := by simpa using h1
    have hf := Lib.hid (all_miss (P := Gr.based) hlt h1')
    go_wp2_with (fail)
    refine (notbased_any wr l[k]).mono ?_
    rw [h1']
    rintro e w4 ⟨rfl, hB4⟩
    clear h1 h1'
    go_wp2
    go_ret
    exact ⟨_, rfl, ⟨fun _ => hf.out, fun _ => by omega⟩, hb.trans (hB4.mono hb.size)⟩
  ·obtain rfl : k = l.length := by omega
   clear h
   go_wp2
   go_ret
   refine ⟨_, rfl, ⟨fun h => by omega, fun h => ?_⟩, hb⟩
   have h' := Ha.out
   rw [List.take_length] at h'
   rw [h'] at h; cases h
theorem cntbased_any (A : Option Addr) (n c : Nat) (l : List Acc) (hl : l.length = n) (hn : n <= 100000) (h : AccsAt w w.heap.size A l) :
  Calls Tryz.prog 53 #[.slice A n c, .func (.func 54) #[] #[]] w fun e w' => e = .returned (.bool (!l.all Gr.based)) /\ Below w.heap.size w w' := by
 go_enter Tryz.func53, Tryz.ntmps53
 go_wp2_with (fail)
 refine (idxbased_any w A n c l hl hn h).mono ?_
 rintro e w1 ⟨i, rfl, hi, hB⟩
 have Hi := Lib.hid hi
 clear hi
 go_wp2
 go_ret
 refine ⟨ret_bool ?_, hB⟩
 have := Hi.out
 rw [Bool.eq_iff_iff]; simp [this]
end

section
variable (w : World)
end
end Go.Proofs.YtobnfmneeabomaaGreat
