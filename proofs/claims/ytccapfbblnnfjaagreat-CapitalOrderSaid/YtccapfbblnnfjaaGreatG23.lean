/- My texts GroupA, GroupB. -/
import Derived.Test.YtccapfbblnnfjaaGreatG22
set_option linter.unusedVariables false
set_option linter.unusedSimpArgs false
set_option maxRecDepth 100000
set_option maxHeartbeats 8000000
namespace Go.Proofs.YtccapfbblnnfjaaGreat
open Go.RowKit

section
variable (w : World)
theorem based_any (a : Acc) : Calls Tryz.prog 108 #[.agg #[.int .i64 (a).code, .int .i64 (a).kind, .int .i64 (a).basis, .int .i64 (a).parent]] w fun e w' => e = .returned (.bool (Gr.based a)) /\ Below w.heap.size w w' := by
 have hB0 := (Below.refl w.heap.size w).alloc (Nat.le_refl _) (.cells #[.int .i64 (a).code, .int .i64 (a).kind, .int .i64 (a).basis, .int .i64 (a).parent] 132)
 by_cases k1 : a.kind = 1
 ·have kb : (a.kind == 1) = true := by simp [k1]
  have HK := Lib.hid k1
  clear k1
  by_cases hb : a.basis = 1
  ·have hbb : (a.basis == 1) = true := by simp [hb]
   have HV : Hid (Gr.based a = true) := by show _ = _; simp [Gr.based, HK.out, hb]
   clear hb HK
   go_enter Tryz.func108, Tryz.ntmps108
   go_wp2
   go_ret
   exact ⟨by rw [HV.out]; rfl, hB0⟩
  have hb1 : (a.basis == 1) = false := by simp [hb]
  by_cases hb3 : a.basis = 3
  ·have hbb : (a.basis == 3) = true := by simp [hb3]
   have HV : Hid (Gr.based a = true) := by show _ = _; simp [Gr.based, HK.out, hb3]
   clear hb hb3 HK
   go_enter Tryz.func108, Tryz.ntmps108
   go_wp2
   go_ret
   exact ⟨by rw [HV.out]; rfl, hB0⟩
  ·have hbb : (a.basis == 3) = false := by simp [hb3]
   have HV : Hid (Gr.based a = false) := by show _ = _; simp [Gr.based, HK.out, hb, hb3]
   clear hb hb3 HK
   go_enter Tryz.func108, Tryz.ntmps108
   go_wp2
   go_ret
   exact ⟨by rw [HV.out]; rfl, hB0⟩
 have kb1 : (a.kind == 1) = false := by simp [k1]
 by_cases k2 : a.kind = 2
 ·have kb : (a.kind == 2) = true := by simp [k2]
  have HK := Lib.hid k2
  clear k1 k2
  by_cases hb : a.basis = 1
  ·have hbb : (a.basis == 1) = true := by simp [hb]
   have HV : Hid (Gr.based a = true) := by show _ = _; simp [Gr.based, HK.out, hb]
   clear hb HK
   go_enter Tryz.func108, Tryz.ntmps108
   go_wp2
   go_ret
   exact ⟨by rw [HV.out]; rfl, hB0⟩
  have hb1 : (a.basis == 1) = false := by simp [hb]
  by_cases hb3 : a.basis = 3
  ·have hbb : (a.basis == 3) = true := by simp [hb3]
   have HV : Hid (Gr.based a = true) := by show _ = _; simp [Gr.based, HK.out, hb3]
   clear hb hb3 HK
   go_enter Tryz.func108, Tryz.ntmps108
   go_wp2
   go_ret
   exact ⟨by rw [HV.out]; rfl, hB0⟩
  ·have hbb : (a.basis == 3) = false := by simp [hb3]
   have HV : Hid (Gr.based a = false) := by show _ = _; simp [Gr.based, HK.out, hb, hb3]
   clear hb hb3 HK
   go_enter Tryz.func108, Tryz.ntmps108
   go_wp2
   go_ret
   exact ⟨by rw [HV.out]; rfl, hB0⟩
 have kb2 : (a.kind == 2) = false := by simp [k2]
 by_cases k3 : a.kind = 3
 ·have kb : (a.kind == 3) = true := by simp [k3]
  have HK := Lib.hid k3
  clear k1 k2 k3
  by_cases hb : a.basis = 3
  ·have hbb : (a.basis == 3) = true := by simp [hb]
   have HV : Hid (Gr.based a = true) := by show _ = _; simp [Gr.based, HK.out, hb]
   clear hb HK
   go_enter Tryz.func108, Tryz.ntmps108
   go_wp2
   go_ret
   exact ⟨by rw [HV.out]; rfl, hB0⟩
  ·have hbb : (a.basis == 3) = false := by simp [hb]
   have HV : Hid (Gr.based a = false) := by show _ = _; simp [Gr.based, HK.out, hb]
   clear hb HK
   go_enter Tryz.func108, Tryz.ntmps108
   go_wp2
   go_ret
   exact ⟨by rw [HV.out]; rfl, hB0⟩
 have kb3 : (a.kind == 3) = false := by simp [k3]
 have HK := Lib.hid (show ¬ (a.kind = 1 ∨ a.kind = 2) /\ ¬ a.kind = 3 from ⟨by omega, k3⟩)
 clear k1 k2 k3
 by_cases hb : a.basis = 2
 ·have hbb : (a.basis == 2) = true := by simp [hb]
  have HV : Hid (Gr.based a = true) := by show _ = _; simp [Gr.based, HK.out.1, HK.out.2, hb]
  clear hb HK
  go_enter Tryz.func108, Tryz.ntmps108
  go_wp2
  go_ret
  exact ⟨by rw [HV.out]; rfl, hB0⟩
 ·have hbb : (a.basis == 2) = false := by simp [hb]
  have HV : Hid (Gr.based a = false) := by show _ = _; simp [Gr.based, HK.out.1, HK.out.2, hb]
  clear hb HK
  go_enter Tryz.func108, Tryz.ntmps108
  go_wp2
  go_ret
  exact ⟨by rw [HV.out]; rfl, hB0⟩
theorem basis_any (a : Acc) : Calls Tryz.prog 151 #[.agg #[.int .i64 (a).code, .int .i64 (a).kind, .int .i64 (a).basis, .int .i64 (a).parent]] w fun e w' => e = .returned (.bool (Gr.based a)) /\ Below w.heap.size w w' := by
 have hB0 := (Below.refl w.heap.size w).alloc (Nat.le_refl _) (.cells #[.int .i64 (a).code, .int .i64 (a).kind, .int .i64 (a).basis, .int .i64 (a).parent] 132)
 by_cases k1 : a.kind = 1
 ·have kb : (a.kind == 1) = true := by simp [k1]
  have HK := Lib.hid k1
  clear k1
  by_cases hb : a.basis = 1
  ·have hbb : (a.basis == 1) = true := by simp [hb]
   have HV : Hid (Gr.based a = true) := by show _ = _; simp [Gr.based, HK.out, hb]
   clear hb HK
   go_enter Tryz.func151, Tryz.ntmps151
   go_wp2
   go_ret
   exact ⟨by rw [HV.out]; rfl, hB0⟩
  have hb1 : (a.basis == 1) = false := by simp [hb]
  by_cases hb3 : a.basis = 3
  ·have hbb : (a.basis == 3) = true := by simp [hb3]
   have HV : Hid (Gr.based a = true) := by show _ = _; simp [Gr.based, HK.out, hb3]
   clear hb hb3 HK
   go_enter Tryz.func151, Tryz.ntmps151
   go_wp2
   go_ret
   exact ⟨by rw [HV.out]; rfl, hB0⟩
  ·have hbb : (a.basis == 3) = false := by simp [hb3]
   have HV : Hid (Gr.based a = false) := by show _ = _; simp [Gr.based, HK.out, hb, hb3]
   clear hb hb3 HK
   go_enter Tryz.func151, Tryz.ntmps151
   go_wp2
   go_ret
   exact ⟨by rw [HV.out]; rfl, hB0⟩
 have kb1 : (a.kind == 1) = false := by simp [k1]
 by_cases k2 : a.kind = 2
 ·have kb : (a.kind == 2) = true := by simp [k2]
  have HK := Lib.hid k2
  clear k1 k2
  by_cases hb : a.basis = 1
  ·have hbb : (a.basis == 1) = true := by simp [hb]
   have HV : Hid (Gr.based a = true) := by show _ = _; simp [Gr.based, HK.out, hb]
   clear hb HK
   go_enter Tryz.func151, Tryz.ntmps151
   go_wp2
   go_ret
   exact ⟨by rw [HV.out]; rfl, hB0⟩
  have hb1 : (a.basis == 1) = false := by simp [hb]
  by_cases hb3 : a.basis = 3
  ·have hbb : (a.basis == 3) = true := by simp [hb3]
   have HV : Hid (Gr.based a = true) := by show _ = _; simp [Gr.based, HK.out, hb3]
   clear hb hb3 HK
   go_enter Tryz.func151, Tryz.ntmps151
   go_wp2
   go_ret
   exact ⟨by rw [HV.out]; rfl, hB0⟩
  ·have hbb : (a.basis == 3) = false := by simp [hb3]
   have HV : Hid (Gr.based a = false) := by show _ = _; simp [Gr.based, HK.out, hb, hb3]
   clear hb hb3 HK
   go_enter Tryz.func151, Tryz.ntmps151
   go_wp2
   go_ret
   exact ⟨by rw [HV.out]; rfl, hB0⟩
 have kb2 : (a.kind == 2) = false := by simp [k2]
 by_cases k3 : a.kind = 3
 ·have kb : (a.kind == 3) = true := by simp [k3]
  have HK := Lib.hid k3
  clear k1 k2 k3
  by_cases hb : a.basis = 3
  ·have hbb : (a.basis == 3) = true := by simp [hb]
   have HV : Hid (Gr.based a = true) := by show _ = _; simp [Gr.based, HK.out, hb]
   clear hb HK
   go_enter Tryz.func151, Tryz.ntmps151
   go_wp2
   go_ret
   exact ⟨by rw [HV.out]; rfl, hB0⟩
  ·have hbb : (a.basis == 3) = false := by simp [hb]
   have HV : Hid (Gr.based a = false) := by show _ = _; simp [Gr.based, HK.out, hb]
   clear hb HK
   go_enter Tryz.func151, Tryz.ntmps151
   go_wp2
   go_ret
   exact ⟨by rw [HV.out]; rfl, hB0⟩
 have kb3 : (a.kind == 3) = false := by simp [k3]
 have HK := Lib.hid (show ¬ (a.kind = 1 ∨ a.kind = 2) /\ ¬ a.kind = 3 from ⟨by omega, k3⟩)
 clear k1 k2 k3
 by_cases hb : a.basis = 2
 ·have hbb : (a.basis == 2) = true := by simp [hb]
  have HV : Hid (Gr.based a = true) := by show _ = _; simp [Gr.based, HK.out.1, HK.out.2, hb]
  clear hb HK
  go_enter Tryz.func151, Tryz.ntmps151
  go_wp2
  go_ret
  exact ⟨by rw [HV.out]; rfl, hB0⟩
 ·have hbb : (a.basis == 2) = false := by simp [hb]
  have HV : Hid (Gr.based a = false) := by show _ = _; simp [Gr.based, HK.out.1, HK.out.2, hb]
  clear hb HK
  go_enter Tryz.func151, Tryz.ntmps151
  go_wp2
  go_ret
  exact ⟨by rw [HV.out]; rfl, hB0⟩
theorem notbased_any (a : Acc) : Calls Tryz.prog 107 #[.agg #[.int .i64 (a).code, .int .i64 (a).kind, .int .i64 (a).basis, .int .i64 (a).parent]] w fun e w' => e = .returned (.bool (!Gr.based a)) /\ Below w.heap.size w w' := by
 have hB0 := (Below.refl w.heap.size w).alloc (Nat.le_refl _) (.cells #[.int .i64 (a).code, .int .i64 (a).kind, .int .i64 (a).basis, .int .i64 (a).parent] 132)
 go_enter Tryz.func107, Tryz.ntmps107
 go_wp2_with (fail)
 refine (based_any _ a).mono ?_
 rintro e w1 ⟨rfl, hB1⟩
 go_wp2
 go_ret
 exact ⟨rfl, hB0.trans (hB1.mono (by simp))⟩
theorem all_take {α : Type} {l : List α} {P : α -> Bool} {k : Nat} (hk : k < l.length) (h : (l.take k).all P = true) (hp : P l[k] = true) : (l.take (k + 1)).all P = true := by
 rw [List.take_succ_eq_append_getElem hk, List.all_append, h]; simp [hp]
theorem all_miss {α : Type} {l : List α} {P : α -> Bool} {k : Nat} (hk : k < l.length) (hp : P l[k] = false) : l.all P = false := by
 rw [List.all_eq_false]; exact ⟨l[k], List.getElem_mem hk, by simp [hp]⟩
theorem idxbased_any (A : Option Addr) (n c : Nat) (l : List Acc) (hl : l.length = n) (hn : n <= 100000) (h : AccsAt w w.heap.size A l) :
  Calls Tryz.prog 97 #[.slice A n c, .func (.func 107) #[] #[]] w fun e w' => ∃ i : Int, e = .returned (.int .i64 i) /\ (0 <= i ↔ l.all Gr.based = false) /\ Below w.heap.size w w' := by
 subst hl
 go_enter Tryz.func97, Tryz.ntmps97
 go_wp2
 go_loopw [8] (fun i wr => ∃ k : Nat, k <= l.length /\ i = .int .i64 k /\ (l.take k).all Gr.based = true /\ Below w.heap.size w wr) (fun i _ => l.length - (intOf i).toNat)
 case atStart => exact ⟨0, Nat.zero_le _, rfl, rfl, Below.refl _ _⟩
 case round =>
  obtain ⟨k, hk, rfl, ha, hb⟩ := hrel
  have Ha := Lib.hid ha
  clear ha
  by_cases hlt : k < l.length
  ·obtain ⟨b, o, rfl, hbB, c0, c1, c2, c3⟩ := AccsAt.four (RowsAt.below h hb (Nat.le_refl _)) hlt
   have hbw : b < wr.heap.size := Nat.lt_of_lt_of_le hbB hb.size
   by_cases h1 : Gr.based l[k] = true
   ·have hf := Lib.hid (all_take hlt Ha.out h1)
    go_wp2_with (fail)
    refine (notbased_any wr l[k]).mono ?_
    rw [h1]
    rintro e w4 ⟨rfl, hB4⟩
    clear h1
    go_wp2
    go_roundw
    case rel => exact ⟨k + 1, by omega, by go_num, hf.out, hb.trans (hB4.mono hb.size)⟩
    case measure => simp [intOf]; omega
   ·have h1' : Gr.based l[k] = false := by simpa using h1
    have hf := Lib.hid (all_miss (P := Gr.based) hlt h1')
    go_wp2_with (fail)
    refine (notbased_any wr l[k]).mono ?_
    rw [h1']
    rintro e w4 ⟨rfl, hB4⟩
    clear h1 h1'
    go_wp2
    go_ret
    exact ⟨_, rfl, ⟨fun _ => hf.out, fun _ => by omega⟩, hb.trans (hB4.mono hb.size)⟩
  ·obtain rfl : k = l.length := by omega
   clear h
   go_wp2
   go_ret
   refine ⟨_, rfl, ⟨fun h => by omega, fun h => ?_⟩, hb⟩
   have h' := Ha.out
   rw [List.take_length] at h'
   rw [h'] at h; cases h
theorem cntbased_any (A : Option Addr) (n c : Nat) (l : List Acc) (hl : l.length = n) (hn : n <= 100000) (h : AccsAt w w.heap.size A l) :
  Calls Tryz.prog 106 #[.slice A n c, .func (.func 107) #[] #[]] w fun e w' => e = .returned (.bool (!l.all Gr.based)) /\ Below w.heap.size w w' := by
 go_enter Tryz.func106, Tryz.ntmps106
 go_wp2_with (fail)
 refine (idxbased_any w A n c l hl hn h).mono ?_
 rintro e w1 ⟨i, rfl, hi, hB⟩
 have Hi := Lib.hid hi
 clear hi
 go_wp2
 go_ret
 refine ⟨ret_bool ?_, hB⟩
 have := Hi.out
 rw [Bool.eq_iff_iff]; simp [this]
end

section
variable (w : World)
theorem acctr_any (g : Grp) (x : Int) (hg : g.At w w.heap.size) :
  Calls Tryz.prog 153 #[.agg #[.string g.cur, .int .i64 g.Y, .int .i64 g.M, .int .i64 g.N, .slice g.cA g.cn g.cc, .int .i64 g.r0, .int .i64 g.r1, .int .i64 g.r2, .int .i64 g.r3, .int .i64 g.r4, .int .i64 g.r5, .int .i64 g.r6, .int .i64 g.r7, .int .i64 g.r8, .int .i64 g.r9, .int .i64 g.r10, .int .i64 g.r11, .int .i64 g.r12, .int .i64 g.r13, .int .i64 g.r14, .slice g.eA g.en g.ec], .int .i64 x] w fun e w' => e = .returned (.tuple #[.agg #[.int .i64 (Ch.found g.chart x).code, .int .i64 (Ch.found g.chart x).kind, .int .i64 (Ch.found g.chart x).basis, .int .i64 (Ch.found g.chart x).parent], .bool (Ch.has g.chart x)]) /\ Below w.heap.size w w' := by
 obtain ⟨W1, hW1, hB0, hb0, hb2, hz⟩ := nw2 w #[.string g.cur, .int .i64 g.Y, .int .i64 g.M, .int .i64 g.N, .slice g.cA g.cn g.cc, .int .i64 g.r0, .int .i64 g.r1, .int .i64 g.r2, .int .i64 g.r3, .int .i64 g.r4, .int .i64 g.r5, .int .i64 g.r6, .int .i64 g.r7, .int .i64 g.r8, .int .i64 g.r9, .int .i64 g.r10, .int .i64 g.r11, .int .i64 g.r12, .int .i64 g.r13, .int .i64 g.r14, .slice g.eA g.en g.ec] #[.int .i64 0, .int .i64 0, .int .i64 0, .int .i64 0] 29 132
 have HW := Lib.hid hW1
 have hA1 := RowsAt.at_ hg.hc hB0
 have x4 := cell_of_row _ _ 4 _ _ _ hb0
 simp at x4
 have s1 : w.heap.size < W1.heap.size := by omega
 have s2 : w.heap.size + 1 < W1.heap.size := by omega
 have Hb2 := Lib.hid hb2
 have Hcl := Lib.hid hg.hcl
 have hcn := hg.hcn
 clear hW1 hz hb0 hb2 hg
 go_enter Tryz.func153, Tryz.ntmps153
 go_upto_region 1 with (fail)
 rw [<- HW.out]
 go_wp2_with (fail)
 refine (findr_any W1 g.cA g.cn g.cc g.chart x Hcl.out hcn hA1).mono ?_
 rintro e W2 ⟨rfl, hB2⟩
 have hB02 := hB0.trans (hB2.mono hB0.size)
 have hd2 := gbox Hb2.out hB2 s2
 have Hd2 := Lib.hid hd2
 obtain ⟨q, hq⟩ : ∃ q, q = Ch.found g.chart x := ⟨_, rfl⟩
 rw [<- hq]
 have Hq := Lib.hid hq
 have Ho := Lib.hid (accOne q.code q.kind q.basis q.parent)
 have hR := setRow_heap W2 (w.heap.size + 1) _ #[.int .i64 (q).code, .int .i64 (q).kind, .int .i64 (q).basis, .int .i64 (q).parent] _ _ hd2
 have hload := Lib.hid (run_loadVar_row (P := Tryz.prog) _ _ _ 132 _ _ _ hR Tryz.underlying132 rfl accSize)
 have hBF := Lib.hid (below_setRow hB02 (show w.heap.size <= w.heap.size + 1 by omega) #[.int .i64 (q).code, .int .i64 (q).kind, .int .i64 (q).basis, .int .i64 (q).parent])
 clear x4 hd2 hR hq hA1
 go_wp2_with (refine wpList_store_row rfl 132 (.tmp 4) (.tmp 10) none rfl rfl (w.heap.size + 1) 132 _ #[.int .i64 (q).code, .int .i64 (q).kind, .int .i64 (q).basis, .int .i64 (q).parent] rfl rfl Hd2.out rfl accSize Ho.out ?_)
 exact bodyPost_ret (v := .tuple #[.agg #[.int .i64 (q).code, .int .i64 (q).kind, .int .i64 (q).basis, .int .i64 (q).parent], .bool (Ch.has g.chart x)]) (by simp [results, Tryz.results153, asAddr, Act.put, hload.out]) rfl ⟨by rw [Hq.out], hBF.out⟩
end
end Go.Proofs.YtccapfbblnnfjaaGreat
