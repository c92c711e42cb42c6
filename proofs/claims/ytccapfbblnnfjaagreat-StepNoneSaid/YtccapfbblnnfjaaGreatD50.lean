/- My texts StepR, SumS, TimesS. -/
import Derived.Test.YtccapfbblnnfjaaGreatG26
import Derived.Test.YtccapfbblnnfjaaGreatG33
import Derived.Test.YtccapfbblnnfjaaGreatC46
set_option linter.unusedVariables false
set_option linter.unusedSimpArgs false
set_option maxRecDepth 100000
set_option maxHeartbeats 8000000
namespace Go.Proofs.YtccapfbblnnfjaaGreat
open Go.RowKit
def StPost (g : Grp) (m : List Cnt) (x : Int) (w : World) (e : Ending) (w' : World) : Prop :=
 ∃ a b c er, Gr.step g m x = ((a, b, c), er) /\ e = .returned (.tuple #[.agg #[.int .i64 a, .int .i64 b, .int .i64 c], .int .i64 er]) /\ Below w.heap.size w w'
theorem figr40Size : (Tryz.prog.info? 73).map (·.size) = some 3 := by kernel_rfl
section
variable (w : World)
theorem stepr_any (g : Grp) (A : Option Addr) (n c : Nat) (l : List Con) (m : List Cnt) (x : Int) (hl : l.length = n) (hn : n <= 100) (hA : ConsAt w w.heap.size A l) (hm : Hold (fun a b => a.Holds SR w w.heap.size b) l m) (hg : g.At w w.heap.size) :
  Calls Tryz.prog 30 #[.agg #[.string g.cur, .int .i64 g.Y, .int .i64 g.M, .int .i64 g.N, .slice g.cA g.cn g.cc, .int .i64 g.r0, .int .i64 g.r1, .int .i64 g.r2, .int .i64 g.r3, .int .i64 g.r4, .int .i64 g.r5, .int .i64 g.r6, .int .i64 g.r7, .int .i64 g.r8, .int .i64 g.r9, .int .i64 g.r10, .int .i64 g.r11, .int .i64 g.r12, .int .i64 g.r13, .int .i64 g.r14, .slice g.eA g.en g.ec], .slice A n c, .int .i64 x] w (StPost g m x w) := by
 obtain ⟨W1, hW1, hB0, hb0, hb1, hz⟩ := nw2 w #[.string g.cur, .int .i64 g.Y, .int .i64 g.M, .int .i64 g.N, .slice g.cA g.cn g.cc, .int .i64 g.r0, .int .i64 g.r1, .int .i64 g.r2, .int .i64 g.r3, .int .i64 g.r4, .int .i64 g.r5, .int .i64 g.r6, .int .i64 g.r7, .int .i64 g.r8, .int .i64 g.r9, .int .i64 g.r10, .int .i64 g.r11, .int .i64 g.r12, .int .i64 g.r13, .int .i64 g.r14, .slice g.eA g.en g.ec] #[.int .i64 0, .int .i64 0, .int .i64 0] 29 73
 have HW := Lib.hid hW1
 have Hb0 := Lib.hid hb0
 have Hb1 := Lib.hid hb1
 have hrg := Lib.hid (grp_range hb0)
 have s1 : w.heap.size < W1.heap.size := by omega
 have s1' : w.heap.size + 1 < W1.heap.size := by omega
 have hg1 := hg.at_ hB0
 have HA := Lib.hid (RowsAt.at_ hA hB0)
 have HM := Lib.hid (hm.imp (Q := fun a b => a.Holds SR W1 W1.heap.size b) fun _ _ h => h.atR hB0)
 have Hl := Lib.hid hl
 have Ho := Lib.hid (fig3One 0 0 0)
 have hfin : ∀ (W : World) (h : W.heap[w.heap.size + 1]? = some (.cells #[.int .i64 0, .int .i64 0, .int .i64 0] 73 (0, 0))), Hid ((loadVar 73 ⟨w.heap.size + 1, 0, none⟩).run Tryz.prog (W.setRow (w.heap.size + 1) #[.int .i64 0, .int .i64 0, .int .i64 0]) = .ok (.agg #[.int .i64 0, .int .i64 0, .int .i64 0]) (W.setRow (w.heap.size + 1) #[.int .i64 0, .int .i64 0, .int .i64 0])) := fun W h =>
  Lib.hid (run_loadVar_row (P := Tryz.prog) _ _ _ 73 _ _ _ (setRow_heap W (w.heap.size + 1) _ #[.int .i64 0, .int .i64 0, .int .i64 0] _ _ h) Tryz.underlying73 rfl figr40Size)
 have Hfin := Lib.hid hfin
 clear hW1 hz hb0 hb1 hg hA hm hl hfin
 go_enter Tryz.func30, Tryz.ntmps30
 go_upto_region 1 with (fail)
 rw [<- HW.out]
 go_wp2_with (refine wpList_load_mid rfl 29 (.tmp 3) rfl w.heap.size 0 rfl _ _ hrg.out Tryz.underlying29 rfl grpSize ?_)
 refine (check_any W1 g x hg1).mono ?_
 rintro e W2 ⟨rfl, hB2⟩
 have hB02 := hB0.trans (hB2.mono hB0.size)
 have Hc0 := Lib.hid (gbox Hb0.out hB2 s1)
 have Hc1 := Lib.hid (gbox Hb1.out hB2 s1')
 have Hg2 := Lib.hid (hg1.at_ hB2)
 have HA2 := Lib.hid (RowsAt.at_ HA.out hB2)
 have HM2 := Lib.hid (HM.out.imp (Q := fun a b => a.Holds SR W2 W2.heap.size b) fun _ _ h => h.atR hB2)
 obtain ⟨er, her⟩ : ∃ er, er = Gr.check g x := ⟨_, rfl⟩
 rw [<- her]
 have Her := Lib.hid her
 clear her hg1
 by_cases he : er = 0
 case neg =>
  have heb : (er != 0) = true := by simp [he]
  have HV : Hid (Gr.step g m x = ((0, 0, 0), er)) := by show _ = _; rw [Gr.step, if_pos (by rw [<- Her.out]; exact he), <- Her.out]
  have hload := Hfin.out W2 Hc1.out
  have hBF := Lib.hid (below_setRow hB02 (show w.heap.size <= w.heap.size + 1 by omega) #[.int .i64 0, .int .i64 0, .int .i64 0])
  clear he
  go_wp2_with (refine wpList_store_row rfl 73 (.tmp 6) (.tmp 22) none rfl rfl (w.heap.size + 1) 73 _ #[.int .i64 0, .int .i64 0, .int .i64 0] rfl rfl Hc1.out rfl figr40Size Ho.out ?_)
  exact bodyPost_ret (v := .tuple #[.agg #[.int .i64 0, .int .i64 0, .int .i64 0], .int .i64 er]) (by simp [results, Tryz.results30, asAddr, Act.put, hload.out]) rfl ⟨0, 0, 0, er, HV.out, rfl, hBF.out⟩
 subst he
 have hfnd := Cn.elim_hold (P := fun a b => a.Holds SR W2 W2.heap.size b) (fun _ _ h => ⟨h.he, h.hm⟩) x HM2.out
 have HF := Lib.hid hfnd
 clear hfnd
 go_wp2_with (fail)
 refine (elimr_any W2 A n c l x Hl.out hn HA2.out).mono ?_
 rintro e W3 ⟨rfl, hB3⟩
 have hB03 := hB02.trans (hB3.mono hB02.size)
 obtain ⟨x0, hx0⟩ : ∃ x0, x0 = Cn.found l x := ⟨_, rfl⟩
 obtain ⟨ok, hok⟩ : ∃ ok, ok = Cn.isElim l x := ⟨_, rfl⟩
 rw [<- hx0, <- hok]
 have HX := Lib.hid hx0
 have HK := Lib.hid hok
 have hd0 := gbox Hc0.out hB3 (some_lt Hc0.out)
 have hd1 := gbox Hc1.out hB3 (some_lt Hc1.out)
 obtain ⟨hB4, hb4, hz4⟩ := row_new W3 #[.int .i64 x0.ent, .int .i64 x0.meth, .int .i64 x0.since, .bool x0.sg1, .slice x0.sA1 x0.sn1 x0.sc1, .bool x0.sg2, .slice x0.sA2 x0.sn2 x0.sc2, .bool x0.fg1, .slice x0.fA1 x0.fn1 x0.fc1, .bool x0.fg2, .slice x0.fA2 x0.fn2 x0.fc2, .slice x0.iA x0.im x0.ic, .slice x0.hA x0.hm x0.hc] 62
 have hB04 := hB03.trans (hB4.mono hB03.size)
 have He0 := Lib.hid (gbox hd0 hB4 (some_lt hd0))
 have He1 := Lib.hid (gbox hd1 hB4 (some_lt hd1))
 have hq3 := hB03.size
 obtain ⟨W4, hW4⟩ : ∃ W4, W4 = W3.alloc (.cells #[.int .i64 x0.ent, .int .i64 x0.meth, .int .i64 x0.since, .bool x0.sg1, .slice x0.sA1 x0.sn1 x0.sc1, .bool x0.sg2, .slice x0.sA2 x0.sn2 x0.sc2, .bool x0.fg1, .slice x0.fA1 x0.fn1 x0.fc1, .bool x0.fg2, .slice x0.fA2 x0.fn2 x0.fc2, .slice x0.iA x0.im x0.ic, .slice x0.hA x0.hm x0.hc] 62) := ⟨_, rfl⟩
 rw [<- hW4] at hB4 hb4 hz4 hB04 He0 He1
 have HW4 := Lib.hid hW4
 have Hb4 := Lib.hid hb4
 have x1 := cell_of_row _ _ 1 _ _ _ hb4
 simp at x1
 have s4 : W3.heap.size < W4.heap.size := by omega
 have s4' : w.heap.size + 1 < W4.heap.size := some_lt He1.out
 have hload := Hfin.out W4 He1.out
 have hBF := Lib.hid (below_setRow hB04 (show w.heap.size <= w.heap.size + 1 by omega) #[.int .i64 0, .int .i64 0, .int .i64 0])
 clear hx0 hok hd0 hd1 hb4 hz4 hW4
 go_upto_region 5 with (fail)
 rw [<- HW4.out]
 by_cases hko : ok = true
 case neg =>
  have hko' : ok = false := by simpa using hko
  have HV : Hid (Gr.step g m x = ((0, 0, 0), 0)) := by
   show _ = _
   rw [Gr.step, if_neg (by rw [<- Her.out]; simp)]
   rcases HF.out with ⟨_, h2⟩ | ⟨y, h1, _⟩
   ·rw [h2]
   ·have := HK.out; rw [hko', h1] at this; cases this
  rw [hko']
  clear hko hko'
  go_wp2_with (refine wpList_store_row rfl 73 (.tmp 6) (.tmp 32) none rfl rfl (w.heap.size + 1) 73 _ #[.int .i64 0, .int .i64 0, .int .i64 0] rfl rfl He1.out rfl figr40Size Ho.out ?_)
  exact bodyPost_ret (v := .tuple #[.agg #[.int .i64 0, .int .i64 0, .int .i64 0], .int .i64 0]) (by simp [results, Tryz.results30, asAddr, Act.put, hload.out]) rfl ⟨0, 0, 0, 0, HV.out, rfl, hBF.out⟩
 subst hko
 obtain ⟨y, hel, hyh, hx0ne, hmm⟩ : ∃ y, Gr.elim m x = some y /\ x0.Holds SR W4 W4.heap.size y /\ x ≠ 0 /\ (y.meth = 3 ∨ y.meth = 2) := by
  rcases HF.out with ⟨h1, h2⟩ | ⟨y, h1, h2, _, h3, h4, h5⟩
  ·have := HK.out; rw [h1] at this; cases this
  ·exact ⟨y, h2, by rw [HX.out]; exact (h3.atR hB3).atR hB4, h4, h5⟩
 have HEL := Lib.hid hel
 have HY := Lib.hid hyh
 have Hme := Lib.hid hyh.hm
 have hsi := hyh.hs
 obtain ⟨later, hlater⟩ : ∃ later, later = Gr.invest g x y.since true m := ⟨_, rfl⟩
 obtain ⟨acq, hacq⟩ : ∃ acq, acq = Gr.sumOf (Gr.isOn g.r7) y.its := ⟨_, rfl⟩
 have HC := Lib.hid hlater
 have HQ := Lib.hid hacq
 have hqb := Gr.sumOf_bd (Gr.isOn g.r7) y.its hyh.hix
 rw [<- hacq] at hqb
 have hlen := hyh.hil
 have hin := hyh.hin
 obtain ⟨q0, q1⟩ : -100000000000000 <= acq /\ acq <= 100000000000000 := by omega
 have hg4 := Lib.hid ((Hg2.out.at_ hB3).at_ hB4)
 have hgr4 := Lib.hid (grp_range He0.out)
 have hco4 := Lib.hid (range_row (cs := [.int .i64 x0.ent, .int .i64 x0.meth, .int .i64 x0.since, .bool x0.sg1, .slice x0.sA1 x0.sn1 x0.sc1, .bool x0.sg2, .slice x0.sA2 x0.sn2 x0.sc2, .bool x0.fg1, .slice x0.fA1 x0.fn1 x0.fc1, .bool x0.fg2, .slice x0.fA2 x0.fn2 x0.fc2, .slice x0.iA x0.im x0.ic, .slice x0.hA x0.hm x0.hc]) Hb4.out)
 have x2 : W4.cell? ⟨W3.heap.size, 2, none⟩ = some (.int .i64 x0.since) := hco4.out 2 _ rfl
 have HA4 := Lib.hid (RowsAt.at_ (RowsAt.at_ HA2.out hB3) hB4)
 have HM4 := Lib.hid ((HM2.out.imp (Q := fun a b => a.Holds SR W3 W3.heap.size b) fun _ _ h => h.atR hB3).imp (Q := fun a b => a.Holds SR W4 W4.heap.size b) fun _ _ h => h.atR hB4)
 have swx : w.heap.size < W4.heap.size := by omega
 have hstep : Hid (∀ p q, p = (if y.meth = 3 then R1.rd acq y.fN y.fD else 0) -> q = (if y.meth = 3 then R1.rd acq y.sN y.sD else 0) -> Gr.step g m x = ((later, p, q), 0)) := Lib.hid fun p q hp hq => by
  rw [Gr.step, if_neg (by rw [<- Her.out]; simp), HEL.out]
  simp only []
  have e : Gr.sumOf (fun a => decide (a = g.r7)) y.its = acq := HQ.out.symm
  rw [e, <- HC.out, hp, hq]
  split <;> rfl
 rw [<- hsi] at hlater
 have HC2 := Lib.hid hlater
 clear hel hyh hacq hqb hlen hlater hx0ne hsi
 go_upto_region 7 with (fail)
 go_wp2_with (refine wpList_load_mid rfl 29 (.tmp 3) rfl w.heap.size 0 rfl _ _ hgr4.out Tryz.underlying29 rfl grpSize ?_)
 refine (invr_any W4 g A n c l m x x0.since true Hl.out hn HA4.out HM4.out hg4.out).mono ?_
 rw [<- HC2.out]
 rintro e W5 ⟨rfl, hB5⟩
 have hq5 := hB5.size
 obtain ⟨W6, hW6, hB6, hb6, hz6⟩ := nw1 W5 #[.int .i64 later, .int .i64 0, .int .i64 0] 73
 have HW6 := Lib.hid hW6
 have HR6 := Lib.hid hb6
 have hS6 := hB5.trans (hB6.mono hB5.size)
 have hB06 := hB04.trans (hS6.mono hB04.size)
 have HF6 := Lib.hid (gbox He1.out hS6 s4')
 have hco6 := gbox Hb4.out hS6 s4
 have hgr6 := gbox He0.out hS6 swx
 have m1 := cell_of_row _ _ 1 _ _ _ hco6
 have sp6 := some_lt hb6
 have sc6 := some_lt hco6
 simp at m1
 have Hco6 := Lib.hid hco6
 clear hW6 hb6 hz6 x2 hco6
 go_upto_region 8 with (fail)
 rw [<- HW6.out]
 by_cases h3 : x0.meth = 3
 case neg =>
  have h3b : (x0.meth == 3) = false := by simp [h3]
  have HP : Hid ((0 : Int) = (if y.meth = 3 then R1.rd acq y.fN y.fD else 0)) := by show _ = _; rw [if_neg (by rw [<- Hme.out]; exact h3)]
  have HQ2 : Hid ((0 : Int) = (if y.meth = 3 then R1.rd acq y.sN y.sD else 0)) := by show _ = _; rw [if_neg (by rw [<- Hme.out]; exact h3)]
  clear h3 hgr6
  have HRg := Lib.hid (range_row (cs := [.int .i64 later, .int .i64 0, .int .i64 0]) HR6.out)
  have Ho2 := Lib.hid (fig3One later 0 0)
  have hload2 := Lib.hid (run_loadVar_row (P := Tryz.prog) _ _ _ 73 _ _ _ (setRow_heap _ (w.heap.size + 1) _ #[.int .i64 later, .int .i64 0, .int .i64 0] _ _ HF6.out) Tryz.underlying73 rfl figr40Size)
  have hBF2 := Lib.hid (below_setRow hB06 (show w.heap.size <= w.heap.size + 1 by omega) #[.int .i64 later, .int .i64 0, .int .i64 0])
  go_wp2_with (first | (refine wpList_load_mid rfl 73 (.tmp 11) rfl W5.heap.size 0 rfl [.int .i64 later, .int .i64 0, .int .i64 0] _ HRg.out Tryz.underlying73 rfl figr40Size ?_) | (refine wpList_store_row rfl 73 (.tmp 6) (.tmp 74) none rfl rfl (w.heap.size + 1) 73 _ #[.int .i64 later, .int .i64 0, .int .i64 0] rfl rfl HF6.out rfl figr40Size Ho2.out ?_))
  exact bodyPost_ret (v := .tuple #[.agg #[.int .i64 later, .int .i64 0, .int .i64 0], .int .i64 0]) (by simp [results, Tryz.results30, asAddr, Act.put, hload2.out]) rfl ⟨later, 0, 0, 0, hstep.out 0 0 HP.out HQ2.out, rfl, hBF2.out⟩
 have h3b : (x0.meth == 3) = true := by simp [h3]
 obtain ⟨u, hu⟩ : ∃ u, u = R1.rd acq y.fN y.fD := ⟨_, rfl⟩
 have HU := Lib.hid hu
 obtain ⟨v, hv⟩ : ∃ v, v = R1.rd acq y.sN y.sD := ⟨_, rfl⟩
 have HV := Lib.hid hv
 have HP : Hid (u = (if y.meth = 3 then R1.rd acq y.fN y.fD else 0)) := by show _ = _; rw [if_pos (by rw [<- Hme.out]; exact h3)]; exact hu
 have HQ2 : Hid (v = (if y.meth = 3 then R1.rd acq y.sN y.sD else 0)) := by show _ = _; rw [if_pos (by rw [<- Hme.out]; exact h3)]; exact hv
 have hco6 := Hco6.out
 have x11 := cell_of_row _ _ 11 _ _ _ hco6
 have g12 : W6.cell? ⟨w.heap.size, 12, none⟩ = some (.int .i64 g.r7) := grp_range hgr6 12 _ rfl
 have sg6 := some_lt hgr6
 simp at x11
 have hy6 := HY.out.atR hS6
 have Hon := Lib.hid (on38_any W6 x0.iA x0.im x0.ic y.its g.r7 hy6.hil (by have := hy6.hin; omega) hy6.hix hy6.hiA)
 have HY6 := Lib.hid hy6
 rw [<- HQ.out] at Hon
 clear h3 hu hv hco6 hy6 hgr6
 go_upto_region 9 with (fail)
 go_wp2_with (fail)
 refine Hon.out.mono ?_
 rintro e W7 ⟨rfl, hB7⟩
 have hco7 := gbox Hco6.out hB7 sc6
 have sc7 := some_lt hco7
 have hy7 := HY6.out.atR hB7
 have hub := rd_small hy7.hfo q0 q1
 rw [<- HU.out] at hub
 have Hf7 : Hid (W7.rangeAt W3.heap.size 7 [.bool x0.fg1, .slice x0.fA1 x0.fn1 x0.fc1, .bool x0.fg2, .slice x0.fA2 x0.fn2 x0.fc2]) := Lib.hid (fun j v hj => by
  have hr := range_row (cs := [.int .i64 x0.ent, .int .i64 x0.meth, .int .i64 x0.since, .bool x0.sg1, .slice x0.sA1 x0.sn1 x0.sc1, .bool x0.sg2, .slice x0.sA2 x0.sn2 x0.sc2, .bool x0.fg1, .slice x0.fA1 x0.fn1 x0.fc1, .bool x0.fg2, .slice x0.fA2 x0.fn2 x0.fc2, .slice x0.iA x0.im x0.ic, .slice x0.hA x0.hm x0.hc]) hco7
  match j with
  | 0 => exact hr 7 _ (by simpa using hj)
  | 1 => exact hr 8 _ (by simpa using hj)
  | 2 => exact hr 9 _ (by simpa using hj)
  | 3 => exact hr 10 _ (by simpa using hj)
  | j + 4 => simp at hj)
 have Hr7 := Lib.hid (R1.round_any W7 5 5 _ acq y.fN y.fD (by omega) (by omega) hy7.hfo.1 (by omega) (by omega) (by rw [<- HU.out]; omega) (by rw [<- HU.out]; omega) hy7.hfi)
 rw [<- HU.out] at Hr7
 have Hco7 := Lib.hid hco7
 have HY7 := Lib.hid hy7
 clear hco7 hy7 x11 g12 Hon
 go_upto_region 10 with (fail)
 go_wp2_with (refine wpList_load_mid rfl 59 (.tmp 51) rfl W3.heap.size 7 rfl [.bool x0.fg1, .slice x0.fA1 x0.fn1 x0.fc1, .bool x0.fg2, .slice x0.fA2 x0.fn2 x0.fc2] _ Hf7.out Tryz.underlying59 rfl ratSize ?_)
 refine Hr7.out.mono ?_
 rintro e W8 ⟨rfl, hB8⟩
 have hco8 := gbox Hco7.out hB8 sc7
 have hy8 := HY7.out.atR hB8
 have sc8 := some_lt hco8
 have hvb := rd_small hy8.hso q0 q1
 rw [<- HV.out] at hvb
 have Hs8 : Hid (W8.rangeAt W3.heap.size 3 [.bool x0.sg1, .slice x0.sA1 x0.sn1 x0.sc1, .bool x0.sg2, .slice x0.sA2 x0.sn2 x0.sc2]) := Lib.hid (fun j v hj => by
  have hr := range_row (cs := [.int .i64 x0.ent, .int .i64 x0.meth, .int .i64 x0.since, .bool x0.sg1, .slice x0.sA1 x0.sn1 x0.sc1, .bool x0.sg2, .slice x0.sA2 x0.sn2 x0.sc2, .bool x0.fg1, .slice x0.fA1 x0.fn1 x0.fc1, .bool x0.fg2, .slice x0.fA2 x0.fn2 x0.fc2, .slice x0.iA x0.im x0.ic, .slice x0.hA x0.hm x0.hc]) hco8
  match j with
  | 0 => exact hr 3 _ (by simpa using hj)
  | 1 => exact hr 4 _ (by simpa using hj)
  | 2 => exact hr 5 _ (by simpa using hj)
  | 3 => exact hr 6 _ (by simpa using hj)
  | j + 4 => simp at hj)
 have Hr8 := Lib.hid (R1.round_any W8 5 5 _ acq y.sN y.sD (by omega) (by omega) hy8.hso.1 (by omega) (by omega) (by rw [<- HV.out]; omega) (by rw [<- HV.out]; omega) hy8.hsh)
 rw [<- HV.out] at Hr8
 clear hco8 hy8 Hr7
 go_upto_region 11 with (fail)
 go_wp2_with (refine wpList_load_mid rfl 59 (.tmp 58) rfl W3.heap.size 3 rfl [.bool x0.sg1, .slice x0.sA1 x0.sn1 x0.sc1, .bool x0.sg2, .slice x0.sA2 x0.sn2 x0.sc2] _ Hs8.out Tryz.underlying59 rfl ratSize ?_)
 refine Hr8.out.mono ?_
 rintro e W9 ⟨rfl, hB9⟩
 have hB69 := hB7.trans ((hB8.trans (hB9.mono hB8.size)).mono hB7.size)
 have hrow9 := gbox HR6.out hB69 sp6
 have z1 := cell_of_row _ _ 1 _ _ _ hrow9
 have z2 := cell_of_row _ _ 2 _ _ _ hrow9
 have zf := fun j => frozen_of_row _ _ j _ _ hrow9
 have sp9 := some_lt hrow9
 simp at z1 z2
 have hS9 := hS6.trans (hB69.mono hS6.size)
 have hrowa := heap_setCell_same W9 W5.heap.size 1 _ _ (.int .i64 u) hrow9
 simp at hrowa
 have hSa := hS9.setCell (p := ⟨W5.heap.size, 1, none⟩) (show W4.heap.size <= W5.heap.size from hq5) (.int .i64 u)
 have hrowb := heap_setCell_same (W9.setCell ⟨W5.heap.size, 1, none⟩ (.int .i64 u)) W5.heap.size 2 _ _ (.int .i64 v) hrowa
 simp at hrowb
 have hSb := hSa.setCell (p := ⟨W5.heap.size, 2, none⟩) (show W4.heap.size <= W5.heap.size from hq5) (.int .i64 v)
 have Hrowb := Lib.hid hrowb
 have HSb := Lib.hid hSb
 clear hrow9 hrowa hrowb hS9 hSa hSb Hr8
 go_upto_region 15 with (fail)
 obtain ⟨Wb, hWb⟩ : ∃ Wb, Wb = (W9.setCell ⟨W5.heap.size, 1, none⟩ (.int .i64 u)).setCell ⟨W5.heap.size, 2, none⟩ (.int .i64 v) := ⟨_, rfl⟩
 have hrowb := Hrowb.out
 have hSb := HSb.out
 rw [<- hWb] at hrowb hSb ⊢
 clear hWb Hrowb HSb z1 z2 zf
 have HRb := Lib.hid hrowb
 have HFb := Lib.hid (gbox He1.out hSb s4')
 have HB0b := Lib.hid (hB04.trans (hSb.mono hB04.size))
 clear hrowb hSb
 skip
 have HRg := Lib.hid (range_row (cs := [.int .i64 later, .int .i64 u, .int .i64 v]) HRb.out)
 have Ho2 := Lib.hid (fig3One later u v)
 have hload2 := Lib.hid (run_loadVar_row (P := Tryz.prog) _ _ _ 73 _ _ _ (setRow_heap _ (w.heap.size + 1) _ #[.int .i64 later, .int .i64 u, .int .i64 v] _ _ HFb.out) Tryz.underlying73 rfl figr40Size)
 have hBF2 := Lib.hid (below_setRow HB0b.out (show w.heap.size <= w.heap.size + 1 by omega) #[.int .i64 later, .int .i64 u, .int .i64 v])
 go_wp2_with (first | (refine wpList_load_mid rfl 73 (.tmp 11) rfl W5.heap.size 0 rfl [.int .i64 later, .int .i64 u, .int .i64 v] _ HRg.out Tryz.underlying73 rfl figr40Size ?_) | (refine wpList_store_row rfl 73 (.tmp 6) (.tmp 74) none rfl rfl (w.heap.size + 1) 73 _ #[.int .i64 later, .int .i64 u, .int .i64 v] rfl rfl HFb.out rfl figr40Size Ho2.out ?_))
 exact bodyPost_ret (v := .tuple #[.agg #[.int .i64 later, .int .i64 u, .int .i64 v], .int .i64 0]) (by simp [results, Tryz.results30, asAddr, Act.put, hload2.out]) rfl ⟨later, u, v, 0, hstep.out u v HP.out HQ2.out, rfl, hBF2.out⟩
end
theorem itmSizeS : (Tryz.prog.info? 82).map (·.size) = some 7 := by kernel_rfl
section
variable (w : World)
theorem stepc4_any (z : Itm) (pg : Nat) (r : Int) (hp : pg < w.heap.size) (hg : w.cell? ⟨pg, 12, none⟩ = some (.int .i64 r)) :
  Calls Tryz.prog 70 #[.agg #[.int .i64 z.ent0, .int .i64 z.lin, .int .i64 z.ent, .int .i64 z.acct, .int .i64 z.partner, .int .i64 z.date, .int .i64 z.amt], .pointer (some ⟨pg, 0, none⟩)] w fun e w' => e = .returned (.bool (decide (z.acct = r))) /\ Below w.heap.size w w' := by
 obtain ⟨W1, hW1, hB0, hb0, hz⟩ := nw1 w #[.int .i64 z.ent0, .int .i64 z.lin, .int .i64 z.ent, .int .i64 z.acct, .int .i64 z.partner, .int .i64 z.date, .int .i64 z.amt] 82
 have HW := Lib.hid hW1
 have g12 := (hB0.cell (p := ⟨pg, 12, none⟩) hp).trans hg
 have y3 := cell_of_row _ _ 3 _ _ _ hb0
 simp at y3
 have s1 : w.heap.size < W1.heap.size := by omega
 have sp : pg < W1.heap.size := by omega
 obtain ⟨ac, hac⟩ : ∃ ac, ac = z.acct := ⟨_, rfl⟩
 rw [<- hac] at y3
 have Hac := Lib.hid hac
 clear hW1 hb0 hz hg hac
 go_enter Tryz.func70, Tryz.ntmps70
 go_upto_region 1 with (fail)
 rw [<- HW.out]
 by_cases h : ac = r
 ·have hb : (ac == r) = true := by simp [h]
  have HD : Hid (decide (z.acct = r) = true) := by show _ = _; rw [<- Hac.out]; simp [h]
  clear h
  go_wp2
  go_ret
  exact ⟨by rw [HD.out]; rfl, hB0⟩
 ·have hb : (ac == r) = false := by simp [h]
  have HD : Hid (decide (z.acct = r) = false) := by show _ = _; rw [<- Hac.out]; simp [h]
  clear h
  go_wp2
  go_ret
  exact ⟨by rw [HD.out]; rfl, hB0⟩
theorem stepc1_any (g : Grp) (z : Itm) (pg pe po : Nat) (x d : Int) (hp : pg < w.heap.size) (hpe : pe < w.heap.size) (hpo : po < w.heap.size) (hg : w.cell? ⟨pg, 5, none⟩ = some (.int .i64 g.r0)) (he : w.cell? ⟨pe, 0, none⟩ = some (.int .i64 x)) (ho : w.cell? ⟨po, 2, none⟩ = some (.int .i64 d)) :
  Calls Tryz.prog 64 #[.agg #[.int .i64 z.ent0, .int .i64 z.lin, .int .i64 z.ent, .int .i64 z.acct, .int .i64 z.partner, .int .i64 z.date, .int .i64 z.amt], .pointer (some ⟨pg, 0, none⟩), .pointer (some ⟨pe, 0, none⟩), .pointer (some ⟨po, 0, none⟩)] w fun e w' => e = .returned (.bool (Gr.invest1 g x d true z)) /\ Below w.heap.size w w' := by
 obtain ⟨W1, hW1, hB0, hb0, hz⟩ := nw1 w #[.int .i64 z.ent0, .int .i64 z.lin, .int .i64 z.ent, .int .i64 z.acct, .int .i64 z.partner, .int .i64 z.date, .int .i64 z.amt] 82
 have HW := Lib.hid hW1
 have g5 := (hB0.cell (p := ⟨pg, 5, none⟩) hp).trans hg
 have e0 := (hB0.cell (p := ⟨pe, 0, none⟩) hpe).trans he
 have o2 := (hB0.cell (p := ⟨po, 2, none⟩) hpo).trans ho
 have y3 := cell_of_row _ _ 3 _ _ _ hb0
 have y4 := cell_of_row _ _ 4 _ _ _ hb0
 have y5 := cell_of_row _ _ 5 _ _ _ hb0
 simp at y3 y4 y5
 have s1 : w.heap.size < W1.heap.size := by omega
 have sp : pg < W1.heap.size := by omega
 have spe : pe < W1.heap.size := by omega
 have spo : po < W1.heap.size := by omega
 obtain ⟨ac, hac⟩ : ∃ ac, ac = z.acct := ⟨_, rfl⟩
 obtain ⟨pa, hpa⟩ : ∃ pa, pa = z.partner := ⟨_, rfl⟩
 obtain ⟨da, hda⟩ : ∃ da, da = z.date := ⟨_, rfl⟩
 rw [<- hac] at y3
 rw [<- hpa] at y4
 rw [<- hda] at y5
 have HP : Hid (Gr.invest1 g x d true z = (decide (ac = g.r0) && decide (pa = x) && (decide (d < da) == true))) := by show _ = _; rw [Gr.invest1, <- hac, <- hpa, <- hda]
 clear hW1 hb0 hz hg he ho hac hpa hda
 go_enter Tryz.func64, Tryz.ntmps64
 go_upto_region 1 with (fail)
 rw [<- HW.out]
 by_cases h1 : ac = g.r0
 case neg =>
  have h1b : (ac == g.r0) = false := by simp [h1]
  have HB : Hid (Gr.invest1 g x d true z = false) := by show _ = _; rw [HP.out]; simp [h1]
  clear h1
  go_wp2
  go_ret
  exact ⟨by rw [HB.out]; rfl, hB0⟩
 have h1b : (ac == g.r0) = true := by simp [h1]
 by_cases h2 : pa = x
 case neg =>
  have h2b : (pa == x) = false := by simp [h2]
  have HB : Hid (Gr.invest1 g x d true z = false) := by show _ = _; rw [HP.out]; simp [h2]
  clear h1 h2
  go_wp2
  go_ret
  exact ⟨by rw [HB.out]; rfl, hB0⟩
 have h2b : (pa == x) = true := by simp [h2]
 by_cases h3 : d < da
 ·have HB : Hid (Gr.invest1 g x d true z = true) := by show _ = _; rw [HP.out]; simp [h1, h2]; omega
  clear h1 h2
  go_wp2
  go_ret
  exact ⟨by rw [HB.out]; rfl, hB0⟩
 ·have HB : Hid (Gr.invest1 g x d true z = false) := by show _ = _; rw [HP.out]; simp [h1, h2]; omega
  clear h1 h2
  go_wp2
  go_ret
  exact ⟨by rw [HB.out]; rfl, hB0⟩
theorem stepamt_any (z : Itm) :
  Calls Tryz.prog 68 #[.agg #[.int .i64 z.ent0, .int .i64 z.lin, .int .i64 z.ent, .int .i64 z.acct, .int .i64 z.partner, .int .i64 z.date, .int .i64 z.amt]] w fun e w' => e = .returned (.int .i64 z.amt) /\ Below w.heap.size w w' := by
 obtain ⟨W1, hW1, hB0, hb0, hz⟩ := nw1 w #[.int .i64 z.ent0, .int .i64 z.lin, .int .i64 z.ent, .int .i64 z.acct, .int .i64 z.partner, .int .i64 z.date, .int .i64 z.amt] 82
 have HW := Lib.hid hW1
 have y6 := cell_of_row _ _ 6 _ _ _ hb0
 simp at y6
 have s1 : w.heap.size < W1.heap.size := by omega
 clear hW1 hb0 hz
 go_enter Tryz.func68, Tryz.ntmps68
 go_upto_region 1 with (fail)
 rw [<- HW.out]
 go_wp2
 go_ret
 exact ⟨rfl, hB0⟩
theorem stepsum4_any (A : Option Addr) (n c : Nat) (l : List Itm) (hl : l.length = n) (hn : n <= 40) (hx : ∀ x ∈ l, x.small) (hA : ItmsAt w w.heap.size A l) (pg : Nat) (r : Int) (hp : pg < w.heap.size) (hg : w.cell? ⟨pg, 12, none⟩ = some (.int .i64 r)) :
  Calls Tryz.prog 67 #[.slice A n c, .func (.func 68) #[] #[], .func (.func 70) #[] #[.pointer (some ⟨pg, 0, none⟩)]] w fun e w' => e = .returned (.int .i64 (Gr.sumIf (fun z => decide (z.acct = r)) l)) /\ Below w.heap.size w w' := by
 have HA := Lib.hid hA
 have HX := Lib.hid hx
 have Hl := Lib.hid hl
 have HG := Lib.hid hg
 clear hg
 clear hA hx hl
 go_enter Tryz.func67, Tryz.ntmps67
 go_wp2
 go_loopw [7, 12] (fun s i wr => ∃ k : Nat, k <= n /\ i = .int .i64 k /\ s = .int .i64 (Gr.sumIf (fun z => decide (z.acct = r)) (l.take k)) /\ Below w.heap.size w wr) (fun _ i _ => n - (intOf i).toNat)
 case atStart => exact ⟨0, Nat.zero_le _, rfl, rfl, Below.refl _ _⟩
 case round =>
  obtain ⟨k, hk, rfl, rfl, hbr⟩ := hrel
  obtain ⟨s, hs⟩ : ∃ s, s = Gr.sumIf (fun z => decide (z.acct = r)) (l.take k) := ⟨_, rfl⟩
  obtain ⟨lo, hi⟩ := Gr.sumIf_take_small (P := (fun z => decide (z.acct = r))) k Hl.out hn HX.out
  rw [<- hs] at lo hi ⊢
  have Hs := Lib.hid hs
  have hq := hbr.size
  clear hs
  by_cases hlt : k < n
  ·have hkl : k < l.length := by have := Hl.out; omega
   obtain ⟨b, o, hAe, hbB, hr⟩ := RowsAt.look (RowsAt.below HA.out hbr (Nat.le_refl _)) hkl
   cases hAe
   obtain ⟨zi, hzi⟩ : ∃ zi, zi = l[k] := ⟨_, rfl⟩
   have HN : Hid (Gr.sumIf (fun z => decide (z.acct = r)) (l.take (k + 1)) = s + (if decide (zi.acct = r) = true then zi.amt else 0)) := by show _ = _; rw [Gr.sumIf_take _ hkl, <- Hs.out, <- hzi]
   obtain ⟨zl, zh⟩ : zi.small := by rw [hzi]; exact HX.out _ (List.getElem_mem hkl)
   rw [<- hzi] at hr
   have Hr := Lib.hid hr
   have hbw : b < wr.heap.size := by omega
   have hk0 : (0 : Int) <= (k : Int) := by omega
   have hkn : (k : Int) < n := by omega
   obtain ⟨W6, hW6, hB6, hb6, hz6⟩ := nw1 wr #[.int .i64 zi.ent0, .int .i64 zi.lin, .int .i64 zi.ent, .int .i64 zi.acct, .int .i64 zi.partner, .int .i64 zi.date, .int .i64 zi.amt] 82
   have HW6 := Lib.hid hW6
   have Hb6 := Lib.hid hb6
   have hbr6 := hbr.trans (hB6.mono hq)
   have hrz := Lib.hid (range_row (cs := [.int .i64 zi.ent0, .int .i64 zi.lin, .int .i64 zi.ent, .int .i64 zi.acct, .int .i64 zi.partner, .int .i64 zi.date, .int .i64 zi.amt]) hb6)
   have s6 : wr.heap.size < W6.heap.size := by omega
   have hq6 := hbr6.size
   have Hcall := Lib.hid (stepc4_any W6 zi pg r (by omega) ((hbr6.cell (p := ⟨pg, 12, none⟩) hp).trans HG.out))
   obtain ⟨t, ht⟩ : ∃ t, t = decide (zi.acct = r) := ⟨_, rfl⟩
   clear hzi hr hb6 hz6 hW6
   go_upto_region 5 with (refine wpList_load_mid rfl 82 (.tmp 14) rfl b (o + k * 7) rfl [.int .i64 zi.ent0, .int .i64 zi.lin, .int .i64 zi.ent, .int .i64 zi.acct, .int .i64 zi.partner, .int .i64 zi.date, .int .i64 zi.amt] _ Hr.out Tryz.underlying82 rfl itmSizeS ?_)
   rw [<- HW6.out]
   go_wp2_with (refine wpList_load_mid rfl 82 (.tmp 9) rfl wr.heap.size 0 rfl [.int .i64 zi.ent0, .int .i64 zi.lin, .int .i64 zi.ent, .int .i64 zi.acct, .int .i64 zi.partner, .int .i64 zi.date, .int .i64 zi.amt] _ hrz.out Tryz.underlying82 rfl itmSizeS ?_)
   refine Hcall.out.mono ?_
   rw [<- ht]
   rintro e W7 ⟨rfl, hB7⟩
   have hb7 := gbox Hb6.out hB7 s6
   have Hrz7 := Lib.hid (range_row (cs := [.int .i64 zi.ent0, .int .i64 zi.lin, .int .i64 zi.ent, .int .i64 zi.acct, .int .i64 zi.partner, .int .i64 zi.date, .int .i64 zi.amt]) hb7)
   have s7 := some_lt hb7
   have Hamt := Lib.hid (stepamt_any W7 zi)
   have hbr7 := Lib.hid (hbr6.trans (hB7.mono hq6))
   obtain ⟨am, ham⟩ : ∃ am, am = zi.amt := ⟨_, rfl⟩
   rw [<- ham] at zl zh HN
   have Ham := Lib.hid ham
   rw [<- ht] at HN
   clear hb7 ham ht
   cases t with
   | true =>
    have HN2 : Hid (Gr.sumIf (fun z => decide (z.acct = r)) (l.take (k + 1)) = s + am) := by show _ = _; rw [HN.out]; simp
    go_wp2_with (refine wpList_load_mid rfl 82 (.tmp 9) rfl wr.heap.size 0 rfl [.int .i64 zi.ent0, .int .i64 zi.lin, .int .i64 zi.ent, .int .i64 zi.acct, .int .i64 zi.partner, .int .i64 zi.date, .int .i64 zi.amt] _ Hrz7.out Tryz.underlying82 rfl itmSizeS ?_)
    refine Hamt.out.mono ?_
    rw [<- Ham.out]
    rintro e W8 ⟨rfl, hB8⟩
    have hbr8 := Lib.hid (hbr7.out.trans (hB8.mono hbr7.out.size))
    go_wp2
    go_roundw
    case rel => exact ⟨k + 1, by omega, by go_num, by rw [HN2.out], hbr8.out⟩
    case measure => simp [intOf]; omega
   | false =>
    have HN2 : Hid (Gr.sumIf (fun z => decide (z.acct = r)) (l.take (k + 1)) = s) := by show _ = _; rw [HN.out]; simp
    go_wp2
    go_roundw
    case rel => exact ⟨k + 1, by omega, by go_num, by rw [HN2.out], hbr7.out⟩
    case measure => simp [intOf]; omega
  ·obtain rfl : k = n := by omega
   have HV : Hid (Gr.sumIf (fun z => decide (z.acct = r)) l = s) := by
    show _ = _
    have := Hs.out
    rw [<- Hl.out, List.take_length] at this
    exact this.symm
   go_wp2
   go_ret
   exact ⟨by rw [HV.out]; rfl, hbr⟩
theorem stepsum1_any (A : Option Addr) (n c : Nat) (l : List Itm) (hl : l.length = n) (hn : n <= 40) (hx : ∀ x ∈ l, x.small) (hA : ItmsAt w w.heap.size A l) (g : Grp) (pg pe po : Nat) (x d : Int) (hp : pg < w.heap.size) (hpe : pe < w.heap.size) (hpo : po < w.heap.size) (hg : w.cell? ⟨pg, 5, none⟩ = some (.int .i64 g.r0)) (he : w.cell? ⟨pe, 0, none⟩ = some (.int .i64 x)) (ho : w.cell? ⟨po, 2, none⟩ = some (.int .i64 d)) :
  Calls Tryz.prog 67 #[.slice A n c, .func (.func 68) #[] #[], .func (.func 64) #[] #[.pointer (some ⟨pg, 0, none⟩), .pointer (some ⟨pe, 0, none⟩), .pointer (some ⟨po, 0, none⟩)]] w fun e w' => e = .returned (.int .i64 (Gr.sumIf (Gr.invest1 g x d true) l)) /\ Below w.heap.size w w' := by
 have HA := Lib.hid hA
 have HX := Lib.hid hx
 have Hl := Lib.hid hl
 have HG := Lib.hid hg
 have HE := Lib.hid he
 have HO := Lib.hid ho
 clear hg he ho
 clear hA hx hl
 go_enter Tryz.func67, Tryz.ntmps67
 go_wp2
 go_loopw [7, 12] (fun s i wr => ∃ k : Nat, k <= n /\ i = .int .i64 k /\ s = .int .i64 (Gr.sumIf (Gr.invest1 g x d true) (l.take k)) /\ Below w.heap.size w wr) (fun _ i _ => n - (intOf i).toNat)
 case atStart => exact ⟨0, Nat.zero_le _, rfl, rfl, Below.refl _ _⟩
 case round =>
  obtain ⟨k, hk, rfl, rfl, hbr⟩ := hrel
  obtain ⟨s, hs⟩ : ∃ s, s = Gr.sumIf (Gr.invest1 g x d true) (l.take k) := ⟨_, rfl⟩
  obtain ⟨lo, hi⟩ := Gr.sumIf_take_small (P := (Gr.invest1 g x d true)) k Hl.out hn HX.out
  rw [<- hs] at lo hi ⊢
  have Hs := Lib.hid hs
  have hq := hbr.size
  clear hs
  by_cases hlt : k < n
  ·have hkl : k < l.length := by have := Hl.out; omega
   obtain ⟨b, o, hAe, hbB, hr⟩ := RowsAt.look (RowsAt.below HA.out hbr (Nat.le_refl _)) hkl
   cases hAe
   obtain ⟨zi, hzi⟩ : ∃ zi, zi = l[k] := ⟨_, rfl⟩
   have HN : Hid (Gr.sumIf (Gr.invest1 g x d true) (l.take (k + 1)) = s + (if Gr.invest1 g x d true zi = true then zi.amt else 0)) := by show _ = _; rw [Gr.sumIf_take _ hkl, <- Hs.out, <- hzi]
   obtain ⟨zl, zh⟩ : zi.small := by rw [hzi]; exact HX.out _ (List.getElem_mem hkl)
   rw [<- hzi] at hr
   have Hr := Lib.hid hr
   have hbw : b < wr.heap.size := by omega
   have hk0 : (0 : Int) <= (k : Int) := by omega
   have hkn : (k : Int) < n := by omega
   obtain ⟨W6, hW6, hB6, hb6, hz6⟩ := nw1 wr #[.int .i64 zi.ent0, .int .i64 zi.lin, .int .i64 zi.ent, .int .i64 zi.acct, .int .i64 zi.partner, .int .i64 zi.date, .int .i64 zi.amt] 82
   have HW6 := Lib.hid hW6
   have Hb6 := Lib.hid hb6
   have hbr6 := hbr.trans (hB6.mono hq)
   have hrz := Lib.hid (range_row (cs := [.int .i64 zi.ent0, .int .i64 zi.lin, .int .i64 zi.ent, .int .i64 zi.acct, .int .i64 zi.partner, .int .i64 zi.date, .int .i64 zi.amt]) hb6)
   have s6 : wr.heap.size < W6.heap.size := by omega
   have hq6 := hbr6.size
   have Hcall := Lib.hid (stepc1_any W6 g zi pg pe po x d (by omega) (by omega) (by omega) ((hbr6.cell (p := ⟨pg, 5, none⟩) hp).trans HG.out) ((hbr6.cell (p := ⟨pe, 0, none⟩) hpe).trans HE.out) ((hbr6.cell (p := ⟨po, 2, none⟩) hpo).trans HO.out))
   obtain ⟨t, ht⟩ : ∃ t, t = Gr.invest1 g x d true zi := ⟨_, rfl⟩
   clear hzi hr hb6 hz6 hW6
   go_upto_region 5 with (refine wpList_load_mid rfl 82 (.tmp 14) rfl b (o + k * 7) rfl [.int .i64 zi.ent0, .int .i64 zi.lin, .int .i64 zi.ent, .int .i64 zi.acct, .int .i64 zi.partner, .int .i64 zi.date, .int .i64 zi.amt] _ Hr.out Tryz.underlying82 rfl itmSizeS ?_)
   rw [<- HW6.out]
   go_wp2_with (refine wpList_load_mid rfl 82 (.tmp 9) rfl wr.heap.size 0 rfl [.int .i64 zi.ent0, .int .i64 zi.lin, .int .i64 zi.ent, .int .i64 zi.acct, .int .i64 zi.partner, .int .i64 zi.date, .int .i64 zi.amt] _ hrz.out Tryz.underlying82 rfl itmSizeS ?_)
   refine Hcall.out.mono ?_
   rw [<- ht]
   rintro e W7 ⟨rfl, hB7⟩
   have hb7 := gbox Hb6.out hB7 s6
   have Hrz7 := Lib.hid (range_row (cs := [.int .i64 zi.ent0, .int .i64 zi.lin, .int .i64 zi.ent, .int .i64 zi.acct, .int .i64 zi.partner, .int .i64 zi.date, .int .i64 zi.amt]) hb7)
   have s7 := some_lt hb7
   have Hamt := Lib.hid (stepamt_any W7 zi)
   have hbr7 := Lib.hid (hbr6.trans (hB7.mono hq6))
   obtain ⟨am, ham⟩ : ∃ am, am = zi.amt := ⟨_, rfl⟩
   rw [<- ham] at zl zh HN
   have Ham := Lib.hid ham
   rw [<- ht] at HN
   clear hb7 ham ht
   cases t with
   | true =>
    have HN2 : Hid (Gr.sumIf (Gr.invest1 g x d true) (l.take (k + 1)) = s + am) := by show _ = _; rw [HN.out]; simp
    go_wp2_with (refine wpList_load_mid rfl 82 (.tmp 9) rfl wr.heap.size 0 rfl [.int .i64 zi.ent0, .int .i64 zi.lin, .int .i64 zi.ent, .int .i64 zi.acct, .int .i64 zi.partner, .int .i64 zi.date, .int .i64 zi.amt] _ Hrz7.out Tryz.underlying82 rfl itmSizeS ?_)
    refine Hamt.out.mono ?_
    rw [<- Ham.out]
    rintro e W8 ⟨rfl, hB8⟩
    have hbr8 := Lib.hid (hbr7.out.trans (hB8.mono hbr7.out.size))
    go_wp2
    go_roundw
    case rel => exact ⟨k + 1, by omega, by go_num, by rw [HN2.out], hbr8.out⟩
    case measure => simp [intOf]; omega
   | false =>
    have HN2 : Hid (Gr.sumIf (Gr.invest1 g x d true) (l.take (k + 1)) = s) := by show _ = _; rw [HN.out]; simp
    go_wp2
    go_roundw
    case rel => exact ⟨k + 1, by omega, by go_num, by rw [HN2.out], hbr7.out⟩
    case measure => simp [intOf]; omega
  ·obtain rfl : k = n := by omega
   have HV : Hid (Gr.sumIf (Gr.invest1 g x d true) l = s) := by
    show _ = _
    have := Hs.out
    rw [<- Hl.out, List.take_length] at this
    exact this.symm
   go_wp2
   go_ret
   exact ⟨by rw [HV.out]; rfl, hbr⟩
theorem consSizeS : (Tryz.prog.info? 94).map (·.size) = some 13 := by kernel_rfl
theorem stepc3_any (x : Con) :
  Calls Tryz.prog 69 #[.agg #[.int .i64 x.ent, .int .i64 x.meth, .int .i64 x.since, .bool x.sg1, .slice x.sA1 x.sn1 x.sc1, .bool x.sg2, .slice x.sA2 x.sn2 x.sc2, .bool x.fg1, .slice x.fA1 x.fn1 x.fc1, .bool x.fg2, .slice x.fA2 x.fn2 x.fc2, .slice x.iA x.im x.ic, .slice x.hA x.hm x.hc]] w fun e w' => e = .returned (.bool (decide (x.meth = 3))) /\ Below w.heap.size w w' := by
 obtain ⟨W1, hW1, hB0, hb0, hz⟩ := nw1 w #[.int .i64 x.ent, .int .i64 x.meth, .int .i64 x.since, .bool x.sg1, .slice x.sA1 x.sn1 x.sc1, .bool x.sg2, .slice x.sA2 x.sn2 x.sc2, .bool x.fg1, .slice x.fA1 x.fn1 x.fc1, .bool x.fg2, .slice x.fA2 x.fn2 x.fc2, .slice x.iA x.im x.ic, .slice x.hA x.hm x.hc] 94
 have HW := Lib.hid hW1
 have y1 := cell_of_row _ _ 1 _ _ _ hb0
 simp at y1
 have s1 : w.heap.size < W1.heap.size := by omega
 obtain ⟨mt, hmt⟩ : ∃ mt, mt = x.meth := ⟨_, rfl⟩
 rw [<- hmt] at y1
 have Hmt := Lib.hid hmt
 clear hW1 hb0 hz hmt
 go_enter Tryz.func69, Tryz.ntmps69
 go_upto_region 1 with (fail)
 rw [<- HW.out]
 by_cases h : mt = 3
 ·have hb : (mt == 3) = true := by simp [h]
  have HD : Hid (decide (x.meth = 3) = true) := by show _ = _; rw [<- Hmt.out]; simp [h]
  clear h
  go_wp2
  go_ret
  exact ⟨by rw [HD.out]; rfl, hB0⟩
 ·have hb : (mt == 3) = false := by simp [h]
  have HD : Hid (decide (x.meth = 3) = false) := by show _ = _; rw [<- Hmt.out]; simp [h]
  clear h
  go_wp2
  go_ret
  exact ⟨by rw [HD.out]; rfl, hB0⟩
theorem stepc2_any (x0 : Con) (y : Cnt) (hy : x0.Holds SD w w.heap.size y) (g : Grp) (pl pg pe po : Nat) (x d : Int) (hpl : pl < w.heap.size) (hl : w.cell? ⟨pl, 0, none⟩ = some (.func (.func 64) #[] #[.pointer (some ⟨pg, 0, none⟩), .pointer (some ⟨pe, 0, none⟩), .pointer (some ⟨po, 0, none⟩)]))
  (hp : pg < w.heap.size) (hpe : pe < w.heap.size) (hpo : po < w.heap.size) (hg : w.cell? ⟨pg, 5, none⟩ = some (.int .i64 g.r0)) (he : w.cell? ⟨pe, 0, none⟩ = some (.int .i64 x)) (ho : w.cell? ⟨po, 2, none⟩ = some (.int .i64 d)) :
  Calls Tryz.prog 66 #[.agg #[.int .i64 x0.ent, .int .i64 x0.meth, .int .i64 x0.since, .bool x0.sg1, .slice x0.sA1 x0.sn1 x0.sc1, .bool x0.sg2, .slice x0.sA2 x0.sn2 x0.sc2, .bool x0.fg1, .slice x0.fA1 x0.fn1 x0.fc1, .bool x0.fg2, .slice x0.fA2 x0.fn2 x0.fc2, .slice x0.iA x0.im x0.ic, .slice x0.hA x0.hm x0.hc], .pointer (some ⟨pl, 0, none⟩)] w fun e w' => e = .returned (.int .i64 (Gr.sumIf (Gr.invest1 g x d true) y.its)) /\ Below w.heap.size w w' := by
 obtain ⟨W1, hW1, hB0, hb0, hz⟩ := nw1 w #[.int .i64 x0.ent, .int .i64 x0.meth, .int .i64 x0.since, .bool x0.sg1, .slice x0.sA1 x0.sn1 x0.sc1, .bool x0.sg2, .slice x0.sA2 x0.sn2 x0.sc2, .bool x0.fg1, .slice x0.fA1 x0.fn1 x0.fc1, .bool x0.fg2, .slice x0.fA2 x0.fn2 x0.fc2, .slice x0.iA x0.im x0.ic, .slice x0.hA x0.hm x0.hc] 94
 have HW := Lib.hid hW1
 have y11 := cell_of_row _ _ 11 _ _ _ hb0
 simp at y11
 have l0 := (hB0.cell (p := ⟨pl, 0, none⟩) hpl).trans hl
 have s1 : w.heap.size < W1.heap.size := by omega
 have sl : pl < W1.heap.size := by omega
 have Hs := Lib.hid (stepsum1_any W1 x0.iA x0.im x0.ic y.its hy.hil hy.hin hy.hix (RowsAt.at_ hy.hiA hB0) g pg pe po x d (by omega) (by omega) (by omega) ((hB0.cell (p := ⟨pg, 5, none⟩) hp).trans hg) ((hB0.cell (p := ⟨pe, 0, none⟩) hpe).trans he) ((hB0.cell (p := ⟨po, 2, none⟩) hpo).trans ho))
 have HB0 := Lib.hid hB0
 clear hW1 hb0 hz hy hl hg he ho hB0
 go_enter Tryz.func66, Tryz.ntmps66
 go_upto_region 1 with (fail)
 rw [<- HW.out]
 go_wp2_with (fail)
 refine Hs.out.mono ?_
 rintro e W2 ⟨rfl, hB2⟩
 go_wp2
 go_ret
 exact ⟨rfl, HB0.out.trans (hB2.mono HB0.out.size)⟩
theorem stepsumc_any (A : Option Addr) (n c : Nat) (l : List Con) (m : List Cnt) (hl : l.length = n) (hn : n <= 100) (hA : ConsAt w w.heap.size A l) (hm : Hold (fun a b => a.Holds SD w w.heap.size b) l m) (g : Grp) (pl pg pe po : Nat) (x d : Int) (hpl : pl < w.heap.size) (hlc : w.cell? ⟨pl, 0, none⟩ = some (.func (.func 64) #[] #[.pointer (some ⟨pg, 0, none⟩), .pointer (some ⟨pe, 0, none⟩), .pointer (some ⟨po, 0, none⟩)]))
  (hp : pg < w.heap.size) (hpe : pe < w.heap.size) (hpo : po < w.heap.size) (hg : w.cell? ⟨pg, 5, none⟩ = some (.int .i64 g.r0)) (he : w.cell? ⟨pe, 0, none⟩ = some (.int .i64 x)) (ho : w.cell? ⟨po, 2, none⟩ = some (.int .i64 d)) :
  Calls Tryz.prog 65 #[.slice A n c, .func (.func 66) #[] #[.pointer (some ⟨pl, 0, none⟩)], .func (.func 69) #[] #[]] w fun e w' => e = .returned (.int .i64 (Gr.invest g x d true m)) /\ Below w.heap.size w w' := by
 have HA := Lib.hid hA
 have HM := Lib.hid hm
 have Hl := Lib.hid hl
 have Hml := Lib.hid (Hold.len hm)
 have Hits := Lib.hid (Hold.its hm)
 have HL := Lib.hid hlc
 have HG := Lib.hid hg
 have HE := Lib.hid he
 have HO := Lib.hid ho
 clear hA hm hl hlc hg he ho
 go_enter Tryz.func65, Tryz.ntmps65
 go_wp2
 go_loopw [7, 12] (fun s i wr => ∃ k : Nat, k <= n /\ i = .int .i64 k /\ s = .int .i64 (Gr.invest g x d true (m.take k)) /\ Below w.heap.size w wr) (fun _ i _ => n - (intOf i).toNat)
 case atStart => exact ⟨0, Nat.zero_le _, rfl, rfl, Below.refl _ _⟩
 case round =>
  obtain ⟨k, hk, rfl, rfl, hbr⟩ := hrel
  obtain ⟨s, hs⟩ : ∃ s, s = Gr.invest g x d true (m.take k) := ⟨_, rfl⟩
  have hsb := Gr.invest_bd g x d true (m.take k) fun y hy => Hits.out y (List.mem_of_mem_take hy)
  have htl : (m.take k).length <= 100 := by rw [List.length_take]; omega
  rw [<- hs] at hsb ⊢
  obtain ⟨lo, hi⟩ : -4000000000000000 <= s /\ s <= 4000000000000000 := by omega
  have Hs := Lib.hid hs
  have hq := hbr.size
  clear hs hsb htl
  by_cases hlt : k < n
  ·have hkl : k < l.length := by have := Hl.out; omega
   have hkm : k < m.length := by have := Hml.out; omega
   obtain ⟨b, o, hAe, hbB, hr⟩ := RowsAt.look (RowsAt.below HA.out hbr (Nat.le_refl _)) hkl
   cases hAe
   have hHo := (HM.out.get k hkl hkm).belowD hbr (Nat.le_refl _)
   obtain ⟨xk, hxk⟩ : ∃ xk, xk = l[k] := ⟨_, rfl⟩
   obtain ⟨yk, hyk⟩ : ∃ yk, yk = m[k] := ⟨_, rfl⟩
   have HN : Hid (Gr.invest g x d true (m.take (k + 1)) = s + (if yk.meth = 3 then Gr.sumIf (Gr.invest1 g x d true) yk.its else 0)) := by show _ = _; rw [Gr.invest_take _ _ _ _ hkm, <- Hs.out, <- hyk]
   rw [<- hxk] at hr hHo
   rw [<- hyk] at hHo
   have Hr := Lib.hid hr
   have Hmk := Lib.hid hHo.hm
   have hbw : b < wr.heap.size := by omega
   have hk0 : (0 : Int) <= (k : Int) := by omega
   have hkn : (k : Int) < n := by omega
   obtain ⟨W6, hW6, hB6, hb6, hz6⟩ := nw1 wr #[.int .i64 xk.ent, .int .i64 xk.meth, .int .i64 xk.since, .bool xk.sg1, .slice xk.sA1 xk.sn1 xk.sc1, .bool xk.sg2, .slice xk.sA2 xk.sn2 xk.sc2, .bool xk.fg1, .slice xk.fA1 xk.fn1 xk.fc1, .bool xk.fg2, .slice xk.fA2 xk.fn2 xk.fc2, .slice xk.iA xk.im xk.ic, .slice xk.hA xk.hm xk.hc] 94
   have HW6 := Lib.hid hW6
   have Hb6 := Lib.hid hb6
   have hbr6 := hbr.trans (hB6.mono hq)
   have hrz := Lib.hid (range_row (cs := [.int .i64 xk.ent, .int .i64 xk.meth, .int .i64 xk.since, .bool xk.sg1, .slice xk.sA1 xk.sn1 xk.sc1, .bool xk.sg2, .slice xk.sA2 xk.sn2 xk.sc2, .bool xk.fg1, .slice xk.fA1 xk.fn1 xk.fc1, .bool xk.fg2, .slice xk.fA2 xk.fn2 xk.fc2, .slice xk.iA xk.im xk.ic, .slice xk.hA xk.hm xk.hc]) hb6)
   have s6 : wr.heap.size < W6.heap.size := by omega
   have hq6 := hbr6.size
   have Hy6 := Lib.hid ((hHo.moreD hq).atD hB6)
   have Hcall := Lib.hid (stepc3_any W6 xk)
   obtain ⟨tt, ht⟩ : ∃ tt, tt = decide (xk.meth = 3) := ⟨_, rfl⟩
   have hN2 : Gr.invest g x d true (m.take (k + 1)) = s + (if tt = true then Gr.sumIf (Gr.invest1 g x d true) yk.its else 0) := by rw [HN.out, ht, <- Hmk.out]; simp
   have HN3 := Lib.hid hN2
   have hub := Gr.sumIf_bd (Gr.invest1 g x d true) yk.its Hy6.out.hix
   have hul := Hy6.out.hil
   have hul2 := Hy6.out.hin
   obtain ⟨u, hu⟩ : ∃ u, u = Gr.sumIf (Gr.invest1 g x d true) yk.its := ⟨_, rfl⟩
   rw [<- hu] at hub
   obtain ⟨ul, uh⟩ : -40000000000000 <= u /\ u <= 40000000000000 := by omega
   have Hu := Lib.hid hu
   clear hxk hyk hr hHo hb6 hz6 hW6 hN2 hub hul hul2 hu
   go_upto_region 5 with (refine wpList_load_mid rfl 94 (.tmp 14) rfl b (o + k * 13) rfl [.int .i64 xk.ent, .int .i64 xk.meth, .int .i64 xk.since, .bool xk.sg1, .slice xk.sA1 xk.sn1 xk.sc1, .bool xk.sg2, .slice xk.sA2 xk.sn2 xk.sc2, .bool xk.fg1, .slice xk.fA1 xk.fn1 xk.fc1, .bool xk.fg2, .slice xk.fA2 xk.fn2 xk.fc2, .slice xk.iA xk.im xk.ic, .slice xk.hA xk.hm xk.hc] _ Hr.out Tryz.underlying94 rfl consSizeS ?_)
   rw [<- HW6.out]
   go_wp2_with (refine wpList_load_mid rfl 94 (.tmp 9) rfl wr.heap.size 0 rfl [.int .i64 xk.ent, .int .i64 xk.meth, .int .i64 xk.since, .bool xk.sg1, .slice xk.sA1 xk.sn1 xk.sc1, .bool xk.sg2, .slice xk.sA2 xk.sn2 xk.sc2, .bool xk.fg1, .slice xk.fA1 xk.fn1 xk.fc1, .bool xk.fg2, .slice xk.fA2 xk.fn2 xk.fc2, .slice xk.iA xk.im xk.ic, .slice xk.hA xk.hm xk.hc] _ hrz.out Tryz.underlying94 rfl consSizeS ?_)
   refine Hcall.out.mono ?_
   rw [<- ht]
   rintro e W7 ⟨rfl, hB7⟩
   have hb7 := gbox Hb6.out hB7 s6
   have Hrz7 := Lib.hid (range_row (cs := [.int .i64 xk.ent, .int .i64 xk.meth, .int .i64 xk.since, .bool xk.sg1, .slice xk.sA1 xk.sn1 xk.sc1, .bool xk.sg2, .slice xk.sA2 xk.sn2 xk.sc2, .bool xk.fg1, .slice xk.fA1 xk.fn1 xk.fc1, .bool xk.fg2, .slice xk.fA2 xk.fn2 xk.fc2, .slice xk.iA xk.im xk.ic, .slice xk.hA xk.hm xk.hc]) hb7)
   have s7 := some_lt hb7
   have hbr7 := Lib.hid (hbr6.trans (hB7.mono hq6))
   have hq7 := hbr7.out.size
   have Hc2 := Lib.hid (stepc2_any W7 xk yk (Hy6.out.atD hB7) g pl pg pe po x d (by omega) ((hbr7.out.cell (p := ⟨pl, 0, none⟩) hpl).trans HL.out) (by omega) (by omega) (by omega) ((hbr7.out.cell (p := ⟨pg, 5, none⟩) hp).trans HG.out) ((hbr7.out.cell (p := ⟨pe, 0, none⟩) hpe).trans HE.out) ((hbr7.out.cell (p := ⟨po, 2, none⟩) hpo).trans HO.out))
   rw [<- Hu.out] at Hc2
   clear hb7 ht
   cases tt with
   | true =>
    have HN2 : Hid (Gr.invest g x d true (m.take (k + 1)) = s + u) := by show _ = _; rw [HN3.out, Hu.out]; simp
    go_wp2_with (refine wpList_load_mid rfl 94 (.tmp 9) rfl wr.heap.size 0 rfl [.int .i64 xk.ent, .int .i64 xk.meth, .int .i64 xk.since, .bool xk.sg1, .slice xk.sA1 xk.sn1 xk.sc1, .bool xk.sg2, .slice xk.sA2 xk.sn2 xk.sc2, .bool xk.fg1, .slice xk.fA1 xk.fn1 xk.fc1, .bool xk.fg2, .slice xk.fA2 xk.fn2 xk.fc2, .slice xk.iA xk.im xk.ic, .slice xk.hA xk.hm xk.hc] _ Hrz7.out Tryz.underlying94 rfl consSizeS ?_)
    refine Hc2.out.mono ?_
    rintro e W8 ⟨rfl, hB8⟩
    have hbr8 := Lib.hid (hbr7.out.trans (hB8.mono hbr7.out.size))
    go_wp2
    go_roundw
    case rel => exact ⟨k + 1, by omega, by go_num, by rw [HN2.out], hbr8.out⟩
    case measure => simp [intOf]; omega
   | false =>
    have HN2 : Hid (Gr.invest g x d true (m.take (k + 1)) = s) := by show _ = _; rw [HN3.out]; simp
    go_wp2
    go_roundw
    case rel => exact ⟨k + 1, by omega, by go_num, by rw [HN2.out], hbr7.out⟩
    case measure => simp [intOf]; omega
  ·obtain rfl : k = n := by omega
   have HV : Hid (Gr.invest g x d true m = s) := by
    show _ = _
    have := Hs.out
    rw [List.take_of_length_le (by have := Hml.out; have := Hl.out; omega)] at this
    exact this.symm
   go_wp2
   go_ret
   exact ⟨by rw [HV.out]; rfl, hbr⟩
end
theorem red_le40 (a : Int) {D : Int} (hD : 0 < D) : Int.tdiv D (Int.gcd a D) <= D := by
 obtain ⟨q, hq⟩ := Int.gcd_dvd_right a D
 have h0 : (0 : Int) <= (Int.gcd a D : Int) := Int.natCast_nonneg _
 obtain ⟨G, hG⟩ : ∃ G, G = (Int.gcd a D : Int) := ⟨_, rfl⟩
 rw [<- hG] at hq h0 ⊢
 have hG0 : G ≠ 0 := by intro e; subst e; rw [Int.zero_mul] at hq; omega
 have e2 : Int.tdiv D G = q := by rw [hq, Int.mul_tdiv_cancel_left _ hG0]
 rw [e2]
 have hqp : 0 < q := by
  rw [hq] at hD
  exact Int.pos_of_mul_pos_right hD (by omega)
 have : 1 * q <= G * q := Int.mul_le_mul_of_nonneg_right (by omega) (by omega)
 rw [hq]; omega
theorem redBy_pos40 {a D : Int} (hD : 0 < D) : redBy a D = (Int.gcd a D : Int) := by unfold redBy; rw [if_neg (by omega)]
section
variable (w : World)
theorem times40_any (n N D : Int) (s1 : Bool) (S1 : Option Addr) (m1 d1 : Nat) (s2 : Bool) (S2 : Option Addr) (m2 d2 : Nat) (h0 : -100000000000000 <= n) (h1 : n <= 100000000000000) (hs : SD w w.heap.size (.agg #[.bool s1, .slice S1 m1 d1, .bool s2, .slice S2 m2 d2]) N D) (hsk : ShareOk N D) :
  Calls Tryz.prog 71 #[.int .i64 n, .agg #[.bool s1, .slice S1 m1 d1, .bool s2, .slice S2 m2 d2]] w fun e w' => e = .returned (.tuple #[.int .i64 (R1.rd n N D), .bool true]) /\ Below w.heap.size w w' := by
 obtain ⟨W1, hW1, hB0, hb0, hz0⟩ := nw1 w #[.bool s1, .slice S1 m1 d1, .bool s2, .slice S2 m2 d2] 92
 have HW1 := Lib.hid hW1
 have Hb0 := Lib.hid hb0
 have Hy := Lib.hid (RI.more (SD_below hs hB0 (Nat.le_refl _)) hB0.size (Nat.le_refl _) (Nat.le_refl _))
 have Hso := Lib.hid hsk
 have Hbd := Lib.hid (rd_small hsk h0 h1)
 have sz1 : w.heap.size < W1.heap.size := by omega
 clear hW1 hb0 hz0 hs hsk
 go_enter Tryz.func71, Tryz.ntmps71
 go_upto_region 1 with (fail)
 rw [<- HW1.out]
 go_wp2_with (fail)
 refine (ratof_any W1 n 1 (by omega) (by omega) (by omega) (by omega) (by omega)).mono ?_
 rintro e W2 ⟨⟨r2, rfl, hr2⟩, hB2⟩
 have e1 : redBy n 1 = 1 := by rw [redBy_pos40 (by omega)]; simp
 rw [e1, Int.tdiv_one, Int.tdiv_one] at hr2
 obtain ⟨g1, A1, n1, c1, g2, A2, n2, c2, rfl⟩ := hr2.open
 obtain ⟨hB3, hb3, hz3⟩ := row_new W2 #[.bool g1, .slice A1 n1 c1, .bool g2, .slice A2 n2 c2] 92
 have hB13 := hB2.trans (hB3.mono hB2.size)
 have he0 := gbox Hb0.out hB13 sz1
 obtain ⟨W3, hW3⟩ : ∃ W3, W3 = W2.alloc (.cells #[.bool g1, .slice A1 n1 c1, .bool g2, .slice A2 n2 c2] 92) := ⟨_, rfl⟩
 rw [<- hW3] at hB3 hb3 hz3 hB13 he0
 have hB03 := hB0.trans (hB13.mono hB0.size)
 have HW3 := Lib.hid hW3
 have hr3 := Lib.hid (hr2.at_ hB3)
 have hy3 := Lib.hid (RI.more (SD_below Hy.out hB13 (Nat.le_refl _)) hB13.size (Nat.le_refl _) (Nat.le_refl _))
 have hrr := Lib.hid (range_row (cs := [.bool g1, .slice A1 n1 c1, .bool g2, .slice A2 n2 c2]) hb3)
 have hsr := Lib.hid (range_row (cs := [.bool s1, .slice S1 m1 d1, .bool s2, .slice S2 m2 d2]) he0)
 have hpos : Hid (0 < Int.tdiv (1 * D) (redBy (n * N) (1 * D)) /\ Int.tdiv (1 * D) (redBy (n * N) (1 * D)) <= 1000000) := Lib.hid (by
  have h := Hso.out.1
  have h2 := Hso.out.2.1
  rw [Int.one_mul, redBy_pos40 h]
  have a := R1.red_pos (n * N) h
  have b := red_le40 (n * N) h
  omega)
 have s3 : W2.heap.size < W3.heap.size := by omega
 have spo := some_lt he0
 clear hW3 hz3 hb3 he0
 go_upto_region 2 with (fail)
 rw [<- HW3.out]
 go_wp2_with (first | (refine wpList_load_mid rfl 92 (.tmp 6) rfl W2.heap.size 0 rfl [.bool g1, .slice A1 n1 c1, .bool g2, .slice A2 n2 c2] _ hrr.out Tryz.underlying92 rfl ratSize ?_) | (refine wpList_load_mid rfl 92 (.tmp 3) rfl w.heap.size 0 rfl [.bool s1, .slice S1 m1 d1, .bool s2, .slice S2 m2 d2] _ hsr.out Tryz.underlying92 rfl ratSize ?_))
 refine (mul_rat W3 3 1 3 1 _ _ n 1 N D (by omega) (by omega) (by omega) (by have := Hso.out.1; omega) (by have := Hso.out.1; omega) (by have := Hso.out.2.1; omega) hr3.out hy3.out).mono ?_
 rintro e W4 ⟨⟨r4, rfl, hr4⟩, hB4⟩
 have hB04 := hB03.trans (hB4.mono hB03.size)
 go_wp2_with (fail)
 refine (round_rat W4 6 _ _ _ (by omega) (by have := hpos.out; omega) (by have := hpos.out; omega) (by have := hpos.out; omega) hr4).mono ?_
 rw [rd_prog Hso.out.1]
 rintro e W5 ⟨⟨r5, rfl, hr5⟩, hB5⟩
 have hB05 := hB04.trans (hB5.mono hB04.size)
 go_wp2_with (fail)
 refine (small_any W5 _ _ _ (by omega) hr5).mono ?_
 rw [if_pos (by have := Hbd.out; omega), decide_eq_true (by have := Hbd.out; omega)]
 rintro e W6 ⟨rfl, hB6⟩
 have hB06 := hB05.trans (hB6.mono hB05.size)
 obtain ⟨v, hv⟩ : ∃ v, v = R1.rd n N D := ⟨_, rfl⟩
 rw [<- hv]
 have HVv := Lib.hid hv
 clear hv
 go_wp2
 exact bodyPost_ret (v := .tuple #[.int .i64 v, .bool true]) (by simp [results, Tryz.results71, asAddr, Act.put]) rfl ⟨by rw [HVv.out], hB06⟩
end
end Go.Proofs.YtccapfbblnnfjaaGreat
