/- My texts StepR. -/
import Derived.Test.YtccapfbblnnfjaaGreatC46
set_option linter.unusedVariables false
set_option linter.unusedSimpArgs false
set_option maxRecDepth 100000
set_option maxHeartbeats 8000000
namespace Go.Proofs.YtccapfbblnnfjaaGreat
open Go.RowKit
def StPost (g : Grp) (m : List Cnt) (x : Int) (w : World) (e : Ending) (w' : World) : Prop :=
 ∃ a b c er, Gr.step g m x = ((a, b, c), er) /\ e = .returned (.tuple #[.agg #[.int .i64 a, .int .i64 b, .int .i64 c], .int .i64 er]) /\ Below w.heap.size w w'
theorem figr40Size : (Tryz.prog.info? 73).map (·.size) = some 3 := by kernel_rfl
section
variable (w : World)
theorem stepr_any (g : Grp) (A : Option Addr) (n c : Nat) (l : List Con) (m : List Cnt) (x : Int) (hl : l.length = n) (hn : n <= 100) (hA : ConsAt w w.heap.size A l) (hm : Hold (fun a b => a.Holds SR w w.heap.size b) l m) (hg : g.At w w.heap.size) :
  Calls Tryz.prog 30 #[.agg #[.string g.cur, .int .i64 g.Y, .int .i64 g.M, .int .i64 g.N, .slice g.cA g.cn g.cc, .int .i64 g.r0, .int .i64 g.r1, .int .i64 g.r2, .int .i64 g.r3, .int .i64 g.r4, .int .i64 g.r5, .int .i64 g.r6, .int .i64 g.r7, .int .i64 g.r8, .int .i64 g.r9, .int .i64 g.r10, .int .i64 g.r11, .int .i64 g.r12, .int .i64 g.r13, .int .i64 g.r14, .slice g.eA g.en g.ec], .slice A n c, .int .i64 x] w (StPost g m x w) := by
 obtain ⟨W1, hW1, hB0, hb0, hb1, hz⟩ := nw2 w #[.string g.cur, .int .i64 g.Y, .int .i64 g.M, .int .i64 g.N, .slice g.cA g.cn g.cc, .int .i64 g.r0, .int .i64 g.r1, .int .i64 g.r2, .int .i64 g.r3, .int .i64 g.r4, .int .i64 g.r5, .int .i64 g.r6, .int .i64 g.r7, .int .i64 g.r8, .int .i64 g.r9, .int .i64 g.r10, .int .i64 g.r11, .int .i64 g.r12, .int .i64 g.r13, .int .i64 g.r14, .slice g.eA g.en g.ec] #[.int .i64 0, .int .i64 0, .int .i64 0] 29 73
 have HW := Lib.hid hW1
 have Hb0 := Lib.hid hb0
 have Hb1 := Lib.hid hb1
 have hrg := Lib.hid (grp_range hb0)
 have s1 : w.heap.size < W1.heap.size := by omega
 have s1' : w.heap.size + 1 < W1.heap.size := by omega
 have hg1 := hg.at_ hB0
 have HA := Lib.hid (RowsAt.at_ hA hB0)
 have HM := Lib.hid (hm.imp (Q := fun a b => a.Holds SR W1 W1.heap.size b) fun _ _ h => h.atR hB0)
 have Hl := Lib.hid hl
 have Ho := Lib.hid (fig3One 0 0 0)
 have hfin : ∀ (W : World) (h : W.heap[w.heap.size + 1]? = some (.cells #[.int .i64 0, .int .i64 0, .int .i64 0] 73 (0, 0))), Hid ((loadVar 73 ⟨w.heap.size + 1, 0, none⟩).run Tryz.prog (W.setRow (w.heap.size + 1) #[.int .i64 0, .int .i64 0, .int .i64 0]) = .ok (.agg #[.int .i64 0, .int .i64 0, .int .i64 0]) (W.setRow (w.heap.size + 1) #[.int .i64 0, .int .i64 0, .int .i64 0])) := fun W h =>
  Lib.hid (run_loadVar_row (P := Tryz.prog) _ _ _ 73 _ _ _ (setRow_heap W (w.heap.size + 1) _ #[.int .i64 0, .int .i64 0, .int .i64 0] _ _ h) Tryz.underlying73 rfl figr40Size)
 have Hfin := Lib.hid hfin
 clear hW1 hz hb0 hb1 hg hA hm hl hfin
 go_enter Tryz.func30, Tryz.ntmps30
 go_upto_region 1 with (fail)
 rw [<- HW.out]
 go_wp2_with (refine wpList_load_mid rfl 29 (.tmp 3) rfl w.heap.size 0 rfl _ _ hrg.out Tryz.underlying29 rfl grpSize ?_)
 refine (check_any W1 g x hg1).mono ?_
 rintro e W2 ⟨rfl, hB2⟩
 have hB02 := hB0.trans (hB2.mono hB0.size)
 have Hc0 := Lib.hid (gbox Hb0.out hB2 s1)
 have Hc1 := Lib.hid (gbox Hb1.out hB2 s1')
 have Hg2 := Lib.hid (hg1.at_ hB2)
 have HA2 := Lib.hid (RowsAt.at_ HA.out hB2)
 have HM2 := Lib.hid (HM.out.imp (Q := fun a b => a.Holds SR W2 W2.heap.size b) fun _ _ h => h.atR hB2)
 obtain ⟨er, her⟩ : ∃ er, er = Gr.check g x := ⟨_, rfl⟩
 rw [<- her]
 have Her := Lib.hid her
 clear her hg1
 by_cases he : er = 0
 case neg =>
  have heb : (er != 0) = true := by simp [he]
  have HV : Hid (Gr.step g m x = ((0, 0, 0), er)) := by show _ = _; rw [Gr.step, if_pos (by rw [<- Her.out]; exact he), <- Her.out]
  have hload := Hfin.out W2 Hc1.out
  have hBF := Lib.hid (below_setRow hB02 (show w.heap.size <= w.heap.size + 1 by omega) #[.int .i64 0, .int .i64 0, .int .i64 0])
  clear he
  go_wp2_with (refine wpList_store_row rfl 73 (.tmp 6) (.tmp 22) none rfl rfl (w.heap.size + 1) 73 _ #[.int .i64 0, .int .i64 0, .int .i64 0] rfl rfl Hc1.out rfl figr40Size Ho.out ?_)
  exact bodyPost_ret (v := .tuple #[.agg #[.int .i64 0, .int .i64 0, .int .i64 0], .int .i64 er]) (by simp [results, Tryz.results30, asAddr, Act.put, hload.out]) rfl ⟨0, 0, 0, er, HV.out, rfl, hBF.out⟩
 subst he
 have hfnd := Cn.elim_hold (P := fun a b => a.Holds SR W2 W2.heap.size b) (fun _ _ h => ⟨h.he, h.hm⟩) x HM2.out
 have HF := Lib.hid hfnd
 clear hfnd
 go_wp2_with (fail)
 refine (elimr_any W2 A n c l x Hl.out hn HA2.out).mono ?_
 rintro e W3 ⟨rfl, hB3⟩
 have hB03 := hB02.trans (hB3.mono hB02.size)
 obtain ⟨x0, hx0⟩ : ∃ x0, x0 = Cn.found l x := ⟨_, rfl⟩
 obtain ⟨ok, hok⟩ : ∃ ok, ok = Cn.isElim l x := ⟨_, rfl⟩
 rw [<- hx0, <- hok]
 have HX := Lib.hid hx0
 have HK := Lib.hid hok
 have hd0 := gbox Hc0.out hB3 (some_lt Hc0.out)
 have hd1 := gbox Hc1.out hB3 (some_lt Hc1.out)
 obtain ⟨hB4, hb4, hz4⟩ := row_new W3 #[.int .i64 x0.ent, .int .i64 x0.meth, .int .i64 x0.since, .bool x0.sg1, .slice x0.sA1 x0.sn1 x0.sc1, .bool x0.sg2, .slice x0.sA2 x0.sn2 x0.sc2, .bool x0.fg1, .slice x0.fA1 x0.fn1 x0.fc1, .bool x0.fg2, .slice x0.fA2 x0.fn2 x0.fc2, .slice x0.iA x0.im x0.ic, .slice x0.hA x0.hm x0.hc] 62
 have hB04 := hB03.trans (hB4.mono hB03.size)
 have He0 := Lib.hid (gbox hd0 hB4 (some_lt hd0))
 have He1 := Lib.hid (gbox hd1 hB4 (some_lt hd1))
 have hq3 := hB03.size
 obtain ⟨W4, hW4⟩ : ∃ W4, W4 = W3.alloc (.cells #[.int .i64 x0.ent, .int .i64 x0.meth, .int .i64 x0.since, .bool x0.sg1, .slice x0.sA1 x0.sn1 x0.sc1, .bool x0.sg2, .slice x0.sA2 x0.sn2 x0.sc2, .bool x0.fg1, .slice x0.fA1 x0.fn1 x0.fc1, .bool x0.fg2, .slice x0.fA2 x0.fn2 x0.fc2, .slice x0.iA x0.im x0.ic, .slice x0.hA x0.hm x0.hc] 62) := ⟨_, rfl⟩
 rw [<- hW4] at hB4 hb4 hz4 hB04 He0 He1
 have HW4 := Lib.hid hW4
 have Hb4 := Lib.hid hb4
 have x1 := cell_of_row _ _ 1 _ _ _ hb4
 simp at x1
 have s4 : W3.heap.size < W4.heap.size := by omega
 have s4' : w.heap.size + 1 < W4.heap.size := some_lt He1.out
 have hload := Hfin.out W4 He1.out
 have hBF := Lib.hid (below_setRow hB04 (show w.heap.size <= w.heap.size + 1 by omega) #[.int .i64 0, .int .i64 0, .int .i64 0])
 clear hx0 hok hd0 hd1 hb4 hz4 hW4
 go_upto_region 5 with (fail)
 rw [<- HW4.out]
 by_cases hko : ok = true
 case neg =>
  have hko' : ok = false := by simpa using hko
  have HV : Hid (Gr.step g m x = ((0, 0, 0), 0)) := by
   show _ = _
   rw [Gr.step, if_neg (by rw [<- Her.out]; simp)]
   rcases HF.out with ⟨_, h2⟩ | ⟨y, h1, _⟩
   ·rw [h2]
   ·have := HK.out; rw [hko', h1] at this; cases this
  rw [hko']
  clear hko hko'
  go_wp2_with (refine wpList_store_row rfl 73 (.tmp 6) (.tmp 32) none rfl rfl (w.heap.size + 1) 73 _ #[.int .i64 0, .int .i64 0, .int .i64 0] rfl rfl He1.out rfl figr40Size Ho.out ?_)
  exact bodyPost_ret (v := .tuple #[.agg #[.int .i64 0, .int .i64 0, .int .i64 0], .int .i64 0]) (by simp [results, Tryz.results30, asAddr, Act.put, hload.out]) rfl ⟨0, 0, 0, 0, HV.out, rfl, hBF.out⟩
 subst hko
 obtain ⟨y, hel, hyh, hx0ne, hmm⟩ : ∃ y, Gr.elim m x = some y /\ x0.Holds SR W4 W4.heap.size y /\ x ≠ 0 /\ (y.meth = 3 ∨ y.meth = 2) := by
  rcases HF.out with ⟨h1, h2⟩ | ⟨y, h1, h2, _, h3, h4, h5⟩
  ·have := HK.out; rw [h1] at this; cases this
  ·exact ⟨y, h2, by rw [HX.out]; exact (h3.atR hB3).atR hB4, h4, h5⟩
 have HEL := Lib.hid hel
 have HY := Lib.hid hyh
 have Hme := Lib.hid hyh.hm
 have hsi := hyh.hs
 obtain ⟨later, hlater⟩ : ∃ later, later = Gr.invest g x y.since true m := ⟨_, rfl⟩
 obtain ⟨acq, hacq⟩ : ∃ acq, acq = Gr.sumOf (Gr.isOn g.r7) y.its := ⟨_, rfl⟩
 have HC := Lib.hid hlater
 have HQ := Lib.hid hacq
 have hqb := Gr.sumOf_bd (Gr.isOn g.r7) y.its hyh.hix
 rw [<- hacq] at hqb
 have hlen := hyh.hil
 have hin := hyh.hin
 obtain ⟨q0, q1⟩ : -100000000000000 <= acq /\ acq <= 100000000000000 := by omega
 have hg4 := Lib.hid ((Hg2.out.at_ hB3).at_ hB4)
 have hgr4 := Lib.hid (grp_range He0.out)
 have hco4 := Lib.hid (range_row (cs := [.int .i64 x0.ent, .int .i64 x0.meth, .int .i64 x0.since, .bool x0.sg1, .slice x0.sA1 x0.sn1 x0.sc1, .bool x0.sg2, .slice x0.sA2 x0.sn2 x0.sc2, .bool x0.fg1, .slice x0.fA1 x0.fn1 x0.fc1, .bool x0.fg2, .slice x0.fA2 x0.fn2 x0.fc2, .slice x0.iA x0.im x0.ic, .slice x0.hA x0.hm x0.hc]) Hb4.out)
 have x2 : W4.cell? ⟨W3.heap.size, 2, none⟩ = some (.int .i64 x0.since) := hco4.out 2 _ rfl
 have HA4 := Lib.hid (RowsAt.at_ (RowsAt.at_ HA2.out hB3) hB4)
 have HM4 := Lib.hid ((HM2.out.imp (Q := fun a b => a.Holds SR W3 W3.heap.size b) fun _ _ h => h.atR hB3).imp (Q := fun a b => a.Holds SR W4 W4.heap.size b) fun _ _ h => h.atR hB4)
 have swx : w.heap.size < W4.heap.size := by omega
 have hstep : Hid (∀ p q, p = (if y.meth = 3 then R1.rd acq y.fN y.fD else 0) -> q = (if y.meth = 3 then R1.rd acq y.sN y.sD else 0) -> Gr.step g m x = ((later, p, q), 0)) := Lib.hid fun p q hp hq => by
  rw [Gr.step, if_neg (by rw [<- Her.out]; simp), HEL.out]
  simp only []
  have e : Gr.sumOf (fun a => decide (a = g.r7)) y.its = acq := HQ.out.symm
  rw [e, <- HC.out, hp, hq]
  split <;> rfl
 rw [<- hsi] at hlater
 have HC2 := Lib.hid hlater
 clear hel hyh hacq hqb hlen hlater hx0ne hsi
 go_upto_region 7 with (fail)
 go_wp2_with (refine wpList_load_mid rfl 29 (.tmp 3) rfl w.heap.size 0 rfl _ _ hgr4.out Tryz.underlying29 rfl grpSize ?_)
 refine (invr_any W4 g A n c l m x x0.since true Hl.out hn HA4.out HM4.out hg4.out).mono ?_
 rw [<- HC2.out]
 rintro e W5 ⟨rfl, hB5⟩
 have hq5 := hB5.size
 obtain ⟨W6, hW6, hB6, hb6, hz6⟩ := nw1 W5 #[.int .i64 later, .int .i64 0, .int .i64 0] 73
 have HW6 := Lib.hid hW6
 have HR6 := Lib.hid hb6
 have hS6 := hB5.trans (hB6.mono hB5.size)
 have hB06 := hB04.trans (hS6.mono hB04.size)
 have HF6 := Lib.hid (gbox He1.out hS6 s4')
 have hco6 := gbox Hb4.out hS6 s4
 have hgr6 := gbox He0.out hS6 swx
 have m1 := cell_of_row _ _ 1 _ _ _ hco6
 have sp6 := some_lt hb6
 have sc6 := some_lt hco6
 simp at m1
 have Hco6 := Lib.hid hco6
 clear hW6 hb6 hz6 x2 hco6
 go_upto_region 8 with (fail)
 rw [<- HW6.out]
 by_cases h3 : x0.meth = 3
 case neg =>
  have h3b : (x0.meth == 3) = false := by simp [h3]
  have HP : Hid ((0 : Int) = (if y.meth = 3 then R1.rd acq y.fN y.fD else 0)) := by show _ = _; rw [if_neg (by rw [<- Hme.out]; exact h3)]
  have HQ2 : Hid ((0 : Int) = (if y.meth = 3 then R1.rd acq y.sN y.sD else 0)) := by show _ = _; rw [if_neg (by rw [<- Hme.out]; exact h3)]
  clear h3 hgr6
  have HRg := Lib.hid (range_row (cs := [.int .i64 later, .int .i64 0, .int .i64 0]) HR6.out)
  have Ho2 := Lib.hid (fig3One later 0 0)
  have hload2 := Lib.hid (run_loadVar_row (P := Tryz.prog) _ _ _ 73 _ _ _ (setRow_heap _ (w.heap.size + 1) _ #[.int .i64 later, .int .i64 0, .int .i64 0] _ _ HF6.out) Tryz.underlying73 rfl figr40Size)
  have hBF2 := Lib.hid (below_setRow hB06 (show w.heap.size <= w.heap.size + 1 by omega) #[.int .i64 later, .int .i64 0, .int .i64 0])
  go_wp2_with (first | (refine wpList_load_mid rfl 73 (.tmp 11) rfl W5.heap.size 0 rfl [.int .i64 later, .int .i64 0, .int .i64 0] _ HRg.out Tryz.underlying73 rfl figr40Size ?_) | (refine wpList_store_row rfl 73 (.tmp 6) (.tmp 74) none rfl rfl (w.heap.size + 1) 73 _ #[.int .i64 later, .int .i64 0, .int .i64 0] rfl rfl HF6.out rfl figr40Size Ho2.out ?_))
  exact bodyPost_ret (v := .tuple #[.agg #[.int .i64 later, .int .i64 0, .int .i64 0], .int .i64 0]) (by simp [results, Tryz.results30, asAddr, Act.put, hload2.out]) rfl ⟨later, 0, 0, 0, hstep.out 0 0 HP.out HQ2.out, rfl, hBF2.out⟩
 have h3b : (x0.meth == 3) = true := by simp [h3]
 obtain ⟨u, hu⟩ : ∃ u, u = R1.rd acq y.fN y.fD := ⟨_, rfl⟩
 have HU := Lib.hid hu
 obtain ⟨v, hv⟩ : ∃ v, v = R1.rd acq y.sN y.sD := ⟨_, rfl⟩
 have HV := Lib.hid hv
 have HP : Hid (u = (if y.meth = 3 then R1.rd acq y.fN y.fD else 0)) := by show _ = _; rw [if_pos (by rw [<- Hme.out]; exact h3)]; exact hu
 have HQ2 : Hid (v = (if y.meth = 3 then R1.rd acq y.sN y.sD else 0)) := by show _ = _; rw [if_pos (by rw [<- Hme.out]; exact h3)]; exact hv
 have hco6 := Hco6.out
 have x11 := cell_of_row _ _ 11 _ _ _ hco6
 have g12 : W6.cell? ⟨w.heap.size, 12, none⟩ = some (.int .i64 g.r7) := grp_range hgr6 12 _ rfl
 have sg6 := some_lt hgr6
 simp at x11
 have hy6 := HY.out.atR hS6
 have Hon := Lib.hid (on38_any W6 x0.iA x0.im x0.ic y.its g.r7 hy6.hil (by have := hy6.hin; omega) hy6.hix hy6.hiA)
 have HY6 := Lib.hid hy6
 rw [<- HQ.out] at Hon
 clear h3 hu hv hco6 hy6 hgr6
 go_upto_region 9 with (fail)
 go_wp2_with (fail)
 refine Hon.out.mono ?_
 rintro e W7 ⟨rfl, hB7⟩
 have hco7 := gbox Hco6.out hB7 sc6
 have sc7 := some_lt hco7
 have hy7 := HY6.out.atR hB7
 have hub := rd_small hy7.hfo q0 q1
 rw [<- HU.out] at hub
 have Hf7 : Hid (W7.rangeAt W3.heap.size 7 [.bool x0.fg1, .slice x0.fA1 x0.fn1 x0.fc1, .bool x0.fg2, .slice x0.fA2 x0.fn2 x0.fc2]) := Lib.hid (fun j v hj => by
  have hr := range_row (cs := [.int .i64 x0.ent, .int .i64 x0.meth, .int .i64 x0.since, .bool x0.sg1, .slice x0.sA1 x0.sn1 x0.sc1, .bool x0.sg2, .slice x0.sA2 x0.sn2 x0.sc2, .bool x0.fg1, .slice x0.fA1 x0.fn1 x0.fc1, .bool x0.fg2, .slice x0.fA2 x0.fn2 x0.fc2, .slice x0.iA x0.im x0.ic, .slice x0.hA x0.hm x0.hc]) hco7
  match j with
  | 0 => exact hr 7 _ (by simpa using hj)
  | 1 => exact hr 8 _ (by simpa using hj)
  | 2 => exact hr 9 _ (by simpa using hj)
  | 3 => exact hr 10 _ (by simpa using hj)
  | j + 4 => simp at hj)
 have Hr7 := Lib.hid (R1.round_any W7 5 5 _ acq y.fN y.fD (by omega) (by omega) hy7.hfo.1 (by omega) (by omega) (by rw [<- HU.out]; omega) (by rw [<- HU.out]; omega) hy7.hfi)
 rw [<- HU.out] at Hr7
 have Hco7 := Lib.hid hco7
 have HY7 := Lib.hid hy7
 clear hco7 hy7 x11 g12 Hon
 go_upto_region 10 with (fail)
 go_wp2_with (refine wpList_load_mid rfl 59 (.tmp 51) rfl W3.heap.size 7 rfl [.bool x0.fg1, .slice x0.fA1 x0.fn1 x0.fc1, .bool x0.fg2, .slice x0.fA2 x0.fn2 x0.fc2] _ Hf7.out Tryz.underlying59 rfl ratSize ?_)
 refine Hr7.out.mono ?_
 rintro e W8 ⟨rfl, hB8⟩
 have hco8 := gbox Hco7.out hB8 sc7
 have hy8 := HY7.out.atR hB8
 have sc8 := some_lt hco8
 have hvb := rd_small hy8.hso q0 q1
 rw [<- HV.out] at hvb
 have Hs8 : Hid (W8.rangeAt W3.heap.size 3 [.bool x0.sg1, .slice x0.sA1 x0.sn1 x0.sc1, .bool x0.sg2, .slice x0.sA2 x0.sn2 x0.sc2]) := Lib.hid (fun j v hj => by
  have hr := range_row (cs := [.int .i64 x0.ent, .int .i64 x0.meth, .int .i64 x0.since, .bool x0.sg1, .slice x0.sA1 x0.sn1 x0.sc1, .bool x0.sg2, .slice x0.sA2 x0.sn2 x0.sc2, .bool x0.fg1, .slice x0.fA1 x0.fn1 x0.fc1, .bool x0.fg2, .slice x0.fA2 x0.fn2 x0.fc2, .slice x0.iA x0.im x0.ic, .slice x0.hA x0.hm x0.hc]) hco8
  match j with
  | 0 => exact hr 3 _ (by simpa using hj)
  | 1 => exact hr 4 _ (by simpa using hj)
  | 2 => exact hr 5 _ (by simpa using hj)
  | 3 => exact hr 6 _ (by simpa using hj)
  | j + 4 => simp at hj)
 have Hr8 := Lib.hid (R1.round_any W8 5 5 _ acq y.sN y.sD (by omega) (by omega) hy8.hso.1 (by omega) (by omega) (by rw [<- HV.out]; omega) (by rw [<- HV.out]; omega) hy8.hsh)
 rw [<- HV.out] at Hr8
 clear hco8 hy8 Hr7
 go_upto_region 11 with (fail)
 go_wp2_with (refine wpList_load_mid rfl 59 (.tmp 58) rfl W3.heap.size 3 rfl [.bool x0.sg1, .slice x0.sA1 x0.sn1 x0.sc1, .bool x0.sg2, .slice x0.sA2 x0.sn2 x0.sc2] _ Hs8.out Tryz.underlying59 rfl ratSize ?_)
 refine Hr8.out.mono ?_
 rintro e W9 ⟨rfl, hB9⟩
 have hB69 := hB7.trans ((hB8.trans (hB9.mono hB8.size)).mono hB7.size)
 have hrow9 := gbox HR6.out hB69 sp6
 have z1 := cell_of_row _ _ 1 _ _ _ hrow9
 have z2 := cell_of_row _ _ 2 _ _ _ hrow9
 have zf := fun j => frozen_of_row _ _ j _ _ hrow9
 have sp9 := some_lt hrow9
 simp at z1 z2
 have hS9 := hS6.trans (hB69.mono hS6.size)
 have hrowa := heap_setCell_same W9 W5.heap.size 1 _ _ (.int .i64 u) hrow9
 simp at hrowa
 have hSa := hS9.setCell (p := ⟨W5.heap.size, 1, none⟩) (show W4.heap.size <= W5.heap.size from hq5) (.int .i64 u)
 have hrowb := heap_setCell_same (W9.setCell ⟨W5.heap.size, 1, none⟩ (.int .i64 u)) W5.heap.size 2 _ _ (.int .i64 v) hrowa
 simp at hrowb
 have hSb := hSa.setCell (p := ⟨W5.heap.size, 2, none⟩) (show W4.heap.size <= W5.heap.size from hq5) (.int .i64 v)
 have Hrowb := Lib.hid hrowb
 have HSb := Lib.hid hSb
 clear hrow9 hrowa hrowb hS9 hSa hSb Hr8
 go_upto_region 15 with (fail)
 obtain ⟨Wb, hWb⟩ : ∃ Wb, Wb = (W9.setCell ⟨W5.heap.size, 1, none⟩ (.int .i64 u)).setCell ⟨W5.heap.size, 2, none⟩ (.int .i64 v) := ⟨_, rfl⟩
 have hrowb := Hrowb.out
 have hSb := HSb.out
 rw [<- hWb] at hrowb hSb ⊢
 clear hWb Hrowb HSb z1 z2 zf
 have HRb := Lib.hid hrowb
 have HFb := Lib.hid (gbox He1.out hSb s4')
 have HB0b := Lib.hid (hB04.trans (hSb.mono hB04.size))
 clear hrowb hSb
 skip
 have HRg := Lib.hid (range_row (cs := [.int .i64 later, .int .i64 u, .int .i64 v]) HRb.out)
 have Ho2 := Lib.hid (fig3One later u v)
 have hload2 := Lib.hid (run_loadVar_row (P := Tryz.prog) _ _ _ 73 _ _ _ (setRow_heap _ (w.heap.size + 1) _ #[.int .i64 later, .int .i64 u, .int .i64 v] _ _ HFb.out) Tryz.underlying73 rfl figr40Size)
 have hBF2 := Lib.hid (below_setRow HB0b.out (show w.heap.size <= w.heap.size + 1 by omega) #[.int .i64 later, .int .i64 u, .int .i64 v])
 go_wp2_with (first | (refine wpList_load_mid rfl 73 (.tmp 11) rfl W5.heap.size 0 rfl [.int .i64 later, .int .i64 u, .int .i64 v] _ HRg.out Tryz.underlying73 rfl figr40Size ?_) | (refine wpList_store_row rfl 73 (.tmp 6) (.tmp 74) none rfl rfl (w.heap.size + 1) 73 _ #[.int .i64 later, .int .i64 u, .int .i64 v] rfl rfl HFb.out rfl figr40Size Ho2.out ?_))
 exact bodyPost_ret (v := .tuple #[.agg #[.int .i64 later, .int .i64 u, .int .i64 v], .int .i64 0]) (by simp [results, Tryz.results30, asAddr, Act.put, hload2.out]) rfl ⟨later, u, v, 0, hstep.out u v HP.out HQ2.out, rfl, hBF2.out⟩
end
end Go.Proofs.YtccapfbblnnfjaaGreat
