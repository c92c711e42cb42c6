/- My texts StepD. -/
import Derived.Test.YtccapfbblnnfjaaGreatD50
set_option linter.unusedVariables false
set_option linter.unusedSimpArgs false
set_option maxRecDepth 100000
set_option maxHeartbeats 8000000
namespace Go.Proofs.YtccapfbblnnfjaaGreat
open Go.RowKit
theorem fnSize40 : (Tryz.prog.info? 108).map (·.size) = some 1 := by kernel_rfl
theorem figd40Size : (Tryz.prog.info? 70).map (·.size) = some 3 := by kernel_rfl
theorem run_storeVar_one {P : Program} (W : World) (ty t : TypeId) (v0 u : Value) (hu : u.cells = #[u]) (h1 : u.oneCell' = true) (hi : (P.info? ty).map (·.size) = some 1) :
  (storeVar ty ⟨W.heap.size, 0, none⟩ u).run P (W.alloc (.cells #[v0] t)) = .ok () (W.alloc (.cells #[u] t)) := by
 have h := run_storeCells_from (P := P) W.heap.size t [u] 0 #[v0] (W.alloc (.cells #[v0] t)) (heap_alloc_new W _) (by simp) (by simpa using h1)
 simp only [List.take_zero, List.nil_append, alloc_setRow] at h
 cases hq : P.info? ty with
 | none => simp [hq] at hi
 | some i =>
  have hsz : i.size = 1 := by simpa [hq] using hi
  simp [storeVar, hu, Sem.run_bind, sizeOf, typeInfo, hq, hsz, h]
theorem wpList_store_one {P : Program} {ops : Array Oper} {rest : List Oper} {o : Oper} {a : Act} {W : World} {Q : Exit -> Act -> World -> Prop} (hgd : o.guard = none) (ty : TypeId) (x v : Operand) (ho : o.op = .store ty x v)
  (t : TypeId) (v0 u : Value) (hx : a.eval x = .pointer (some ⟨W.heap.size, 0, none⟩)) (hv : a.eval v = u) (hu : u.cells = #[u]) (h1 : u.oneCell' = true) (hi : (P.info? ty).map (·.size) = some 1)
  (h : wpList P ops Q rest (a.put o.dst undef) (W.alloc (.cells #[u] t))) : wpList P ops Q (o :: rest) a (W.alloc (.cells #[v0] t)) := by
 refine wpList_plain hgd fun _ hK => ?_
 unfold Oper.wp execOp
 simp only [ho, hx, hv, Instr.storeAt, Instr.sureAddr, Sem.run_bind, Sem.run_pure, Result.andThen_ok, run_storeVar_one W ty t v0 u hu h1 hi]
 exact hK _ _ h
theorem Cn.elim_hold2 {P : Con -> Cnt -> Prop} (hP : ∀ a b, P a b -> a.ent = b.ent /\ a.meth = b.meth) (x : Int) {l : List Con} {m : List Cnt} (h : Hold P l m) :
  ((Cn.has l x = false ∨ x = 0 ∨ ((Cn.found l x).meth ≠ 3 /\ (Cn.found l x).meth ≠ 2)) /\ Gr.elim m x = none) ∨ ∃ y, Cn.has l x = true /\ x ≠ 0 /\ ((Cn.found l x).meth = 3 ∨ (Cn.found l x).meth = 2) /\ Gr.elim m x = some y /\ P (Cn.found l x) y := by
 rcases Cn.elim_hold hP x h with ⟨h1, h2⟩ | ⟨y, h1, h2, _, h4, h5, h6⟩
 ·refine .inl ⟨?_, h2⟩
  by_cases ha : Cn.has l x = true
  ·by_cases hx : x = 0
   ·exact .inr (.inl hx)
   ·refine .inr (.inr ⟨fun e => ?_, fun e => ?_⟩) <;> (rw [Cn.isElim, ha] at h1; simp [hx, e] at h1)
  ·exact .inl (by simpa using ha)
 ·have hm := (hP _ _ h4).2
  refine .inr ⟨y, ?_, h5, by rw [hm]; exact h6, h2, h4⟩
  rw [Cn.isElim] at h1
  cases ha : Cn.has l x
  ·rw [ha] at h1; simp at h1
  ·rfl
section
variable (w : World)
theorem stepd_any (g : Grp) (A : Option Addr) (n c : Nat) (l : List Con) (m : List Cnt) (x : Int) (hl : l.length = n) (hn : n <= 100) (hA : ConsAt w w.heap.size A l) (hm : Hold (fun a b => a.Holds SD w w.heap.size b) l m) (hg : g.At w w.heap.size) :
  Calls Tryz.prog 28 #[.agg #[.string g.cur, .int .i64 g.Y, .int .i64 g.M, .int .i64 g.N, .slice g.cA g.cn g.cc, .int .i64 g.r0, .int .i64 g.r1, .int .i64 g.r2, .int .i64 g.r3, .int .i64 g.r4, .int .i64 g.r5, .int .i64 g.r6, .int .i64 g.r7, .int .i64 g.r8, .int .i64 g.r9, .int .i64 g.r10, .int .i64 g.r11, .int .i64 g.r12, .int .i64 g.r13, .int .i64 g.r14, .slice g.eA g.en g.ec], .slice A n c, .int .i64 x] w (StPost g m x w) := by
 obtain ⟨hB0, hb0, hbe, hb1, hz⟩ := row_new3 w #[.string g.cur, .int .i64 g.Y, .int .i64 g.M, .int .i64 g.N, .slice g.cA g.cn g.cc, .int .i64 g.r0, .int .i64 g.r1, .int .i64 g.r2, .int .i64 g.r3, .int .i64 g.r4, .int .i64 g.r5, .int .i64 g.r6, .int .i64 g.r7, .int .i64 g.r8, .int .i64 g.r9, .int .i64 g.r10, .int .i64 g.r11, .int .i64 g.r12, .int .i64 g.r13, .int .i64 g.r14, .slice g.eA g.en g.ec] #[.int .i64 x] #[.int .i64 0, .int .i64 0, .int .i64 0] 29 3 70
 obtain ⟨W1, hW1⟩ : ∃ W1, W1 = (((w.alloc (.cells #[.string g.cur, .int .i64 g.Y, .int .i64 g.M, .int .i64 g.N, .slice g.cA g.cn g.cc, .int .i64 g.r0, .int .i64 g.r1, .int .i64 g.r2, .int .i64 g.r3, .int .i64 g.r4, .int .i64 g.r5, .int .i64 g.r6, .int .i64 g.r7, .int .i64 g.r8, .int .i64 g.r9, .int .i64 g.r10, .int .i64 g.r11, .int .i64 g.r12, .int .i64 g.r13, .int .i64 g.r14, .slice g.eA g.en g.ec] 29)).alloc (.cells #[.int .i64 x] 3)).alloc (.cells #[.int .i64 0, .int .i64 0, .int .i64 0] 70)) := ⟨_, rfl⟩
 rw [<- hW1] at hB0 hb0 hbe hb1 hz
 have HW := Lib.hid hW1
 have Hb0 := Lib.hid hb0
 have Hbe := Lib.hid hbe
 have Hb1 := Lib.hid hb1
 have hrg := Lib.hid (grp_range hb0)
 have s1 : w.heap.size < W1.heap.size := by omega
 have s1e : w.heap.size + 1 < W1.heap.size := by omega
 have s1' : w.heap.size + 2 < W1.heap.size := by omega
 have hg1 := hg.at_ hB0
 have HA := Lib.hid (RowsAt.at_ hA hB0)
 have HM := Lib.hid (hm.imp (Q := fun a b => a.Holds SD W1 W1.heap.size b) fun _ _ h => h.atD hB0)
 have Hl := Lib.hid hl
 have Hml := Lib.hid (Hold.len hm)
 have Hits := Lib.hid (Hold.its hm)
 have Ho := Lib.hid (fig3One 0 0 0)
 have hfin : ∀ (W : World) (h : W.heap[w.heap.size + 2]? = some (.cells #[.int .i64 0, .int .i64 0, .int .i64 0] 70 (0, 0))), Hid ((loadVar 70 ⟨w.heap.size + 2, 0, none⟩).run Tryz.prog (W.setRow (w.heap.size + 2) #[.int .i64 0, .int .i64 0, .int .i64 0]) = .ok (.agg #[.int .i64 0, .int .i64 0, .int .i64 0]) (W.setRow (w.heap.size + 2) #[.int .i64 0, .int .i64 0, .int .i64 0])) := fun W h =>
  Lib.hid (run_loadVar_row (P := Tryz.prog) _ _ _ 70 _ _ _ (setRow_heap W (w.heap.size + 2) _ #[.int .i64 0, .int .i64 0, .int .i64 0] _ _ h) Tryz.underlying70 rfl figd40Size)
 have Hfin := Lib.hid hfin
 clear hW1 hz hb0 hbe hb1 hg hA hm hl hfin
 go_enter Tryz.func28, Tryz.ntmps28
 go_upto_region 1 with (fail)
 rw [<- HW.out]
 go_wp2_with (refine wpList_load_mid rfl 29 (.tmp 3) rfl w.heap.size 0 rfl _ _ hrg.out Tryz.underlying29 rfl grpSize ?_)
 refine (grpd_any W1 g hg1).mono ?_
 rintro e W2 ⟨rfl, hB2⟩
 have hB02 := hB0.trans (hB2.mono hB0.size)
 have hc0 := gbox Hb0.out hB2 s1
 have hce := gbox Hbe.out hB2 s1e
 have Hc0 := Lib.hid hc0
 have Hce := Lib.hid hce
 have Hc1 := Lib.hid (gbox Hb1.out hB2 s1')
 have x20 := cell_of_row _ _ 20 _ _ _ hc0
 have e0 := cell_of_row _ _ 0 _ _ _ hce
 simp at x20 e0
 have s2 : w.heap.size < W2.heap.size := some_lt hc0
 have s2e : w.heap.size + 1 < W2.heap.size := some_lt hce
 have Hg2 := Lib.hid (hg1.at_ hB2)
 have HA2 := Lib.hid (RowsAt.at_ HA.out hB2)
 have HM2 := Lib.hid (HM.out.imp (Q := fun a b => a.Holds SD W2 W2.heap.size b) fun _ _ h => h.atD hB2)
 have hBF := Lib.hid (below_setRow hB02 (show w.heap.size <= w.heap.size + 2 by omega) #[.int .i64 0, .int .i64 0, .int .i64 0])
 clear hc0 hce hg1
 by_cases hv : Gr.valid g = true
 case neg =>
  have hv' : Gr.valid g = false := by simpa using hv
  have hck : Gr.check g x = 1 := by rw [Gr.check, if_pos hv']
  have HV : Hid (Gr.step g m x = ((0, 0, 0), 1)) := by show _ = _; rw [Gr.step, if_pos (by rw [hck]; simp), hck]
  rw [hv']
  clear hv hv' hck
  have hload := Hfin.out W2 Hc1.out
  go_wp2_with (refine wpList_store_row rfl 70 (.tmp 6) (.tmp 19) none rfl rfl (w.heap.size + 2) 70 _ #[.int .i64 0, .int .i64 0, .int .i64 0] rfl rfl Hc1.out rfl figd40Size Ho.out ?_)
  exact bodyPost_ret (v := .tuple #[.agg #[.int .i64 0, .int .i64 0, .int .i64 0], .int .i64 1]) (by simp [results, Tryz.results28, asAddr, Act.put, hload.out]) rfl ⟨0, 0, 0, 1, HV.out, rfl, hBF.out⟩
 have HVA := Lib.hid hv
 rw [hv]
 clear hv
 have hbad : (x < 0 ∨ (g.en : Int) <= x) -> Hid (Gr.step g m x = ((0, 0, 0), 2)) := fun h => by
  have hck : Gr.check g x = 2 := by rw [Gr.check, if_neg (by rw [HVA.out]; simp), if_pos h]
  show _ = _; rw [Gr.step, if_pos (by rw [hck]; simp), hck]
 by_cases h2 : x < 0
 case pos =>
  have HV := hbad (.inl h2)
  clear hbad
  have hload := Hfin.out W2 Hc1.out
  go_wp2_with (refine wpList_store_row rfl 70 (.tmp 6) (.tmp 29) none rfl rfl (w.heap.size + 2) 70 _ #[.int .i64 0, .int .i64 0, .int .i64 0] rfl rfl Hc1.out rfl figd40Size Ho.out ?_)
  exact bodyPost_ret (v := .tuple #[.agg #[.int .i64 0, .int .i64 0, .int .i64 0], .int .i64 2]) (by simp [results, Tryz.results28, asAddr, Act.put, hload.out]) rfl ⟨0, 0, 0, 2, HV.out, rfl, hBF.out⟩
 by_cases h3 : (g.en : Int) <= x
 case pos =>
  have HV := hbad (.inr h3)
  clear hbad
  have hload := Hfin.out W2 Hc1.out
  go_wp2_with (refine wpList_store_row rfl 70 (.tmp 6) (.tmp 29) none rfl rfl (w.heap.size + 2) 70 _ #[.int .i64 0, .int .i64 0, .int .i64 0] rfl rfl Hc1.out rfl figd40Size Ho.out ?_)
  exact bodyPost_ret (v := .tuple #[.agg #[.int .i64 0, .int .i64 0, .int .i64 0], .int .i64 2]) (by simp [results, Tryz.results28, asAddr, Act.put, hload.out]) rfl ⟨0, 0, 0, 2, HV.out, rfl, hBF.out⟩
 have Hck : Hid (Gr.check g x = 0) := by show _ = _; rw [Gr.check, if_neg (by rw [HVA.out]; simp), if_neg (by omega)]
 have HF := Lib.hid (Cn.elim_hold2 (P := fun a b => a.Holds SD W2 W2.heap.size b) (fun _ _ h => ⟨h.he, h.hm⟩) x HM2.out)
 clear hbad hBF
 go_wp2_with (fail)
 refine (confd_any W2 A n c l x Hl.out (by omega) HA2.out).mono ?_
 rintro e W3 ⟨rfl, hB3⟩
 have hB03 := hB02.trans (hB3.mono hB02.size)
 obtain ⟨x0, hx0⟩ : ∃ x0, x0 = Cn.found l x := ⟨_, rfl⟩
 obtain ⟨ok, hok⟩ : ∃ ok, ok = Cn.has l x := ⟨_, rfl⟩
 rw [<- hx0, <- hok]
 have HX := Lib.hid hx0
 have HK := Lib.hid hok
 have hd0 := gbox Hc0.out hB3 (some_lt Hc0.out)
 have hde := gbox Hce.out hB3 (some_lt Hce.out)
 have hd1 := gbox Hc1.out hB3 (some_lt Hc1.out)
 obtain ⟨hB4, hb4, hz4⟩ := row_new W3 #[.int .i64 x0.ent, .int .i64 x0.meth, .int .i64 x0.since, .bool x0.sg1, .slice x0.sA1 x0.sn1 x0.sc1, .bool x0.sg2, .slice x0.sA2 x0.sn2 x0.sc2, .bool x0.fg1, .slice x0.fA1 x0.fn1 x0.fc1, .bool x0.fg2, .slice x0.fA2 x0.fn2 x0.fc2, .slice x0.iA x0.im x0.ic, .slice x0.hA x0.hm x0.hc] 94
 have hB04 := hB03.trans (hB4.mono hB03.size)
 have He0 := Lib.hid (gbox hd0 hB4 (some_lt hd0))
 have hee := gbox hde hB4 (some_lt hde)
 have He1 := Lib.hid (gbox hd1 hB4 (some_lt hd1))
 have hq3 := hB03.size
 obtain ⟨W4, hW4⟩ : ∃ W4, W4 = W3.alloc (.cells #[.int .i64 x0.ent, .int .i64 x0.meth, .int .i64 x0.since, .bool x0.sg1, .slice x0.sA1 x0.sn1 x0.sc1, .bool x0.sg2, .slice x0.sA2 x0.sn2 x0.sc2, .bool x0.fg1, .slice x0.fA1 x0.fn1 x0.fc1, .bool x0.fg2, .slice x0.fA2 x0.fn2 x0.fc2, .slice x0.iA x0.im x0.ic, .slice x0.hA x0.hm x0.hc] 94) := ⟨_, rfl⟩
 rw [<- hW4] at hB4 hb4 hz4 hB04 He0 hee He1
 have HW4 := Lib.hid hW4
 have Hb4 := Lib.hid hb4
 have s4 : W3.heap.size < W4.heap.size := by omega
 have s40 : w.heap.size < W4.heap.size := some_lt He0.out
 have s4e : w.heap.size + 1 < W4.heap.size := some_lt hee
 have s4' : w.heap.size + 2 < W4.heap.size := some_lt He1.out
 have hload := Hfin.out W4 He1.out
 have hBF := Lib.hid (below_setRow hB04 (show w.heap.size <= w.heap.size + 2 by omega) #[.int .i64 0, .int .i64 0, .int .i64 0])
 have HB34 := Lib.hid (hB3.trans (hB4.mono hB3.size))
 have m1 := cell_of_row _ _ 1 _ _ _ hb4
 have e4 := cell_of_row _ _ 0 _ _ _ hee
 simp at m1 e4
 have Hee := Lib.hid hee
 obtain ⟨mt, hmt⟩ : ∃ mt, mt = x0.meth := ⟨_, rfl⟩
 rw [<- hmt] at m1
 have Hmt := Lib.hid hmt
 have HF2 : Hid (((ok = false ∨ x = 0 ∨ (mt ≠ 3 /\ mt ≠ 2)) /\ Gr.elim m x = none) ∨ ∃ y, ok = true /\ x ≠ 0 /\ (mt = 3 ∨ mt = 2) /\ Gr.elim m x = some y /\ x0.Holds SD W2 W2.heap.size y) := by
  show _ ∨ _
  have := HF.out
  rw [<- hx0, <- hok, <- hmt] at this
  exact this
 clear hx0 hok hd0 hde hd1 hb4 hz4 hW4 x20 e0 hee hmt
 go_upto_region 6 with (fail)
 rw [<- HW4.out]
 have HVN : Hid (Gr.elim m x = none -> Gr.step g m x = ((0, 0, 0), 0)) := by
  show _ -> _
  intro h2
  rw [Gr.step, if_neg (by rw [Hck.out]; simp), h2]
 cases ok with
 | false =>
  have HV : Hid (Gr.step g m x = ((0, 0, 0), 0)) := Lib.hid (HVN.out (by rcases HF2.out with ⟨_, h⟩ | ⟨y, h, _⟩; exact h; cases h))
  go_upto_region 7 with (fail)
  go_wp2_with (refine wpList_store_row rfl 70 (.tmp 6) (.tmp 52) none rfl rfl (w.heap.size + 2) 70 _ #[.int .i64 0, .int .i64 0, .int .i64 0] rfl rfl He1.out rfl figd40Size Ho.out ?_)
  exact bodyPost_ret (v := .tuple #[.agg #[.int .i64 0, .int .i64 0, .int .i64 0], .int .i64 0]) (by simp [results, Tryz.results28, asAddr, Act.put, hload.out]) rfl ⟨0, 0, 0, 0, HV.out, rfl, hBF.out⟩
 | true =>
 by_cases hx : x = 0
 case pos =>
  have hxb : (x == 0) = true := by simp [hx]
  have HV : Hid (Gr.step g m x = ((0, 0, 0), 0)) := Lib.hid (HVN.out (by rcases HF2.out with ⟨_, h⟩ | ⟨y, _, h, _⟩; exact h; exact absurd hx h))
  clear hx
  go_upto_region 7 with (fail)
  go_wp2_with (refine wpList_store_row rfl 70 (.tmp 6) (.tmp 52) none rfl rfl (w.heap.size + 2) 70 _ #[.int .i64 0, .int .i64 0, .int .i64 0] rfl rfl He1.out rfl figd40Size Ho.out ?_)
  exact bodyPost_ret (v := .tuple #[.agg #[.int .i64 0, .int .i64 0, .int .i64 0], .int .i64 0]) (by simp [results, Tryz.results28, asAddr, Act.put, hload.out]) rfl ⟨0, 0, 0, 0, HV.out, rfl, hBF.out⟩
 have hxb : (x == 0) = false := by simp [hx]
 have Hx := Lib.hid hx
 clear hx
 refine (Classical.em (mt = 3)).elim (fun h3 => ?_) (fun h3 => ?_)
 rotate_left
 refine (Classical.em (mt = 2)).elim (fun h2 => ?_) (fun h2 => ?_)
 rotate_left
 ·have h3b : (mt != 3) = true := by simp [h3]
  have h2b : (mt != 2) = true := by simp [h2]
  have HV : Hid (Gr.step g m x = ((0, 0, 0), 0)) := Lib.hid (HVN.out (by rcases HF2.out with ⟨_, h⟩ | ⟨y, _, _, h, _⟩; exact h; rcases h with h | h; exact absurd h h3; exact absurd h h2))
  clear h3 h2
  go_upto_region 7 with (fail)
  go_wp2_with (refine wpList_store_row rfl 70 (.tmp 6) (.tmp 52) none rfl rfl (w.heap.size + 2) 70 _ #[.int .i64 0, .int .i64 0, .int .i64 0] rfl rfl He1.out rfl figd40Size Ho.out ?_)
  exact bodyPost_ret (v := .tuple #[.agg #[.int .i64 0, .int .i64 0, .int .i64 0], .int .i64 0]) (by simp [results, Tryz.results28, asAddr, Act.put, hload.out]) rfl ⟨0, 0, 0, 0, HV.out, rfl, hBF.out⟩
 focus
  have h3b : (mt != 3) = false := by simp [h3]
  have h2c : (mt == 2) = false := by simp [h3]
  have H3 : Hid (mt = 3 ↔ True) := by show _ ↔ _; simp [h3]
  have HM32 : Hid (mt = 3 ∨ mt = 2) := Lib.hid (.inl h3)
  clear h3
 rotate_left
 focus
  have h3b : (mt != 3) = true := by simp [h3]
  have h2b : (mt != 2) = false := by simp [h2]
  have h2c : (mt == 2) = true := by simp [h2]
  have H3 : Hid (mt = 3 ↔ False) := by show _ ↔ _; simp [h3]
  have HM32 : Hid (mt = 3 ∨ mt = 2) := Lib.hid (.inr h2)
  clear h3 h2
 rotate_left
 all_goals (
  go_upto_region 8 with (fail)
  obtain ⟨y, hel, hyh⟩ : ∃ y, Gr.elim m x = some y /\ x0.Holds SD W4 W4.heap.size y := by
   rcases HF2.out with ⟨h1, _⟩ | ⟨y, _, _, _, h2, h3⟩
   ·rcases h1 with h | h | ⟨h, h'⟩
    ·cases h
    ·exact absurd h Hx.out
    ·rcases HM32.out with e | e
     ·exact absurd e h
     ·exact absurd e h'
   ·exact ⟨y, h2, h3.atD HB34.out⟩
  have HEL := Lib.hid hel
  have HY := Lib.hid hyh
  have Hme : Hid (mt = y.meth) := Lib.hid (Hmt.out.trans hyh.hm)
  have hsi := hyh.hs
  obtain ⟨acq, hacq⟩ : ∃ acq, acq = Gr.sumIf (fun z => decide (z.acct = g.r7)) y.its := ⟨_, rfl⟩
  have HQ := Lib.hid hacq
  have hqb := Gr.sumIf_bd (fun z => decide (z.acct = g.r7)) y.its hyh.hix
  rw [<- hacq] at hqb
  have hlen := hyh.hil
  have hin := hyh.hin
  obtain ⟨q0, q1⟩ : -100000000000000 <= acq /\ acq <= 100000000000000 := by omega
  obtain ⟨si, hsi2⟩ : ∃ si, si = x0.since := ⟨_, rfl⟩
  have HSi := Lib.hid hsi2
  have HSy : Hid (si = y.since) := Lib.hid (hsi2.trans hsi)
  have HA4 := Lib.hid (RowsAt.at_ HA2.out HB34.out)
  have HM4 := Lib.hid (HM2.out.imp (Q := fun a b => a.Holds SD W4 W4.heap.size b) fun _ _ h => h.atD HB34.out)
  obtain ⟨later, hlater⟩ : ∃ later, later = Gr.invest g x si true m := ⟨_, rfl⟩
  have HLt := Lib.hid hlater
  have hstep : Hid (∀ p q, p = (if y.meth = 3 then R1.rd acq y.fN y.fD else 0) -> q = (if y.meth = 3 then R1.rd acq y.sN y.sD else 0) -> Gr.step g m x = ((later, p, q), 0)) := Lib.hid fun p q hp hq => by
   rw [Gr.step, if_neg (by rw [Hck.out]; simp), HEL.out]
   simp only []
   have e : Gr.sumOf (fun a => decide (a = g.r7)) y.its = acq := (Gr.sumIf_on g.r7 y.its).symm.trans HQ.out.symm
   rw [e, HLt.out, HSy.out, hp, hq]
   split <;> rfl
  obtain ⟨W5, hW5, hB5, hb5, hz5⟩ := nw1 W4 #[.func (.func 64) #[] #[.pointer (some ⟨w.heap.size, 0, none⟩), .pointer (some ⟨w.heap.size + 1, 0, none⟩), .pointer (some ⟨W3.heap.size, 0, none⟩)]] 108
  have HW5 := Lib.hid hW5
  obtain ⟨hB6, hb6, hz6⟩ := row_new W5 #[.int .i64 0, .int .i64 0, .int .i64 0] 70
  have hl6 := gbox hb5 hB6 (some_lt hb5)
  obtain ⟨W6, hW6⟩ : ∃ W6, W6 = W5.alloc (.cells #[.int .i64 0, .int .i64 0, .int .i64 0] 70) := ⟨_, rfl⟩
  rw [<- hW6] at hB6 hb6 hz6 hl6
  have HW6 := Lib.hid hW6
  have hB46 := hB5.trans (hB6.mono hB5.size)
  have s6 : W5.heap.size < W6.heap.size := by omega
  have sl6 := some_lt hl6
  have hq45 := hB5.size
  have hq46 := hB46.size
  have l0 := cell_of_row _ _ 0 _ _ _ hl6
  simp at l0
  have hsum := stepsumc_any W6 A n c l m Hl.out hn (RowsAt.at_ HA4.out hB46) (HM4.out.imp (Q := fun a b => a.Holds SD W6 W6.heap.size b) fun _ _ h => h.atD hB46) g W4.heap.size w.heap.size (w.heap.size + 1) W3.heap.size x si sl6 l0 (by omega) (by omega) (by omega)
   ((hB46.cell (p := ⟨w.heap.size, 5, none⟩) s40).trans (grp_range He0.out 5 _ rfl)) ((hB46.cell (p := ⟨w.heap.size + 1, 0, none⟩) s4e).trans (range_row (cs := [.int .i64 x]) Hee.out 0 _ rfl)) ((hB46.cell (p := ⟨W3.heap.size, 2, none⟩) s4).trans (by rw [HSi.out]; exact range_row (cs := [.int .i64 x0.ent, .int .i64 x0.meth, .int .i64 x0.since, .bool x0.sg1, .slice x0.sA1 x0.sn1 x0.sc1, .bool x0.sg2, .slice x0.sA2 x0.sn2 x0.sc2, .bool x0.fg1, .slice x0.fA1 x0.fn1 x0.fc1, .bool x0.fg2, .slice x0.fA2 x0.fn2 x0.fc2, .slice x0.iA x0.im x0.ic, .slice x0.hA x0.hm x0.hc]) Hb4.out 2 _ rfl))
  rw [<- HLt.out] at hsum
  have Hsum := Lib.hid hsum
  have Hb6 := Lib.hid hb6
  have HB46 := Lib.hid hB46
  clear hel hyh hacq hqb hlen hin hsi hsi2 hlater hW5 hb5 hz5 hb6 hz6 hW6 hl6 l0 hsum hBF m1 e4
  have h1c : (.func (.func 64) #[] #[.pointer (some ⟨w.heap.size, 0, none⟩), .pointer (some ⟨w.heap.size + 1, 0, none⟩), .pointer (some ⟨W3.heap.size, 0, none⟩)] : Value).oneCell' = true := rfl
  go_upto_region 9 with (refine wpList_store_one rfl 108 _ _ rfl 108 _ (.func (.func 64) #[] #[.pointer (some ⟨w.heap.size, 0, none⟩), .pointer (some ⟨w.heap.size + 1, 0, none⟩), .pointer (some ⟨W3.heap.size, 0, none⟩)]) rfl rfl rfl h1c fnSize40 ?_)
  clear h1c
  rw [<- HW5.out]
  go_upto_region 10 with (fail)
  rw [<- HW6.out]
  go_wp2_with (fail)
  refine Hsum.out.mono ?_
  rintro e W7 ⟨rfl, hB7⟩
  have hrow7 := gbox Hb6.out hB7 s6
  have z0 := cell_of_row _ _ 0 _ _ _ hrow7
  have zf := fun j => frozen_of_row _ _ j _ _ hrow7
  have sp7 := some_lt hrow7
  simp at z0
  have hS7 := HB46.out.trans (hB7.mono HB46.out.size)
  have hrow8 := heap_setCell_same W7 W5.heap.size 0 _ _ (.int .i64 later) hrow7
  simp at hrow8
  have hS8 := hS7.setCell (p := ⟨W5.heap.size, 0, none⟩) hq45 (.int .i64 later)
  have Hrow8 := Lib.hid hrow8
  have HS8 := Lib.hid hS8
  clear hrow7 hrow8 hS7 hS8
  go_upto_region 11 with (fail)
  obtain ⟨W8, hW8⟩ : ∃ W8, W8 = W7.setCell ⟨W5.heap.size, 0, none⟩ (.int .i64 later) := ⟨_, rfl⟩
  have hrow8 := Hrow8.out
  have hS8 := HS8.out
  rw [<- hW8] at hrow8 hS8 ⊢
  clear hW8 Hrow8 HS8 z0 zf
  have hco8 := gbox Hb4.out hS8 s4
  have m1 := cell_of_row _ _ 1 _ _ _ hco8
  simp at m1
  rw [<- Hmt.out] at m1
  have sc8 := some_lt hco8
  have sp8 := some_lt hrow8
  have HF8 := Lib.hid (gbox He1.out hS8 s4')
  have hB08 := hB04.trans (hS8.mono hB04.size)
  have HR8 := Lib.hid hrow8)
 ·skip
  obtain ⟨u, hu⟩ : ∃ u, u = R1.rd acq y.fN y.fD := ⟨_, rfl⟩
  have HU := Lib.hid hu
  obtain ⟨v, hv⟩ : ∃ v, v = R1.rd acq y.sN y.sD := ⟨_, rfl⟩
  have HV := Lib.hid hv
  have HP : Hid (u = (if y.meth = 3 then R1.rd acq y.fN y.fD else 0)) := by show _ = _; rw [if_pos (by rw [<- Hme.out]; exact H3.out.2 True.intro)]; exact hu
  have HQ2 : Hid (v = (if y.meth = 3 then R1.rd acq y.sN y.sD else 0)) := by show _ = _; rw [if_pos (by rw [<- Hme.out]; exact H3.out.2 True.intro)]; exact hv
  have x11 := cell_of_row _ _ 11 _ _ _ hco8
  simp at x11
  have hy8 := HY.out.belowD hS8 (Nat.le_refl _)
  have HY8 := Lib.hid (hy8.moreD hS8.size)
  have g12 : W8.cell? ⟨w.heap.size, 12, none⟩ = some (.int .i64 g.r7) := (hS8.cell (p := ⟨w.heap.size, 12, none⟩) s40).trans (grp_range He0.out 12 _ rfl)
  have hq8 := hS8.size
  have hs4 := stepsum4_any W8 x0.iA x0.im x0.ic y.its HY8.out.hil HY8.out.hin HY8.out.hix HY8.out.hiA w.heap.size g.r7 (by omega) g12
  rw [<- HQ.out] at hs4
  have Hs4 := Lib.hid hs4
  have HS8 := Lib.hid hS8
  have Hco8 := Lib.hid hco8
  clear hu hv hy8 g12 hs4 hrow8 hS8 hco8
  go_upto_region 13 with (fail)
  go_wp2_with (fail)
  refine Hs4.out.mono ?_
  rintro e W9 ⟨rfl, hB9⟩
  have hco9 := gbox Hco8.out hB9 sc8
  have sc9 := some_lt hco9
  have Hf9 : Hid (W9.rangeAt W3.heap.size 7 [.bool x0.fg1, .slice x0.fA1 x0.fn1 x0.fc1, .bool x0.fg2, .slice x0.fA2 x0.fn2 x0.fc2]) := Lib.hid (fun j v hj => by
   have hr := range_row (cs := [.int .i64 x0.ent, .int .i64 x0.meth, .int .i64 x0.since, .bool x0.sg1, .slice x0.sA1 x0.sn1 x0.sc1, .bool x0.sg2, .slice x0.sA2 x0.sn2 x0.sc2, .bool x0.fg1, .slice x0.fA1 x0.fn1 x0.fc1, .bool x0.fg2, .slice x0.fA2 x0.fn2 x0.fc2, .slice x0.iA x0.im x0.ic, .slice x0.hA x0.hm x0.hc]) hco9
   match j with
   | 0 => exact hr 7 _ (by simpa using hj)
   | 1 => exact hr 8 _ (by simpa using hj)
   | 2 => exact hr 9 _ (by simpa using hj)
   | 3 => exact hr 10 _ (by simpa using hj)
   | j + 4 => simp at hj)
  have hy9 := HY8.out.atD hB9
  have Ht9 := Lib.hid (times40_any W9 acq y.fN y.fD _ _ _ _ _ _ _ _ q0 q1 hy9.hfi hy9.hfo)
  rw [<- HU.out] at Ht9
  have Hco9 := Lib.hid hco9
  have HY9 := Lib.hid hy9
  clear hco9 hy9 m1 x11
  go_upto_region 14 with (fail)
  go_wp2_with (refine wpList_load_mid rfl 92 (.tmp 68) rfl W3.heap.size 7 rfl [.bool x0.fg1, .slice x0.fA1 x0.fn1 x0.fc1, .bool x0.fg2, .slice x0.fA2 x0.fn2 x0.fc2] _ Hf9.out Tryz.underlying92 rfl ratSize ?_)
  refine Ht9.out.mono ?_
  rintro e Wa ⟨rfl, hBa⟩
  have hcoa := gbox Hco9.out hBa sc9
  have Hsa : Hid (Wa.rangeAt W3.heap.size 3 [.bool x0.sg1, .slice x0.sA1 x0.sn1 x0.sc1, .bool x0.sg2, .slice x0.sA2 x0.sn2 x0.sc2]) := Lib.hid (fun j v hj => by
   have hr := range_row (cs := [.int .i64 x0.ent, .int .i64 x0.meth, .int .i64 x0.since, .bool x0.sg1, .slice x0.sA1 x0.sn1 x0.sc1, .bool x0.sg2, .slice x0.sA2 x0.sn2 x0.sc2, .bool x0.fg1, .slice x0.fA1 x0.fn1 x0.fc1, .bool x0.fg2, .slice x0.fA2 x0.fn2 x0.fc2, .slice x0.iA x0.im x0.ic, .slice x0.hA x0.hm x0.hc]) hcoa
   match j with
   | 0 => exact hr 3 _ (by simpa using hj)
   | 1 => exact hr 4 _ (by simpa using hj)
   | 2 => exact hr 5 _ (by simpa using hj)
   | 3 => exact hr 6 _ (by simpa using hj)
   | j + 4 => simp at hj)
  have hya := HY9.out.atD hBa
  have Hta := Lib.hid (times40_any Wa acq y.sN y.sD _ _ _ _ _ _ _ _ q0 q1 hya.hsh hya.hso)
  rw [<- HV.out] at Hta
  clear hcoa hya
  go_upto_region 15 with (fail)
  go_wp2_with (refine wpList_load_mid rfl 92 (.tmp 75) rfl W3.heap.size 3 rfl [.bool x0.sg1, .slice x0.sA1 x0.sn1 x0.sc1, .bool x0.sg2, .slice x0.sA2 x0.sn2 x0.sc2] _ Hsa.out Tryz.underlying92 rfl ratSize ?_)
  refine Hta.out.mono ?_
  rintro e Wb ⟨rfl, hBb⟩
  have hB8b := hB9.trans ((hBa.trans (hBb.mono hBa.size)).mono hB9.size)
  have hrowb := gbox HR8.out hB8b sp8
  have z1 := cell_of_row _ _ 1 _ _ _ hrowb
  have z2 := cell_of_row _ _ 2 _ _ _ hrowb
  have zf := fun j => frozen_of_row _ _ j _ _ hrowb
  have spb := some_lt hrowb
  simp at z1 z2
  have hSb := HS8.out.trans (hB8b.mono HS8.out.size)
  have hrowc := heap_setCell_same Wb W5.heap.size 1 _ _ (.int .i64 u) hrowb
  simp at hrowc
  have hSc := hSb.setCell (p := ⟨W5.heap.size, 1, none⟩) hq45 (.int .i64 u)
  have hrowd := heap_setCell_same (Wb.setCell ⟨W5.heap.size, 1, none⟩ (.int .i64 u)) W5.heap.size 2 _ _ (.int .i64 v) hrowc
  simp at hrowd
  have hSd := hSc.setCell (p := ⟨W5.heap.size, 2, none⟩) hq45 (.int .i64 v)
  have Hrowd := Lib.hid hrowd
  have HSd := Lib.hid hSd
  clear hrowb hrowc hrowd hSb hSc hSd
  go_upto_region 19 with (fail)
  obtain ⟨Wd, hWd⟩ : ∃ Wd, Wd = (Wb.setCell ⟨W5.heap.size, 1, none⟩ (.int .i64 u)).setCell ⟨W5.heap.size, 2, none⟩ (.int .i64 v) := ⟨_, rfl⟩
  have hrowd := Hrowd.out
  have hSd := HSd.out
  rw [<- hWd] at hrowd hSd ⊢
  clear hWd Hrowd HSd z1 z2 zf
  have HRd := Lib.hid hrowd
  have HFd := Lib.hid (gbox He1.out hSd s4')
  have HB0d := Lib.hid (hB04.trans (hSd.mono hB04.size))
  clear hrowd hSd
  have HRg := Lib.hid (range_row (cs := [.int .i64 later, .int .i64 u, .int .i64 v]) HRd.out)
  have Ho2 := Lib.hid (fig3One later u v)
  have hload2 := Lib.hid (run_loadVar_row (P := Tryz.prog) _ _ _ 70 _ _ _ (setRow_heap _ (w.heap.size + 2) _ #[.int .i64 later, .int .i64 u, .int .i64 v] _ _ HFd.out) Tryz.underlying70 rfl figd40Size)
  have hBF2 := Lib.hid (below_setRow HB0d.out (show w.heap.size <= w.heap.size + 2 by omega) #[.int .i64 later, .int .i64 u, .int .i64 v])
  go_wp2_with (first | (refine wpList_load_mid rfl 70 (.tmp 11) rfl W5.heap.size 0 rfl [.int .i64 later, .int .i64 u, .int .i64 v] _ HRg.out Tryz.underlying70 rfl figd40Size ?_) | (refine wpList_store_row rfl 70 (.tmp 6) (.tmp 91) none rfl rfl (w.heap.size + 2) 70 _ #[.int .i64 later, .int .i64 u, .int .i64 v] rfl rfl HFd.out rfl figd40Size Ho2.out ?_))
  exact bodyPost_ret (v := .tuple #[.agg #[.int .i64 later, .int .i64 u, .int .i64 v], .int .i64 0]) (by simp [results, Tryz.results28, asAddr, Act.put, hload2.out]) rfl ⟨later, u, v, 0, hstep.out u v HP.out HQ2.out, rfl, hBF2.out⟩
 ·skip
  have HP : Hid ((0 : Int) = (if y.meth = 3 then R1.rd acq y.fN y.fD else 0)) := by show _ = _; rw [if_neg (by rw [<- Hme.out]; exact fun e => H3.out.1 e)]
  have HQ2 : Hid ((0 : Int) = (if y.meth = 3 then R1.rd acq y.sN y.sD else 0)) := by show _ = _; rw [if_neg (by rw [<- Hme.out]; exact fun e => H3.out.1 e)]
  clear hrow8 hS8 hco8
  have HRg := Lib.hid (range_row (cs := [.int .i64 later, .int .i64 0, .int .i64 0]) HR8.out)
  have Ho2 := Lib.hid (fig3One later 0 0)
  have hload2 := Lib.hid (run_loadVar_row (P := Tryz.prog) _ _ _ 70 _ _ _ (setRow_heap _ (w.heap.size + 2) _ #[.int .i64 later, .int .i64 0, .int .i64 0] _ _ HF8.out) Tryz.underlying70 rfl figd40Size)
  have hBF2 := Lib.hid (below_setRow hB08 (show w.heap.size <= w.heap.size + 2 by omega) #[.int .i64 later, .int .i64 0, .int .i64 0])
  go_wp2_with (first | (refine wpList_load_mid rfl 70 (.tmp 11) rfl W5.heap.size 0 rfl [.int .i64 later, .int .i64 0, .int .i64 0] _ HRg.out Tryz.underlying70 rfl figd40Size ?_) | (refine wpList_store_row rfl 70 (.tmp 6) (.tmp 61) none rfl rfl (w.heap.size + 2) 70 _ #[.int .i64 later, .int .i64 0, .int .i64 0] rfl rfl HF8.out rfl figd40Size Ho2.out ?_))
  exact bodyPost_ret (v := .tuple #[.agg #[.int .i64 later, .int .i64 0, .int .i64 0], .int .i64 0]) (by simp [results, Tryz.results28, asAddr, Act.put, hload2.out]) rfl ⟨later, 0, 0, 0, hstep.out 0 0 HP.out HQ2.out, rfl, hBF2.out⟩
end
end Go.Proofs.YtccapfbblnnfjaaGreat
