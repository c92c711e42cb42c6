/- My texts AsD3. -/
import Derived.Test.YtcblobokjhhboaaGreatH36
set_option linter.unusedVariables false
set_option linter.unusedSimpArgs false
set_option maxRecDepth 100000
set_option maxHeartbeats 8000000
namespace Go.Proofs.YtcblobokjhhboaaGreat
open Go.RowKit
section
variable (w : World)
theorem assocd_any (g : Grp) (A : Option Addr) (n c : Nat) (l : List Con) (m : List Cnt) (x : Int) (hl : l.length = n) (hn : n <= 1000) (hA : ConsAt w w.heap.size A l) (hm : Hold (fun a b => a.Holds SD w w.heap.size b) l m) (hg : g.At w w.heap.size) :
  Calls Tryz.prog 16 #[.agg #[.string g.cur, .int .i64 g.Y, .int .i64 g.M, .int .i64 g.N, .slice g.cA g.cn g.cc, .int .i64 g.r0, .int .i64 g.r1, .int .i64 g.r2, .int .i64 g.r3, .int .i64 g.r4, .int .i64 g.r5, .int .i64 g.r6, .int .i64 g.r7, .int .i64 g.r8, .int .i64 g.r9, .int .i64 g.r10, .int .i64 g.r11, .int .i64 g.r12, .int .i64 g.r13, .int .i64 g.r14, .slice g.eA g.en g.ec], .slice A n c, .int .i64 x] w (AsPost g m x w) := by
 obtain ⟨hB0, hb0, hb1, hz⟩ := row_new2 w #[.string g.cur, .int .i64 g.Y, .int .i64 g.M, .int .i64 g.N, .slice g.cA g.cn g.cc, .int .i64 g.r0, .int .i64 g.r1, .int .i64 g.r2, .int .i64 g.r3, .int .i64 g.r4, .int .i64 g.r5, .int .i64 g.r6, .int .i64 g.r7, .int .i64 g.r8, .int .i64 g.r9, .int .i64 g.r10, .int .i64 g.r11, .int .i64 g.r12, .int .i64 g.r13, .int .i64 g.r14, .slice g.eA g.en g.ec] #[.int .i64 0, .int .i64 0, .int .i64 0, .int .i64 0] 29 37
 obtain ⟨W1, hW1⟩ : ∃ W1, W1 = ((w.alloc (.cells #[.string g.cur, .int .i64 g.Y, .int .i64 g.M, .int .i64 g.N, .slice g.cA g.cn g.cc, .int .i64 g.r0, .int .i64 g.r1, .int .i64 g.r2, .int .i64 g.r3, .int .i64 g.r4, .int .i64 g.r5, .int .i64 g.r6, .int .i64 g.r7, .int .i64 g.r8, .int .i64 g.r9, .int .i64 g.r10, .int .i64 g.r11, .int .i64 g.r12, .int .i64 g.r13, .int .i64 g.r14, .slice g.eA g.en g.ec] 29)).alloc (.cells #[.int .i64 0, .int .i64 0, .int .i64 0, .int .i64 0] 37)) := ⟨_, rfl⟩
 rw [<- hW1] at hB0 hb0 hb1 hz
 have HW := Lib.hid hW1
 have Hb0 := Lib.hid hb0
 have Hb1 := Lib.hid hb1
 have hrg := Lib.hid (grp_range hb0)
 have s1 : w.heap.size < W1.heap.size := by omega
 have s1' : w.heap.size + 1 < W1.heap.size := by omega
 have hg1 := hg.at_ hB0
 have HA := Lib.hid (RowsAt.at_ hA hB0)
 have HM := Lib.hid (hm.imp (Q := fun a b => a.Holds SD W1 W1.heap.size b) fun _ _ h => h.atD hB0)
 have Hl := Lib.hid hl
 have Ho := Lib.hid (accOne 0 0 0 0)
 have hfin : ∀ (W : World) (h : W.heap[w.heap.size + 1]? = some (.cells #[.int .i64 0, .int .i64 0, .int .i64 0, .int .i64 0] 37 (0, 0))), Hid ((loadVar 37 ⟨w.heap.size + 1, 0, none⟩).run Tryz.prog (W.setRow (w.heap.size + 1) #[.int .i64 0, .int .i64 0, .int .i64 0, .int .i64 0]) = .ok (.agg #[.int .i64 0, .int .i64 0, .int .i64 0, .int .i64 0]) (W.setRow (w.heap.size + 1) #[.int .i64 0, .int .i64 0, .int .i64 0, .int .i64 0])) := fun W h =>
  Lib.hid (run_loadVar_row (P := Tryz.prog) _ _ _ 37 _ _ _ (setRow_heap W (w.heap.size + 1) _ #[.int .i64 0, .int .i64 0, .int .i64 0, .int .i64 0] _ _ h) Tryz.underlying37 rfl figdSize)
 have Hfin := Lib.hid hfin
 clear hW1 hz hb0 hb1 hg hA hm hl hfin
 go_enter Tryz.func16, Tryz.ntmps16
 go_upto_region 1 with (fail)
 rw [<- HW.out]
 go_wp2_with (refine wpList_load_mid rfl 29 (.tmp 3) rfl w.heap.size 0 rfl [.string g.cur, .int .i64 g.Y, .int .i64 g.M, .int .i64 g.N, .slice g.cA g.cn g.cc, .int .i64 g.r0, .int .i64 g.r1, .int .i64 g.r2, .int .i64 g.r3, .int .i64 g.r4, .int .i64 g.r5, .int .i64 g.r6, .int .i64 g.r7, .int .i64 g.r8, .int .i64 g.r9, .int .i64 g.r10, .int .i64 g.r11, .int .i64 g.r12, .int .i64 g.r13, .int .i64 g.r14, .slice g.eA g.en g.ec] _ hrg.out Tryz.underlying29 rfl grpSize ?_)
 refine (grpd_any W1 g hg1).mono ?_
 rintro e W2 ⟨rfl, hB2⟩
 have hB02 := hB0.trans (hB2.mono hB0.size)
 have hc0 := gbox Hb0.out hB2 s1
 have Hc0 := Lib.hid hc0
 have Hc1 := Lib.hid (gbox Hb1.out hB2 s1')
 have x20 := cell_of_row _ _ 20 _ _ _ hc0
 simp at x20
 have s2 : w.heap.size < W2.heap.size := some_lt hc0
 have Hg2 := Lib.hid (hg1.at_ hB2)
 have HA2 := Lib.hid (RowsAt.at_ HA.out hB2)
 have HM2 := Lib.hid (HM.out.imp (Q := fun a b => a.Holds SD W2 W2.heap.size b) fun _ _ h => h.atD hB2)
 have hBF := Lib.hid (below_setRow hB02 (show w.heap.size <= w.heap.size + 1 by omega) #[.int .i64 0, .int .i64 0, .int .i64 0, .int .i64 0])
 clear hc0 hg1
 by_cases hv : Gr.valid g = true
 case neg =>
  have hv' : Gr.valid g = false := by simpa using hv
  have hck : Gr.check g x = 1 := by rw [Gr.check, if_pos hv']
  have HV : Hid (Gr.assoc g m x = ((0, 0, 0, 0), 1)) := by show _ = _; rw [Gr.assoc, if_pos (by rw [hck]; simp), hck]
  rw [hv']
  clear hv hv' hck
  have hload := Hfin.out W2 Hc1.out
  go_wp2_with (refine wpList_store_row rfl 37 (.tmp 6) (.tmp 18) none rfl rfl (w.heap.size + 1) 37 _ #[.int .i64 0, .int .i64 0, .int .i64 0, .int .i64 0] rfl rfl Hc1.out rfl figdSize Ho.out ?_)
  exact bodyPost_ret (v := .tuple #[.agg #[.int .i64 0, .int .i64 0, .int .i64 0, .int .i64 0], .int .i64 1]) (by simp [results, Tryz.results16, asAddr, Act.put, hload.out]) rfl ⟨0, 0, 0, 0, 1, HV.out, rfl, hBF.out⟩
 have HVA := Lib.hid hv
 rw [hv]
 clear hv
 have hbad : (x < 0 ∨ (g.en : Int) <= x) -> Hid (Gr.assoc g m x = ((0, 0, 0, 0), 2)) := fun h => by
  have hck : Gr.check g x = 2 := by rw [Gr.check, if_neg (by rw [HVA.out]; simp), if_pos h]
  show _ = _; rw [Gr.assoc, if_pos (by rw [hck]; simp), hck]
 by_cases h2 : x < 0
 case pos =>
  have HV := hbad (.inl h2)
  clear hbad
  have hload := Hfin.out W2 Hc1.out
  go_wp2_with (refine wpList_store_row rfl 37 (.tmp 6) (.tmp 28) none rfl rfl (w.heap.size + 1) 37 _ #[.int .i64 0, .int .i64 0, .int .i64 0, .int .i64 0] rfl rfl Hc1.out rfl figdSize Ho.out ?_)
  exact bodyPost_ret (v := .tuple #[.agg #[.int .i64 0, .int .i64 0, .int .i64 0, .int .i64 0], .int .i64 2]) (by simp [results, Tryz.results16, asAddr, Act.put, hload.out]) rfl ⟨0, 0, 0, 0, 2, HV.out, rfl, hBF.out⟩
 by_cases h3 : (g.en : Int) <= x
 case pos =>
  have HV := hbad (.inr h3)
  clear hbad
  have hload := Hfin.out W2 Hc1.out
  go_wp2_with (refine wpList_store_row rfl 37 (.tmp 6) (.tmp 28) none rfl rfl (w.heap.size + 1) 37 _ #[.int .i64 0, .int .i64 0, .int .i64 0, .int .i64 0] rfl rfl Hc1.out rfl figdSize Ho.out ?_)
  exact bodyPost_ret (v := .tuple #[.agg #[.int .i64 0, .int .i64 0, .int .i64 0, .int .i64 0], .int .i64 2]) (by simp [results, Tryz.results16, asAddr, Act.put, hload.out]) rfl ⟨0, 0, 0, 0, 2, HV.out, rfl, hBF.out⟩
 have Hck : Hid (Gr.check g x = 0) := by show _ = _; rw [Gr.check, if_neg (by rw [HVA.out]; simp), if_neg (by omega)]
 have HF := Lib.hid (Cn.find_hold (P := fun a b => a.Holds SD W2 W2.heap.size b) (fun _ _ h => h.he) x HM2.out)
 clear hbad hBF
 go_wp2_with (fail)
 refine (confd_any W2 A n c l x Hl.out (by omega) HA2.out).mono ?_
 rintro e W3 ⟨rfl, hB3⟩
 have hB03 := hB02.trans (hB3.mono hB02.size)
 obtain ⟨x0, hx0⟩ : ∃ x0, x0 = Cn.found l x := ⟨_, rfl⟩
 obtain ⟨ok, hok⟩ : ∃ ok, ok = Cn.has l x := ⟨_, rfl⟩
 rw [<- hx0, <- hok]
 have HX := Lib.hid hx0
 have HK := Lib.hid hok
 have hd0 := gbox Hc0.out hB3 (some_lt Hc0.out)
 have hd1 := gbox Hc1.out hB3 (some_lt Hc1.out)
 obtain ⟨hB4, hb4, hz4⟩ := row_new W3 #[.int .i64 x0.ent, .int .i64 x0.meth, .int .i64 x0.since, .bool x0.sg1, .slice x0.sA1 x0.sn1 x0.sc1, .bool x0.sg2, .slice x0.sA2 x0.sn2 x0.sc2, .bool x0.fg1, .slice x0.fA1 x0.fn1 x0.fc1, .bool x0.fg2, .slice x0.fA2 x0.fn2 x0.fc2, .slice x0.iA x0.im x0.ic, .slice x0.hA x0.hm x0.hc] 101
 have hB04 := hB03.trans (hB4.mono hB03.size)
 have He0 := Lib.hid (gbox hd0 hB4 (some_lt hd0))
 have He1 := Lib.hid (gbox hd1 hB4 (some_lt hd1))
 have hq3 := hB03.size
 obtain ⟨W4, hW4⟩ : ∃ W4, W4 = W3.alloc (.cells #[.int .i64 x0.ent, .int .i64 x0.meth, .int .i64 x0.since, .bool x0.sg1, .slice x0.sA1 x0.sn1 x0.sc1, .bool x0.sg2, .slice x0.sA2 x0.sn2 x0.sc2, .bool x0.fg1, .slice x0.fA1 x0.fn1 x0.fc1, .bool x0.fg2, .slice x0.fA2 x0.fn2 x0.fc2, .slice x0.iA x0.im x0.ic, .slice x0.hA x0.hm x0.hc] 101) := ⟨_, rfl⟩
 rw [<- hW4] at hB4 hb4 hz4 hB04 He0 He1
 have HW4 := Lib.hid hW4
 have Hb4 := Lib.hid hb4
 have x1 := cell_of_row _ _ 1 _ _ _ hb4
 simp at x1
 have s4 : W3.heap.size < W4.heap.size := by omega
 have s4' : w.heap.size + 1 < W4.heap.size := some_lt He1.out
 have hBF := Lib.hid (below_setRow hB04 (show w.heap.size <= w.heap.size + 1 by omega) #[.int .i64 0, .int .i64 0, .int .i64 0, .int .i64 0])
 clear hx0 hok hd0 hd1 hb4 hz4 hW4 x20
 go_upto_region 6 with (fail)
 rw [<- HW4.out]
 by_cases hko : ok = true
 case neg =>
  have hko' : ok = false := by simpa using hko
  have HV : Hid (Gr.assoc g m x = ((0, 0, 0, 0), 0)) := by
   show _ = _
   rw [Gr.assoc, if_neg (by rw [Hck.out]; simp)]
   rcases HF.out with ⟨h1, h2⟩ | ⟨a, b, h1, h2, h3⟩
   ·rw [h2]
   ·have := HK.out; rw [hko', Cn.has, h1] at this; simp at this
  rw [hko']
  clear hko hko'
  have hload := Hfin.out W4 He1.out
  go_wp2_with (refine wpList_store_row rfl 37 (.tmp 6) (.tmp 46) none rfl rfl (w.heap.size + 1) 37 _ #[.int .i64 0, .int .i64 0, .int .i64 0, .int .i64 0] rfl rfl He1.out rfl figdSize Ho.out ?_)
  exact bodyPost_ret (v := .tuple #[.agg #[.int .i64 0, .int .i64 0, .int .i64 0, .int .i64 0], .int .i64 0]) (by simp [results, Tryz.results16, asAddr, Act.put, hload.out]) rfl ⟨0, 0, 0, 0, 0, HV.out, rfl, hBF.out⟩
 subst hko
 obtain ⟨y, hyf, hyh⟩ : ∃ y, Cn.cfind m x = some y /\ x0.Holds SD W4 W4.heap.size y := by
  rcases HF.out with ⟨h1, h2⟩ | ⟨a, b, h1, h2, h3⟩
  ·have := HK.out; rw [Cn.has, h1] at this; simp at this
  ·refine ⟨b, h2, ?_⟩
   have e : x0 = a := by rw [HX.out, Cn.found, h1]; rfl
   rw [e]
   exact (h3.atD hB3).atD hB4
 have HYF := Lib.hid hyf
 have HY := Lib.hid hyh
 have hme := hyh.hm
 clear hyf hyh
 by_cases hx : x = 0
 case pos =>
  have HV : Hid (Gr.assoc g m x = ((0, 0, 0, 0), 0)) := by
   show _ = _
   rw [Gr.assoc, if_neg (by rw [Hck.out]; simp), HYF.out]; simp [hx]
  have hxb : (x == 0) = true := by simp [hx]
  clear hx hme
  have hload := Hfin.out W4 He1.out
  go_wp2_with (refine wpList_store_row rfl 37 (.tmp 6) (.tmp 46) none rfl rfl (w.heap.size + 1) 37 _ #[.int .i64 0, .int .i64 0, .int .i64 0, .int .i64 0] rfl rfl He1.out rfl figdSize Ho.out ?_)
  exact bodyPost_ret (v := .tuple #[.agg #[.int .i64 0, .int .i64 0, .int .i64 0, .int .i64 0], .int .i64 0]) (by simp [results, Tryz.results16, asAddr, Act.put, hload.out]) rfl ⟨0, 0, 0, 0, 0, HV.out, rfl, hBF.out⟩
 have hxb : (x == 0) = false := by simp [hx]
 by_cases hmt : x0.meth = 1
 case neg =>
  have HV : Hid (Gr.assoc g m x = ((0, 0, 0, 0), 0)) := by
   show _ = _
   rw [Gr.assoc, if_neg (by rw [Hck.out]; simp), HYF.out]; simp [<- hme, hmt]
  have hmb : (x0.meth != 1) = true := by simp [hmt]
  clear hx hmt hme
  have hload := Hfin.out W4 He1.out
  go_wp2_with (refine wpList_store_row rfl 37 (.tmp 6) (.tmp 46) none rfl rfl (w.heap.size + 1) 37 _ #[.int .i64 0, .int .i64 0, .int .i64 0, .int .i64 0] rfl rfl He1.out rfl figdSize Ho.out ?_)
  exact bodyPost_ret (v := .tuple #[.agg #[.int .i64 0, .int .i64 0, .int .i64 0, .int .i64 0], .int .i64 0]) (by simp [results, Tryz.results16, asAddr, Act.put, hload.out]) rfl ⟨0, 0, 0, 0, 0, HV.out, rfl, hBF.out⟩
 have hmb : (x0.meth != 1) = false := by simp [hmt]
 have Has : Hid (Gr.assoc g m x = ((Gr.sumOf (Gr.isResult g) y.shs, Gr.sumOf (Gr.isEquity g) y.shs, R1.rd (Gr.sumOf (Gr.isResult g) y.shs) y.sN y.sD, R1.rd (Gr.sumOf (Gr.isEquity g) y.shs) y.sN y.sD), 0)) := by
  show _ = _
  rw [Gr.assoc, if_neg (by rw [Hck.out]; simp), HYF.out]
  simp only []
  rw [if_neg (by rw [<- hme]; simp [hx, hmt])]
 have Hg4 := Lib.hid ((Hg2.out.at_ hB3).at_ hB4)
 have hlen := Lib.hid HY.out.hhl
 have hhn := HY.out.hhn
 obtain ⟨hB5, hb5, hz5⟩ := row_new W4 #[.int .i64 0, .int .i64 0, .int .i64 0, .int .i64 0] 37
 obtain ⟨W5, hW5⟩ : ∃ W5, W5 = W4.alloc (.cells #[.int .i64 0, .int .i64 0, .int .i64 0, .int .i64 0] 37) := ⟨_, rfl⟩
 rw [<- hW5] at hB5 hb5 hz5
 have HW5 := Lib.hid hW5
 have Hb5 := Lib.hid hb5
 have hco5 := gbox Hb4.out hB5 s4
 have x12 := cell_of_row _ _ 12 _ _ _ hco5
 simp at x12
 have s5 : W3.heap.size < W5.heap.size := by omega
 clear hx hmt hme hW5 hb5 hco5 hBF
 go_upto_region 9 with (fail)
 rw [<- HW5.out]
 go_wp2
 clear x12 x1
 go_loopw [50] (fun i wr => ∃ k : Nat, k <= x0.hm /\ i = .int .i64 k /\ Below W4.heap.size W5 wr /\ wr.heap[W4.heap.size]? = some (.cells #[.int .i64 (Gr.sumOf (Gr.isResult g) (y.shs.take k)), .int .i64 (Gr.sumOf (Gr.isEquity g) (y.shs.take k)), .int .i64 0, .int .i64 0] 37 (0, 0))) (fun i _ => x0.hm - (intOf i).toNat)
 case atStart => exact ⟨0, Nat.zero_le _, rfl, Below.refl _ _, Hb5.out⟩
 case round =>
  obtain ⟨k, hk, rfl, hbr, hrow⟩ := hrel
  have Hrow := Lib.hid hrow
  have hqr := hbr.size
  have hb4r : Below W4.heap.size W4 wr := hB5.trans hbr
  have hgr := Lib.hid (Hg4.out.below hb4r (Nat.le_refl _))
  have hyr := Lib.hid (HY.out.belowD hb4r (Nat.le_refl _))
  have heg := Lib.hid (grp_range (gbox He0.out hb4r (by omega)))
  have swg : w.heap.size < wr.heap.size := by omega
  have hpw := some_lt hrow
  clear hrow
  by_cases hlt : k < x0.hm
  ·have hkl : k < y.shs.length := by have := hlen.out; omega
   obtain ⟨b, o, hAe, hbB, hr⟩ := RowsAt.look hyr.out.hhA hkl
   rw [hAe]
   obtain ⟨z, hzz⟩ : ∃ z, z = y.shs[k] := ⟨_, rfl⟩
   rw [<- hzz] at hr
   have Hr := Lib.hid hr
   have Hzz := Lib.hid hzz
   have hzs : z.small := by rw [hzz]; exact HY.out.hhx _ (List.getElem_mem hkl)
   have Hzs := Lib.hid hzs
   have hbw : b < wr.heap.size := by omega
   obtain ⟨hB6, hb6, hz6⟩ := row_new wr #[.int .i64 z.ent0, .int .i64 z.lin, .int .i64 z.ent, .int .i64 z.acct, .int .i64 z.partner, .int .i64 z.date, .int .i64 z.amt] 90
   obtain ⟨W6, hW6⟩ : ∃ W6, W6 = wr.alloc (.cells #[.int .i64 z.ent0, .int .i64 z.lin, .int .i64 z.ent, .int .i64 z.acct, .int .i64 z.partner, .int .i64 z.date, .int .i64 z.amt] 90) := ⟨_, rfl⟩
   rw [<- hW6] at hB6 hb6 hz6
   have HW6 := Lib.hid hW6
   have heg6 := Lib.hid (range_below heg.out hB6 swg)
   have hbr6 : Below W4.heap.size W5 W6 := hbr.trans (hB6.mono (Nat.le_of_lt hpw))
   have hrow6 := Lib.hid (gbox Hrow.out hB6 hpw)
   have hg6 := Lib.hid (hgr.out.below hB6 (Nat.le_of_lt hpw))
   have hrz := Lib.hid (range_row (cs := [.int .i64 z.ent0, .int .i64 z.lin, .int .i64 z.ent, .int .i64 z.acct, .int .i64 z.partner, .int .i64 z.date, .int .i64 z.amt]) hb6)
   have s6 : wr.heap.size < W6.heap.size := by omega
   have HN1 : Hid (Gr.sumOf (Gr.isResult g) (y.shs.take (k + 1)) = Gr.sumOf (Gr.isResult g) (y.shs.take k) + (if Gr.isResult g z.acct = true then z.amt else 0)) := by show _ = _; rw [Gr.sumOf_take _ hkl, <- Hzz.out]
   have HN2 : Hid (Gr.sumOf (Gr.isEquity g) (y.shs.take (k + 1)) = Gr.sumOf (Gr.isEquity g) (y.shs.take k) + (if Gr.isEquity g z.acct = true then z.amt else 0)) := by show _ = _; rw [Gr.sumOf_take _ hkl, <- Hzz.out]
   obtain ⟨b1, b2⟩ := Gr.sumOf_take_small (P := Gr.isResult g) k hlen.out (by omega) HY.out.hhx
   obtain ⟨b3, b4⟩ := Gr.sumOf_take_small (P := Gr.isEquity g) k hlen.out (by omega) HY.out.hhx
   have hk0 : (0 : Int) <= (k : Int) := by omega
   have hkn : (k : Int) < x0.hm := by omega
   clear hr hzz hAe hzs hb6 hz6 hW6
   go_upto_region 12 with (refine wpList_load_mid rfl 90 (.tmp 52) rfl b (o + k * 7) rfl [.int .i64 z.ent0, .int .i64 z.lin, .int .i64 z.ent, .int .i64 z.acct, .int .i64 z.partner, .int .i64 z.date, .int .i64 z.amt] _ Hr.out Tryz.underlying90 rfl itmSize ?_)
   rw [<- HW6.out]
   go_wp2_with (first | (refine wpList_load_mid rfl 29 (.tmp 3) rfl w.heap.size 0 rfl [.string g.cur, .int .i64 g.Y, .int .i64 g.M, .int .i64 g.N, .slice g.cA g.cn g.cc, .int .i64 g.r0, .int .i64 g.r1, .int .i64 g.r2, .int .i64 g.r3, .int .i64 g.r4, .int .i64 g.r5, .int .i64 g.r6, .int .i64 g.r7, .int .i64 g.r8, .int .i64 g.r9, .int .i64 g.r10, .int .i64 g.r11, .int .i64 g.r12, .int .i64 g.r13, .int .i64 g.r14, .slice g.eA g.en g.ec] _ heg6.out Tryz.underlying29 rfl grpSize ?_) | (refine wpList_load_mid rfl 90 (.tmp 12) rfl wr.heap.size 0 rfl [.int .i64 z.ent0, .int .i64 z.lin, .int .i64 z.ent, .int .i64 z.acct, .int .i64 z.partner, .int .i64 z.date, .int .i64 z.amt] _ hrz.out Tryz.underlying90 rfl itmSize ?_))
   refine (addas_any W6 g z W4.heap.size _ _ b1 b2 b3 b4 Hzs.out hg6.out hrow6.out).mono ?_
   rintro e W7 ⟨rfl, hB7, hrow7⟩
   rw [<- HN1.out, <- HN2.out] at hrow7
   have Hrow7 := Lib.hid hrow7
   have hbr7 := Lib.hid (hbr6.trans hB7)
   clear hrow7
   go_wp2
   go_roundw
   case rel => exact ⟨k + 1, by omega, by go_num, hbr7.out, Hrow7.out⟩
   case measure => simp [intOf]; omega
  ·obtain rfl : k = x0.hm := by omega
   have hrow := Hrow.out
   have htk : y.shs.take x0.hm = y.shs := List.take_of_length_le (by have := hlen.out; omega)
   rw [htk] at hrow
   obtain ⟨r, hr⟩ : ∃ r, r = Gr.sumOf (Gr.isResult g) y.shs := ⟨_, rfl⟩
   obtain ⟨q, hq⟩ : ∃ q, q = Gr.sumOf (Gr.isEquity g) y.shs := ⟨_, rfl⟩
   have hrb := Gr.sumOf_bd (Gr.isResult g) y.shs HY.out.hhx
   have hqb := Gr.sumOf_bd (Gr.isEquity g) y.shs HY.out.hhx
   rw [<- hr] at hrb
   rw [<- hq] at hqb
   rw [<- hr, <- hq] at hrow
   have hl2 := hlen.out
   obtain ⟨r0, r1⟩ : -100000000000000 <= r /\ r <= 100000000000000 := by omega
   obtain ⟨q0, q1⟩ : -100000000000000 <= q /\ q <= 100000000000000 := by omega
   obtain ⟨u, hu⟩ : ∃ u, u = R1.rd r y.sN y.sD := ⟨_, rfl⟩
   obtain ⟨v, hv⟩ : ∃ v, v = R1.rd q y.sN y.sD := ⟨_, rfl⟩
   have HU := Lib.hid hu
   have HV2 := Lib.hid hv
   have HV : Hid (Gr.assoc g m x = ((r, q, u, v), 0)) := by show _ = _; rw [Has.out, <- hr, <- hq, <- hu, <- hv]
   obtain ⟨hB8, hb8, hz8⟩ := row_new wr #[.bool true] 4
   obtain ⟨W8, hW8⟩ : ∃ W8, W8 = wr.alloc (.cells #[.bool true] 4) := ⟨_, rfl⟩
   rw [<- hW8] at hB8 hb8 hz8
   have HW8 := Lib.hid hW8
   have hbr8 : Below W4.heap.size W4 W8 := hb4r.trans (hB8.mono (Nat.le_of_lt hpw))
   have hrow8 := gbox hrow hB8 hpw
   have hc8 := Lib.hid (gbox Hb4.out hbr8 s4)
   have hf8 := Lib.hid (gbox He1.out hbr8 s4')
   have hy8 := Lib.hid (HY.out.belowD hbr8 (Nat.le_refl _))
   have s8 : wr.heap.size < W8.heap.size := by omega
   have hne : W4.heap.size ≠ wr.heap.size := by omega
   clear hr hq hrb hqb hl2 hu hv Hrow hrow hW8 hz8
   have hS : (fun W => Below W4.heap.size W8 W /\ W.heap[wr.heap.size]? = some (.cells #[.bool true] 4 (0, 0)) /\ ∃ a b, W.heap[W4.heap.size]? = some (.cells #[.int .i64 r, .int .i64 q, .int .i64 a, .int .i64 b] 37 (0, 0))) W8.drew := ⟨below_drawn (Below.refl _ _) 1, hb8, 0, 0, hrow8⟩
   have hrow0 : W8.drew.heap[W4.heap.size]? = some (.cells #[.int .i64 r, .int .i64 q, .int .i64 0, .int .i64 0] 37 (0, 0)) := hrow8
   go_upto_region 16 with (fail)
   rw [<- HW8.out]
   refine wp_region_held (S := fun W => Below W4.heap.size W8 W /\ W.heap[wr.heap.size]? = some (.cells #[.bool true] 4 (0, 0)) /\ ∃ a b, W.heap[W4.heap.size]? = some (.cells #[.int .i64 r, .int .i64 q, .int .i64 a, .int .i64 b] 37 (0, 0))) (by kernel_rfl) ?_
   change wpAnyH _ _ _ _ _ _ _ _ (World.drew _)
   obtain ⟨W0, hWd⟩ : ∃ W0, W0 = W8.drew := ⟨_, rfl⟩
   rw [<- hWd] at hS hrow0 ⊢
   clear hWd hb8 hrow8
   refine wpAnyH_take (i := 0) (v := .func (.func 44) #[] #[.pointer (some ⟨W3.heap.size, 0, none⟩), .pointer (some ⟨wr.heap.size, 0, none⟩)]) rfl (by kernel_rfl) (by kernel_rfl) (by kernel_rfl) (fun _ _ _ h => h) (.inl ⟨by rfl, fun W' hS' => by go_simp⟩) hS ?_
   try simp only [Act.put, z]
   refine wpAnyH_take (i := 1) (v := .pointer (some ⟨W4.heap.size, 0, none⟩)) rfl (by kernel_rfl) (by kernel_rfl) (by kernel_rfl) (fun _ _ _ h => h) (.inl ⟨by rfl, fun W' hS' => by go_simp⟩) hS ?_
   try simp only [Act.put, z]
   refine wpAnyH_take (i := 2) (v := .int .i64 r) rfl (by kernel_rfl) (by kernel_rfl) (by kernel_rfl) (fun _ _ _ h => h) (.inl ⟨by rfl, fun W' hS' => by obtain ⟨_, _, a, b, h⟩ := hS'; have hc := cell_of_row _ _ 0 _ _ _ h; have hl := some_lt h; simp at hc; go_simp⟩) hS ?_
   try simp only [Act.put, z]
   refine wpAnyH_take (i := 4) (v := .func (.func 44) #[] #[.pointer (some ⟨W3.heap.size, 0, none⟩), .pointer (some ⟨wr.heap.size, 0, none⟩)]) rfl (by kernel_rfl) (by kernel_rfl) (by kernel_rfl) (fun _ _ _ h => h) (.inl ⟨by rfl, fun W' hS' => by go_simp⟩) hS ?_
   try simp only [Act.put, z]
   refine wpAnyH_take (i := 5) (v := .pointer (some ⟨W4.heap.size, 1, none⟩)) rfl (by kernel_rfl) (by kernel_rfl) (by kernel_rfl) (fun _ _ _ h => h) (.inl ⟨by rfl, fun W' hS' => by go_simp⟩) hS ?_
   try simp only [Act.put, z]
   refine wpAnyH_take (i := 6) (v := .int .i64 q) rfl (by kernel_rfl) (by kernel_rfl) (by kernel_rfl) (fun _ _ _ h => h) (.inl ⟨by rfl, fun W' hS' => by obtain ⟨_, _, a, b, h⟩ := hS'; have hc := cell_of_row _ _ 1 _ _ _ h; have hl := some_lt h; simp at hc; go_simp⟩) hS ?_
   try simp only [Act.put, z]
   refine wpAnyH_ready (rs := [3]) (by kernel_rfl) (by simp) (AllReadyH.cons rfl (fun K hK => ?_) AllReadyH.nil)
   go_simp
   refine (part41_any W0 r W3.heap.size wr.heap.size x0 y r0 r1 ((hy8.out.belowD hS.1 (Nat.le_refl _)).moreD (Nat.le_of_lt (some_lt hrow0))) (gbox hc8.out hS.1 s4) hS.2.1).mono ?_
   rw [<- HU.out]
   rintro e Wa ⟨rfl, hBWa⟩
   have hrowa := gbox hrow0 hBWa (some_lt hrow0)
   have hSa : (fun W => Below W4.heap.size W8 W /\ W.heap[wr.heap.size]? = some (.cells #[.bool true] 4 (0, 0)) /\ ∃ a b, W.heap[W4.heap.size]? = some (.cells #[.int .i64 r, .int .i64 q, .int .i64 a, .int .i64 b] 37 (0, 0))) Wa := ⟨hS.1.trans (hBWa.mono (Nat.le_of_lt (some_lt hrow0))), gbox hS.2.1 hBWa (some_lt hS.2.1), 0, 0, hrowa⟩
   refine hK.out _ _ hSa (fun _ => ?_)
   clear hK K
   try simp only [Act.put, z]
   refine wpAnyH_ready (rs := [7]) (by kernel_rfl) (by simp) (AllReadyH.cons rfl (fun K hK => ?_) AllReadyH.nil)
   go_simp
   refine (part41_any Wa q W3.heap.size wr.heap.size x0 y q0 q1 ((hy8.out.belowD hSa.1 (Nat.le_refl _)).moreD (Nat.le_of_lt (some_lt hrowa))) (gbox hc8.out hSa.1 s4) hSa.2.1).mono ?_
   rw [<- HV2.out]
   rintro e Wb ⟨rfl, hBWb⟩
   have hrowb := gbox hrowa hBWb (some_lt hrowa)
   have hSb : (fun W => Below W4.heap.size W8 W /\ W.heap[wr.heap.size]? = some (.cells #[.bool true] 4 (0, 0)) /\ ∃ a b, W.heap[W4.heap.size]? = some (.cells #[.int .i64 r, .int .i64 q, .int .i64 a, .int .i64 b] 37 (0, 0))) Wb := ⟨hSa.1.trans (hBWb.mono (Nat.le_of_lt (some_lt hrowa))), gbox hSa.2.1 hBWb (some_lt hSa.2.1), 0, 0, hrowb⟩
   refine hK.out _ _ hSb (fun _ => ?_)
   clear hK K
   try simp only [Act.put, z]
   refine wpAnyH_take (i := 8) (v := .pointer (some ⟨W4.heap.size, 2, none⟩)) rfl (by kernel_rfl) (by kernel_rfl) (by kernel_rfl) (fun _ _ _ h => h) (.inl ⟨by rfl, fun W' hS' => by go_simp⟩) hSb ?_
   try simp only [Act.put, z]
   refine wpAnyH_ready (rs := [9]) (by kernel_rfl) (by simp) (AllReadyH.cons rfl (fun K hK => ?_) AllReadyH.nil)
   have z2 := cell_of_row _ _ 2 _ _ _ hrowb
   have zf := fun j => frozen_of_row _ _ j _ _ hrowb
   have zl2 := some_lt hrowb
   simp at z2
   go_simp
   have hrowc := heap_setCell_same Wb W4.heap.size 2 _ _ (.int .i64 u) hrowb
   simp at hrowc
   have hSc : (fun W => Below W4.heap.size W8 W /\ W.heap[wr.heap.size]? = some (.cells #[.bool true] 4 (0, 0)) /\ ∃ a b, W.heap[W4.heap.size]? = some (.cells #[.int .i64 r, .int .i64 q, .int .i64 a, .int .i64 b] 37 (0, 0))) (Wb.setCell ⟨W4.heap.size, 2, none⟩ (.int .i64 u)) := ⟨hSb.1.setCell (p := ⟨W4.heap.size, 2, none⟩) (Nat.le_refl _) _, by rw [heap_setCell_other _ _ _ _ (show wr.heap.size ≠ W4.heap.size by omega)]; exact hSb.2.1, u, 0, hrowc⟩
   obtain ⟨Wc, hWc⟩ : ∃ Wc, Wc = Wb.setCell ⟨W4.heap.size, 2, none⟩ (.int .i64 u) := ⟨_, rfl⟩
   rw [<- hWc] at hrowc hSc ⊢
   clear hWc z2 zf
   refine hK.out _ _ hSc (fun _ => ?_)
   clear hK K
   try simp only [Act.put, z]
   refine wpAnyH_take (i := 10) (v := .pointer (some ⟨W4.heap.size, 3, none⟩)) rfl (by kernel_rfl) (by kernel_rfl) (by kernel_rfl) (fun _ _ _ h => h) (.inl ⟨by rfl, fun W' hS' => by go_simp⟩) hSc ?_
   try simp only [Act.put, z]
   refine wpAnyH_ready (rs := [11]) (by kernel_rfl) (by simp) (AllReadyH.cons rfl (fun K hK => ?_) AllReadyH.nil)
   have z3 := cell_of_row _ _ 3 _ _ _ hrowc
   have zf := fun j => frozen_of_row _ _ j _ _ hrowc
   have zl3 := some_lt hrowc
   simp at z3
   go_simp
   have hrowd := heap_setCell_same Wc W4.heap.size 3 _ _ (.int .i64 v) hrowc
   simp at hrowd
   have hSd : (fun W => Below W4.heap.size W8 W /\ W.heap[wr.heap.size]? = some (.cells #[.bool true] 4 (0, 0)) /\ ∃ a b, W.heap[W4.heap.size]? = some (.cells #[.int .i64 r, .int .i64 q, .int .i64 a, .int .i64 b] 37 (0, 0))) (Wc.setCell ⟨W4.heap.size, 3, none⟩ (.int .i64 v)) := ⟨hSc.1.setCell (p := ⟨W4.heap.size, 3, none⟩) (Nat.le_refl _) _, by rw [heap_setCell_other _ _ _ _ (show wr.heap.size ≠ W4.heap.size by omega)]; exact hSc.2.1, u, v, hrowd⟩
   obtain ⟨Wd, hWd⟩ : ∃ Wd, Wd = Wc.setCell ⟨W4.heap.size, 3, none⟩ (.int .i64 v) := ⟨_, rfl⟩
   rw [<- hWd] at hrowd hSd ⊢
   clear hWd z3 zf
   refine hK.out _ _ hSd (fun _ => ?_)
   clear hK K
   try simp only [Act.put, z]
   refine wpAnyH_done (by kernel_rfl) ?_ _
   try simp only [Act.put, z]
   have hSz := hSd.1
   have hBz := hbr8.trans hSz
   have zb := cell_of_row _ _ 0 _ _ _ hSd.2.1
   have sb := some_lt hSd.2.1
   have sp := some_lt hrowd
   simp at zb
   have HR8 := Lib.hid (range_row (cs := [.int .i64 r, .int .i64 q, .int .i64 u, .int .i64 v]) hrowd)
   have HF8 := Lib.hid (gbox hf8.out hSz s4')
   have Ho2 := Lib.hid (accOne r q u v)
   have hB08 := hB04.trans (hBz.mono hB04.size)
   have hload2 := Lib.hid (run_loadVar_row (P := Tryz.prog) _ _ _ 37 _ _ _ (setRow_heap _ (w.heap.size + 1) _ #[.int .i64 r, .int .i64 q, .int .i64 u, .int .i64 v] _ _ HF8.out) Tryz.underlying37 rfl figdSize)
   have hBF2 := Lib.hid (below_setRow hB08 (show w.heap.size <= w.heap.size + 1 by omega) #[.int .i64 r, .int .i64 q, .int .i64 u, .int .i64 v])
   clear hrowd hSd
   go_wp2_with (first | (refine wpList_load_mid rfl 37 (.tmp 10) rfl W4.heap.size 0 rfl [.int .i64 r, .int .i64 q, .int .i64 u, .int .i64 v] _ HR8.out Tryz.underlying37 rfl figdSize ?_) | (refine wpList_store_row rfl 37 (.tmp 6) (.tmp 72) none rfl rfl (w.heap.size + 1) 37 _ #[.int .i64 r, .int .i64 q, .int .i64 u, .int .i64 v] rfl rfl HF8.out rfl figdSize Ho2.out ?_))
   exact bodyPost_ret (v := .tuple #[.agg #[.int .i64 r, .int .i64 q, .int .i64 u, .int .i64 v], .int .i64 0]) (by simp [results, Tryz.results16, asAddr, Act.put, hload2.out]) rfl ⟨r, q, u, v, 0, HV.out, rfl, hBF2.out⟩
end
end Go.Proofs.YtcblobokjhhboaaGreat
