/- My texts AsR. -/
import Derived.Test.YtcblobokjhhboaaGreatG33
set_option linter.unusedVariables false
set_option linter.unusedSimpArgs false
set_option maxRecDepth 100000
set_option maxHeartbeats 8000000
namespace Go.Proofs.YtcblobokjhhboaaGreat
open Go.RowKit
def AsPost (g : Grp) (m : List Cnt) (x : Int) (w : World) (e : Ending) (w' : World) : Prop :=
 ∃ a b c d er, Gr.assoc g m x = ((a, b, c, d), er) /\ e = .returned (.tuple #[.agg #[.int .i64 a, .int .i64 b, .int .i64 c, .int .i64 d], .int .i64 er]) /\ Below w.heap.size w w'
theorem figrSize : (Tryz.prog.info? 43).map (·.size) = some 4 := by kernel_rfl
section
variable (w : World)
theorem assocr_any (g : Grp) (A : Option Addr) (n c : Nat) (l : List Con) (m : List Cnt) (x : Int) (hl : l.length = n) (hn : n <= 1000) (hA : ConsAt w w.heap.size A l) (hm : Hold (fun a b => a.Holds SR w w.heap.size b) l m) (hg : g.At w w.heap.size) :
  Calls Tryz.prog 18 #[.agg #[.string g.cur, .int .i64 g.Y, .int .i64 g.M, .int .i64 g.N, .slice g.cA g.cn g.cc, .int .i64 g.r0, .int .i64 g.r1, .int .i64 g.r2, .int .i64 g.r3, .int .i64 g.r4, .int .i64 g.r5, .int .i64 g.r6, .int .i64 g.r7, .int .i64 g.r8, .int .i64 g.r9, .int .i64 g.r10, .int .i64 g.r11, .int .i64 g.r12, .int .i64 g.r13, .int .i64 g.r14, .slice g.eA g.en g.ec], .slice A n c, .int .i64 x] w (AsPost g m x w) := by
 obtain ⟨hB0, hb0, hb1, hz⟩ := row_new2 w #[.string g.cur, .int .i64 g.Y, .int .i64 g.M, .int .i64 g.N, .slice g.cA g.cn g.cc, .int .i64 g.r0, .int .i64 g.r1, .int .i64 g.r2, .int .i64 g.r3, .int .i64 g.r4, .int .i64 g.r5, .int .i64 g.r6, .int .i64 g.r7, .int .i64 g.r8, .int .i64 g.r9, .int .i64 g.r10, .int .i64 g.r11, .int .i64 g.r12, .int .i64 g.r13, .int .i64 g.r14, .slice g.eA g.en g.ec] #[.int .i64 0, .int .i64 0, .int .i64 0, .int .i64 0] 29 43
 obtain ⟨W1, hW1⟩ : ∃ W1, W1 = ((w.alloc (.cells #[.string g.cur, .int .i64 g.Y, .int .i64 g.M, .int .i64 g.N, .slice g.cA g.cn g.cc, .int .i64 g.r0, .int .i64 g.r1, .int .i64 g.r2, .int .i64 g.r3, .int .i64 g.r4, .int .i64 g.r5, .int .i64 g.r6, .int .i64 g.r7, .int .i64 g.r8, .int .i64 g.r9, .int .i64 g.r10, .int .i64 g.r11, .int .i64 g.r12, .int .i64 g.r13, .int .i64 g.r14, .slice g.eA g.en g.ec] 29)).alloc (.cells #[.int .i64 0, .int .i64 0, .int .i64 0, .int .i64 0] 43)) := ⟨_, rfl⟩
 rw [<- hW1] at hB0 hb0 hb1 hz
 have HW := Lib.hid hW1
 have Hb0 := Lib.hid hb0
 have Hb1 := Lib.hid hb1
 have hrg := Lib.hid (grp_range hb0)
 have s1 : w.heap.size < W1.heap.size := by omega
 have s1' : w.heap.size + 1 < W1.heap.size := by omega
 have hg1 := hg.at_ hB0
 have HA := Lib.hid (RowsAt.at_ hA hB0)
 have HM := Lib.hid (hm.imp (Q := fun a b => a.Holds SR W1 W1.heap.size b) fun _ _ h => h.atR hB0)
 have Hl := Lib.hid hl
 have Ho := Lib.hid (accOne 0 0 0 0)
 have hfin : ∀ (W : World) (h : W.heap[w.heap.size + 1]? = some (.cells #[.int .i64 0, .int .i64 0, .int .i64 0, .int .i64 0] 43 (0, 0))), Hid ((loadVar 43 ⟨w.heap.size + 1, 0, none⟩).run Tryz.prog (W.setRow (w.heap.size + 1) #[.int .i64 0, .int .i64 0, .int .i64 0, .int .i64 0]) = .ok (.agg #[.int .i64 0, .int .i64 0, .int .i64 0, .int .i64 0]) (W.setRow (w.heap.size + 1) #[.int .i64 0, .int .i64 0, .int .i64 0, .int .i64 0])) := fun W h =>
  Lib.hid (run_loadVar_row (P := Tryz.prog) _ _ _ 43 _ _ _ (setRow_heap W (w.heap.size + 1) _ #[.int .i64 0, .int .i64 0, .int .i64 0, .int .i64 0] _ _ h) Tryz.underlying43 rfl figrSize)
 have Hfin := Lib.hid hfin
 clear hW1 hz hb0 hb1 hg hA hm hl hfin
 go_enter Tryz.func18, Tryz.ntmps18
 go_upto_region 1 with (fail)
 rw [<- HW.out]
 go_wp2_with (refine wpList_load_mid rfl 29 (.tmp 3) rfl w.heap.size 0 rfl [.string g.cur, .int .i64 g.Y, .int .i64 g.M, .int .i64 g.N, .slice g.cA g.cn g.cc, .int .i64 g.r0, .int .i64 g.r1, .int .i64 g.r2, .int .i64 g.r3, .int .i64 g.r4, .int .i64 g.r5, .int .i64 g.r6, .int .i64 g.r7, .int .i64 g.r8, .int .i64 g.r9, .int .i64 g.r10, .int .i64 g.r11, .int .i64 g.r12, .int .i64 g.r13, .int .i64 g.r14, .slice g.eA g.en g.ec] _ hrg.out Tryz.underlying29 rfl grpSize ?_)
 refine (check_any W1 g x hg1).mono ?_
 rintro e W2 ⟨rfl, hB2⟩
 have hB02 := hB0.trans (hB2.mono hB0.size)
 have Hc0 := Lib.hid (gbox Hb0.out hB2 s1)
 have Hc1 := Lib.hid (gbox Hb1.out hB2 s1')
 have Hg2 := Lib.hid (hg1.at_ hB2)
 have HA2 := Lib.hid (RowsAt.at_ HA.out hB2)
 have HM2 := Lib.hid (HM.out.imp (Q := fun a b => a.Holds SR W2 W2.heap.size b) fun _ _ h => h.atR hB2)
 obtain ⟨er, her⟩ : ∃ er, er = Gr.check g x := ⟨_, rfl⟩
 rw [<- her]
 have Her := Lib.hid her
 clear her hg1
 by_cases he : er = 0
 case neg =>
  have heb : (er != 0) = true := by simp [he]
  have HV : Hid (Gr.assoc g m x = ((0, 0, 0, 0), er)) := by show _ = _; rw [Gr.assoc, if_pos (by rw [<- Her.out]; exact he), <- Her.out]
  have hload := Hfin.out W2 Hc1.out
  have hBF := Lib.hid (below_setRow hB02 (show w.heap.size <= w.heap.size + 1 by omega) #[.int .i64 0, .int .i64 0, .int .i64 0, .int .i64 0])
  clear he
  go_wp2_with (refine wpList_store_row rfl 43 (.tmp 6) (.tmp 21) none rfl rfl (w.heap.size + 1) 43 _ #[.int .i64 0, .int .i64 0, .int .i64 0, .int .i64 0] rfl rfl Hc1.out rfl figrSize Ho.out ?_)
  exact bodyPost_ret (v := .tuple #[.agg #[.int .i64 0, .int .i64 0, .int .i64 0, .int .i64 0], .int .i64 er]) (by simp [results, Tryz.results18, asAddr, Act.put, hload.out]) rfl ⟨0, 0, 0, 0, er, HV.out, rfl, hBF.out⟩
 subst he
 have hfnd := Cn.find_hold (P := fun a b => a.Holds SR W2 W2.heap.size b) (fun _ _ h => h.he) x HM2.out
 have HF := Lib.hid hfnd
 clear hfnd
 go_wp2_with (fail)
 refine (confr_any W2 A n c l x Hl.out (by omega) HA2.out).mono ?_
 rintro e W3 ⟨rfl, hB3⟩
 have hB03 := hB02.trans (hB3.mono hB02.size)
 obtain ⟨x0, hx0⟩ : ∃ x0, x0 = Cn.found l x := ⟨_, rfl⟩
 obtain ⟨ok, hok⟩ : ∃ ok, ok = Cn.has l x := ⟨_, rfl⟩
 rw [<- hx0, <- hok]
 have HX := Lib.hid hx0
 have HK := Lib.hid hok
 have hd0 := gbox Hc0.out hB3 (some_lt Hc0.out)
 have hd1 := gbox Hc1.out hB3 (some_lt Hc1.out)
 obtain ⟨hB4, hb4, hz4⟩ := row_new W3 #[.int .i64 x0.ent, .int .i64 x0.meth, .int .i64 x0.since, .bool x0.sg1, .slice x0.sA1 x0.sn1 x0.sc1, .bool x0.sg2, .slice x0.sA2 x0.sn2 x0.sc2, .bool x0.fg1, .slice x0.fA1 x0.fn1 x0.fc1, .bool x0.fg2, .slice x0.fA2 x0.fn2 x0.fc2, .slice x0.iA x0.im x0.ic, .slice x0.hA x0.hm x0.hc] 80
 have hB04 := hB03.trans (hB4.mono hB03.size)
 have He0 := Lib.hid (gbox hd0 hB4 (some_lt hd0))
 have He1 := Lib.hid (gbox hd1 hB4 (some_lt hd1))
 have hq3 := hB03.size
 obtain ⟨W4, hW4⟩ : ∃ W4, W4 = W3.alloc (.cells #[.int .i64 x0.ent, .int .i64 x0.meth, .int .i64 x0.since, .bool x0.sg1, .slice x0.sA1 x0.sn1 x0.sc1, .bool x0.sg2, .slice x0.sA2 x0.sn2 x0.sc2, .bool x0.fg1, .slice x0.fA1 x0.fn1 x0.fc1, .bool x0.fg2, .slice x0.fA2 x0.fn2 x0.fc2, .slice x0.iA x0.im x0.ic, .slice x0.hA x0.hm x0.hc] 80) := ⟨_, rfl⟩
 rw [<- hW4] at hB4 hb4 hz4 hB04 He0 He1
 have HW4 := Lib.hid hW4
 have Hb4 := Lib.hid hb4
 have x1 := cell_of_row _ _ 1 _ _ _ hb4
 simp at x1
 have s4 : W3.heap.size < W4.heap.size := by omega
 have s4' : w.heap.size + 1 < W4.heap.size := some_lt He1.out
 have hload := Hfin.out W4 He1.out
 have hBF := Lib.hid (below_setRow hB04 (show w.heap.size <= w.heap.size + 1 by omega) #[.int .i64 0, .int .i64 0, .int .i64 0, .int .i64 0])
 clear hx0 hok hd0 hd1 hb4 hz4 hW4
 go_upto_region 5 with (fail)
 rw [<- HW4.out]
 by_cases hko : ok = true
 case neg =>
  have hko' : ok = false := by simpa using hko
  have HV : Hid (Gr.assoc g m x = ((0, 0, 0, 0), 0)) := by
   show _ = _
   rw [Gr.assoc, if_neg (by rw [<- Her.out]; simp)]
   rcases HF.out with ⟨h1, h2⟩ | ⟨a, b, h1, h2, h3⟩
   ·rw [h2]
   ·have := HK.out; rw [hko', Cn.has, h1] at this; simp at this
  rw [hko']
  clear hko hko'
  go_wp2_with (refine wpList_store_row rfl 43 (.tmp 6) (.tmp 40) none rfl rfl (w.heap.size + 1) 43 _ #[.int .i64 0, .int .i64 0, .int .i64 0, .int .i64 0] rfl rfl He1.out rfl figrSize Ho.out ?_)
  exact bodyPost_ret (v := .tuple #[.agg #[.int .i64 0, .int .i64 0, .int .i64 0, .int .i64 0], .int .i64 0]) (by simp [results, Tryz.results18, asAddr, Act.put, hload.out]) rfl ⟨0, 0, 0, 0, 0, HV.out, rfl, hBF.out⟩
 subst hko
 obtain ⟨y, hyf, hyh⟩ : ∃ y, Cn.cfind m x = some y /\ x0.Holds SR W4 W4.heap.size y := by
  rcases HF.out with ⟨h1, h2⟩ | ⟨a, b, h1, h2, h3⟩
  ·have := HK.out; rw [Cn.has, h1] at this; simp at this
  ·refine ⟨b, h2, ?_⟩
   have e : x0 = a := by rw [HX.out, Cn.found, h1]; rfl
   rw [e]
   exact (h3.atR hB3).atR hB4
 have HYF := Lib.hid hyf
 have HY := Lib.hid hyh
 have hme := hyh.hm
 clear hyf hyh
 by_cases hx : x = 0
 case pos =>
  have HV : Hid (Gr.assoc g m x = ((0, 0, 0, 0), 0)) := by
   show _ = _
   rw [Gr.assoc, if_neg (by rw [<- Her.out]; simp), HYF.out]; simp [hx]
  have hxb : (x == 0) = true := by simp [hx]
  clear hx hme
  go_wp2_with (refine wpList_store_row rfl 43 (.tmp 6) (.tmp 40) none rfl rfl (w.heap.size + 1) 43 _ #[.int .i64 0, .int .i64 0, .int .i64 0, .int .i64 0] rfl rfl He1.out rfl figrSize Ho.out ?_)
  exact bodyPost_ret (v := .tuple #[.agg #[.int .i64 0, .int .i64 0, .int .i64 0, .int .i64 0], .int .i64 0]) (by simp [results, Tryz.results18, asAddr, Act.put, hload.out]) rfl ⟨0, 0, 0, 0, 0, HV.out, rfl, hBF.out⟩
 have hxb : (x == 0) = false := by simp [hx]
 by_cases hmt : x0.meth = 1
 case neg =>
  have HV : Hid (Gr.assoc g m x = ((0, 0, 0, 0), 0)) := by
   show _ = _
   rw [Gr.assoc, if_neg (by rw [<- Her.out]; simp), HYF.out]; simp [<- hme, hmt]
  have hmb : (x0.meth != 1) = true := by simp [hmt]
  clear hx hmt hme
  go_wp2_with (refine wpList_store_row rfl 43 (.tmp 6) (.tmp 40) none rfl rfl (w.heap.size + 1) 43 _ #[.int .i64 0, .int .i64 0, .int .i64 0, .int .i64 0] rfl rfl He1.out rfl figrSize Ho.out ?_)
  exact bodyPost_ret (v := .tuple #[.agg #[.int .i64 0, .int .i64 0, .int .i64 0, .int .i64 0], .int .i64 0]) (by simp [results, Tryz.results18, asAddr, Act.put, hload.out]) rfl ⟨0, 0, 0, 0, 0, HV.out, rfl, hBF.out⟩
 have hmb : (x0.meth != 1) = false := by simp [hmt]
 obtain ⟨r, hr⟩ : ∃ r, r = Gr.sumOf (Gr.isResult g) y.shs := ⟨_, rfl⟩
 obtain ⟨q, hq⟩ : ∃ q, q = Gr.sumOf (Gr.isEquity g) y.shs := ⟨_, rfl⟩
 have HR := Lib.hid hr
 have HQ := Lib.hid hq
 have hrb := Gr.sumOf_bd (Gr.isResult g) y.shs HY.out.hhx
 have hqb := Gr.sumOf_bd (Gr.isEquity g) y.shs HY.out.hhx
 rw [<- hr] at hrb
 rw [<- hq] at hqb
 have hlen := HY.out.hhl
 have hhn := HY.out.hhn
 obtain ⟨r0, r1⟩ : -100000000000000 <= r /\ r <= 100000000000000 := by omega
 obtain ⟨q0, q1⟩ : -100000000000000 <= q /\ q <= 100000000000000 := by omega
 obtain ⟨u, hu⟩ : ∃ u, u = R1.rd r y.sN y.sD := ⟨_, rfl⟩
 obtain ⟨v, hv⟩ : ∃ v, v = R1.rd q y.sN y.sD := ⟨_, rfl⟩
 have HU := Lib.hid hu
 have HV2 := Lib.hid hv
 have Hub := Lib.hid (rd_small HY.out.hso r0 r1)
 have Hvb := Lib.hid (rd_small HY.out.hso q0 q1)
 have HV : Hid (Gr.assoc g m x = ((r, q, u, v), 0)) := by
  show _ = _
  rw [Gr.assoc, if_neg (by rw [<- Her.out]; simp), HYF.out]
  simp only []
  rw [if_neg (by rw [<- hme]; simp [hx, hmt]), <- HR.out, <- HQ.out, <- HU.out, <- HV2.out]
 have hg4 := Lib.hid ((Hg2.out.at_ hB3).at_ hB4)
 have hgr4 := Lib.hid (grp_range He0.out)
 have hco4 := Lib.hid (range_row (cs := [.int .i64 x0.ent, .int .i64 x0.meth, .int .i64 x0.since, .bool x0.sg1, .slice x0.sA1 x0.sn1 x0.sc1, .bool x0.sg2, .slice x0.sA2 x0.sn2 x0.sc2, .bool x0.fg1, .slice x0.fA1 x0.fn1 x0.fc1, .bool x0.fg2, .slice x0.fA2 x0.fn2 x0.fc2, .slice x0.iA x0.im x0.ic, .slice x0.hA x0.hm x0.hc]) Hb4.out)
 have x12 := Lib.hid (show W4.cell? ⟨W3.heap.size, 12, none⟩ = some (.slice x0.hA x0.hm x0.hc) from hco4.out 12 _ rfl)
 have swx : w.heap.size < W4.heap.size := by omega
 have hS : Below W4.heap.size W4 W4.drew := below_drawn (Below.refl _ _) 1
 clear hr hq hrb hqb hlen hhn hu hv hx hmt hme
 go_upto_region 7 with (fail)
 refine wp_region_held (S := Below W4.heap.size W4) (by kernel_rfl) ?_
 change wpAnyH _ _ _ _ _ _ _ _ (World.drew _)
 obtain ⟨W0, hWd⟩ : ∃ W0, W0 = W4.drew := ⟨_, rfl⟩
 rw [<- hWd] at hS ⊢
 clear hWd
 refine wpAnyH_take (i := 0) (v := .agg #[.string g.cur, .int .i64 g.Y, .int .i64 g.M, .int .i64 g.N, .slice g.cA g.cn g.cc, .int .i64 g.r0, .int .i64 g.r1, .int .i64 g.r2, .int .i64 g.r3, .int .i64 g.r4, .int .i64 g.r5, .int .i64 g.r6, .int .i64 g.r7, .int .i64 g.r8, .int .i64 g.r9, .int .i64 g.r10, .int .i64 g.r11, .int .i64 g.r12, .int .i64 g.r13, .int .i64 g.r14, .slice g.eA g.en g.ec]) rfl (by kernel_rfl) (by kernel_rfl) (by kernel_rfl) (fun _ _ _ h => h) (yieldsIf_load_mid (by rfl) 29 _ rfl w.heap.size 0 rfl [.string g.cur, .int .i64 g.Y, .int .i64 g.M, .int .i64 g.N, .slice g.cA g.cn g.cc, .int .i64 g.r0, .int .i64 g.r1, .int .i64 g.r2, .int .i64 g.r3, .int .i64 g.r4, .int .i64 g.r5, .int .i64 g.r6, .int .i64 g.r7, .int .i64 g.r8, .int .i64 g.r9, .int .i64 g.r10, .int .i64 g.r11, .int .i64 g.r12, .int .i64 g.r13, .int .i64 g.r14, .slice g.eA g.en g.ec] _ (fun W' hS' => range_below hgr4.out hS' swx) Tryz.underlying29 rfl grpSize) hS ?_
 try simp only [Act.put, z]
 refine wpAnyH_take (i := 1) (v := .pointer (some ⟨W3.heap.size, 12, none⟩)) rfl (by kernel_rfl) (by kernel_rfl) (by kernel_rfl) (fun _ _ _ h => h) (.inl ⟨by rfl, fun W' hS' => by go_simp⟩) hS ?_
 try simp only [Act.put, z]
 refine wpAnyH_take (i := 2) (v := .slice x0.hA x0.hm x0.hc) rfl (by kernel_rfl) (by kernel_rfl) (by kernel_rfl) (fun _ _ _ h => h) (.inl ⟨by rfl, fun W' hS' => by have hc := (hS'.cell (p := ⟨W3.heap.size, 12, none⟩) s4).trans x12.out; go_simp⟩) hS ?_
 try simp only [Act.put, z]
 refine wpAnyH_take (i := 4) (v := .agg #[.string g.cur, .int .i64 g.Y, .int .i64 g.M, .int .i64 g.N, .slice g.cA g.cn g.cc, .int .i64 g.r0, .int .i64 g.r1, .int .i64 g.r2, .int .i64 g.r3, .int .i64 g.r4, .int .i64 g.r5, .int .i64 g.r6, .int .i64 g.r7, .int .i64 g.r8, .int .i64 g.r9, .int .i64 g.r10, .int .i64 g.r11, .int .i64 g.r12, .int .i64 g.r13, .int .i64 g.r14, .slice g.eA g.en g.ec]) rfl (by kernel_rfl) (by kernel_rfl) (by kernel_rfl) (fun _ _ _ h => h) (yieldsIf_load_mid (by rfl) 29 _ rfl w.heap.size 0 rfl [.string g.cur, .int .i64 g.Y, .int .i64 g.M, .int .i64 g.N, .slice g.cA g.cn g.cc, .int .i64 g.r0, .int .i64 g.r1, .int .i64 g.r2, .int .i64 g.r3, .int .i64 g.r4, .int .i64 g.r5, .int .i64 g.r6, .int .i64 g.r7, .int .i64 g.r8, .int .i64 g.r9, .int .i64 g.r10, .int .i64 g.r11, .int .i64 g.r12, .int .i64 g.r13, .int .i64 g.r14, .slice g.eA g.en g.ec] _ (fun W' hS' => range_below hgr4.out hS' swx) Tryz.underlying29 rfl grpSize) hS ?_
 try simp only [Act.put, z]
 refine wpAnyH_take (i := 5) (v := .pointer (some ⟨W3.heap.size, 12, none⟩)) rfl (by kernel_rfl) (by kernel_rfl) (by kernel_rfl) (fun _ _ _ h => h) (.inl ⟨by rfl, fun W' hS' => by go_simp⟩) hS ?_
 try simp only [Act.put, z]
 refine wpAnyH_take (i := 6) (v := .slice x0.hA x0.hm x0.hc) rfl (by kernel_rfl) (by kernel_rfl) (by kernel_rfl) (fun _ _ _ h => h) (.inl ⟨by rfl, fun W' hS' => by have hc := (hS'.cell (p := ⟨W3.heap.size, 12, none⟩) s4).trans x12.out; go_simp⟩) hS ?_
 try simp only [Act.put, z]
 refine wpAnyH_letters fun md' ops' Q' a' hlm hlo hlq hla => ?_
 have fin : ∀ (W' : World) (p : Nat), Below W4.heap.size W4 W' -> W'.heap[p]? = some (.cells #[.int .i64 0, .int .i64 0, .int .i64 0, .int .i64 0] 43 (0, 0)) -> W4.heap.size <= p -> wpAnyH Tryz.prog md' ops' Q' (Below W4.heap.size W4) 1 #[true, true, true, true, true, true, true, true, true, true, false] ((((a'.put (some 44) (.int .i64 r)).put (some 48) (.int .i64 q)).put (some 49) (.agg #[.int .i64 r, .int .i64 q, .int .i64 0, .int .i64 0])).put (some 11) (.pointer (some ⟨p, 0, none⟩))) W' := by
  intro W' p hS' hrow hp
  subst hlm hlo hlq hla
  try simp only [Act.put, z]
  refine wpAnyH_ready (rs := [10]) (by kernel_rfl) (by simp) (AllReadyH.cons rfl (fun K hK => ?_) AllReadyH.nil)
  rw [if_pos (by rfl)]
  refine wp_store_row 43 _ _ none rfl rfl p 43 _ #[.int .i64 r, .int .i64 q, .int .i64 0, .int .i64 0] rfl rfl hrow rfl figrSize (accOne _ _ _ _) ?_
  have hrow5 := setRow_heap W' p _ #[.int .i64 r, .int .i64 q, .int .i64 0, .int .i64 0] _ _ hrow
  have hS5 := below_setRow hS' hp #[.int .i64 r, .int .i64 q, .int .i64 0, .int .i64 0]
  refine hK.out _ _ hS5 (fun _ => ?_)
  clear hK K
  try simp only [Act.put, z]
  refine wpAnyH_done (by kernel_rfl) ?_ _
  try simp only [Act.put, z]
  obtain ⟨W5, hW5⟩ : ∃ W5, W5 = W'.setRow p #[.int .i64 r, .int .i64 q, .int .i64 0, .int .i64 0] := ⟨_, rfl⟩
  rw [<- hW5] at hrow5 hS5 ⊢
  clear hW5 hrow hS'
  have hy5 := HY.out.atR hS5
  have hsr5 : Hid (W5.rangeAt W3.heap.size 3 [.bool x0.sg1, .slice x0.sA1 x0.sn1 x0.sc1, .bool x0.sg2, .slice x0.sA2 x0.sn2 x0.sc2]) := Lib.hid (range_below (B := W3.heap.size) (fun j v hj => by
   match j with
   | 0 => exact hco4.out 3 _ (by simpa using hj)
   | 1 => exact hco4.out 4 _ (by simpa using hj)
   | 2 => exact hco4.out 5 _ (by simpa using hj)
   | 3 => exact hco4.out 6 _ (by simpa using hj)
   | j + 4 => simp at hj) hS5 s4)
  have hp5 := some_lt hrow5
  have y0 := cell_of_row _ _ 0 _ _ _ hrow5
  simp at y0
  have Hr5 := Lib.hid hrow5
  have hso := Lib.hid hy5.hso
  have hsh5 := Lib.hid hy5.hsh
  clear hrow5
  go_wp2_with (refine wpList_load_mid rfl 78 (.tmp 53) rfl W3.heap.size 3 rfl [.bool x0.sg1, .slice x0.sA1 x0.sn1 x0.sc1, .bool x0.sg2, .slice x0.sA2 x0.sn2 x0.sc2] _ hsr5.out Tryz.underlying78 rfl ratSize ?_)
  refine (R1.round_any W5 5 5 _ r y.sN y.sD (by omega) (by omega) hso.out.1 (by omega) (by omega) (by have := Hub.out; omega) (by have := Hub.out; omega) hsh5.out).mono ?_
  rw [<- HU.out]
  rintro e W6 ⟨rfl, hB6⟩
  have hS6 := hS5.trans (hB6.mono hS5.size)
  have hrow6 := gbox Hr5.out hB6 hp5
  have hy6 := HY.out.atR hS6
  have hsr6 : Hid (W6.rangeAt W3.heap.size 3 [.bool x0.sg1, .slice x0.sA1 x0.sn1 x0.sc1, .bool x0.sg2, .slice x0.sA2 x0.sn2 x0.sc2]) := Lib.hid (range_below hsr5.out hB6 (by have := hS5.size; omega))
  have hp6 := some_lt hrow6
  clear y0
  have y1 := cell_of_row _ _ 1 _ _ _ hrow6
  simp at y1
  have Hr6 := Lib.hid hrow6
  have hsh6 := Lib.hid hy6.hsh
  clear hrow6
  go_wp2_with (refine wpList_load_mid rfl 78 (.tmp 61) rfl W3.heap.size 3 rfl [.bool x0.sg1, .slice x0.sA1 x0.sn1 x0.sc1, .bool x0.sg2, .slice x0.sA2 x0.sn2 x0.sc2] _ hsr6.out Tryz.underlying78 rfl ratSize ?_)
  refine (R1.round_any W6 5 5 _ q y.sN y.sD (by omega) (by omega) hso.out.1 (by omega) (by omega) (by have := Hvb.out; omega) (by have := Hvb.out; omega) hsh6.out).mono ?_
  rw [<- HV2.out]
  rintro e W7 ⟨rfl, hB7⟩
  have hS7 := hS6.trans (hB7.mono hS6.size)
  have hrow7 := gbox Hr6.out hB7 hp6
  have hp7 := some_lt hrow7
  clear y1
  have z0 := cell_of_row _ _ 0 _ _ _ hrow7
  have z1 := cell_of_row _ _ 1 _ _ _ hrow7
  have z2 := cell_of_row _ _ 2 _ _ _ hrow7
  have z3 := cell_of_row _ _ 3 _ _ _ hrow7
  have zf := fun j => frozen_of_row _ _ j _ _ hrow7
  simp at z0 z1 z2 z3
  have hr8 := heap_setCell_same _ p 3 _ _ (.int .i64 v) (heap_setCell_same W7 p 2 _ _ (.int .i64 u) hrow7)
  simp at hr8
  have hF7 := gbox He1.out hS7 s4'
  have hF8 : ((W7.setCell ⟨p, 2, none⟩ (.int .i64 u)).setCell ⟨p, 3, none⟩ (.int .i64 v)).heap[w.heap.size + 1]? = some (.cells #[.int .i64 0, .int .i64 0, .int .i64 0, .int .i64 0] 43 (0, 0)) := by
   rw [heap_setCell_other _ _ _ _ (show w.heap.size + 1 ≠ p by omega), heap_setCell_other _ _ _ _ (show w.heap.size + 1 ≠ p by omega)]; exact hF7
  have hS8 := Lib.hid ((hS7.setCell (p := ⟨p, 2, none⟩) hp (.int .i64 u)).setCell (p := ⟨p, 3, none⟩) hp (.int .i64 v))
  have HR8 := Lib.hid (range_row (cs := [.int .i64 r, .int .i64 q, .int .i64 u, .int .i64 v]) hr8)
  have HF8 := Lib.hid hF8
  have Ho2 := Lib.hid (accOne r q u v)
  have hB08 := hB04.trans (hS8.out.mono hB04.size)
  have hload2 := Lib.hid (run_loadVar_row (P := Tryz.prog) _ _ _ 43 _ _ _ (setRow_heap _ (w.heap.size + 1) _ #[.int .i64 r, .int .i64 q, .int .i64 u, .int .i64 v] _ _ hF8) Tryz.underlying43 rfl figrSize)
  have hBF2 := Lib.hid (below_setRow hB08 (show w.heap.size <= w.heap.size + 1 by omega) #[.int .i64 r, .int .i64 q, .int .i64 u, .int .i64 v])
  clear hr8 hF7 hF8 hrow7
  go_wp2_with (first | (refine wpList_load_mid rfl 43 (.tmp 11) rfl p 0 rfl [.int .i64 r, .int .i64 q, .int .i64 u, .int .i64 v] _ HR8.out Tryz.underlying43 rfl figrSize ?_) | (refine wpList_store_row rfl 43 (.tmp 6) (.tmp 77) none rfl rfl (w.heap.size + 1) 43 _ #[.int .i64 r, .int .i64 q, .int .i64 u, .int .i64 v] rfl rfl HF8.out rfl figrSize Ho2.out ?_))
  exact bodyPost_ret (v := .tuple #[.agg #[.int .i64 r, .int .i64 q, .int .i64 u, .int .i64 v], .int .i64 0]) (by simp [results, Tryz.results18, asAddr, Act.put, hload2.out]) rfl ⟨r, q, u, v, 0, HV.out, rfl, hBF2.out⟩
 subst hlm hlo hlq hla
 have hzW0 := hS.size
 refine wpAnyH_ready (rs := [3, 9]) (by kernel_rfl) (by simp) (AllReadyH.cons rfl (fun K hK => ?_) (AllReadyH.cons rfl (fun K hK => ?_) AllReadyH.nil))
 ·skip
  go_simp
  refine (results_any W0 g x0.hA x0.hm x0.hc y.shs (HY.out.atR hS).hhl (by have := HY.out.hhn; omega) (HY.out.atR hS).hhx (HY.out.atR hS).hhA (hg4.out.at_ hS)).mono ?_
  rw [<- HR.out]
  rintro e V1 ⟨rfl, hB1⟩
  have hSV1 : Below W4.heap.size W4 V1 := hS.trans (hB1.mono hS.size)
  have hzV1 := hSV1.size
  refine hK.out _ _ hSV1 (fun _ => ?_)
  clear hK K
  try simp only [Act.put, z]
  refine wpAnyH_ready (rs := [7, 9]) (by kernel_rfl) (by simp) (AllReadyH.cons rfl (fun K hK => ?_) (AllReadyH.cons rfl (fun K hK => ?_) AllReadyH.nil))
  ·skip
   go_simp
   refine (equities_any V1 g x0.hA x0.hm x0.hc y.shs (HY.out.atR hSV1).hhl (by have := HY.out.hhn; omega) (HY.out.atR hSV1).hhx (HY.out.atR hSV1).hhA (hg4.out.at_ hSV1)).mono ?_
   rw [<- HQ.out]
   rintro e V2 ⟨rfl, hB2⟩
   have hSV2 : Below W4.heap.size W4 V2 := hSV1.trans (hB2.mono hSV1.size)
   have hzV2 := hSV2.size
   refine hK.out _ _ hSV2 (fun _ => ?_)
   clear hK K
   try simp only [Act.put, z]
   refine wpAnyH_take (i := 8) (v := .agg #[.int .i64 r, .int .i64 q, .int .i64 0, .int .i64 0]) rfl (by kernel_rfl) (by kernel_rfl) (by kernel_rfl) (fun _ _ _ h => h) (.inl ⟨by rfl, fun W' hS' => by go_simp⟩) hSV2 ?_
   try simp only [Act.put, z]
   refine wpAnyH_ready (rs := [9]) (by kernel_rfl) (by simp) (AllReadyH.cons rfl (fun K hK => ?_) AllReadyH.nil)
   ·skip
    obtain ⟨hB3, hrw, _⟩ := row_new V2 #[.int .i64 0, .int .i64 0, .int .i64 0, .int .i64 0] 43
    go_simp
    obtain ⟨V3, hWn⟩ : ∃ V3, V3 = V2.alloc (.cells #[.int .i64 0, .int .i64 0, .int .i64 0, .int .i64 0] 43) := ⟨_, rfl⟩
    rw [<- hWn] at hB3 hrw ⊢
    clear hWn
    have hSV3 : Below W4.heap.size W4 V3 := hSV2.trans (hB3.mono hSV2.size)
    have hzV3 := hSV3.size
    refine hK.out _ _ hSV3 (fun _ => ?_)
    clear hK K
    try simp only [Act.put, z]
    have hn := fin V3 V2.heap.size hSV3 hrw (by omega)
    try simp only [Act.put, z] at hn
    exact hn
  ·skip
   obtain ⟨hB2, hrw, _⟩ := row_new V1 #[.int .i64 0, .int .i64 0, .int .i64 0, .int .i64 0] 43
   go_simp
   obtain ⟨V2, hWn⟩ : ∃ V2, V2 = V1.alloc (.cells #[.int .i64 0, .int .i64 0, .int .i64 0, .int .i64 0] 43) := ⟨_, rfl⟩
   rw [<- hWn] at hB2 hrw ⊢
   clear hWn
   have hSV2 : Below W4.heap.size W4 V2 := hSV1.trans (hB2.mono hSV1.size)
   have hzV2 := hSV2.size
   refine hK.out _ _ hSV2 (fun _ => ?_)
   clear hK K
   try simp only [Act.put, z]
   refine wpAnyH_ready (rs := [7]) (by kernel_rfl) (by simp) (AllReadyH.cons rfl (fun K hK => ?_) AllReadyH.nil)
   ·skip
    go_simp
    refine (equities_any V2 g x0.hA x0.hm x0.hc y.shs (HY.out.atR hSV2).hhl (by have := HY.out.hhn; omega) (HY.out.atR hSV2).hhx (HY.out.atR hSV2).hhA (hg4.out.at_ hSV2)).mono ?_
    rw [<- HQ.out]
    rintro e V3 ⟨rfl, hB3⟩
    have hrw3 := gbox hrw hB3 (some_lt hrw)
    have hSV3 : Below W4.heap.size W4 V3 := hSV2.trans (hB3.mono hSV2.size)
    have hzV3 := hSV3.size
    refine hK.out _ _ hSV3 (fun _ => ?_)
    clear hK K
    try simp only [Act.put, z]
    refine wpAnyH_take (i := 8) (v := .agg #[.int .i64 r, .int .i64 q, .int .i64 0, .int .i64 0]) rfl (by kernel_rfl) (by kernel_rfl) (by kernel_rfl) (fun _ _ _ h => h) (.inl ⟨by rfl, fun W' hS' => by go_simp⟩) hSV3 ?_
    try simp only [Act.put, z]
    have hn := fin V3 V1.heap.size hSV3 hrw3 (by omega)
    try simp only [Act.put, z] at hn
    exact hn
 ·skip
  obtain ⟨hB1, hrw, _⟩ := row_new W0 #[.int .i64 0, .int .i64 0, .int .i64 0, .int .i64 0] 43
  go_simp
  obtain ⟨V1, hWn⟩ : ∃ V1, V1 = W0.alloc (.cells #[.int .i64 0, .int .i64 0, .int .i64 0, .int .i64 0] 43) := ⟨_, rfl⟩
  rw [<- hWn] at hB1 hrw ⊢
  clear hWn
  have hSV1 : Below W4.heap.size W4 V1 := hS.trans (hB1.mono hS.size)
  have hzV1 := hSV1.size
  refine hK.out _ _ hSV1 (fun _ => ?_)
  clear hK K
  try simp only [Act.put, z]
  refine wpAnyH_ready (rs := [3]) (by kernel_rfl) (by simp) (AllReadyH.cons rfl (fun K hK => ?_) AllReadyH.nil)
  ·skip
   go_simp
   refine (results_any V1 g x0.hA x0.hm x0.hc y.shs (HY.out.atR hSV1).hhl (by have := HY.out.hhn; omega) (HY.out.atR hSV1).hhx (HY.out.atR hSV1).hhA (hg4.out.at_ hSV1)).mono ?_
   rw [<- HR.out]
   rintro e V2 ⟨rfl, hB2⟩
   have hrw2 := gbox hrw hB2 (some_lt hrw)
   have hSV2 : Below W4.heap.size W4 V2 := hSV1.trans (hB2.mono hSV1.size)
   have hzV2 := hSV2.size
   refine hK.out _ _ hSV2 (fun _ => ?_)
   clear hK K
   try simp only [Act.put, z]
   refine wpAnyH_ready (rs := [7]) (by kernel_rfl) (by simp) (AllReadyH.cons rfl (fun K hK => ?_) AllReadyH.nil)
   ·skip
    go_simp
    refine (equities_any V2 g x0.hA x0.hm x0.hc y.shs (HY.out.atR hSV2).hhl (by have := HY.out.hhn; omega) (HY.out.atR hSV2).hhx (HY.out.atR hSV2).hhA (hg4.out.at_ hSV2)).mono ?_
    rw [<- HQ.out]
    rintro e V3 ⟨rfl, hB3⟩
    have hrw3 := gbox hrw2 hB3 (some_lt hrw2)
    have hSV3 : Below W4.heap.size W4 V3 := hSV2.trans (hB3.mono hSV2.size)
    have hzV3 := hSV3.size
    refine hK.out _ _ hSV3 (fun _ => ?_)
    clear hK K
    try simp only [Act.put, z]
    refine wpAnyH_take (i := 8) (v := .agg #[.int .i64 r, .int .i64 q, .int .i64 0, .int .i64 0]) rfl (by kernel_rfl) (by kernel_rfl) (by kernel_rfl) (fun _ _ _ h => h) (.inl ⟨by rfl, fun W' hS' => by go_simp⟩) hSV3 ?_
    try simp only [Act.put, z]
    have hn := fin V3 W0.heap.size hSV3 hrw3 (by omega)
    try simp only [Act.put, z] at hn
    exact hn
end
end Go.Proofs.YtcblobokjhhboaaGreat
