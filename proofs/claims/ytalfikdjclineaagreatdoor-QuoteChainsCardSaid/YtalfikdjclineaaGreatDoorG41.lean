/- My texts LawChains. -/
import Derived.Test.YtalfikdjclineaaGreatDoorG40
set_option linter.unusedVariables false
set_option linter.unusedSimpArgs false
set_option maxRecDepth 100000
set_option maxHeartbeats 8000000
namespace Go.Proofs.YtalfikdjclineaaGreatDoor
open Go.RowKit
section
variable (w : World)
theorem law_chains (g : Grp) (A : Option Addr) (n c : Nat) (rs : List Rt) (cu cv ct : ByteArray) (d : Int) (hl : rs.length = n) (hn : n <= maxLen) (hg : g.gc.size <= maxLen) (hcu : cu.size <= maxLen) (hcv : cv.size <= maxLen) (hct : ct.size <= maxLen) (hr : ∀ r ∈ rs, r.wf) (h : RatesAt w w.heap.size A rs) (hT : Tab w.heap.size w) :
    Calls Tryz.prog 4 #[.agg #[.string g.gc, .int .i64 g.Y, .int .i64 g.M, .int .i64 g.N, g.x0, g.x1, g.x2, g.x3, g.x4, g.x5, g.x6, g.x7, g.x8, g.x9, g.x10, g.x11, g.x12, g.x13, g.x14, g.x15, g.x16, .slice A n c], .agg #[.string cu, .string cv, .int .i64 d], .string ct] w fun e w' => e = .returned (.bool true) /\ Below w.heap.size w w' := by
  obtain ⟨w0, hw0⟩ : ∃ W, W = (w.alloc (.cells #[.string g.gc, .int .i64 g.Y, .int .i64 g.M, .int .i64 g.N, g.x0, g.x1, g.x2, g.x3, g.x4, g.x5, g.x6, g.x7, g.x8, g.x9, g.x10, g.x11, g.x12, g.x13, g.x14, g.x15, g.x16, .slice A n c] 32)).alloc (.cells #[.string cu, .string cv, .int .i64 d] 34) := ⟨_, rfl⟩
  have hB0 : Below w.heap.size w w0 := by rw [hw0]; exact ((Below.refl w.heap.size w).alloc (Nat.le_refl _) _).alloc (by simp) _
  have hG0 : w0.heap[w.heap.size]? = some (.cells #[.string g.gc, .int .i64 g.Y, .int .i64 g.M, .int .i64 g.N, g.x0, g.x1, g.x2, g.x3, g.x4, g.x5, g.x6, g.x7, g.x8, g.x9, g.x10, g.x11, g.x12, g.x13, g.x14, g.x15, g.x16, .slice A n c] 32) := by rw [hw0]; exact heap_alloc2_old w _ _
  have hP0 : w0.heap[w.heap.size + 1]? = some (.cells #[.string cu, .string cv, .int .i64 d] 34 (0, 0)) := by rw [hw0]; exact heap_alloc2_new w _ _
  have HW0 := Lib.hid hw0
  have HG0 := Lib.hid hG0
  have HP0 := Lib.hid hP0
  have HB0 := Lib.hid hB0
  have HT0 := Lib.hid hT
  have HR0 := Lib.hid (h.at_ hB0 (Nat.le_refl _))
  have hq0 : w.heap.size + 1 < w0.heap.size := (Array.getElem?_eq_some_iff.1 hP0).1
  have hcv' := hcv
  have hct' := hct
  unfold maxLen at hcv' hct'
  clear hw0 hG0 hP0 h hT hB0
  go_enter Tryz.func4, Tryz.ntmps4
  go_upto_region 1 with (fail)
  rw [<- HW0.out]
  go_wp2_with (fail)
  refine (awake_any w0).mono ?_
  rintro e w1 ⟨rfl, hB⟩
  have HB1 := Lib.hid (HB0.out.trans (hB.mono HB0.out.size))
  have hG1 := (hB.block _ (by omega)).trans HG0.out
  have HG1 := Lib.hid hG1
  have HP1 := Lib.hid ((hB.block _ hq0).trans HP0.out)
  have HR1 := Lib.hid (HR0.out.at_ hB (Nat.le_refl _))
  have hq1 := Nat.lt_of_lt_of_le hq0 hB.size
  have x0 := cell_of_row _ _ 0 _ _ _ HP1.out
  have x1 := cell_of_row _ _ 1 _ _ _ HP1.out
  simp at x0 x1
  clear hB
  go_wp2_with (refine wpList_load_row rfl 32 _ rfl _ rfl _ _ _ _ hG1 Tryz.underlying32 rfl bsize ?_)
  refine (lfew_any w1 _ _ _ _ rs _ hl hn hg hcu hr HR1.out).mono ?_
  cases hf : (fewB g rs && decide (cu.size <= 20)) with
  | false =>
    rintro e w2 ⟨rfl, hB2⟩
    clear hf
    go_wp2
    go_ret
    exact ⟨rfl, HB1.out.trans (hB2.mono HB1.out.size)⟩
  | true =>
  have h150 := fewB_iff g rs cu hf
  have h150' : n <= 1000 := by omega
  rintro e w2 ⟨rfl, hB2⟩
  have HC2 := Lib.hid (HB1.out.trans (hB2.mono HB1.out.size))
  have HG2 := Lib.hid ((hB2.block _ (by omega)).trans HG1.out)
  have HP2 := Lib.hid ((hB2.block _ hq1).trans HP1.out)
  have HR2 := Lib.hid (HR1.out.at_ hB2 (Nat.le_refl _))
  have hq2 := Nat.lt_of_lt_of_le hq1 hB2.size
  have y0 := cell_of_row _ _ 0 _ _ _ HP2.out
  have y1 := cell_of_row _ _ 1 _ _ _ HP2.out
  have y2 := cell_of_row _ _ 2 _ _ _ HP2.out
  simp at y0 y1 y2
  clear x0 x1 hB2 hf hG1 h150
  by_cases h20 : 20 < cv.size
  · go_wp2
    go_ret
    exact ⟨rfl, HC2.out⟩
  by_cases h21 : 20 < ct.size
  · go_wp2
    go_ret
    exact ⟨rfl, HC2.out⟩
  have hp2 := part_of (bsplit HG2.out)
  have hs2 := bslice HG2.out
  have hcv20 : cv.size <= 20 := by omega
  have hct20 : ct.size <= 20 := by omega
  obtain ⟨X, hX⟩ : ∃ X, X = Rates.whichR g.gc rs cu d := ⟨_, rfl⟩
  obtain ⟨V, hV⟩ : ∃ X, X = Rates.whichR g.gc rs cv d := ⟨_, rfl⟩
  obtain ⟨Z, hZ⟩ : ∃ X, X = Rates.whichR g.gc rs ct d := ⟨_, rfl⟩
  have HX := Lib.hid hX
  have HV := Lib.hid hV
  have HZ := Lib.hid hZ
  clear hX hV hZ
  obtain ⟨er1, her1⟩ : ∃ er, er = Rates.crossE g.gc rs cu cv d := ⟨_, rfl⟩
  obtain ⟨er2, her2⟩ : ∃ er, er = Rates.crossE g.gc rs cv ct d := ⟨_, rfl⟩
  have Her1 := Lib.hid her1
  have Her2 := Lib.hid her2
  clear her1 her2
  go_wp2_with (refine wpList_load_list rfl 29 _ rfl ⟨w.heap.size, 0, none⟩ rfl _ _ hp2 Tryz.underlying29 rfl gsize ?_)
  refine (dcross_any w2 g A n c rs cu cv d hl h150' hg hcu hcv hr HR2.out).mono ?_
  rw [<- HX.out, <- HV.out, <- Her1.out]
  rintro e u2 hcp
  obtain ⟨hU, p1, P1, s1, r1, q1, Q1, m1, t1, rfl, hrat⟩ := hcp.rat
  clear hcp
  obtain ⟨w3, hw⟩ : ∃ W, W = u2.alloc (.cells #[.bool p1, .slice P1 s1 r1, .bool q1, .slice Q1 m1 t1] 41) := ⟨_, rfl⟩
  have hA : Below u2.heap.size u2 w3 := by rw [hw]; exact (Below.refl _ _).alloc (Nat.le_refl _) _
  have hx : w3.heap[u2.heap.size]? = some (.cells #[.bool p1, .slice P1 s1 r1, .bool q1, .slice Q1 m1 t1] 41 (0, 0)) := by rw [hw]; exact heap_alloc_new u2 _
  have hUA := hU.trans (hA.mono hU.size)
  have HW3 := Lib.hid hw
  have HX1 := Lib.hid hx
  have HI1 := Lib.hid (fun h => (hrat h).at_ hA)
  have HU2 := Lib.hid hUA
  have HC3 := Lib.hid (HC2.out.trans (hUA.mono HC2.out.size))
  have hG := (hUA.block _ (by omega)).trans HG2.out
  have hP := (hUA.block _ hq2).trans HP2.out
  have HG3 := Lib.hid hG
  have HP3 := Lib.hid hP
  have HR3 := Lib.hid (HR2.out.at_ hUA (Nat.le_refl _))
  have hq3 := Nat.lt_of_lt_of_le hq2 hUA.size
  have hr1 : u2.heap.size < w3.heap.size := (Array.getElem?_eq_some_iff.1 hx).1
  have e30 := cell_of_row _ _ 0 _ _ _ hP
  have e31 := cell_of_row _ _ 1 _ _ _ hP
  have e32 := cell_of_row _ _ 2 _ _ _ hP
  simp at e30 e31 e32
  have hp3 := part_of (bsplit hG)
  have hs3 := bslice hG
  clear y0 y1 y2 hp2 hs2 hw hx hU hUA hA hP hG hrat
  go_upto_region 6 with (fail)
  rw [<- HW3.out]
  go_wp2_with (refine wpList_load_list rfl 29 _ rfl ⟨w.heap.size, 0, none⟩ rfl _ _ hp3 Tryz.underlying29 rfl gsize ?_)
  refine (dcross_any w3 g A n c rs cv ct d hl h150' hg hcv hct hr HR3.out).mono ?_
  rw [<- HV.out, <- HZ.out, <- Her2.out]
  rintro e u3 hcp
  obtain ⟨hU, p2, P2, s2, r2, q2, Q2, m2, t2, rfl, hrat⟩ := hcp.rat
  clear hcp
  obtain ⟨w4, hw⟩ : ∃ W, W = u3.alloc (.cells #[.bool p2, .slice P2 s2 r2, .bool q2, .slice Q2 m2 t2] 41) := ⟨_, rfl⟩
  have hA : Below u3.heap.size u3 w4 := by rw [hw]; exact (Below.refl _ _).alloc (Nat.le_refl _) _
  have hx : w4.heap[u3.heap.size]? = some (.cells #[.bool p2, .slice P2 s2 r2, .bool q2, .slice Q2 m2 t2] 41 (0, 0)) := by rw [hw]; exact heap_alloc_new u3 _
  have hUA := hU.trans (hA.mono hU.size)
  have HW4 := Lib.hid hw
  have HX2 := Lib.hid hx
  have HI2 := Lib.hid (fun h => (hrat h).at_ hA)
  have HU3 := Lib.hid hUA
  have HC4 := Lib.hid (HC3.out.trans (hUA.mono HC3.out.size))
  have hG := (hUA.block _ (by omega)).trans HG3.out
  have hP := (hUA.block _ hq3).trans HP3.out
  have HG4 := Lib.hid hG
  have HP4 := Lib.hid hP
  have HR4 := Lib.hid (HR3.out.at_ hUA (Nat.le_refl _))
  have hq4 := Nat.lt_of_lt_of_le hq3 hUA.size
  have hr2 : u3.heap.size < w4.heap.size := (Array.getElem?_eq_some_iff.1 hx).1
  have e40 := cell_of_row _ _ 0 _ _ _ hP
  have e41 := cell_of_row _ _ 1 _ _ _ hP
  have e42 := cell_of_row _ _ 2 _ _ _ hP
  simp at e40 e41 e42
  have hp4 := part_of (bsplit hG)
  have hs4 := bslice hG
  clear e30 e31 e32 hp3 hs3 hw hx hU hUA hA hP hG hrat
  go_upto_region 7 with (fail)
  rw [<- HW4.out]
  by_cases h1 : er1 = 0
  case neg =>
    go_wp2
    go_ret
    exact ⟨rfl, HC4.out⟩
  by_cases h2 : er2 = 0
  case neg =>
    go_wp2
    go_ret
    exact ⟨rfl, HC4.out⟩
  subst h1 h2
  replace HI1 := Lib.hid (HI1.out rfl)
  replace HI2 := Lib.hid (HI2.out rfl)
  have hch := Rates.crossE_chain Her1.out.symm Her2.out.symm
  have Z3 := Lib.hid hch.1
  have Z4 := Lib.hid hch.2.1
  have Z5 := Lib.hid hch.2.2
  have hpu : 0 < X.1.val := by have := Rates.whichR_val g.gc rs cu d (Rates.crossE_zero Her1.out.symm).2.1; rw [HX.out]; omega
  have hpv : 0 < V.1.val := by have := Rates.whichR_val g.gc rs cv d (Rates.crossE_zero Her1.out.symm).2.2; rw [HV.out]; omega
  have hpt : 0 < Z.1.val := by have := Rates.whichR_val g.gc rs ct d (Rates.crossE_zero Her2.out.symm).2.2; rw [HZ.out]; omega
  have HPU := Lib.hid hpu
  have HPV := Lib.hid hpv
  have HPT := Lib.hid hpt
  clear hch hpu hpv hpt
  go_wp2_with (refine wpList_load_list rfl 29 _ rfl ⟨w.heap.size, 0, none⟩ rfl _ _ hp4 Tryz.underlying29 rfl gsize ?_)
  refine (dcross_any w4 g A n c rs cu ct d hl h150' hg hcu hct hr HR4.out).mono ?_
  rw [<- HX.out, <- HZ.out, Z3.out]
  rintro e u4 hcp
  obtain ⟨hU, p3, P3, s3, r3, q3, Q3, m3, t3, rfl, hrat⟩ := hcp.rat
  clear hcp
  obtain ⟨w5, hw⟩ : ∃ W, W = u4.alloc (.cells #[.bool p3, .slice P3 s3 r3, .bool q3, .slice Q3 m3 t3] 41) := ⟨_, rfl⟩
  have hA : Below u4.heap.size u4 w5 := by rw [hw]; exact (Below.refl _ _).alloc (Nat.le_refl _) _
  have hx : w5.heap[u4.heap.size]? = some (.cells #[.bool p3, .slice P3 s3 r3, .bool q3, .slice Q3 m3 t3] 41 (0, 0)) := by rw [hw]; exact heap_alloc_new u4 _
  have hUA := hU.trans (hA.mono hU.size)
  have HW5 := Lib.hid hw
  have HX3 := Lib.hid hx
  have HI3 := Lib.hid ((hrat rfl).at_ hA)
  have HU4 := Lib.hid hUA
  have HC5 := Lib.hid (HC4.out.trans (hUA.mono HC4.out.size))
  have hG := (hUA.block _ (by omega)).trans HG4.out
  have hP := (hUA.block _ hq4).trans HP4.out
  have HG5 := Lib.hid hG
  have HP5 := Lib.hid hP
  have HR5 := Lib.hid (HR4.out.at_ hUA (Nat.le_refl _))
  have hq5 := Nat.lt_of_lt_of_le hq4 hUA.size
  have hr3 : u4.heap.size < w5.heap.size := (Array.getElem?_eq_some_iff.1 hx).1
  have e50 := cell_of_row _ _ 0 _ _ _ hP
  have e51 := cell_of_row _ _ 1 _ _ _ hP
  have e52 := cell_of_row _ _ 2 _ _ _ hP
  simp at e50 e51 e52
  have hp5 := part_of (bsplit hG)
  have hs5 := bslice hG
  clear e40 e41 e42 hp4 hs4 hw hx hU hUA hA hP hG hrat
  go_upto_region 10 with (fail)
  rw [<- HW5.out]
  go_wp2_with (refine wpList_load_list rfl 29 _ rfl ⟨w.heap.size, 0, none⟩ rfl _ _ hp5 Tryz.underlying29 rfl gsize ?_)
  refine (dcross_any w5 g A n c rs cv cu d hl h150' hg hcv hcu hr HR5.out).mono ?_
  rw [<- HV.out, <- HX.out, Z4.out]
  rintro e u5 hcp
  obtain ⟨hU, p4, P4, s4, r4, q4, Q4, m4, t4, rfl, hrat⟩ := hcp.rat
  clear hcp
  obtain ⟨w6, hw⟩ : ∃ W, W = u5.alloc (.cells #[.bool p4, .slice P4 s4 r4, .bool q4, .slice Q4 m4 t4] 41) := ⟨_, rfl⟩
  have hA : Below u5.heap.size u5 w6 := by rw [hw]; exact (Below.refl _ _).alloc (Nat.le_refl _) _
  have hx : w6.heap[u5.heap.size]? = some (.cells #[.bool p4, .slice P4 s4 r4, .bool q4, .slice Q4 m4 t4] 41 (0, 0)) := by rw [hw]; exact heap_alloc_new u5 _
  have hUA := hU.trans (hA.mono hU.size)
  have HW6 := Lib.hid hw
  have HX4 := Lib.hid hx
  have HI4 := Lib.hid ((hrat rfl).at_ hA)
  have HU5 := Lib.hid hUA
  have HC6 := Lib.hid (HC5.out.trans (hUA.mono HC5.out.size))
  have hG := (hUA.block _ (by omega)).trans HG5.out
  have hP := (hUA.block _ hq5).trans HP5.out
  have HG6 := Lib.hid hG
  have HP6 := Lib.hid hP
  have HR6 := Lib.hid (HR5.out.at_ hUA (Nat.le_refl _))
  have hq6 := Nat.lt_of_lt_of_le hq5 hUA.size
  have hr4 : u5.heap.size < w6.heap.size := (Array.getElem?_eq_some_iff.1 hx).1
  have e60 := cell_of_row _ _ 0 _ _ _ hP
  have e61 := cell_of_row _ _ 1 _ _ _ hP
  have e62 := cell_of_row _ _ 2 _ _ _ hP
  simp at e60 e61 e62
  have hp6 := part_of (bsplit hG)
  have hs6 := bslice hG
  clear e50 e51 e52 hp5 hs5 hw hx hU hUA hA hP hG hrat
  go_upto_region 11 with (fail)
  rw [<- HW6.out]
  go_wp2_with (refine wpList_load_list rfl 29 _ rfl ⟨w.heap.size, 0, none⟩ rfl _ _ hp6 Tryz.underlying29 rfl gsize ?_)
  refine (dcross_any w6 g A n c rs cu cu d hl h150' hg hcu hcu hr HR6.out).mono ?_
  rw [<- HX.out, Z5.out]
  rintro e u6 hcp
  obtain ⟨hU, p5, P5, s5, r5, q5, Q5, m5, t5, rfl, hrat⟩ := hcp.rat
  clear hcp
  obtain ⟨w7, hw⟩ : ∃ W, W = u6.alloc (.cells #[.bool p5, .slice P5 s5 r5, .bool q5, .slice Q5 m5 t5] 41) := ⟨_, rfl⟩
  have hA : Below u6.heap.size u6 w7 := by rw [hw]; exact (Below.refl _ _).alloc (Nat.le_refl _) _
  have hx : w7.heap[u6.heap.size]? = some (.cells #[.bool p5, .slice P5 s5 r5, .bool q5, .slice Q5 m5 t5] 41 (0, 0)) := by rw [hw]; exact heap_alloc_new u6 _
  have hUA := hU.trans (hA.mono hU.size)
  have HW7 := Lib.hid hw
  have HX5 := Lib.hid hx
  have HI5 := Lib.hid ((hrat rfl).at_ hA)
  have HU6 := Lib.hid hUA
  have HC7 := Lib.hid (HC6.out.trans (hUA.mono HC6.out.size))
  have hG := (hUA.block _ (by omega)).trans HG6.out
  have hP := (hUA.block _ hq6).trans HP6.out
  have HG7 := Lib.hid hG
  have HP7 := Lib.hid hP
  have HR7 := Lib.hid (HR6.out.at_ hUA (Nat.le_refl _))
  have hq7 := Nat.lt_of_lt_of_le hq6 hUA.size
  have hr5 : u6.heap.size < w7.heap.size := (Array.getElem?_eq_some_iff.1 hx).1
  have e70 := cell_of_row _ _ 0 _ _ _ hP
  have e71 := cell_of_row _ _ 1 _ _ _ hP
  have e72 := cell_of_row _ _ 2 _ _ _ hP
  simp at e70 e71 e72
  have hp7 := part_of (bsplit hG)
  have hs7 := bslice hG
  clear e60 e61 e62 hp6 hs6 hw hx hU hUA hA hP hG hrat
  go_upto_region 12 with (fail)
  rw [<- HW7.out]
  have hy1 := ((HU6.out.block _ (Nat.lt_of_lt_of_le (Nat.lt_of_lt_of_le (Nat.lt_of_lt_of_le hr1 HU3.out.size) HU4.out.size) HU5.out.size)).trans (((HU5.out.block _ (Nat.lt_of_lt_of_le (Nat.lt_of_lt_of_le hr1 HU3.out.size) HU4.out.size)).trans (((HU4.out.block _ (Nat.lt_of_lt_of_le hr1 HU3.out.size)).trans (((HU3.out.block _ hr1).trans (HX1.out))))))))
  have hl1 := (Nat.lt_of_lt_of_le (Nat.lt_of_lt_of_le (Nat.lt_of_lt_of_le (Nat.lt_of_lt_of_le hr1 HU3.out.size) HU4.out.size) HU5.out.size) HU6.out.size)
  have HY1 := Lib.hid hy1
  clear hy1
  have HJ1 := Lib.hid ((((HI1.out.at_ HU3.out).at_ HU4.out).at_ HU5.out).at_ HU6.out)
  have hy2 := ((HU6.out.block _ (Nat.lt_of_lt_of_le (Nat.lt_of_lt_of_le hr2 HU4.out.size) HU5.out.size)).trans (((HU5.out.block _ (Nat.lt_of_lt_of_le hr2 HU4.out.size)).trans (((HU4.out.block _ hr2).trans (HX2.out))))))
  have hl2 := (Nat.lt_of_lt_of_le (Nat.lt_of_lt_of_le (Nat.lt_of_lt_of_le hr2 HU4.out.size) HU5.out.size) HU6.out.size)
  have HY2 := Lib.hid hy2
  clear hy2
  have HJ2 := Lib.hid (((HI2.out.at_ HU4.out).at_ HU5.out).at_ HU6.out)
  have hy3 := ((HU6.out.block _ (Nat.lt_of_lt_of_le hr3 HU5.out.size)).trans (((HU5.out.block _ hr3).trans (HX3.out))))
  have hl3 := (Nat.lt_of_lt_of_le (Nat.lt_of_lt_of_le hr3 HU5.out.size) HU6.out.size)
  have HY3 := Lib.hid hy3
  clear hy3
  have HJ3 := Lib.hid ((HI3.out.at_ HU5.out).at_ HU6.out)
  have hy4 := ((HU6.out.block _ hr4).trans (HX4.out))
  have hl4 := (Nat.lt_of_lt_of_le hr4 HU6.out.size)
  have HY4 := Lib.hid hy4
  clear hy4
  have HJ4 := Lib.hid (HI4.out.at_ HU6.out)
  have hy5 := HX5.out
  have hl5 := hr5
  have HY5 := Lib.hid hy5
  clear hy5
  have HJ5 := Lib.hid HI5.out
  have hS : Below w7.heap.size w7 w7.drew := below_drawn (Below.refl _ _) 1
  refine wp_region_held (S := Below w7.heap.size w7) (by kernel_rfl) ?_
  change wpAnyH _ _ _ _ _ _ _ _ (World.drew w7)
  obtain ⟨WC, hWd⟩ : ∃ W, W = w7.drew := ⟨_, rfl⟩
  rw [<- hWd] at hS ⊢
  clear hWd
  refine wpAnyH_take (i := 0) (v := .int .i64 0) rfl (by kernel_rfl) (by kernel_rfl) (by kernel_rfl) (fun _ _ _ h => h) (.inl ⟨by rfl, fun W' hS' => by go_simp⟩) hS ?_
  try simp only [Act.put, z]
  refine wpAnyH_take (i := 1) (v := .bool true) rfl (by kernel_rfl) (by kernel_rfl) (by kernel_rfl) (fun _ _ _ h => h) (.inl ⟨by rfl, fun W' hS' => by go_simp⟩) hS ?_
  try simp only [Act.put, z]
  refine wpAnyH_take (i := 2) (v := .bool true) rfl (by kernel_rfl) (by kernel_rfl) (by kernel_rfl) (fun _ _ _ h => h) (.inl ⟨by rfl, fun W' hS' => by go_simp⟩) hS ?_
  try simp only [Act.put, z]
  refine wpAnyH_take (i := 3) (v := .int .i64 0) rfl (by kernel_rfl) (by kernel_rfl) (by kernel_rfl) (fun _ _ _ h => h) (.inl ⟨by rfl, fun W' hS' => by go_simp⟩) hS ?_
  try simp only [Act.put, z]
  refine wpAnyH_take (i := 4) (v := .bool true) rfl (by kernel_rfl) (by kernel_rfl) (by kernel_rfl) (fun _ _ _ h => h) (.inl ⟨by rfl, fun W' hS' => by go_simp⟩) hS ?_
  try simp only [Act.put, z]
  refine wpAnyH_take (i := 5) (v := .bool true) rfl (by kernel_rfl) (by kernel_rfl) (by kernel_rfl) (fun _ _ _ h => h) (.inl ⟨by rfl, fun W' hS' => by go_simp⟩) hS ?_
  try simp only [Act.put, z]
  refine wpAnyH_take (i := 6) (v := .bool true) rfl (by kernel_rfl) (by kernel_rfl) (by kernel_rfl) (fun _ _ _ h => h) (.inl ⟨by rfl, fun W' hS' => by go_simp⟩) hS ?_
  try simp only [Act.put, z]
  refine wpAnyH_take (i := 7) (v := .int .i64 0) rfl (by kernel_rfl) (by kernel_rfl) (by kernel_rfl) (fun _ _ _ h => h) (.inl ⟨by rfl, fun W' hS' => by go_simp⟩) hS ?_
  try simp only [Act.put, z]
  refine wpAnyH_take (i := 8) (v := .bool true) rfl (by kernel_rfl) (by kernel_rfl) (by kernel_rfl) (fun _ _ _ h => h) (.inl ⟨by rfl, fun W' hS' => by go_simp⟩) hS ?_
  try simp only [Act.put, z]
  refine wpAnyH_take (i := 9) (v := .bool true) rfl (by kernel_rfl) (by kernel_rfl) (by kernel_rfl) (fun _ _ _ h => h) (.inl ⟨by rfl, fun W' hS' => by go_simp⟩) hS ?_
  try simp only [Act.put, z]
  refine wpAnyH_take (i := 10) (v := .bool true) rfl (by kernel_rfl) (by kernel_rfl) (by kernel_rfl) (fun _ _ _ h => h) (.inl ⟨by rfl, fun W' hS' => by go_simp⟩) hS ?_
  try simp only [Act.put, z]
  refine wpAnyH_take (i := 11) (v := .agg #[.bool p1, .slice P1 s1 r1, .bool q1, .slice Q1 m1 t1]) rfl (by kernel_rfl) (by kernel_rfl) (by kernel_rfl) (fun _ _ _ h => h) (yieldsIf_load_mid (by rfl) 41 _ rfl u2.heap.size 0 rfl [.bool p1, .slice P1 s1 r1, .bool q1, .slice Q1 m1 t1] _ (fun W' hS' => range4r ((hS'.block _ hl1).trans HY1.out)) Tryz.underlying41 rfl ratSize) hS ?_
  try simp only [Act.put, z]
  refine wpAnyH_take (i := 12) (v := .agg #[.bool p2, .slice P2 s2 r2, .bool q2, .slice Q2 m2 t2]) rfl (by kernel_rfl) (by kernel_rfl) (by kernel_rfl) (fun _ _ _ h => h) (yieldsIf_load_mid (by rfl) 41 _ rfl u3.heap.size 0 rfl [.bool p2, .slice P2 s2 r2, .bool q2, .slice Q2 m2 t2] _ (fun W' hS' => range4r ((hS'.block _ hl2).trans HY2.out)) Tryz.underlying41 rfl ratSize) hS ?_
  try simp only [Act.put, z]
  refine wpAnyH_take (i := 14) (v := .agg #[.bool p3, .slice P3 s3 r3, .bool q3, .slice Q3 m3 t3]) rfl (by kernel_rfl) (by kernel_rfl) (by kernel_rfl) (fun _ _ _ h => h) (yieldsIf_load_mid (by rfl) 41 _ rfl u4.heap.size 0 rfl [.bool p3, .slice P3 s3 r3, .bool q3, .slice Q3 m3 t3] _ (fun W' hS' => range4r ((hS'.block _ hl3).trans HY3.out)) Tryz.underlying41 rfl ratSize) hS ?_
  try simp only [Act.put, z]
  refine wpAnyH_ready (rs := [13]) (by kernel_rfl) (by simp) (AllReadyH.cons rfl (fun K hK => ?_) AllReadyH.nil)
  go_simp
  obtain ⟨hN0, hD0, hQ0, hcm⟩ := chain_cm HPU.out HPV.out HPT.out rfl rfl
  obtain ⟨_, _, _, _, lx1, lx2⟩ := low_terms HPU.out HPV.out
  obtain ⟨_, _, _, _, ly1, ly2⟩ := low_terms HPV.out HPT.out
  obtain ⟨_, _, _, _, lz1, lz2⟩ := low_terms HPU.out HPT.out
  refine (mulg_rat WC 3 3 3 3 _ _ _ _ _ _ (by omega) (by omega) (Int.ne_of_gt lx2) (Int.ne_of_gt ly2) (HJ1.out.at_ hS) (HJ2.out.at_ hS)).mono ?_
  rintro e WD ⟨⟨ra, rfl, hra⟩, hBd⟩
  have hS1 := hS.trans (hBd.mono hS.size)
  refine hK.out _ _ hS1 (fun _ => ?_)
  clear hK K
  try simp only [Act.put, z]
  refine wpAnyH_ready (rs := [15]) (by kernel_rfl) (by simp) (AllReadyH.cons rfl (fun K hK => ?_) AllReadyH.nil)
  go_simp
  refine (cmp_rat WD 6 6 3 3 _ _ _ _ _ _ (by omega) (by omega) (by omega) (by omega) hQ0 (Int.ne_of_gt lz2) hra (HJ3.out.at_ hS1)).mono ?_
  rw [hcm]
  rintro e WE ⟨rfl, hBe⟩
  have hS2 := hS1.trans (hBe.mono hS1.size)
  clear hcm hra hQ0 hN0 hD0 ly1 ly2 lz1 lz2
  refine hK.out _ _ hS2 (fun _ => ?_)
  clear hK K
  try simp only [Act.put, z]
  refine wpAnyH_take (i := 16) (v := .bool true) rfl (by kernel_rfl) (by kernel_rfl) (by kernel_rfl) (fun _ _ _ h => h) (.inl ⟨by rfl, fun W' hS' => by go_simp⟩) hS2 ?_
  try simp only [Act.put, z]
  refine wpAnyH_take (i := 17) (v := .bool true) rfl (by kernel_rfl) (by kernel_rfl) (by kernel_rfl) (fun _ _ _ h => h) (.inl ⟨by rfl, fun W' hS' => by go_simp⟩) hS2 ?_
  try simp only [Act.put, z]
  refine wpAnyH_take (i := 18) (v := .bool true) rfl (by kernel_rfl) (by kernel_rfl) (by kernel_rfl) (fun _ _ _ h => h) (.inl ⟨by rfl, fun W' hS' => by go_simp⟩) hS2 ?_
  try simp only [Act.put, z]
  refine wpAnyH_take (i := 19) (v := .agg #[.bool p1, .slice P1 s1 r1, .bool q1, .slice Q1 m1 t1]) rfl (by kernel_rfl) (by kernel_rfl) (by kernel_rfl) (fun _ _ _ h => h) (yieldsIf_load_mid (by rfl) 41 _ rfl u2.heap.size 0 rfl [.bool p1, .slice P1 s1 r1, .bool q1, .slice Q1 m1 t1] _ (fun W' hS' => range4r ((hS'.block _ hl1).trans HY1.out)) Tryz.underlying41 rfl ratSize) hS2 ?_
  try simp only [Act.put, z]
  refine wpAnyH_take (i := 20) (v := .agg #[.bool p4, .slice P4 s4 r4, .bool q4, .slice Q4 m4 t4]) rfl (by kernel_rfl) (by kernel_rfl) (by kernel_rfl) (fun _ _ _ h => h) (yieldsIf_load_mid (by rfl) 41 _ rfl u5.heap.size 0 rfl [.bool p4, .slice P4 s4 r4, .bool q4, .slice Q4 m4 t4] _ (fun W' hS' => range4r ((hS'.block _ hl4).trans HY4.out)) Tryz.underlying41 rfl ratSize) hS2 ?_
  try simp only [Act.put, z]
  refine wpAnyH_ready (rs := [21]) (by kernel_rfl) (by simp) (AllReadyH.cons rfl (fun K hK => ?_) AllReadyH.nil)
  go_simp
  obtain ⟨_, _, _, _, lb1, lb2⟩ := low_terms HPV.out HPU.out
  obtain ⟨hb1, hb2⟩ := back_one HPU.out HPV.out rfl rfl
  refine (mulg_rat WE 3 3 3 3 _ _ _ _ _ _ (by omega) (by omega) (Int.ne_of_gt lx2) (Int.ne_of_gt lb2) (HJ1.out.at_ hS2) (HJ4.out.at_ hS2)).mono ?_
  rintro e WF ⟨⟨rb, rfl, hrb⟩, hBf⟩
  have hS3 := hS2.trans (hBf.mono hS2.size)
  refine hK.out _ _ hS3 (fun _ => ?_)
  clear hK K
  try simp only [Act.put, z]
  refine wpAnyH_ready (rs := [22]) (by kernel_rfl) (by simp) (AllReadyH.cons rfl (fun K hK => ?_) AllReadyH.nil)
  go_simp
  refine (text_one WF 6 6 _ _ _ (by omega) (by omega) hb1 hb2 hrb (tab_up (HT0.out.on (HC7.out.trans (hS3.mono HC7.out.size))) (Nat.le_trans HC7.out.size hS3.size))).mono ?_
  rintro e WG ⟨rfl, hBg⟩
  have hS4 := hS3.trans (hBg.mono hS3.size)
  clear hrb hb1 hb2 lb1 lb2 lx1 lx2
  refine hK.out _ _ hS4 (fun _ => ?_)
  clear hK K
  try simp only [Act.put, z]
  refine wpAnyH_take (i := 23) (v := .bool true) rfl (by kernel_rfl) (by kernel_rfl) (by kernel_rfl) (fun _ _ _ h => h) (.inl ⟨by rfl, fun W' hS' => by go_simp⟩) hS4 ?_
  try simp only [Act.put, z]
  refine wpAnyH_take (i := 24) (v := .bool true) rfl (by kernel_rfl) (by kernel_rfl) (by kernel_rfl) (fun _ _ _ h => h) (.inl ⟨by rfl, fun W' hS' => by go_simp⟩) hS4 ?_
  try simp only [Act.put, z]
  refine wpAnyH_take (i := 25) (v := .bool true) rfl (by kernel_rfl) (by kernel_rfl) (by kernel_rfl) (fun _ _ _ h => h) (.inl ⟨by rfl, fun W' hS' => by go_simp⟩) hS4 ?_
  try simp only [Act.put, z]
  refine wpAnyH_take (i := 26) (v := .agg #[.bool p5, .slice P5 s5 r5, .bool q5, .slice Q5 m5 t5]) rfl (by kernel_rfl) (by kernel_rfl) (by kernel_rfl) (fun _ _ _ h => h) (yieldsIf_load_mid (by rfl) 41 _ rfl u6.heap.size 0 rfl [.bool p5, .slice P5 s5 r5, .bool q5, .slice Q5 m5 t5] _ (fun W' hS' => range4r ((hS'.block _ hl5).trans HY5.out)) Tryz.underlying41 rfl ratSize) hS4 ?_
  try simp only [Act.put, z]
  refine wpAnyH_ready (rs := [27]) (by kernel_rfl) (by simp) (AllReadyH.cons rfl (fun K hK => ?_) AllReadyH.nil)
  go_simp
  refine (text_one WG 3 3 _ _ _ (by omega) (by omega) (own_one HPU.out) (own_one HPU.out) (HJ5.out.at_ hS4) (tab_up (HT0.out.on (HC7.out.trans (hS4.mono HC7.out.size))) (Nat.le_trans HC7.out.size hS4.size))).mono ?_
  rintro e WH ⟨rfl, hBh⟩
  have hS5 := hS4.trans (hBh.mono hS4.size)
  refine hK.out _ _ hS5 (fun _ => ?_)
  clear hK K
  try simp only [Act.put, z]
  refine wpAnyH_take (i := 28) (v := .bool true) rfl (by kernel_rfl) (by kernel_rfl) (by kernel_rfl) (fun _ _ _ h => h) (.inl ⟨by rfl, fun W' hS' => by go_simp⟩) hS5 ?_
  try simp only [Act.put, z]
  refine wpAnyH_take (i := 29) (v := .bool true) rfl (by kernel_rfl) (by kernel_rfl) (by kernel_rfl) (fun _ _ _ h => h) (.inl ⟨by rfl, fun W' hS' => by go_simp⟩) hS5 ?_
  try simp only [Act.put, z]
  refine wpAnyH_ready (rs := [30]) (by kernel_rfl) (by simp) (AllReadyH.cons rfl (fun K hK => ?_) AllReadyH.nil)
  go_simp
  refine hK.out _ _ hS5 (fun _ => ?_)
  clear hK K
  try simp only [Act.put, z]
  refine wpAnyH_done (by kernel_rfl) ?_ _
  try simp only [Act.put, z]
  go_wp2
  go_ret
  exact ⟨rfl, HC7.out.trans (hS5.mono HC7.out.size)⟩
end
end Go.Proofs.YtalfikdjclineaaGreatDoor
