/- My texts RefRatOf. -/
import Derived.Test.YtcblobokjhhboaaGreatG14
import Derived.Test.YtcblobokjhhboaaGreatG29
set_option linter.unusedVariables false
set_option linter.unusedSimpArgs false
set_option maxRecDepth 100000
set_option maxHeartbeats 8000000
namespace Go.Proofs.YtcblobokjhhboaaGreat
namespace R1
open Go.RowKit
section
variable (w : World)
theorem quotient_any (k j : Nat) (u v : Value) (N D : Int) (hk : k <= 400000) (hj : j <= 400000) (hD : 0 < D) (hu : PI w w.heap.size k u N) (hv : PI w w.heap.size j v D) :
  Calls Tryz.prog 127 #[u, v] w fun e w' => (∃ r, e = .returned r /\ RI w' w'.heap.size k j r (Int.tdiv N (Int.gcd N D)) (Int.tdiv D (Int.gcd N D))) /\ Below w.heap.size w w' := by
 obtain ⟨g1, A1, n1, c1, rfl⟩ := hu.open
 obtain ⟨g2, A2, n2, c2, rfl⟩ := hv.open
 obtain ⟨hB0, hb0, hb1, hb2, hz⟩ := row_new3 w #[.bool g1, .slice A1 n1 c1] #[.bool g2, .slice A2 n2 c2] #[.bool false, .slice none 0 0, .bool false, .slice none 0 0] 76 76 78
 obtain ⟨W1, hW1⟩ : ∃ W1, W1 = (((w.alloc (.cells #[.bool g1, .slice A1 n1 c1] 76)).alloc (.cells #[.bool g2, .slice A2 n2 c2] 76)).alloc (.cells #[.bool false, .slice none 0 0, .bool false, .slice none 0 0] 78)) := ⟨_, rfl⟩
 rw [<- hW1] at hB0 hb0 hb1 hb2 hz
 have HW := Lib.hid hW1
 have Hb2 := Lib.hid hb2
 have x0 := cell_of_row _ _ 0 _ _ _ hb0
 have x1 := cell_of_row _ _ 1 _ _ _ hb0
 have y0 := cell_of_row _ _ 0 _ _ _ hb1
 have y1 := cell_of_row _ _ 1 _ _ _ hb1
 simp at x0 x1 y0 y1
 have s1 : w.heap.size + 1 < W1.heap.size := by omega
 have s1' : w.heap.size < W1.heap.size := by omega
 have s2 : w.heap.size + 2 < W1.heap.size := by omega
 clear hW1 hz hb0 hb1 hb2
 go_enter Tryz.func127, Tryz.ntmps127
 go_upto_region 1 with (fail)
 rw [<- HW.out]
 go_wp2_with (fail)
 refine (new_any W1 k j _ _ N D hk hj hD (hu.at_ hB0) (hv.at_ hB0)).mono ?_
 rintro e W2 ⟨⟨r2, rfl, hr2⟩, hB2⟩
 obtain ⟨g3, A3, n3, c3, g4, A4, n4, c4, rfl⟩ := hr2.open
 have hd2 := gbox Hb2.out hB2 s2
 have hq2 := hB2.size
 obtain ⟨hBa, hra, hza⟩ := row_new W2 #[.bool g3, .slice A3 n3 c3, .bool g4, .slice A4 n4 c4] 78
 have hd3 := gbox hd2 hBa (some_lt hd2)
 have hr3 := hr2.at_ hBa
 have hBw := (hB0.trans (hB2.mono hB0.size)).trans (hBa.mono (hB0.trans (hB2.mono hB0.size)).size)
 obtain ⟨W3, hW3⟩ : ∃ W3, W3 = (W2.alloc (.cells #[.bool g3, .slice A3 n3 c3, .bool g4, .slice A4 n4 c4] 78)) := ⟨_, rfl⟩
 rw [<- hW3] at hBa hra hza hd3 hr3 hBw
 have HW3 := Lib.hid hW3
 clear x0 x1 y0 y1 hW3
 have x0 := cell_of_row _ _ 0 _ _ _ hra
 have x1 := cell_of_row _ _ 1 _ _ _ hra
 have x2 := cell_of_row _ _ 2 _ _ _ hra
 have x3 := cell_of_row _ _ 3 _ _ _ hra
 simp at x0 x1 x2 x3
 have s3 : W2.heap.size < W3.heap.size := by omega
 have Hd3 := Lib.hid hd3
 have Ho := Lib.hid (one4 g3 A3 n3 c3 g4 A4 n4 c4)
 have hR := setRow_heap W3 (w.heap.size + 2) _ #[.bool g3, .slice A3 n3 c3, .bool g4, .slice A4 n4 c4] _ _ hd3
 have hload := Lib.hid (run_loadVar_row (P := Tryz.prog) _ _ _ 78 _ _ _ hR Tryz.underlying78 rfl ratSize)
 have hPF := Lib.hid ((hr3.other (w' := W3.setRow (w.heap.size + 2) #[.bool g3, .slice A3 n3 c3, .bool g4, .slice A4 n4 c4]) hd3 (no_int4 _ _ _ _ _ _ _ _) (fun c hc => setRow_other _ _ _ _ hc)).more (C := (W3.setRow (w.heap.size + 2) #[.bool g3, .slice A3 n3 c3, .bool g4, .slice A4 n4 c4]).heap.size) (by simp) (Nat.le_refl _) (Nat.le_refl _))
 have hBF := Lib.hid (below_setRow hBw (show w.heap.size <= w.heap.size + 2 by omega) #[.bool g3, .slice A3 n3 c3, .bool g4, .slice A4 n4 c4])
 clear hra hza hd3 hd2 hR
 go_upto_region 2 with (fail)
 rw [<- HW3.out]
 go_wp2_with (refine wpList_store_row rfl 78 (.tmp 4) (.tmp 13) none rfl rfl (w.heap.size + 2) 78 _ #[.bool g3, .slice A3 n3 c3, .bool g4, .slice A4 n4 c4] rfl rfl Hd3.out rfl ratSize Ho.out ?_)
 exact bodyPost_ret (v := .agg #[.bool g3, .slice A3 n3 c3, .bool g4, .slice A4 n4 c4]) (by simp [results, Tryz.results127, asAddr, Act.put, hload.out]) rfl ⟨⟨_, rfl, hPF.out⟩, hBF.out⟩
theorem ratof_any (n m : Int) (hn0 : -9223372036854775808 <= n) (hn1 : n <= 9223372036854775807) (hm0 : 0 < m) (hm1 : m <= 9223372036854775807) :
  Calls Tryz.prog 41 #[.int .i64 n, .int .i64 m] w fun e w' => (∃ r, e = .returned (.tuple #[r, .int .i64 0]) /\ RI w' w'.heap.size 5 5 r (Int.tdiv n (Int.gcd n m)) (Int.tdiv m (Int.gcd n m))) /\ Below w.heap.size w w' := by
 obtain ⟨hB0, hb0, hz⟩ := row_new w #[.bool false, .slice none 0 0, .bool false, .slice none 0 0] 78
 obtain ⟨W1, hW1⟩ : ∃ W1, W1 = (w.alloc (.cells #[.bool false, .slice none 0 0, .bool false, .slice none 0 0] 78)) := ⟨_, rfl⟩
 rw [<- hW1] at hB0 hb0 hz
 have HW := Lib.hid hW1
 have Hb0 := Lib.hid hb0
 have s1 : w.heap.size < W1.heap.size := by omega
 clear hW1 hz hb0
 go_enter Tryz.func41, Tryz.ntmps41
 go_upto_region 1 with (fail)
 rw [<- HW.out]
 go_wp2_with (fail)
 refine (of_int W1 n hn0 hn1).mono ?_
 rintro e W2 ⟨⟨r2, rfl, hr2⟩, hB2⟩
 go_wp2_with (fail)
 refine (of_int W2 m (by omega) (by omega)).mono ?_
 rintro e W3 ⟨⟨r3, rfl, hr3⟩, hB3⟩
 go_wp2_with (fail)
 refine (new_any W3 5 5 _ _ n m (by omega) (by omega) (by omega) (hr2.at_ hB3) hr3).mono ?_
 rintro e W4 ⟨⟨r4, rfl, hr4⟩, hB4⟩
 obtain ⟨g3, A3, n3, c3, g4, A4, n4, c4, rfl⟩ := hr4.open
 have hB02 := hB0.trans (hB2.mono hB0.size)
 have hB03 := hB02.trans (hB3.mono hB02.size)
 have hBw := hB03.trans (hB4.mono hB03.size)
 have hd2 := gbox Hb0.out hB2 s1
 have hd3 := gbox hd2 hB3 (some_lt hd2)
 have hd4 := gbox hd3 hB4 (some_lt hd3)
 have Hd4 := Lib.hid hd4
 have Ho := Lib.hid (one4 g3 A3 n3 c3 g4 A4 n4 c4)
 have hR := setRow_heap W4 w.heap.size _ #[.bool g3, .slice A3 n3 c3, .bool g4, .slice A4 n4 c4] _ _ hd4
 have hload := Lib.hid (run_loadVar_row (P := Tryz.prog) _ _ _ 78 _ _ _ hR Tryz.underlying78 rfl ratSize)
 have hPF := Lib.hid ((hr4.other (w' := W4.setRow w.heap.size #[.bool g3, .slice A3 n3 c3, .bool g4, .slice A4 n4 c4]) hd4 (no_int4 _ _ _ _ _ _ _ _) (fun c hc => setRow_other _ _ _ _ hc)).more (C := (W4.setRow w.heap.size #[.bool g3, .slice A3 n3 c3, .bool g4, .slice A4 n4 c4]).heap.size) (by simp) (Nat.le_refl _) (Nat.le_refl _))
 have hBF := Lib.hid (below_setRow hBw (Nat.le_refl _) #[.bool g3, .slice A3 n3 c3, .bool g4, .slice A4 n4 c4])
 clear hd2 hd3 hd4 hR
 go_wp2_with (refine wpList_store_row rfl 78 (.tmp 4) (.tmp 11) none rfl rfl w.heap.size 78 _ #[.bool g3, .slice A3 n3 c3, .bool g4, .slice A4 n4 c4] rfl rfl Hd4.out rfl ratSize Ho.out ?_)
 exact bodyPost_ret (v := .tuple #[.agg #[.bool g3, .slice A3 n3 c3, .bool g4, .slice A4 n4 c4], .int .i64 0]) (by simp [results, Tryz.results41, asAddr, Act.put, hload.out]) rfl ⟨⟨_, rfl, hPF.out⟩, hBF.out⟩
theorem ratint_any (n : Int) (hn0 : -9223372036854775808 <= n) (hn1 : n <= 9223372036854775807) :
  Calls Tryz.prog 87 #[.int .i64 n] w fun e w' => (∃ r, e = .returned r /\ RI w' w'.heap.size 5 5 r n 1) /\ Below w.heap.size w w' := by
 obtain ⟨hB0, hb0, hz⟩ := row_new w #[.bool false, .slice none 0 0, .bool false, .slice none 0 0] 78
 obtain ⟨W1, hW1⟩ : ∃ W1, W1 = (w.alloc (.cells #[.bool false, .slice none 0 0, .bool false, .slice none 0 0] 78)) := ⟨_, rfl⟩
 rw [<- hW1] at hB0 hb0 hz
 have HW := Lib.hid hW1
 have Hb0 := Lib.hid hb0
 have s1 : w.heap.size < W1.heap.size := by omega
 clear hW1 hz hb0
 go_enter Tryz.func87, Tryz.ntmps87
 go_upto_region 1 with (fail)
 rw [<- HW.out]
 go_wp2_with (fail)
 refine (of_int W1 n hn0 hn1).mono ?_
 rintro e W2 ⟨⟨r2, rfl, hr2⟩, hB2⟩
 go_wp2_with (fail)
 refine (of_int W2 1 (by omega) (by omega)).mono ?_
 rintro e W3 ⟨⟨r3, rfl, hr3⟩, hB3⟩
 go_wp2_with (fail)
 refine (quotient_any W3 5 5 _ _ n 1 (by omega) (by omega) (by omega) (hr2.at_ hB3) hr3).mono ?_
 rintro e W4 ⟨⟨r4, rfl, hr4⟩, hB4⟩
 obtain ⟨g3, A3, n3, c3, g4, A4, n4, c4, rfl⟩ := hr4.open
 have hg1 : Int.gcd n 1 = 1 := by simp
 rw [hg1] at hr4
 simp at hr4
 have hB02 := hB0.trans (hB2.mono hB0.size)
 have hB03 := hB02.trans (hB3.mono hB02.size)
 have hBw := hB03.trans (hB4.mono hB03.size)
 have hd2 := gbox Hb0.out hB2 s1
 have hd3 := gbox hd2 hB3 (some_lt hd2)
 have hd4 := gbox hd3 hB4 (some_lt hd3)
 have Hd4 := Lib.hid hd4
 have Ho := Lib.hid (one4 g3 A3 n3 c3 g4 A4 n4 c4)
 have hR := setRow_heap W4 w.heap.size _ #[.bool g3, .slice A3 n3 c3, .bool g4, .slice A4 n4 c4] _ _ hd4
 have hload := Lib.hid (run_loadVar_row (P := Tryz.prog) _ _ _ 78 _ _ _ hR Tryz.underlying78 rfl ratSize)
 have hPF := Lib.hid ((hr4.other (w' := W4.setRow w.heap.size #[.bool g3, .slice A3 n3 c3, .bool g4, .slice A4 n4 c4]) hd4 (no_int4 _ _ _ _ _ _ _ _) (fun c hc => setRow_other _ _ _ _ hc)).more (C := (W4.setRow w.heap.size #[.bool g3, .slice A3 n3 c3, .bool g4, .slice A4 n4 c4]).heap.size) (by simp) (Nat.le_refl _) (Nat.le_refl _))
 have hBF := Lib.hid (below_setRow hBw (Nat.le_refl _) #[.bool g3, .slice A3 n3 c3, .bool g4, .slice A4 n4 c4])
 clear hd2 hd3 hd4 hR
 go_wp2_with (refine wpList_store_row rfl 78 (.tmp 2) (.tmp 6) none rfl rfl w.heap.size 78 _ #[.bool g3, .slice A3 n3 c3, .bool g4, .slice A4 n4 c4] rfl rfl Hd4.out rfl ratSize Ho.out ?_)
 exact bodyPost_ret (v := .agg #[.bool g3, .slice A3 n3 c3, .bool g4, .slice A4 n4 c4]) (by simp [results, Tryz.results87, asAddr, Act.put, hload.out]) rfl ⟨⟨_, rfl, hPF.out⟩, hBF.out⟩
end
end R1
end Go.Proofs.YtcblobokjhhboaaGreat
