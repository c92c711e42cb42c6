/- My texts RatMulG, RatCmp, ChainP. -/
import Derived.Test.YtalfikdjclineaaGreatDoorG12
import Derived.Test.YtalfikdjclineaaGreatDoorG38
set_option linter.unusedVariables false
set_option linter.unusedSimpArgs false
set_option maxRecDepth 100000
set_option maxHeartbeats 8000000
namespace Go.Proofs.YtalfikdjclineaaGreatDoor
open Go.RowKit
section
variable (w : World)
theorem mulg_rat (k1 j1 k2 j2 : Nat) (u v : Value) (N1 D1 N2 D2 : Int) (hk : k1 + k2 <= 100000) (hj : j1 + j2 <= 100000) (hD1 : D1 ≠ 0) (hD2 : D2 ≠ 0) (hu : RI w w.heap.size k1 j1 u N1 D1) (hv : RI w w.heap.size k2 j2 v N2 D2) :
    Calls Tryz.prog 12 #[u, v] w fun e w' => (∃ r, e = .returned r /\ RI w' w'.heap.size (k1 + k2) (j1 + j2) r (Int.tdiv (N1 * N2) (redBy (N1 * N2) (D1 * D2))) (Int.tdiv (D1 * D2) (redBy (N1 * N2) (D1 * D2)))) /\ Below w.heap.size w w' := by
  obtain ⟨g1, A1, n1, c1, g2, A2, n2, c2, rfl⟩ := hu.open
  obtain ⟨g3, A3, n3, c3, g4, A4, n4, c4, rfl⟩ := hv.open
  obtain ⟨hB0, hb0, hb1, hb2, hz⟩ := rows3 w #[.bool g1, .slice A1 n1 c1, .bool g2, .slice A2 n2 c2] #[.bool g3, .slice A3 n3 c3, .bool g4, .slice A4 n4 c4] #[.bool false, .slice none 0 0, .bool false, .slice none 0 0] 41
  obtain ⟨W1, hW1⟩ : ∃ W1, W1 = (((w.alloc (.cells #[.bool g1, .slice A1 n1 c1, .bool g2, .slice A2 n2 c2] 41)).alloc (.cells #[.bool g3, .slice A3 n3 c3, .bool g4, .slice A4 n4 c4] 41)).alloc (.cells #[.bool false, .slice none 0 0, .bool false, .slice none 0 0] 41)) := ⟨_, rfl⟩
  rw [<- hW1] at hB0 hb0 hb1 hb2 hz
  have HW := Lib.hid hW1
  have Hz := Lib.hid hz
  have Hb1 := Lib.hid hb1
  have Hb2 := Lib.hid hb2
  have HD : Hid (D1 * D2 ≠ 0) := by show _ ≠ _; exact Int.mul_ne_zero hD1 hD2
  have HD1 := Lib.hid hD1
  have HD2 := Lib.hid hD2
  have x0 := cell_of_row _ _ 0 _ _ _ hb0
  have x1 := cell_of_row _ _ 1 _ _ _ hb0
  have x2 := cell_of_row _ _ 2 _ _ _ hb0
  have x3 := cell_of_row _ _ 3 _ _ _ hb0
  simp at x0 x1 x2 x3
  have s1 : w.heap.size < W1.heap.size := by omega
  clear hW1 hz hb0 hb1 hb2 hD1 hD2
  go_enter Tryz.func12, Tryz.ntmps12
  go_upto_region 1 with (fail)
  rw [<- HW.out]
  go_wp2_with (fail)
  refine (parts_any W1 k1 j1 _ N1 D1 HD1.out (hu.at_ hB0)).mono ?_
  rintro e W2 ⟨⟨a1, B1, m1, d1, a2, B2, m2, d2, rfl, hp1, hp2⟩, hB2⟩
  have hsz2 := hB2.size
  have hq1 := Hz.out
  have hBw2 := hB0.trans (hB2.mono hB0.size)
  have Hc1 := Lib.hid (gbox Hb1.out hB2 (by omega))
  have Hc2 := Lib.hid (gbox Hb2.out hB2 (by omega))
  have s2 : w.heap.size + 1 < W2.heap.size := by omega
  have s3 : w.heap.size + 2 < W2.heap.size := by omega
  obtain ⟨hBa, hra1, hra2, hza⟩ := rows2 W2 #[.bool a1, .slice B1 m1 d1] #[.bool a2, .slice B2 m2 d2] 39
  have hBwa := hBw2.trans (hBa.mono hBw2.size)
  obtain ⟨Wa, hWa⟩ : ∃ Wa, Wa = ((W2.alloc (.cells #[.bool a1, .slice B1 m1 d1] 39)).alloc (.cells #[.bool a2, .slice B2 m2 d2] 39)) := ⟨_, rfl⟩
  have hy := gbox Hc1.out hBa s2
  rw [<- hWa] at hBa hra1 hra2 hza hBwa hy
  have Hra1 := Lib.hid hra1
  have Hra2 := Lib.hid hra2
  have Hza := Lib.hid hza
  have HWa := Lib.hid hWa
  have y0 := cell_of_row _ _ 0 _ _ _ hy
  have y1 := cell_of_row _ _ 1 _ _ _ hy
  have y2 := cell_of_row _ _ 2 _ _ _ hy
  have y3 := cell_of_row _ _ 3 _ _ _ hy
  simp at y0 y1 y2 y3
  have s4 : w.heap.size + 1 < Wa.heap.size := by omega
  clear x0 x1 x2 x3 hra1 hra2 hza hWa hy
  go_upto_region 2 with (fail)
  rw [<- HWa.out]
  go_wp2_with (fail)
  refine (parts_any Wa k2 j2 _ N2 D2 HD2.out (hv.at_ hBwa)).mono ?_
  rintro e W3 ⟨⟨a3, B3, m3, d3, a4, B4, m4, d4, rfl, hp3, hp4⟩, hB3⟩
  have hza := Hza.out
  have hsz3 := hB3.size
  have hBw3 := hBwa.trans (hB3.mono hBwa.size)
  have hr1 := gbox Hra1.out hB3 (by omega)
  have hr2 := gbox Hra2.out hB3 (by omega)
  have hd3 := gbox (gbox Hc2.out hBa s3) hB3 (by omega)
  obtain ⟨hBb, hrb1, hrb2, hzb⟩ := rows2 W3 #[.bool a3, .slice B3 m3 d3] #[.bool a4, .slice B4 m4 d4] 39
  have hBw4 := hBw3.trans (hBb.mono hBw3.size)
  have hq4 := gbox hr1 hBb (by omega)
  have hq5 := gbox hr2 hBb (by omega)
  have hd4 := gbox hd3 hBb (by omega)
  have hB24 := (hBa.trans (hB3.mono (by omega))).trans (hBb.mono (by omega))
  obtain ⟨W4, hW4⟩ : ∃ W4, W4 = ((W3.alloc (.cells #[.bool a3, .slice B3 m3 d3] 39)).alloc (.cells #[.bool a4, .slice B4 m4 d4] 39)) := ⟨_, rfl⟩
  rw [<- hW4] at hBb hrb1 hrb2 hzb hBw4 hq4 hq5 hd4 hB24
  have hS0 : RegM w w.heap.size W2.heap.size (W2.heap.size + 1) W3.heap.size (W3.heap.size + 1) #[.bool a1, .slice B1 m1 d1] #[.bool a2, .slice B2 m2 d2] #[.bool a3, .slice B3 m3 d3] #[.bool a4, .slice B4 m4 d4] W4 := ⟨hBw4, hq4, hq5, hrb1, hrb2⟩
  have hS := hS0.drew
  have HW4 := Lib.hid hW4
  have Hd4 := Lib.hid hd4
  have hN1 := hp1.at_ (below_drawn hB24 1)
  have hM1 := hp2.at_ (below_drawn hB24 1)
  have hN2 := hp3.at_ (below_drawn hBb 1)
  have hM2 := hp4.at_ (below_drawn hBb 1)
  clear hW4 hd4 hrb1 hrb2 hq4 hq5 hr1 hr2 hd3 y0 y1 y2 y3
  go_upto_region 3 with (fail)
  rw [<- HW4.out]
  refine wp_region_held (S := RegM w w.heap.size W2.heap.size (W2.heap.size + 1) W3.heap.size (W3.heap.size + 1) #[.bool a1, .slice B1 m1 d1] #[.bool a2, .slice B2 m2 d2] #[.bool a3, .slice B3 m3 d3] #[.bool a4, .slice B4 m4 d4]) (by kernel_rfl) ?_
  change wpAnyH _ _ _ _ _ _ _ _ (World.drew _)
  refine wpAnyH_take (i := 0) (v := .agg #[.bool a1, .slice B1 m1 d1]) rfl (by kernel_rfl) (by kernel_rfl) (by kernel_rfl) (fun _ _ _ h => h) (yieldsIf_load_mid (by rfl) 39 _ rfl W2.heap.size 0 rfl [.bool a1, .slice B1 m1 d1] _ (fun W' hS' => range2 hS'.2.1) Tryz.underlying39 rfl intSize) hS ?_
  try simp only [Act.put, z]
  refine wpAnyH_take (i := 1) (v := .agg #[.bool a3, .slice B3 m3 d3]) rfl (by kernel_rfl) (by kernel_rfl) (by kernel_rfl) (fun _ _ _ h => h) (yieldsIf_load_mid (by rfl) 39 _ rfl W3.heap.size 0 rfl [.bool a3, .slice B3 m3 d3] _ (fun W' hS' => range2 hS'.2.2.2.1) Tryz.underlying39 rfl intSize) hS ?_
  try simp only [Act.put, z]
  refine wpAnyH_take (i := 3) (v := .agg #[.bool a2, .slice B2 m2 d2]) rfl (by kernel_rfl) (by kernel_rfl) (by kernel_rfl) (fun _ _ _ h => h) (yieldsIf_load_mid (by rfl) 39 _ rfl (W2.heap.size + 1) 0 rfl [.bool a2, .slice B2 m2 d2] _ (fun W' hS' => range2 hS'.2.2.1) Tryz.underlying39 rfl intSize) hS ?_
  try simp only [Act.put, z]
  refine wpAnyH_take (i := 4) (v := .agg #[.bool a4, .slice B4 m4 d4]) rfl (by kernel_rfl) (by kernel_rfl) (by kernel_rfl) (fun _ _ _ h => h) (yieldsIf_load_mid (by rfl) 39 _ rfl (W3.heap.size + 1) 0 rfl [.bool a4, .slice B4 m4 d4] _ (fun W' hS' => range2 hS'.2.2.2.2) Tryz.underlying39 rfl intSize) hS ?_
  try simp only [Act.put, z]
  refine wpAnyH_ready (rs := [2]) (by kernel_rfl) (by simp) (AllReadyH.cons rfl (fun K hK => ?_) AllReadyH.nil)
  go_simp
  refine (mul_int W4.drew k1 k2 _ _ N1 N2 (by omega) (by omega) hN1 hN2).mono ?_
  rintro e W5 ⟨⟨r5, rfl, hr5⟩, hB5⟩
  obtain ⟨g5, A5, n5, c5, rfl⟩ := hr5.open
  have hS5 := hS.step (Nat.le_refl _) hB5
  refine hK.out _ _ hS5 (fun _ => ?_)
  clear hK K
  try simp only [Act.put, z]
  refine wpAnyH_ready (rs := [5]) (by kernel_rfl) (by simp) (AllReadyH.cons rfl (fun K hK => ?_) AllReadyH.nil)
  go_simp
  refine (mul_int W5 j1 j2 _ _ D1 D2 (by omega) (by omega) (hM1.at_ hB5) (hM2.at_ hB5)).mono ?_
  rintro e W6 ⟨⟨r6, rfl, hr6⟩, hB6⟩
  obtain ⟨g6, A6, n6, c6, rfl⟩ := hr6.open
  have hS6 := hS5.step (Nat.le_refl _) hB6
  refine hK.out _ _ hS6 (fun _ => ?_)
  clear hK K
  try simp only [Act.put, z]
  refine wpAnyH_take (i := 6) (v := .agg #[.bool g5, .slice A5 n5 c5, .bool g6, .slice A6 n6 c6]) rfl (by kernel_rfl) (by kernel_rfl) (by kernel_rfl) (fun _ _ _ h => h) (.inl ⟨by rfl, fun W' hS' => by go_simp⟩) hS6 ?_
  try simp only [Act.put, z]
  refine wpAnyH_ready (rs := [7]) (by kernel_rfl) (by simp) (AllReadyH.cons rfl (fun K hK => ?_) AllReadyH.nil)
  go_simp
  refine (reducedg_any W6 (k1 + k2) (j1 + j2) _ (N1 * N2) (D1 * D2) hk hj HD.out ⟨g5, A5, n5, c5, g6, A6, n6, c6, rfl, hr5.at_ hB6, hr6⟩).mono ?_
  rintro e W7 ⟨⟨r7, rfl, hr7⟩, hB7⟩
  obtain ⟨g7, A7, n7, c7, g8, A8, n8, c8, rfl⟩ := hr7.open
  have hS7 := hS6.step (Nat.le_refl _) hB7
  refine hK.out _ _ hS7 (fun _ => ?_)
  clear hK K
  try simp only [Act.put, z]
  have hz5 := hB5.size
  have hz6 := hB6.size
  have hz5' : W4.heap.size <= W5.heap.size := hz5
  have hd4 : W4.drew.heap[w.heap.size + 2]? = some (.cells #[.bool false, .slice none 0 0, .bool false, .slice none 0 0] 41 (0, 0)) := Hd4.out
  have hd7 := gbox (gbox (gbox hd4 hB5 (by show _ < W4.heap.size; omega)) hB6 (by omega)) hB7 (by omega)
  refine wpAnyH_ready (rs := [8]) (by kernel_rfl) (by simp) (AllReadyH.cons rfl (fun K hK => ?_) AllReadyH.nil)
  rw [if_pos (by rfl)]
  refine wp_store_row 41 _ _ none rfl rfl (w.heap.size + 2) 41 _ #[.bool g7, .slice A7 n7 c7, .bool g8, .slice A8 n8 c8] rfl rfl hd7 rfl ratSize (by simp [Value.oneCell']) ?_
  have hR8 := setRow_heap W7 (w.heap.size + 2) _ #[.bool g7, .slice A7 n7 c7, .bool g8, .slice A8 n8 c8] _ _ hd7
  have hS8 := hS7.store (w.heap.size + 2) (by omega) (by omega) (by omega) (by omega) (by omega) #[.bool g7, .slice A7 n7 c7, .bool g8, .slice A8 n8 c8]
  refine hK.out _ _ hS8 (fun _ => ?_)
  clear hK K
  try simp only [Act.put, z]
  refine wpAnyH_done (by kernel_rfl) ?_ _
  have hload := run_loadVar_row (P := Tryz.prog) _ _ _ 41 _ _ _ hR8 Tryz.underlying41 rfl ratSize
  have hp := (hr7.other (w' := W7.setRow (w.heap.size + 2) #[.bool g7, .slice A7 n7 c7, .bool g8, .slice A8 n8 c8]) hd7 zero_none (fun c hc => setRow_other _ _ _ _ hc)).more (C := (W7.setRow (w.heap.size + 2) #[.bool g7, .slice A7 n7 c7, .bool g8, .slice A8 n8 c8]).heap.size) (by simp) (Nat.le_refl _) (Nat.le_refl _)
  go_wp2
  exact bodyPost_ret (v := .agg #[.bool g7, .slice A7 n7 c7, .bool g8, .slice A8 n8 c8]) (by simp [results, Tryz.results12, asAddr, Act.put, hload]) rfl ⟨⟨_, rfl, hp⟩, hS8.1⟩
end
section
variable (w : World)
theorem cmp_rat (k1 j1 k2 j2 : Nat) (u v : Value) (N1 D1 N2 D2 : Int) (hk1 : k1 <= 100000) (hk2 : k2 <= 100000) (hj1 : j1 <= 100000) (hj2 : j2 <= 100000) (hD1 : D1 ≠ 0) (hD2 : D2 ≠ 0) (hu : RI w w.heap.size k1 j1 u N1 D1) (hv : RI w w.heap.size k2 j2 v N2 D2) :
    Calls Tryz.prog 11 #[u, v] w fun e w' => e = .returned (.int .i64 (cm (N1 * D2) (N2 * D1))) /\ Below w.heap.size w w' := by
  obtain ⟨g1, A1, n1, c1, g2, A2, n2, c2, rfl⟩ := hu.open
  obtain ⟨g3, A3, n3, c3, g4, A4, n4, c4, rfl⟩ := hv.open
  obtain ⟨hB0, hb0, hb1, hz⟩ := rows2 w #[.bool g1, .slice A1 n1 c1, .bool g2, .slice A2 n2 c2] #[.bool g3, .slice A3 n3 c3, .bool g4, .slice A4 n4 c4] 41
  obtain ⟨W1, hW1⟩ : ∃ W1, W1 = ((w.alloc (.cells #[.bool g1, .slice A1 n1 c1, .bool g2, .slice A2 n2 c2] 41)).alloc (.cells #[.bool g3, .slice A3 n3 c3, .bool g4, .slice A4 n4 c4] 41)) := ⟨_, rfl⟩
  rw [<- hW1] at hB0 hb0 hb1 hz
  have HW := Lib.hid hW1
  have Hz := Lib.hid hz
  have Hb1 := Lib.hid hb1
  have HD1 := Lib.hid hD1
  have HD2 := Lib.hid hD2
  have x0 := cell_of_row _ _ 0 _ _ _ hb0
  have x1 := cell_of_row _ _ 1 _ _ _ hb0
  have x2 := cell_of_row _ _ 2 _ _ _ hb0
  have x3 := cell_of_row _ _ 3 _ _ _ hb0
  simp at x0 x1 x2 x3
  have s1 : w.heap.size < W1.heap.size := by omega
  clear hW1 hz hb0 hb1 hD1 hD2
  go_enter Tryz.func11, Tryz.ntmps11
  go_upto_region 1 with (fail)
  rw [<- HW.out]
  go_wp2_with (fail)
  refine (parts_any W1 k1 j1 _ N1 D1 HD1.out (hu.at_ hB0)).mono ?_
  rintro e W2 ⟨⟨a1, B1, m1, d1, a2, B2, m2, d2, rfl, hp1, hp2⟩, hB2⟩
  have hsz2 := hB2.size
  have hq1 := Hz.out
  have hBw2 := hB0.trans (hB2.mono hB0.size)
  have Hc1 := Lib.hid (gbox Hb1.out hB2 (by omega))
  have s2 : w.heap.size + 1 < W2.heap.size := by omega
  obtain ⟨hBa, hra1, hra2, hza⟩ := rows2 W2 #[.bool a1, .slice B1 m1 d1] #[.bool a2, .slice B2 m2 d2] 39
  have hBwa := hBw2.trans (hBa.mono hBw2.size)
  obtain ⟨Wa, hWa⟩ : ∃ Wa, Wa = ((W2.alloc (.cells #[.bool a1, .slice B1 m1 d1] 39)).alloc (.cells #[.bool a2, .slice B2 m2 d2] 39)) := ⟨_, rfl⟩
  have hy := gbox Hc1.out hBa s2
  rw [<- hWa] at hBa hra1 hra2 hza hBwa hy
  have Hra1 := Lib.hid hra1
  have Hra2 := Lib.hid hra2
  have Hza := Lib.hid hza
  have HWa := Lib.hid hWa
  have y0 := cell_of_row _ _ 0 _ _ _ hy
  have y1 := cell_of_row _ _ 1 _ _ _ hy
  have y2 := cell_of_row _ _ 2 _ _ _ hy
  have y3 := cell_of_row _ _ 3 _ _ _ hy
  simp at y0 y1 y2 y3
  have s4 : w.heap.size + 1 < Wa.heap.size := by omega
  clear x0 x1 x2 x3 hra1 hra2 hza hWa hy
  go_upto_region 2 with (fail)
  rw [<- HWa.out]
  go_wp2_with (fail)
  refine (parts_any Wa k2 j2 _ N2 D2 HD2.out (hv.at_ hBwa)).mono ?_
  rintro e W3 ⟨⟨a3, B3, m3, d3, a4, B4, m4, d4, rfl, hp3, hp4⟩, hB3⟩
  have hza := Hza.out
  have hsz3 := hB3.size
  have hBw3 := hBwa.trans (hB3.mono hBwa.size)
  have hr1 := gbox Hra1.out hB3 (by omega)
  have hr2 := gbox Hra2.out hB3 (by omega)
  obtain ⟨hBb, hrb1, hrb2, hzb⟩ := rows2 W3 #[.bool a3, .slice B3 m3 d3] #[.bool a4, .slice B4 m4 d4] 39
  have hBw4 := hBw3.trans (hBb.mono hBw3.size)
  have hq4 := gbox hr1 hBb (by omega)
  have hq5 := gbox hr2 hBb (by omega)
  have hB24 := (hBa.trans (hB3.mono (by omega))).trans (hBb.mono (by omega))
  obtain ⟨W4, hW4⟩ : ∃ W4, W4 = ((W3.alloc (.cells #[.bool a3, .slice B3 m3 d3] 39)).alloc (.cells #[.bool a4, .slice B4 m4 d4] 39)) := ⟨_, rfl⟩
  rw [<- hW4] at hBb hrb1 hrb2 hzb hBw4 hq4 hq5 hB24
  have hS0 : RegM w w.heap.size W2.heap.size (W2.heap.size + 1) W3.heap.size (W3.heap.size + 1) #[.bool a1, .slice B1 m1 d1] #[.bool a2, .slice B2 m2 d2] #[.bool a3, .slice B3 m3 d3] #[.bool a4, .slice B4 m4 d4] W4 := ⟨hBw4, hq4, hq5, hrb1, hrb2⟩
  have hS := hS0.drew
  have HW4 := Lib.hid hW4
  have hN1 := hp1.at_ (below_drawn hB24 1)
  have hM1 := hp2.at_ (below_drawn hB24 1)
  have hN2 := hp3.at_ (below_drawn hBb 1)
  have hM2 := hp4.at_ (below_drawn hBb 1)
  clear hW4 hrb1 hrb2 hq4 hq5 hr1 hr2 y0 y1 y2 y3
  go_upto_region 3 with (fail)
  rw [<- HW4.out]
  refine wp_region_held (S := RegM w w.heap.size W2.heap.size (W2.heap.size + 1) W3.heap.size (W3.heap.size + 1) #[.bool a1, .slice B1 m1 d1] #[.bool a2, .slice B2 m2 d2] #[.bool a3, .slice B3 m3 d3] #[.bool a4, .slice B4 m4 d4]) (by kernel_rfl) ?_
  change wpAnyH _ _ _ _ _ _ _ _ (World.drew _)
  refine wpAnyH_take (i := 0) (v := .agg #[.bool a1, .slice B1 m1 d1]) rfl (by kernel_rfl) (by kernel_rfl) (by kernel_rfl) (fun _ _ _ h => h) (yieldsIf_load_mid (by rfl) 39 _ rfl W2.heap.size 0 rfl [.bool a1, .slice B1 m1 d1] _ (fun W' hS' => range2 hS'.2.1) Tryz.underlying39 rfl intSize) hS ?_
  try simp only [Act.put, z]
  refine wpAnyH_take (i := 1) (v := .agg #[.bool a4, .slice B4 m4 d4]) rfl (by kernel_rfl) (by kernel_rfl) (by kernel_rfl) (fun _ _ _ h => h) (yieldsIf_load_mid (by rfl) 39 _ rfl (W3.heap.size + 1) 0 rfl [.bool a4, .slice B4 m4 d4] _ (fun W' hS' => range2 hS'.2.2.2.2) Tryz.underlying39 rfl intSize) hS ?_
  try simp only [Act.put, z]
  refine wpAnyH_take (i := 3) (v := .agg #[.bool a3, .slice B3 m3 d3]) rfl (by kernel_rfl) (by kernel_rfl) (by kernel_rfl) (fun _ _ _ h => h) (yieldsIf_load_mid (by rfl) 39 _ rfl W3.heap.size 0 rfl [.bool a3, .slice B3 m3 d3] _ (fun W' hS' => range2 hS'.2.2.2.1) Tryz.underlying39 rfl intSize) hS ?_
  try simp only [Act.put, z]
  refine wpAnyH_take (i := 4) (v := .agg #[.bool a2, .slice B2 m2 d2]) rfl (by kernel_rfl) (by kernel_rfl) (by kernel_rfl) (fun _ _ _ h => h) (yieldsIf_load_mid (by rfl) 39 _ rfl (W2.heap.size + 1) 0 rfl [.bool a2, .slice B2 m2 d2] _ (fun W' hS' => range2 hS'.2.2.1) Tryz.underlying39 rfl intSize) hS ?_
  try simp only [Act.put, z]
  refine wpAnyH_ready (rs := [2]) (by kernel_rfl) (by simp) (AllReadyH.cons rfl (fun K hK => ?_) AllReadyH.nil)
  go_simp
  refine (mul_int W4.drew k1 j2 _ _ N1 D2 (by omega) (by omega) hN1 hM2).mono ?_
  rintro e W5 ⟨⟨r5, rfl, hr5⟩, hB5⟩
  have hS5 := hS.step (Nat.le_refl _) hB5
  refine hK.out _ _ hS5 (fun _ => ?_)
  clear hK K
  try simp only [Act.put, z]
  refine wpAnyH_ready (rs := [5]) (by kernel_rfl) (by simp) (AllReadyH.cons rfl (fun K hK => ?_) AllReadyH.nil)
  go_simp
  refine (mul_int W5 k2 j1 _ _ N2 D1 (by omega) (by omega) (hN2.at_ hB5) (hM1.at_ hB5)).mono ?_
  rintro e W6 ⟨⟨r6, rfl, hr6⟩, hB6⟩
  have hS6 := hS5.step (Nat.le_refl _) hB6
  refine hK.out _ _ hS6 (fun _ => ?_)
  clear hK K
  try simp only [Act.put, z]
  refine wpAnyH_ready (rs := [6]) (by kernel_rfl) (by simp) (AllReadyH.cons rfl (fun K hK => ?_) AllReadyH.nil)
  go_simp
  refine (cmp_int W6 (k1 + j2) (k2 + j1) _ _ (N1 * D2) (N2 * D1) (by omega) (by omega) (hr5.at_ hB6) hr6).mono ?_
  rintro e W7 ⟨rfl, hB7⟩
  have hS7 := hS6.step (Nat.le_refl _) hB7
  refine hK.out _ _ hS7 (fun _ => ?_)
  clear hK K
  try simp only [Act.put, z]
  refine wpAnyH_ready (rs := [7]) (by kernel_rfl) (by simp) (AllReadyH.cons rfl (fun K hK => ?_) AllReadyH.nil)
  go_simp
  refine hK.out _ _ hS7 (fun _ => ?_)
  clear hK K
  try simp only [Act.put, z]
  refine wpAnyH_done (by kernel_rfl) ?_ _
  try simp only [Act.put, z]
  go_wp2
  go_ret
  exact ⟨rfl, hS7.1⟩
end
theorem Rates.crossE_zero {g : ByteArray} {rs : List Rt} {cu cv : ByteArray} {d : Int} (h : Rates.crossE g rs cu cv d = 0) : Rates.errQ2 g rs cu cv d = 0 /\ (Rates.whichR g rs cu d).2 = 0 /\ (Rates.whichR g rs cv d).2 = 0 := by
  rcases Rates.crossE_cases g rs cu cv d with ⟨_, e⟩ | ⟨_, e⟩ | ⟨_, _, e⟩ | ⟨_, _, _, e⟩ | ⟨h0, h1, h2, _⟩
  · omega
  · omega
  · omega
  · omega
  · exact ⟨h0, h1, h2⟩
theorem Rates.errQ2_zero {g : ByteArray} {rs : List Rt} {cu cv : ByteArray} {d : Int} (h : Rates.errQ2 g rs cu cv d = 0) : Rates.valid g rs = true /\ Rates.isCur cu = true /\ Rates.isCur cv = true /\ Rates.dateB d = true := by
  unfold Rates.errQ2 at h
  split at h
  · rename_i h1
    split at h
    · rename_i h2
      simp_all
    · omega
  · omega
theorem Rates.crossE_of {g : ByteArray} {rs : List Rt} {cu cv : ByteArray} {d : Int} (h1 : Rates.valid g rs = true) (h2 : Rates.isCur cu = true) (h3 : Rates.isCur cv = true) (h4 : Rates.dateB d = true) (h5 : (Rates.whichR g rs cu d).2 = 0) (h6 : (Rates.whichR g rs cv d).2 = 0) : Rates.crossE g rs cu cv d = 0 := by
  have e : Rates.errQ2 g rs cu cv d = 0 := by unfold Rates.errQ2; simp [h1, h2, h3, h4]
  unfold Rates.crossE
  rw [if_pos e, if_pos ⟨h5, h6⟩]
theorem Rates.crossE_chain {g : ByteArray} {rs : List Rt} {a b c : ByteArray} {d : Int} (h1 : Rates.crossE g rs a b d = 0) (h2 : Rates.crossE g rs b c d = 0) : Rates.crossE g rs a c d = 0 /\ Rates.crossE g rs b a d = 0 /\ Rates.crossE g rs a a d = 0 := by
  obtain ⟨e1, wa, wb⟩ := Rates.crossE_zero h1
  obtain ⟨e2, _, wc⟩ := Rates.crossE_zero h2
  obtain ⟨hv, ca, cb, hd⟩ := Rates.errQ2_zero e1
  obtain ⟨_, _, cc, _⟩ := Rates.errQ2_zero e2
  exact ⟨Rates.crossE_of hv ca cc hd wa wc, Rates.crossE_of hv cb ca hd wb wa, Rates.crossE_of hv ca ca hd wa wa⟩
theorem low_terms {a b : Int} (ha : 0 < a) (hb : 0 < b) : ∃ G : Int, 0 < G /\ a = G * Int.tdiv a (Int.gcd a b) /\ b = G * Int.tdiv b (Int.gcd a b) /\ 0 < Int.tdiv a (Int.gcd a b) /\ 0 < Int.tdiv b (Int.gcd a b) := by
  have hg : (0 : Int) < (Int.gcd a b : Int) := by have := Int.gcd_pos_of_ne_zero_left b (show a ≠ 0 by omega); omega
  obtain ⟨p, hp⟩ := Int.gcd_dvd_left a b
  obtain ⟨q, hq⟩ := Int.gcd_dvd_right a b
  obtain ⟨G, hG⟩ : ∃ G, G = (Int.gcd a b : Int) := ⟨_, rfl⟩
  rw [<- hG] at hp hq hg ⊢
  have e1 : Int.tdiv a G = p := by rw [hp, Int.mul_tdiv_cancel_left _ (by omega)]
  have e2 : Int.tdiv b G = q := by rw [hq, Int.mul_tdiv_cancel_left _ (by omega)]
  rw [e1, e2]
  refine ⟨G, hg, hp, hq, ?_, ?_⟩
  · rcases Int.lt_or_le 0 p with h | h
    · exact h
    · have := Int.mul_le_mul_of_nonneg_left h (Int.le_of_lt hg); omega
  · rcases Int.lt_or_le 0 q with h | h
    · exact h
    · have := Int.mul_le_mul_of_nonneg_left h (Int.le_of_lt hg); omega
theorem cm_self (x : Int) : cm x x = 0 := by unfold cm; simp
theorem chain_cm {a b c : Int} (ha : 0 < a) (hb : 0 < b) (hc : 0 < c) {N D : Int} (hN : N = Int.tdiv a (Int.gcd a b) * Int.tdiv b (Int.gcd b c)) (hD : D = Int.tdiv b (Int.gcd a b) * Int.tdiv c (Int.gcd b c)) :
    0 < N /\ 0 < D /\ Int.tdiv D (redBy N D) ≠ 0 /\ cm (Int.tdiv N (redBy N D) * Int.tdiv c (Int.gcd a c)) (Int.tdiv a (Int.gcd a c) * Int.tdiv D (redBy N D)) = 0 := by
  obtain ⟨G1, g1, a1, b1, p1, q1⟩ := low_terms ha hb
  obtain ⟨G2, g2, b2, c2, p2, q2⟩ := low_terms hb hc
  obtain ⟨G3, g3, a3, c3, p3, q3⟩ := low_terms ha hc
  generalize Int.tdiv a (Int.gcd a b) = P1 at *
  generalize Int.tdiv b (Int.gcd a b) = Q1 at *
  generalize Int.tdiv b (Int.gcd b c) = P2 at *
  generalize Int.tdiv c (Int.gcd b c) = Q2 at *
  generalize Int.tdiv a (Int.gcd a c) = P3 at *
  generalize Int.tdiv c (Int.gcd a c) = Q3 at *
  have hN0 : 0 < N := by rw [hN]; exact Int.mul_pos p1 p2
  have hD0 : 0 < D := by rw [hD]; exact Int.mul_pos q1 q2
  obtain ⟨R, r0, n1, d1, p4, q4⟩ := low_terms hN0 hD0
  rw [redBy_pos hD0]
  refine ⟨hN0, hD0, by omega, ?_⟩
  generalize Int.tdiv N (Int.gcd N D) = P4 at *
  generalize Int.tdiv D (Int.gcd N D) = Q4 at *
  have key : P4 * Q3 = P3 * Q4 := by
    have h1 : G1 * G2 * (G3 * R) * (P4 * Q3) = G1 * G2 * (G3 * R) * (P3 * Q4) := by
      have l : G1 * G2 * (G3 * R) * (P4 * Q3) = a * b * c := by
        calc G1 * G2 * (G3 * R) * (P4 * Q3) = G1 * G2 * (R * P4) * (G3 * Q3) := by ac_rfl
          _ = G1 * G2 * N * c := by rw [<- n1, <- c3]
          _ = (G1 * P1) * (G2 * P2) * c := by rw [hN]; ac_rfl
          _ = a * b * c := by rw [<- a1, <- b2]
      have r : G1 * G2 * (G3 * R) * (P3 * Q4) = a * b * c := by
        calc G1 * G2 * (G3 * R) * (P3 * Q4) = G1 * G2 * (R * Q4) * (G3 * P3) := by ac_rfl
          _ = G1 * G2 * D * a := by rw [<- d1, <- a3]
          _ = a * (G1 * Q1) * (G2 * Q2) := by rw [hD]; ac_rfl
          _ = a * b * c := by rw [<- b1, <- c2]
      rw [l, r]
    exact Int.eq_of_mul_eq_mul_left (Int.ne_of_gt (Int.mul_pos (Int.mul_pos g1 g2) (Int.mul_pos g3 r0))) h1
  rw [key, cm_self]
theorem back_one {a b : Int} (ha : 0 < a) (hb : 0 < b) {N D : Int} (hN : N = Int.tdiv a (Int.gcd a b) * Int.tdiv b (Int.gcd b a)) (hD : D = Int.tdiv b (Int.gcd a b) * Int.tdiv a (Int.gcd b a)) :
    Int.tdiv N (redBy N D) = 1 /\ Int.tdiv D (redBy N D) = 1 := by
  obtain ⟨G1, g1, a1, b1, p1, q1⟩ := low_terms ha hb
  rw [Int.gcd_comm b a] at hN hD
  have e : N = D := by rw [hN, hD]; exact Int.mul_comm _ _
  have hD0 : 0 < D := by rw [hD]; exact Int.mul_pos q1 p1
  rw [redBy_pos hD0, e, Int.gcd_self]
  have : ((D.natAbs : Nat) : Int) = D := by omega
  rw [this]
  exact ⟨Int.tdiv_self (by omega), Int.tdiv_self (by omega)⟩
theorem own_one {a : Int} (ha : 0 < a) : Int.tdiv a (Int.gcd a a) = 1 := by
  rw [Int.gcd_self]
  have : ((a.natAbs : Nat) : Int) = a := by omega
  rw [this]
  exact Int.tdiv_self (by omega)
section
variable (w : World)
theorem text_one (k j : Nat) (v : Value) (N D : Int) (hk : k <= 900) (hj : j <= 900) (hN : N = 1) (hD : D = 1) (h : RI w w.heap.size k j v N D) (hT : Tab w.heap.size w) :
    Calls Tryz.prog 9 #[v] w fun e w' => e = .returned (.string ⟨#[49]⟩) /\ Below w.heap.size w w' := by
  subst hN hD
  refine (textq_any w k j v 1 1 hk hj (by omega) (by omega) h hT).mono ?_
  rintro e w' ⟨rfl, hB⟩
  refine ⟨?_, hB⟩
  have : Dec.frac (1 : Int).toNat (1 : Int).toNat = [49] := by
    show Dec.frac 1 1 = [49]
    unfold Dec.frac
    rw [if_pos rfl, Dec.digits_small (by omega)]
    rfl
  rw [this]
end
theorem CrossPost.rat {a b er : Int} {w w' : World} {e : Ending} (h : CrossPost a b er w e w') : Below w.heap.size w w' /\ ∃ g1 A1 n1 c1 g2 A2 n2 c2, e = .returned (.tuple #[.agg #[.bool g1, .slice A1 n1 c1, .bool g2, .slice A2 n2 c2], .int .i64 er]) /\
    (er = 0 -> RI w' w'.heap.size 3 3 (.agg #[.bool g1, .slice A1 n1 c1, .bool g2, .slice A2 n2 c2]) (Int.tdiv a (Int.gcd a b)) (Int.tdiv b (Int.gcd a b))) := by
  obtain ⟨h1, r, h2, h3⟩ := h
  refine ⟨h1, ?_⟩
  rcases h3 with ⟨h4, rfl⟩ | ⟨rfl, h4⟩
  · exact ⟨false, none, 0, 0, false, none, 0, 0, h2, fun h => absurd h h4⟩
  · obtain ⟨g1, A1, n1, c1, g2, A2, n2, c2, rfl⟩ := h4.open
    exact ⟨g1, A1, n1, c1, g2, A2, n2, c2, h2, fun _ => h4⟩
end Go.Proofs.YtalfikdjclineaaGreatDoor
