/- My texts RefCmpQ. -/
import Derived.Test.YtccapfbblnnfjaaGreatG15
import Derived.Test.YtccapfbblnnfjaaGreatG18
import Derived.Test.YtccapfbblnnfjaaGreatG30
set_option linter.unusedVariables false
set_option linter.unusedSimpArgs false
set_option maxRecDepth 100000
set_option maxHeartbeats 8000000
namespace Go.Proofs.YtccapfbblnnfjaaGreat
namespace R1
open Go.RowKit
theorem range4a {w : World} {b : Nat} {x0 x1 x2 x3 : Value} {t : TypeId} {fr : Nat × Nat} (h : w.heap[b]? = some (.cells #[x0, x1, x2, x3] t fr)) : w.rangeAt b 0 [x0, x1] := by
 intro j v hj
 rw [cell_of_row _ _ _ _ _ _ h]
 match j with
 | 0 => simpa using hj
 | 1 => simpa using hj
 | j + 2 => simp at hj
theorem range4b {w : World} {b : Nat} {x0 x1 x2 x3 : Value} {t : TypeId} {fr : Nat × Nat} (h : w.heap[b]? = some (.cells #[x0, x1, x2, x3] t fr)) : w.rangeAt b 2 [x2, x3] := by
 intro j v hj
 rw [cell_of_row _ _ _ _ _ _ h]
 match j with
 | 0 => simpa using hj
 | 1 => simpa using hj
 | j + 2 => simp at hj
theorem zero_four : ∀ (j : Nat) (n : Int), (#[.bool false, .slice none 0 0, .bool false, .slice none 0 0] : Array Value)[j]? ≠ some (.int .i64 n) := no_int4 _ _ _ _ _ _ _ _
section
variable (w : World)
theorem add_rat (k1 j1 k2 j2 : Nat) (u v : Value) (N1 D1 N2 D2 : Int) (hk : k1 + j2 <= 100000) (hk2 : k2 + j1 <= 100000) (hj : j1 + j2 <= 100000) (hD1 : 0 < D1) (hD2 : 0 < D2) (hu : RI w w.heap.size k1 j1 u N1 D1) (hv : RI w w.heap.size k2 j2 v N2 D2) :
  Calls Tryz.prog 94 #[u, v] w fun e w' => (∃ r, e = .returned r /\ RI w' w'.heap.size (max (k1 + j2) (k2 + j1) + 1) (j1 + j2) r (Int.tdiv (N1 * D2 + N2 * D1) (Int.gcd (N1 * D2 + N2 * D1) (D1 * D2))) (Int.tdiv (D1 * D2) (Int.gcd (N1 * D2 + N2 * D1) (D1 * D2)))) /\ Below w.heap.size w w' := by
 obtain ⟨g1, A1, n1, c1, g2, A2, n2, c2, rfl⟩ := hu.open
 obtain ⟨g3, A3, n3, c3, g4, A4, n4, c4, rfl⟩ := hv.open
 obtain ⟨hB0, hb0, hb1, hb2, hz⟩ := rows3 w #[.bool g1, .slice A1 n1 c1, .bool g2, .slice A2 n2 c2] #[.bool g3, .slice A3 n3 c3, .bool g4, .slice A4 n4 c4] #[.bool false, .slice none 0 0, .bool false, .slice none 0 0] 59
 obtain ⟨W1, hW1⟩ : ∃ W1, W1 = (((w.alloc (.cells #[.bool g1, .slice A1 n1 c1, .bool g2, .slice A2 n2 c2] 59)).alloc (.cells #[.bool g3, .slice A3 n3 c3, .bool g4, .slice A4 n4 c4] 59)).alloc (.cells #[.bool false, .slice none 0 0, .bool false, .slice none 0 0] 59)) := ⟨_, rfl⟩
 rw [<- hW1] at hB0 hb0 hb1 hb2 hz
 have HW := Lib.hid hW1
 have Hz := Lib.hid hz
 have Hb1 := Lib.hid hb1
 have Hb2 := Lib.hid hb2
 have HD : Hid (0 < D1 * D2) := by show _ < _; exact Int.mul_pos hD1 hD2
 have HD1 := Lib.hid (show D1 ≠ 0 by omega)
 have HD2 := Lib.hid (show D2 ≠ 0 by omega)
 have x0 := cell_of_row _ _ 0 _ _ _ hb0
 have x1 := cell_of_row _ _ 1 _ _ _ hb0
 have x2 := cell_of_row _ _ 2 _ _ _ hb0
 have x3 := cell_of_row _ _ 3 _ _ _ hb0
 simp at x0 x1 x2 x3
 have s1 : w.heap.size < W1.heap.size := by omega
 clear hW1 hz hb0 hb1 hb2 hD1 hD2
 go_enter Tryz.func94, Tryz.ntmps94
 go_upto_region 1 with (fail)
 rw [<- HW.out]
 go_wp2_with (fail)
 refine (parts_any W1 k1 j1 _ N1 D1 HD1.out (hu.at_ hB0)).mono ?_
 rintro e W2 ⟨⟨a1, B1, m1, d1, a2, B2, m2, d2, rfl, hp1, hp2⟩, hB2⟩
 have hsz2 := hB2.size
 have hq1 := Hz.out
 have hBw2 := hB0.trans (hB2.mono hB0.size)
 have Hc1 := Lib.hid (gbox Hb1.out hB2 (by omega))
 have Hc2 := Lib.hid (gbox Hb2.out hB2 (by omega))
 have s2 : w.heap.size + 1 < W2.heap.size := by omega
 have s3 : w.heap.size + 2 < W2.heap.size := by omega
 obtain ⟨hBa, hra1, hra2, hza⟩ := rows2 W2 #[.bool a1, .slice B1 m1 d1] #[.bool a2, .slice B2 m2 d2] 57
 have hBwa := hBw2.trans (hBa.mono hBw2.size)
 obtain ⟨Wa, hWa⟩ : ∃ Wa, Wa = ((W2.alloc (.cells #[.bool a1, .slice B1 m1 d1] 57)).alloc (.cells #[.bool a2, .slice B2 m2 d2] 57)) := ⟨_, rfl⟩
 have hy := gbox Hc1.out hBa s2
 rw [<- hWa] at hBa hra1 hra2 hza hBwa hy
 have Hra1 := Lib.hid hra1
 have Hra2 := Lib.hid hra2
 have Hza := Lib.hid hza
 have HWa := Lib.hid hWa
 have y0 := cell_of_row _ _ 0 _ _ _ hy
 have y1 := cell_of_row _ _ 1 _ _ _ hy
 have y2 := cell_of_row _ _ 2 _ _ _ hy
 have y3 := cell_of_row _ _ 3 _ _ _ hy
 simp at y0 y1 y2 y3
 have s4 : w.heap.size + 1 < Wa.heap.size := by omega
 clear x0 x1 x2 x3 hra1 hra2 hza hWa hy
 go_upto_region 2 with (fail)
 rw [<- HWa.out]
 go_wp2_with (fail)
 refine (parts_any Wa k2 j2 _ N2 D2 HD2.out (hv.at_ hBwa)).mono ?_
 rintro e W3 ⟨⟨a3, B3, m3, d3, a4, B4, m4, d4, rfl, hp3, hp4⟩, hB3⟩
 have hza := Hza.out
 have hsz3 := hB3.size
 have hBw3 := hBwa.trans (hB3.mono hBwa.size)
 have hr1 := gbox Hra1.out hB3 (by omega)
 have hr2 := gbox Hra2.out hB3 (by omega)
 have hd3 := gbox (gbox Hc2.out hBa s3) hB3 (by omega)
 obtain ⟨hBb, hrb1, hrb2, hzb⟩ := rows2 W3 #[.bool a3, .slice B3 m3 d3] #[.bool a4, .slice B4 m4 d4] 57
 have hBw4 := hBw3.trans (hBb.mono hBw3.size)
 have hq4 := gbox hr1 hBb (by omega)
 have hq5 := gbox hr2 hBb (by omega)
 have hd4 := gbox hd3 hBb (by omega)
 have hB24 := (hBa.trans (hB3.mono (by omega))).trans (hBb.mono (by omega))
 obtain ⟨W4, hW4⟩ : ∃ W4, W4 = ((W3.alloc (.cells #[.bool a3, .slice B3 m3 d3] 57)).alloc (.cells #[.bool a4, .slice B4 m4 d4] 57)) := ⟨_, rfl⟩
 rw [<- hW4] at hBb hrb1 hrb2 hzb hBw4 hq4 hq5 hd4 hB24
 have hS0 : RegM w w.heap.size W2.heap.size (W2.heap.size + 1) W3.heap.size (W3.heap.size + 1) #[.bool a1, .slice B1 m1 d1] #[.bool a2, .slice B2 m2 d2] #[.bool a3, .slice B3 m3 d3] #[.bool a4, .slice B4 m4 d4] W4 := ⟨hBw4, hq4, hq5, hrb1, hrb2⟩
 have hS := hS0.drew
 have HW4 := Lib.hid hW4
 have Hd4 := Lib.hid hd4
 have hN1 := hp1.at_ (below_drawn hB24 1)
 have hM1 := hp2.at_ (below_drawn hB24 1)
 have hN2 := hp3.at_ (below_drawn hBb 1)
 have hM2 := hp4.at_ (below_drawn hBb 1)
 clear hW4 hd4 hrb1 hrb2 hq4 hq5 hr1 hr2 hd3 y0 y1 y2 y3
 go_upto_region 3 with (fail)
 rw [<- HW4.out]
 refine wp_region_held (S := RegM w w.heap.size W2.heap.size (W2.heap.size + 1) W3.heap.size (W3.heap.size + 1) #[.bool a1, .slice B1 m1 d1] #[.bool a2, .slice B2 m2 d2] #[.bool a3, .slice B3 m3 d3] #[.bool a4, .slice B4 m4 d4]) (by kernel_rfl) ?_
 change wpAnyH _ _ _ _ _ _ _ _ (World.drew _)
 refine tk (i := 0) (v := .agg #[.bool a1, .slice B1 m1 d1]) rfl (by kernel_rfl) (fun _ _ _ h => h) (yieldsIf_load_mid (by rfl) 57 _ rfl W2.heap.size 0 rfl [.bool a1, .slice B1 m1 d1] _ (fun W' hS' => range2 hS'.2.1) Tryz.underlying57 rfl intSize) hS ?_
 try simp only [z]
 refine tk (i := 1) (v := .agg #[.bool a4, .slice B4 m4 d4]) rfl (by kernel_rfl) (fun _ _ _ h => h) (yieldsIf_load_mid (by rfl) 57 _ rfl (W3.heap.size + 1) 0 rfl [.bool a4, .slice B4 m4 d4] _ (fun W' hS' => range2 hS'.2.2.2.2) Tryz.underlying57 rfl intSize) hS ?_
 try simp only [z]
 refine tk (i := 3) (v := .agg #[.bool a3, .slice B3 m3 d3]) rfl (by kernel_rfl) (fun _ _ _ h => h) (yieldsIf_load_mid (by rfl) 57 _ rfl W3.heap.size 0 rfl [.bool a3, .slice B3 m3 d3] _ (fun W' hS' => range2 hS'.2.2.2.1) Tryz.underlying57 rfl intSize) hS ?_
 try simp only [z]
 refine tk (i := 4) (v := .agg #[.bool a2, .slice B2 m2 d2]) rfl (by kernel_rfl) (fun _ _ _ h => h) (yieldsIf_load_mid (by rfl) 57 _ rfl (W2.heap.size + 1) 0 rfl [.bool a2, .slice B2 m2 d2] _ (fun W' hS' => range2 hS'.2.2.1) Tryz.underlying57 rfl intSize) hS ?_
 try simp only [z]
 refine tk (i := 7) (v := .agg #[.bool a2, .slice B2 m2 d2]) rfl (by kernel_rfl) (fun _ _ _ h => h) (yieldsIf_load_mid (by rfl) 57 _ rfl (W2.heap.size + 1) 0 rfl [.bool a2, .slice B2 m2 d2] _ (fun W' hS' => range2 hS'.2.2.1) Tryz.underlying57 rfl intSize) hS ?_
 try simp only [z]
 refine tk (i := 8) (v := .agg #[.bool a4, .slice B4 m4 d4]) rfl (by kernel_rfl) (fun _ _ _ h => h) (yieldsIf_load_mid (by rfl) 57 _ rfl (W3.heap.size + 1) 0 rfl [.bool a4, .slice B4 m4 d4] _ (fun W' hS' => range2 hS'.2.2.2.2) Tryz.underlying57 rfl intSize) hS ?_
 try simp only [z]
 refine wpAnyH_ready (rs := [2]) (by kernel_rfl) (by simp) (AllReadyH.cons rfl (fun K hK => ?_) AllReadyH.nil)
 go_simp
 refine (mul_int W4.drew k1 j2 _ _ N1 D2 (by omega) (by omega) hN1 hM2).mono ?_
 rintro e V5 ⟨⟨r5, rfl, hr5⟩, hB5⟩
 obtain ⟨g5, A5, n5, c5, rfl⟩ := hr5.open
 have hS5 := hS.step (Nat.le_refl _) hB5
 have hZ5 := hB5
 refine hK.out _ _ hS5 (fun _ => ?_)
 clear hK K
 try simp only [z]
 refine wpAnyH_ready (rs := [5]) (by kernel_rfl) (by simp) (AllReadyH.cons rfl (fun K hK => ?_) AllReadyH.nil)
 go_simp
 refine (mul_int V5 k2 j1 _ _ N2 D1 (by omega) (by omega) (hN2.at_ hZ5) (hM1.at_ hZ5)).mono ?_
 rintro e V6 ⟨⟨r6, rfl, hr6⟩, hB6⟩
 obtain ⟨g6, A6, n6, c6, rfl⟩ := hr6.open
 have hS6 := hS5.step (Nat.le_refl _) hB6
 have hZ6 := hZ5.trans (hB6.mono hZ5.size)
 refine hK.out _ _ hS6 (fun _ => ?_)
 clear hK K
 try simp only [z]
 refine wpAnyH_ready (rs := [6]) (by kernel_rfl) (by simp) (AllReadyH.cons rfl (fun K hK => ?_) AllReadyH.nil)
 go_simp
 refine (add_int V6 (k1 + j2) (k2 + j1) _ _ (N1 * D2) (N2 * D1) (by omega) (by omega) (hr5.at_ hB6) hr6).mono ?_
 rintro e V7 ⟨⟨r7, rfl, hr7⟩, hB7⟩
 obtain ⟨g7, A7, n7, c7, rfl⟩ := hr7.open
 have hS7 := hS6.step (Nat.le_refl _) hB7
 have hZ7 := hZ6.trans (hB7.mono hZ6.size)
 refine hK.out _ _ hS7 (fun _ => ?_)
 clear hK K
 try simp only [z]
 refine wpAnyH_ready (rs := [9]) (by kernel_rfl) (by simp) (AllReadyH.cons rfl (fun K hK => ?_) AllReadyH.nil)
 go_simp
 refine (mul_int V7 j1 j2 _ _ D1 D2 (by omega) (by omega) (hM1.at_ hZ7) (hM2.at_ hZ7)).mono ?_
 rintro e V8 ⟨⟨r8, rfl, hr8⟩, hB8⟩
 obtain ⟨g8, A8, n8, c8, rfl⟩ := hr8.open
 have hS8 := hS7.step (Nat.le_refl _) hB8
 have hZ8 := hZ7.trans (hB8.mono hZ7.size)
 refine hK.out _ _ hS8 (fun _ => ?_)
 clear hK K
 try simp only [z]
 refine wpAnyH_ready (rs := [10]) (by kernel_rfl) (by simp) (AllReadyH.cons rfl (fun K hK => ?_) AllReadyH.nil)
 go_simp
 refine (quotient_any V8 (max (k1 + j2) (k2 + j1) + 1) (j1 + j2) _ _ (N1 * D2 + N2 * D1) (D1 * D2) (by omega) (by omega) HD.out (hr7.at_ hB8) hr8).mono ?_
 rintro e V9 ⟨⟨r9, rfl, hr9⟩, hB9⟩
 obtain ⟨g7, A7, n7, c7, g8, A8, n8, c8, rfl⟩ := hr9.open
 have hS9 := hS8.step (Nat.le_refl _) hB9
 have hZ9 := hZ8.trans (hB9.mono hZ8.size)
 refine hK.out _ _ hS9 (fun _ => ?_)
 clear hK K
 try simp only [z]
 have hd4 : W4.drew.heap[w.heap.size + 2]? = some (.cells #[.bool false, .slice none 0 0, .bool false, .slice none 0 0] 59 (0, 0)) := Hd4.out
 have hz9 := hZ9.size
 have hz9' : W4.heap.size <= V9.heap.size := hz9
 have hd7 := gbox hd4 hZ9 (by show _ < W4.heap.size; omega)
 refine wpAnyH_ready (rs := [11]) (by kernel_rfl) (by simp) (AllReadyH.cons rfl (fun K hK => ?_) AllReadyH.nil)
 rw [if_pos (by rfl)]
 refine wp_store_row 59 _ _ none rfl rfl (w.heap.size + 2) 59 _ #[.bool g7, .slice A7 n7 c7, .bool g8, .slice A8 n8 c8] rfl rfl hd7 rfl ratSize (by simp [Value.oneCell']) ?_
 have hR8 := setRow_heap V9 (w.heap.size + 2) _ #[.bool g7, .slice A7 n7 c7, .bool g8, .slice A8 n8 c8] _ _ hd7
 have hS8 := hS9.store (w.heap.size + 2) (by omega) (by omega) (by omega) (by omega) (by omega) #[.bool g7, .slice A7 n7 c7, .bool g8, .slice A8 n8 c8]
 refine hK.out _ _ hS8 (fun _ => ?_)
 clear hK K
 try simp only [z]
 refine wpAnyH_done (by kernel_rfl) ?_ _
 have hload := run_loadVar_row (P := Tryz.prog) _ _ _ 59 _ _ _ hR8 Tryz.underlying59 rfl ratSize
 have hp := (hr9.other (w' := V9.setRow (w.heap.size + 2) #[.bool g7, .slice A7 n7 c7, .bool g8, .slice A8 n8 c8]) hd7 (no_int4 _ _ _ _ _ _ _ _) (fun c hc => setRow_other _ _ _ _ hc)).more (C := (V9.setRow (w.heap.size + 2) #[.bool g7, .slice A7 n7 c7, .bool g8, .slice A8 n8 c8]).heap.size) (by simp) (Nat.le_refl _) (Nat.le_refl _)
 go_wp2
 exact bodyPost_ret (v := .agg #[.bool g7, .slice A7 n7 c7, .bool g8, .slice A8 n8 c8]) (by simp [results, Tryz.results94, asAddr, Act.put, hload]) rfl ⟨⟨_, rfl, hp⟩, hS8.1⟩
theorem neg_rat (k j : Nat) (v : Value) (N D : Int) (hk : k <= 1000000) (h : RI w w.heap.size k j v N D) :
  Calls Tryz.prog 95 #[v] w fun e w' => (∃ r, e = .returned r /\ RI w' w'.heap.size k j r (-N) D) /\ Below w.heap.size w w' := by
 obtain ⟨g1, A1, n1, c1, g2, A2, n2, c2, e0, hp1, hp2⟩ := h
 subst e0
 obtain ⟨W1, hW1, hB0, hb0, hb1, hz⟩ := nw2 w #[.bool g1, .slice A1 n1 c1, .bool g2, .slice A2 n2 c2] #[.bool false, .slice none 0 0, .bool false, .slice none 0 0] 59 59
 have HW := Lib.hid hW1
 have s1 : w.heap.size < W1.heap.size := by omega
 have hS : Reg w [(w.heap.size, #[.bool g1, .slice A1 n1 c1, .bool g2, .slice A2 n2 c2], 59)] W1.drew := Reg.drew ⟨hB0, by simp [hb0]⟩
 have hd0 : W1.drew.heap[w.heap.size + 1]? = some (.cells #[.bool false, .slice none 0 0, .bool false, .slice none 0 0] 59 (0, 0)) := hb1
 have hP1 := (hp1.at_ hB0).drw
 have hP2 := (hp2.at_ hB0).drw
 clear hW1 hz hb0 hb1 hB0
 go_enter Tryz.func95, Tryz.ntmps95
 go_upto_region 1 with (fail)
 rw [<- HW.out]
 refine wp_region_held (S := Reg w [(w.heap.size, #[.bool g1, .slice A1 n1 c1, .bool g2, .slice A2 n2 c2], 59)]) (by kernel_rfl) ?_
 change wpAnyH _ _ _ _ _ _ _ _ (World.drew W1)
 obtain ⟨W0, hWd⟩ : ∃ W0, W0 = W1.drew := ⟨_, rfl⟩
 rw [<- hWd] at hS hP1 hP2 hd0 ⊢
 clear hWd
 refine tk (i := 0) (v := .pointer (some ⟨w.heap.size, 0, none⟩)) rfl (by kernel_rfl) (fun _ _ _ h => h) (.inl ⟨by rfl, fun W' hS' => by go_simp⟩) hS ?_
 try simp only [z]
 refine tk (i := 1) (v := .agg #[.bool g1, .slice A1 n1 c1]) rfl (by kernel_rfl) (fun _ _ _ h => h) (yieldsIf_load_mid (by rfl) 57 _ rfl w.heap.size 0 rfl [.bool g1, .slice A1 n1 c1] _ (fun W' hS' => range4a (hS'.get (.head _))) Tryz.underlying57 rfl intSize) hS ?_
 try simp only [z]
 refine tk (i := 3) (v := .pointer (some ⟨w.heap.size, 2, none⟩)) rfl (by kernel_rfl) (fun _ _ _ h => h) (.inl ⟨by rfl, fun W' hS' => by go_simp⟩) hS ?_
 try simp only [z]
 refine tk (i := 4) (v := .agg #[.bool g2, .slice A2 n2 c2]) rfl (by kernel_rfl) (fun _ _ _ h => h) (yieldsIf_load_mid (by rfl) 57 _ rfl w.heap.size 2 rfl [.bool g2, .slice A2 n2 c2] _ (fun W' hS' => range4b (hS'.get (.head _))) Tryz.underlying57 rfl intSize) hS ?_
 try simp only [z]
 refine wpAnyH_ready (rs := [2]) (by kernel_rfl) (by simp) (AllReadyH.cons rfl (fun K hK => ?_) AllReadyH.nil)
 go_simp
 refine (neg_any W0 k _ N hk hP1).mono ?_
 rintro e W2 ⟨⟨r2, rfl, hr2⟩, hB2⟩
 obtain ⟨g3, A3, n3, c3, rfl⟩ := hr2.open
 have hS2 := hS.step hB2
 have hP2' := hP2.at_ hB2
 refine hK.out _ _ hS2 (fun _ => ?_)
 clear hK K
 try simp only [z]
 refine tk (i := 5) (v := .agg #[.bool g3, .slice A3 n3 c3, .bool g2, .slice A2 n2 c2]) rfl (by kernel_rfl) (fun _ _ _ h => h) (.inl ⟨by rfl, fun W' hS' => by go_simp⟩) hS2 ?_
 try simp only [z]
 have hd := gbox hd0 hB2 (some_lt hd0)
 refine wpAnyH_ready (rs := [6]) (by kernel_rfl) (by simp) (AllReadyH.cons rfl (fun K hK => ?_) AllReadyH.nil)
 rw [if_pos (by rfl)]
 refine wp_store_row 59 _ _ none rfl rfl (w.heap.size + 1) 59 _ #[.bool g3, .slice A3 n3 c3, .bool g2, .slice A2 n2 c2] rfl rfl hd rfl ratSize (by simp [Value.oneCell']) ?_
 have hR := setRow_heap W2 (w.heap.size + 1) _ #[.bool g3, .slice A3 n3 c3, .bool g2, .slice A2 n2 c2] _ _ hd
 have hS3 := hS2.store (w.heap.size + 1) (by omega) (by simp) #[.bool g3, .slice A3 n3 c3, .bool g2, .slice A2 n2 c2]
 have hload := Lib.hid (run_loadVar_row (P := Tryz.prog) _ _ _ 59 _ _ _ hR Tryz.underlying59 rfl ratSize)
 have hRI : RI (W2.setRow (w.heap.size + 1) #[.bool g3, .slice A3 n3 c3, .bool g2, .slice A2 n2 c2]) (W2.setRow (w.heap.size + 1) #[.bool g3, .slice A3 n3 c3, .bool g2, .slice A2 n2 c2]).heap.size k j (.agg #[.bool g3, .slice A3 n3 c3, .bool g2, .slice A2 n2 c2]) (-N) D := (RI.other (w' := W2.setRow (w.heap.size + 1) #[.bool g3, .slice A3 n3 c3, .bool g2, .slice A2 n2 c2]) ⟨g3, A3, n3, c3, g2, A2, n2, c2, rfl, hr2, hP2'⟩ hd zero_four (fun c hc => setRow_other _ _ _ _ hc)).more (by simp) (Nat.le_refl _) (Nat.le_refl _)
 have HR := Lib.hid hRI
 have HB := Lib.hid hS3.1
 refine hK.out _ _ hS3 (fun _ => ?_)
 clear hK K
 try simp only [z]
 refine wpAnyH_done (by kernel_rfl) ?_ _
 try simp only [z]
 clear hR hRI hS3 hd hd0
 go_wp2
 exact bodyPost_ret (v := .agg #[.bool g3, .slice A3 n3 c3, .bool g2, .slice A2 n2 c2]) (by simp [results, Tryz.results95, asAddr, Act.put, hload.out]) rfl ⟨⟨_, rfl, HR.out⟩, HB.out⟩
def subN (N1 D1 N2 D2 : Int) : Int := Int.tdiv (N1 * D2 + -N2 * D1) (Int.gcd (N1 * D2 + -N2 * D1) (D1 * D2))
theorem subN_zero {N1 D1 N2 D2 : Int} (h1 : 0 < D1) (h2 : 0 < D2) : subN N1 D1 N2 D2 = 0 ↔ N1 * D2 = N2 * D1 := by
 unfold subN
 have hd : (0 : Int) < D1 * D2 := Int.mul_pos h1 h2
 have hg : ((Int.gcd (N1 * D2 + -N2 * D1) (D1 * D2) : Nat) : Int) ∣ (N1 * D2 + -N2 * D1) := Int.gcd_dvd_left ..
 have hg0 : ((Int.gcd (N1 * D2 + -N2 * D1) (D1 * D2) : Nat) : Int) ≠ 0 := by
  intro e
  have h0 : Int.gcd (N1 * D2 + -N2 * D1) (D1 * D2) = 0 := by omega
  rw [Int.gcd_eq_zero_iff] at h0
  omega
 have hm := Int.tdiv_mul_cancel hg
 constructor
 ·intro e
  rw [e, Int.zero_mul, Int.neg_mul] at hm
  omega
 ·intro e
  have e0 : N1 * D2 + -N2 * D1 = 0 := by rw [Int.neg_mul]; omega
  rw [e0, Int.zero_tdiv]
theorem sub_rat (k1 j1 k2 j2 : Nat) (u v : Value) (N1 D1 N2 D2 : Int) (hk : k1 + j2 <= 100000) (hk2 : k2 + j1 <= 100000) (hj : j1 + j2 <= 100000) (hD1 : 0 < D1) (hD2 : 0 < D2) (hu : RI w w.heap.size k1 j1 u N1 D1) (hv : RI w w.heap.size k2 j2 v N2 D2) :
  Calls Tryz.prog 61 #[u, v] w fun e w' => (∃ r, e = .returned r /\ RI w' w'.heap.size (max (k1 + j2) (k2 + j1) + 1) (j1 + j2) r (subN N1 D1 N2 D2) (Int.tdiv (D1 * D2) (Int.gcd (N1 * D2 + -N2 * D1) (D1 * D2)))) /\ Below w.heap.size w w' := by
 obtain ⟨g1, A1, n1, c1, g2, A2, n2, c2, rfl⟩ := hu.open
 obtain ⟨g3, A3, n3, c3, g4, A4, n4, c4, rfl⟩ := hv.open
 obtain ⟨hB0, hb0, hb1, hb2, hz⟩ := row_new3 w #[.bool g1, .slice A1 n1 c1, .bool g2, .slice A2 n2 c2] #[.bool g3, .slice A3 n3 c3, .bool g4, .slice A4 n4 c4] #[.bool false, .slice none 0 0, .bool false, .slice none 0 0] 59 59 59
 obtain ⟨W1, hW1⟩ : ∃ W1, W1 = (((w.alloc (.cells #[.bool g1, .slice A1 n1 c1, .bool g2, .slice A2 n2 c2] 59)).alloc (.cells #[.bool g3, .slice A3 n3 c3, .bool g4, .slice A4 n4 c4] 59)).alloc (.cells #[.bool false, .slice none 0 0, .bool false, .slice none 0 0] 59)) := ⟨_, rfl⟩
 rw [<- hW1] at hB0 hb0 hb1 hb2 hz
 have HW := Lib.hid hW1
 have hS : (Reg w [(w.heap.size, #[.bool g1, .slice A1 n1 c1, .bool g2, .slice A2 n2 c2], 59), (w.heap.size + 1, #[.bool g3, .slice A3 n3 c3, .bool g4, .slice A4 n4 c4], 59)]) W1.drew := Reg.drew ⟨hB0, by simp [hb0, hb1]⟩
 have hd0 : W1.drew.heap[w.heap.size + 2]? = some (.cells #[.bool false, .slice none 0 0, .bool false, .slice none 0 0] 59 (0, 0)) := hb2
 have hU : RI W1.drew W1.drew.heap.size k1 j1 (.agg #[.bool g1, .slice A1 n1 c1, .bool g2, .slice A2 n2 c2]) N1 D1 := hu.at_ (below_drawn hB0 1)
 have hV : RI W1.drew W1.drew.heap.size k2 j2 (.agg #[.bool g3, .slice A3 n3 c3, .bool g4, .slice A4 n4 c4]) N2 D2 := hv.at_ (below_drawn hB0 1)
 have HD1 := Lib.hid hD1
 have HD2 := Lib.hid hD2
 clear hW1 hz hb0 hb1 hb2 hB0 hu hv hD1 hD2
 go_enter Tryz.func61, Tryz.ntmps61
 go_upto_region 1 with (fail)
 rw [<- HW.out]
 refine wp_region_held (S := (Reg w [(w.heap.size, #[.bool g1, .slice A1 n1 c1, .bool g2, .slice A2 n2 c2], 59), (w.heap.size + 1, #[.bool g3, .slice A3 n3 c3, .bool g4, .slice A4 n4 c4], 59)])) (by kernel_rfl) ?_
 change wpAnyH _ _ _ _ _ _ _ _ (World.drew W1)
 obtain ⟨W0, hWd⟩ : ∃ W0, W0 = W1.drew := ⟨_, rfl⟩
 rw [<- hWd] at hS hU hV hd0 ⊢
 clear hWd
 refine tk (i := 0) (v := .agg #[.bool g1, .slice A1 n1 c1, .bool g2, .slice A2 n2 c2]) rfl (by kernel_rfl) (fun _ _ _ h => h) (yieldsIf_load_mid (by rfl) 59 _ rfl w.heap.size 0 rfl [.bool g1, .slice A1 n1 c1, .bool g2, .slice A2 n2 c2] _ (fun W' hS' => range_row (cs := [.bool g1, .slice A1 n1 c1, .bool g2, .slice A2 n2 c2]) (hS'.get (.head _))) Tryz.underlying59 rfl ratSize) hS ?_
 try simp only [z]
 refine tk (i := 1) (v := .agg #[.bool g3, .slice A3 n3 c3, .bool g4, .slice A4 n4 c4]) rfl (by kernel_rfl) (fun _ _ _ h => h) (yieldsIf_load_mid (by rfl) 59 _ rfl (w.heap.size + 1) 0 rfl [.bool g3, .slice A3 n3 c3, .bool g4, .slice A4 n4 c4] _ (fun W' hS' => range_row (cs := [.bool g3, .slice A3 n3 c3, .bool g4, .slice A4 n4 c4]) (hS'.get (.tail _ (.head _)))) Tryz.underlying59 rfl ratSize) hS ?_
 try simp only [z]
 refine wpAnyH_ready (rs := [2]) (by kernel_rfl) (by simp) (AllReadyH.cons rfl (fun K hK => ?_) AllReadyH.nil)
 go_simp
 refine (neg_rat W0 k2 j2 _ N2 D2 (by omega) hV).mono ?_
 rintro e W2 ⟨⟨r2, rfl, hr2⟩, hB2⟩
 obtain ⟨g5, A5, n5, c5, g6, A6, n6, c6, rfl⟩ := hr2.open
 have hS2 := hS.step hB2
 have hU2 := hU.at_ hB2
 refine hK.out _ _ hS2 (fun _ => ?_)
 clear hK K
 try simp only [z]
 refine wpAnyH_ready (rs := [3]) (by kernel_rfl) (by simp) (AllReadyH.cons rfl (fun K hK => ?_) AllReadyH.nil)
 go_simp
 refine (add_rat W2 k1 j1 k2 j2 _ _ N1 D1 (-N2) D2 hk hk2 hj HD1.out HD2.out hU2 hr2).mono ?_
 rintro e W3 ⟨⟨r3, rfl, hr3⟩, hB3⟩
 obtain ⟨g7, A7, n7, c7, g8, A8, n8, c8, rfl⟩ := hr3.open
 have hS3 := hS2.step hB3
 have hd := gbox (gbox hd0 hB2 (some_lt hd0)) hB3 (some_lt (gbox hd0 hB2 (some_lt hd0)))
 refine hK.out _ _ hS3 (fun _ => ?_)
 clear hK K
 try simp only [z]
 refine wpAnyH_ready (rs := [4]) (by kernel_rfl) (by simp) (AllReadyH.cons rfl (fun K hK => ?_) AllReadyH.nil)
 rw [if_pos (by rfl)]
 refine wp_store_row 59 _ _ none rfl rfl (w.heap.size + 2) 59 _ #[.bool g7, .slice A7 n7 c7, .bool g8, .slice A8 n8 c8] rfl rfl hd rfl ratSize (by simp [Value.oneCell']) ?_
 have hR := setRow_heap W3 (w.heap.size + 2) _ #[.bool g7, .slice A7 n7 c7, .bool g8, .slice A8 n8 c8] _ _ hd
 have hS4 := hS3.store (w.heap.size + 2) (by omega) (by simp) #[.bool g7, .slice A7 n7 c7, .bool g8, .slice A8 n8 c8]
 have hload := Lib.hid (run_loadVar_row (P := Tryz.prog) _ _ _ 59 _ _ _ hR Tryz.underlying59 rfl ratSize)
 have HR := Lib.hid ((hr3.other (w' := W3.setRow (w.heap.size + 2) #[.bool g7, .slice A7 n7 c7, .bool g8, .slice A8 n8 c8]) hd zero_four (fun c hc => setRow_other _ _ _ _ hc)).more (C := (W3.setRow (w.heap.size + 2) #[.bool g7, .slice A7 n7 c7, .bool g8, .slice A8 n8 c8]).heap.size) (by simp) (Nat.le_refl _) (Nat.le_refl _))
 have HB := Lib.hid hS4.1
 refine hK.out _ _ hS4 (fun _ => ?_)
 clear hK K
 try simp only [z]
 refine wpAnyH_done (by kernel_rfl) ?_ _
 try simp only [z]
 clear hR hS4 hd hd0
 go_wp2
 exact bodyPost_ret (v := .agg #[.bool g7, .slice A7 n7 c7, .bool g8, .slice A8 n8 c8]) (by simp [results, Tryz.results61, asAddr, Act.put, hload.out]) rfl ⟨⟨_, rfl, HR.out⟩, HB.out⟩
theorem sign_rat (k j : Nat) (v : Value) (N D : Int) (h : RI w w.heap.size k j v N D) :
  Calls Tryz.prog 60 #[v] w fun e w' => e = .returned (.int .i64 (sg N)) /\ Below w.heap.size w w' := by
 obtain ⟨g1, A1, n1, c1, g2, A2, n2, c2, e0, hp1, hp2⟩ := h
 subst e0
 obtain ⟨W1, hW1, hB0, hb0, hz⟩ := nw1 w #[.bool g1, .slice A1 n1 c1, .bool g2, .slice A2 n2 c2] 59
 have HW := Lib.hid hW1
 have s1 : w.heap.size < W1.heap.size := by omega
 have HP := Lib.hid (hp1.at_ hB0)
 have x0 := cell_of_row _ _ 0 _ _ _ hb0
 have x1 := cell_of_row _ _ 1 _ _ _ hb0
 simp at x0 x1
 clear hW1 hz hb0 hp1 hp2
 go_enter Tryz.func60, Tryz.ntmps60
 go_upto_region 1 with (fail)
 rw [<- HW.out]
 go_wp2_with (fail)
 refine (sign_any W1 k _ N HP.out).mono ?_
 rintro e W2 ⟨rfl, hB2⟩
 go_wp2
 go_ret
 exact ⟨rfl, hB0.trans (hB2.mono hB0.size)⟩
theorem cmp_rat (k1 j1 k2 j2 : Nat) (u v : Value) (N1 D1 N2 D2 : Int) (hk : k1 + j2 <= 100000) (hk2 : k2 + j1 <= 100000) (hj : j1 + j2 <= 100000) (hD1 : 0 < D1) (hD2 : 0 < D2) (hu : RI w w.heap.size k1 j1 u N1 D1) (hv : RI w w.heap.size k2 j2 v N2 D2) :
  Calls Tryz.prog 24 #[u, v] w fun e w' => e = .returned (.int .i64 (sg (subN N1 D1 N2 D2))) /\ Below w.heap.size w w' := by
 obtain ⟨g1, A1, n1, c1, g2, A2, n2, c2, rfl⟩ := hu.open
 obtain ⟨g3, A3, n3, c3, g4, A4, n4, c4, rfl⟩ := hv.open
 obtain ⟨W1, hW1, hB0, hb0, hb1, hz⟩ := nw2 w #[.bool g1, .slice A1 n1 c1, .bool g2, .slice A2 n2 c2] #[.bool g3, .slice A3 n3 c3, .bool g4, .slice A4 n4 c4] 59 59
 have HW := Lib.hid hW1
 have s1 : w.heap.size < W1.heap.size := by omega
 have s2 : w.heap.size + 1 < W1.heap.size := by omega
 have HR := Lib.hid (sub_rat W1 k1 j1 k2 j2 _ _ N1 D1 N2 D2 hk hk2 hj hD1 hD2 (hu.at_ hB0) (hv.at_ hB0))
 have x0 := cell_of_row _ _ 0 _ _ _ hb0
 have x1 := cell_of_row _ _ 1 _ _ _ hb0
 have x2 := cell_of_row _ _ 2 _ _ _ hb0
 have x3 := cell_of_row _ _ 3 _ _ _ hb0
 have y0 := cell_of_row _ _ 0 _ _ _ hb1
 have y1 := cell_of_row _ _ 1 _ _ _ hb1
 have y2 := cell_of_row _ _ 2 _ _ _ hb1
 have y3 := cell_of_row _ _ 3 _ _ _ hb1
 simp at x0 x1 x2 x3 y0 y1 y2 y3
 clear hW1 hz hb0 hb1 hu hv
 go_enter Tryz.func24, Tryz.ntmps24
 go_upto_region 1 with (fail)
 rw [<- HW.out]
 go_wp2_with (fail)
 refine HR.out.mono ?_
 rintro e W2 ⟨⟨r2, rfl, hr2⟩, hB2⟩
 obtain ⟨g5, A5, n5, c5, g6, A6, n6, c6, rfl⟩ := hr2.open
 go_wp2_with (fail)
 refine (sign_rat W2 _ _ _ _ _ hr2).mono ?_
 rintro e W3 ⟨rfl, hB3⟩
 go_wp2
 go_ret
 exact ⟨rfl, hB0.trans ((hB2.trans (hB3.mono hB2.size)).mono hB0.size)⟩
end
end R1
end Go.Proofs.YtccapfbblnnfjaaGreat
