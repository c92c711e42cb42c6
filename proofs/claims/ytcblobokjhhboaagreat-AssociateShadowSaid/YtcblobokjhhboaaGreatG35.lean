/- My texts RatRoundN. -/
import Derived.Test.YtcblobokjhhboaaGreatG26
set_option linter.unusedVariables false
set_option linter.unusedSimpArgs false
set_option maxRecDepth 100000
set_option maxHeartbeats 8000000
namespace Go.Proofs.YtcblobokjhhboaaGreat
open Go.RowKit
section
variable (w : World)
theorem round_neg (k : Nat) (v : Value) (N D : Int) (hk : k <= 100000) (hD : D ≠ 0) (hlo : -1000000000 < 2 * D) (hhi : 2 * D < 1000000000) (hn : N < 0) (h : RI w w.heap.size k 1 v N D) :
  Calls Tryz.prog 47 #[v] w fun e w' => (∃ r, e = .returned r /\ PI w' w'.heap.size (max (1 + k) 1 + 1) r (Int.tdiv (2 * N + (-D)) (2 * D))) /\ Below w.heap.size w w' := by
 obtain ⟨g1, A1, n1, c1, g2, A2, n2, c2, rfl⟩ := h.open
 obtain ⟨hB0, hb0, hb1, hz⟩ := rowsRI w #[.bool g1, .slice A1 n1 c1, .bool g2, .slice A2 n2 c2] #[.bool false, .slice none 0 0] 99 97
 obtain ⟨W1, hW1⟩ : ∃ W1, W1 = ((w.alloc (.cells #[.bool g1, .slice A1 n1 c1, .bool g2, .slice A2 n2 c2] 99)).alloc (.cells #[.bool false, .slice none 0 0] 97)) := ⟨_, rfl⟩
 rw [<- hW1] at hB0 hb0 hb1 hz
 have HW := Lib.hid hW1
 have Hz := Lib.hid hz
 have Hb1 := Lib.hid hb1
 have HD := Lib.hid hD
 have Hsg : Hid (decide (sg N < 0) = true) := by
  show _ = _
  exact sg_ng N hn
 have HD2 : Hid (2 * D ≠ 0) := by show _ ≠ _; omega
 have Ht : Hid (-1000000000 ^ 1 < 2 * D /\ 2 * D < 1000000000 ^ 1) := by show _ /\ _; rw [Int.pow_succ, Int.pow_zero]; omega
 have x0 := cell_of_row _ _ 0 _ _ _ hb0
 have x1 := cell_of_row _ _ 1 _ _ _ hb0
 have x2 := cell_of_row _ _ 2 _ _ _ hb0
 have x3 := cell_of_row _ _ 3 _ _ _ hb0
 simp at x0 x1 x2 x3
 have s1 : w.heap.size < W1.heap.size := by omega
 clear hW1 hz hb0 hb1 hD hlo hhi hn
 go_enter Tryz.func47, Tryz.ntmps47
 go_upto_region 1 with (fail)
 rw [<- HW.out]
 go_wp2_with (fail)
 refine (parts_any W1 k 1 _ N D HD.out (h.at_ hB0)).mono ?_
 rintro e W2 ⟨⟨a1, B1, m1, d1, a2, B2, m2, d2, rfl, hp1, hp2⟩, hB2⟩
 have hq1 := Hz.out
 have hsz2 := hB2.size
 have hBw2 := hB0.trans (hB2.mono hB0.size)
 have hc1 := gbox Hb1.out hB2 (by omega)
 obtain ⟨hBa, hra1, hra2, hza⟩ := rows2 W2 #[.bool a1, .slice B1 m1 d1] #[.bool a2, .slice B2 m2 d2] 97
 have hBwa := hBw2.trans (hBa.mono hBw2.size)
 have hda := gbox hc1 hBa (by omega)
 obtain ⟨Wa, hWa⟩ : ∃ Wa, Wa = ((W2.alloc (.cells #[.bool a1, .slice B1 m1 d1] 97)).alloc (.cells #[.bool a2, .slice B2 m2 d2] 97)) := ⟨_, rfl⟩
 rw [<- hWa] at hBa hra1 hra2 hza hBwa hda
 have HWa := Lib.hid hWa
 have y0 := cell_of_row _ _ 0 _ _ _ hra2
 have y1 := cell_of_row _ _ 1 _ _ _ hra2
 simp at y0 y1
 have s4 : W2.heap.size + 1 < Wa.heap.size := by omega
 have Hra1 := Lib.hid hra1
 have Hra2 := Lib.hid hra2
 have Hza := Lib.hid hza
 have Hda := Lib.hid hda
 clear x0 x1 x2 x3 hra1 hra2 hza hWa hc1 hda
 go_upto_region 2 with (fail)
 rw [<- HWa.out]
 obtain ⟨hBc, hrc, hzc⟩ := row1 Wa #[.bool a2, .slice B2 m2 d2] 97
 have hza := Hza.out
 have hBwc := hBwa.trans (hBc.mono hBwa.size)
 rw [hza] at hrc
 have hc3 := gbox Hra1.out hBc (by omega)
 have hc4 := gbox Hra2.out hBc (by omega)
 have hcd := gbox Hda.out hBc (by omega)
 obtain ⟨Wc, hWc⟩ : ∃ Wc, Wc = (Wa.alloc (.cells #[.bool a2, .slice B2 m2 d2] 97)) := ⟨_, rfl⟩
 rw [<- hWc] at hBc hrc hzc hBwc hc3 hc4 hcd
 have HWc := Lib.hid hWc
 have hp1c := (hp1.at_ hBa).at_ hBc
 have hp2c := (hp2.at_ hBa).at_ hBc
 go_upto_region 3 with (fail)
 rw [<- HWc.out]
 have z0 := cell_of_row _ _ 0 _ _ _ hc3
 have z1 := cell_of_row _ _ 1 _ _ _ hc3
 simp at z0 z1
 have s5 : W2.heap.size < Wc.heap.size := by omega
 clear y0 y1 hWc
 go_wp2_with (fail)
 refine (sign_any Wc k _ N hp1c).mono ?_
 rintro e W3 ⟨rfl, hB3⟩
 have hsz3 := hB3.size
 have hBw3 := hBwc.trans (hB3.mono hBwc.size)
 have h33 := gbox hc3 hB3 (by omega)
 have h34 := gbox hc4 hB3 (by omega)
 have h35 := gbox hrc hB3 (by omega)
 have h3d := gbox hcd hB3 (by omega)
 have hp1d := hp1c.at_ hB3
 have hp2d := hp2c.at_ hB3
 have hsg := Hsg.out
 clear z0 z1
 have y0 := cell_of_row _ _ 0 _ _ _ h34
 have y1 := cell_of_row _ _ 1 _ _ _ h34
 simp at y0 y1
 have s6 : W2.heap.size + 1 < W3.heap.size := by omega
 go_wp2_with (fail)
 refine (neg_at W3 W3.heap.size 1 (Nat.le_refl _) _ D (by omega) hp2d).mono ?_
 rintro e W4 ⟨⟨r4, rfl, hr4⟩, hB4⟩
 obtain ⟨a3, B3, m3, d3, rfl⟩ := hr4.open
 have hsz4 := hB4.size
 have H35 := Lib.hid (gbox h35 hB4 (by omega))
 have Hone : Hid ((#[.bool a3, .slice B3 m3 d3] : Array Value).all (·.oneCell') = true) := by show _ = true; simp [Value.oneCell']
 obtain ⟨Wf, hWf⟩ : ∃ Wf, Wf = W4.setRow (W2.heap.size + 2) #[.bool a3, .slice B3 m3 d3] := ⟨_, rfl⟩
 have hf5 := setRow_heap W4 (W2.heap.size + 2) _ #[.bool a3, .slice B3 m3 d3] _ _ H35.out
 have hf3 := (setRow_other W4 (W2.heap.size + 2) W2.heap.size #[.bool a3, .slice B3 m3 d3] (by omega)).trans (gbox h33 hB4 (by omega))
 have hf4 := (setRow_other W4 (W2.heap.size + 2) (W2.heap.size + 1) #[.bool a3, .slice B3 m3 d3] (by omega)).trans (gbox h34 hB4 (by omega))
 have hfd := (setRow_other W4 (W2.heap.size + 2) (w.heap.size + 1) #[.bool a3, .slice B3 m3 d3] (by omega)).trans (gbox h3d hB4 (by omega))
 have hBwf := below_setRow (hBw3.trans (hB4.mono hBw3.size)) (show w.heap.size <= (W2.heap.size + 2) by omega) #[.bool a3, .slice B3 m3 d3]
 have hpN := ((hp1d.at_ hB4).other (w' := W4.setRow (W2.heap.size + 2) #[.bool a3, .slice B3 m3 d3]) H35.out (int_none a2 B2 m2 d2) (fun c hc => setRow_other _ _ _ _ hc)).more (C := (W4.setRow (W2.heap.size + 2) #[.bool a3, .slice B3 m3 d3]).heap.size) (j := k) (by simp) (Nat.le_refl _)
 have hpD := ((hp2d.at_ hB4).other (w' := W4.setRow (W2.heap.size + 2) #[.bool a3, .slice B3 m3 d3]) H35.out (int_none a2 B2 m2 d2) (fun c hc => setRow_other _ _ _ _ hc)).more (C := (W4.setRow (W2.heap.size + 2) #[.bool a3, .slice B3 m3 d3]).heap.size) (j := 1) (by simp) (Nat.le_refl _)
 have hpE := (hr4.other (w' := W4.setRow (W2.heap.size + 2) #[.bool a3, .slice B3 m3 d3]) H35.out (int_none a2 B2 m2 d2) (fun c hc => setRow_other _ _ _ _ hc)).more (C := (W4.setRow (W2.heap.size + 2) #[.bool a3, .slice B3 m3 d3]).heap.size) (j := 1) (by simp; omega) (Nat.le_refl _)
 have hzf : Wf.heap.size = W4.heap.size := by rw [hWf]; simp
 rw [<- hWf] at hf5 hf3 hf4 hfd hBwf hpN hpD hpE
 have HWf := Lib.hid hWf
 clear y0 y1 hWf
 go_wp2_with (refine wpList_store_row rfl 97 (.tmp 5) (.tmp 20) none rfl rfl (W2.heap.size + 2) 97 _ #[.bool a3, .slice B3 m3 d3] rfl rfl H35.out rfl intSize Hone.out ?_)
 rw [<- HWf.out]
 refine (of_int Wf 2 (by omega) (by omega)).mono ?_
 rintro e W5 ⟨⟨r5, rfl, hr5⟩, hB5⟩
 obtain ⟨a4, B4, m4, d4, rfl⟩ := hr5.open
 have hsz5 := hB5.size
 have hBw5 := hBwf.trans (hB5.mono hBwf.size)
 have h53 := gbox hf3 hB5 (some_lt hf3)
 have h54 := gbox hf4 hB5 (some_lt hf4)
 have h55 := gbox hf5 hB5 (some_lt hf5)
 have h5d := gbox hfd hB5 (some_lt hfd)
 obtain ⟨hBg, hrg, hzg⟩ := row1 W5 #[.bool a4, .slice B4 m4 d4] 97
 have hg3 := gbox h53 hBg (some_lt h53)
 have hg4 := gbox h54 hBg (some_lt h54)
 have hg5 := gbox h55 hBg (some_lt h55)
 have hgd := gbox h5d hBg (some_lt h5d)
 have hBwg := hBw5.trans (hBg.mono hBw5.size)
 obtain ⟨Wg, hWg⟩ : ∃ Wg, Wg = (W5.alloc (.cells #[.bool a4, .slice B4 m4 d4] 97)) := ⟨_, rfl⟩
 rw [<- hWg] at hBg hrg hzg hg3 hg4 hg5 hgd hBwg
 have HWg := Lib.hid hWg
 have hQN := ((hpN.at_ hB5).at_ hBg).drw
 have hQD := ((hpD.at_ hB5).at_ hBg).drw
 have hQE := ((hpE.at_ hB5).at_ hBg).drw
 have hQ2 := ((hr5.tight (j := 1) (by decide) (by decide)).at_ hBg).drw
 have hS0 : RegM w w.heap.size W2.heap.size (W2.heap.size + 1) (W2.heap.size + 2) W5.heap.size #[.bool a1, .slice B1 m1 d1] #[.bool a2, .slice B2 m2 d2] #[.bool a3, .slice B3 m3 d3] #[.bool a4, .slice B4 m4 d4] Wg := ⟨hBwg, hg3, hg4, hg5, hrg⟩
 have hS := hS0.drew
 have HgD := Lib.hid hgd
 clear hWg h53 h54 h55 h5d hf3 hf4 hf5 hfd hg3 hg4 hg5 hgd
 go_upto_region 6 with (fail)
 rw [<- HWg.out]
 refine wp_region_held (S := RegM w w.heap.size W2.heap.size (W2.heap.size + 1) (W2.heap.size + 2) W5.heap.size #[.bool a1, .slice B1 m1 d1] #[.bool a2, .slice B2 m2 d2] #[.bool a3, .slice B3 m3 d3] #[.bool a4, .slice B4 m4 d4]) (by kernel_rfl) ?_
 change wpAnyH _ _ _ _ _ _ _ _ (World.drew Wg)
 have hd0 : Wg.drew.heap[w.heap.size + 1]? = some (.cells #[.bool false, .slice none 0 0] 97 (0, 0)) := HgD.out
 obtain ⟨W_0, hWd⟩ : ∃ W_0, W_0 = Wg.drew := ⟨_, rfl⟩
 rw [<- hWd] at hS hQN hQD hQE hQ2 hd0 ⊢
 have hl1 := some_lt hS.2.1
 have hl2 := some_lt hS.2.2.1
 have hl3 := some_lt hS.2.2.2.1
 have hl4 := some_lt hS.2.2.2.2
 have hld := some_lt hd0
 clear hWd hzg hzc hza HgD hBg hBwg hBw5 hBwf hBw3 hB5 hB3 hBc hBwc hBa hBwa hBw2 hB2 hB0 hsg hpN hpD hpE hp1 hp2 hp1c hp2c hp1d hp2d h33 h34 h35 h3d hrc hc3 hc4 hcd hrg hr5 hS0 hsz5
 refine wpAnyH_take (i := 0) (v := .agg #[.bool a4, .slice B4 m4 d4]) rfl (by kernel_rfl) (by kernel_rfl) (by kernel_rfl) (fun _ _ _ h => h) (yieldsIf_load_mid (by rfl) 97 _ rfl W5.heap.size 0 rfl [.bool a4, .slice B4 m4 d4] _ (fun W' hS' => range2 hS'.2.2.2.2) Tryz.underlying97 rfl intSize) hS ?_
 try simp only [Act.put, z]
 refine wpAnyH_take (i := 1) (v := .agg #[.bool a1, .slice B1 m1 d1]) rfl (by kernel_rfl) (by kernel_rfl) (by kernel_rfl) (fun _ _ _ h => h) (yieldsIf_load_mid (by rfl) 97 _ rfl W2.heap.size 0 rfl [.bool a1, .slice B1 m1 d1] _ (fun W' hS' => range2 hS'.2.1) Tryz.underlying97 rfl intSize) hS ?_
 try simp only [Act.put, z]
 refine wpAnyH_take (i := 3) (v := .agg #[.bool a3, .slice B3 m3 d3]) rfl (by kernel_rfl) (by kernel_rfl) (by kernel_rfl) (fun _ _ _ h => h) (yieldsIf_load_mid (by rfl) 97 _ rfl (W2.heap.size + 2) 0 rfl [.bool a3, .slice B3 m3 d3] _ (fun W' hS' => range2 hS'.2.2.2.1) Tryz.underlying97 rfl intSize) hS ?_
 try simp only [Act.put, z]
 refine wpAnyH_take (i := 5) (v := .agg #[.bool a4, .slice B4 m4 d4]) rfl (by kernel_rfl) (by kernel_rfl) (by kernel_rfl) (fun _ _ _ h => h) (yieldsIf_load_mid (by rfl) 97 _ rfl W5.heap.size 0 rfl [.bool a4, .slice B4 m4 d4] _ (fun W' hS' => range2 hS'.2.2.2.2) Tryz.underlying97 rfl intSize) hS ?_
 try simp only [Act.put, z]
 refine wpAnyH_take (i := 6) (v := .agg #[.bool a2, .slice B2 m2 d2]) rfl (by kernel_rfl) (by kernel_rfl) (by kernel_rfl) (fun _ _ _ h => h) (yieldsIf_load_mid (by rfl) 97 _ rfl (W2.heap.size + 1) 0 rfl [.bool a2, .slice B2 m2 d2] _ (fun W' hS' => range2 hS'.2.2.1) Tryz.underlying97 rfl intSize) hS ?_
 try simp only [Act.put, z]
 refine wpAnyH_letters fun md' ops' Q' a' hlm hlo hlq hla => ?_
 have n411 : ∀ (W : World) (f0 : Bool) (F0 : Option Addr) (o0 e0 : Nat) (f1 : Bool) (F1 : Option Addr) (o1 e1 : Nat) (f2 : Bool) (F2 : Option Addr) (o2 e2 : Nat) (f3 : Bool) (F3 : Option Addr) (o3 e3 : Nat) (rg : Bool) (rA : Option Addr) (rn rc : Nat) (p7 : Nat) (p8 : Nat), RegM w w.heap.size W2.heap.size (W2.heap.size + 1) (W2.heap.size + 2) W5.heap.size #[.bool a1, .slice B1 m1 d1] #[.bool a2, .slice B2 m2 d2] #[.bool a3, .slice B3 m3 d3] #[.bool a4, .slice B4 m4 d4] W -> W_0.heap.size <= W.heap.size -> W.heap[w.heap.size + 1]? = some (.cells #[.bool false, .slice none 0 0] 97 (0, 0)) -> PI W W.heap.size (max (1 + k) 1 + 1) (.agg #[.bool f3, .slice F3 o3 e3]) (Int.tdiv (2 * N + (-D)) (2 * D)) -> W.heap[p7]? = some (.cells #[.bool false, .slice none 0 0] 97 (0, 0)) -> W_0.heap.size <= p7 -> W.heap[p8]? = some (.cells #[.bool false, .slice none 0 0] 97 (0, 0)) -> W_0.heap.size <= p8 -> p7 ≠ p8 -> wpAnyH Tryz.prog md' ops' Q' (RegM w w.heap.size W2.heap.size (W2.heap.size + 1) (W2.heap.size + 2) W5.heap.size #[.bool a1, .slice B1 m1 d1] #[.bool a2, .slice B2 m2 d2] #[.bool a3, .slice B3 m3 d3] #[.bool a4, .slice B4 m4 d4]) 3 #[true, true, true, true, true, true, true, true, true, true, true, true, true, true, true, false, false, false] ((((((((((a'.put (some 25) (.agg #[.bool f0, .slice F0 o0 e0])).put (some 27) (.agg #[.bool f1, .slice F1 o1 e1])).put (some 30) (.agg #[.bool f2, .slice F2 o2 e2])).put (some 31) (.tuple #[.agg #[.bool f3, .slice F3 o3 e3], .agg #[.bool rg, .slice rA rn rc], .int .i64 0])).put (some 22) (.tuple #[.agg #[.bool f3, .slice F3 o3 e3], .agg #[.bool rg, .slice rA rn rc], .int .i64 0])).put (some 32) (.agg #[.bool f3, .slice F3 o3 e3])).put (some 33) (.agg #[.bool rg, .slice rA rn rc])).put (some 34) (.int .i64 0)).put (some 7) (.pointer (some ⟨p7, 0, none⟩))).put (some 8) (.pointer (some ⟨p8, 0, none⟩))) W := by
  intro W f0 F0 o0 e0 f1 F1 o1 e1 f2 F2 o2 e2 f3 F3 o3 e3 rg rA rn rc p7 p8 hS hz hd hr3 h7 g7 h8 g8 g78
  subst hlm hlo hlq hla
  try simp only [Act.put, z]
  refine wpAnyH_ready (rs := [15]) (by kernel_rfl) (by simp) (AllReadyH.cons rfl (fun K hK => ?_) AllReadyH.nil)
  rw [if_pos (by rfl)]
  refine wp_store_row 97 _ _ none rfl rfl p7 97 _ #[.bool f3, .slice F3 o3 e3] rfl rfl h7 rfl intSize (by simp [Value.oneCell']) ?_
  have hSa := hS.store p7 (by omega) (by omega) (by omega) (by omega) (by omega) #[.bool f3, .slice F3 o3 e3]
  have ha7 := setRow_heap W p7 _ #[.bool f3, .slice F3 o3 e3] _ _ h7
  have ha8 := (setRow_other W p7 p8 #[.bool f3, .slice F3 o3 e3] (by omega)).trans h8
  have had := (setRow_other W p7 (w.heap.size + 1) #[.bool f3, .slice F3 o3 e3] (by omega)).trans hd
  have hqa := hr3.other (w' := (W.setRow p7 #[.bool f3, .slice F3 o3 e3])) h7 zero_two (fun c hc => setRow_other _ _ _ _ hc)
  refine hK.out _ _ hSa (fun _ => ?_)
  clear hK K
  try simp only [Act.put, z]
  refine wpAnyH_ready (rs := [16]) (by kernel_rfl) (by simp) (AllReadyH.cons rfl (fun K hK => ?_) AllReadyH.nil)
  rw [if_pos (by rfl)]
  refine wp_store_row 97 _ _ none rfl rfl p8 97 _ #[.bool rg, .slice rA rn rc] rfl rfl ha8 rfl intSize (by simp [Value.oneCell']) ?_
  have hSb := hSa.store p8 (by omega) (by omega) (by omega) (by omega) (by omega) #[.bool rg, .slice rA rn rc]
  have hb7 := (setRow_other (W.setRow p7 #[.bool f3, .slice F3 o3 e3]) p8 p7 #[.bool rg, .slice rA rn rc] (by omega)).trans ha7
  have hbd := (setRow_other (W.setRow p7 #[.bool f3, .slice F3 o3 e3]) p8 (w.heap.size + 1) #[.bool rg, .slice rA rn rc] (by omega)).trans had
  have hqb := hqa.other (w' := ((W.setRow p7 #[.bool f3, .slice F3 o3 e3]).setRow p8 #[.bool rg, .slice rA rn rc])) ha8 zero_two (fun c hc => setRow_other _ _ _ _ hc)
  refine hK.out _ _ hSb (fun _ => ?_)
  clear hK K
  try simp only [Act.put, z]
  refine wpAnyH_ready (rs := [17]) (by kernel_rfl) (by simp) (AllReadyH.cons rfl (fun K hK => ?_) AllReadyH.nil)
  go_simp
  refine hK.out _ _ hSb (fun _ => ?_)
  clear hK K
  try simp only [Act.put, z]
  refine wpAnyH_done (by kernel_rfl) ?_ _
  have hc0 := cell_of_row _ _ 0 _ _ _ hb7
  have hc1 := cell_of_row _ _ 1 _ _ _ hb7
  simp at hc0 hc1
  have hRF := setRow_heap ((W.setRow p7 #[.bool f3, .slice F3 o3 e3]).setRow p8 #[.bool rg, .slice rA rn rc]) (w.heap.size + 1) _ #[.bool f3, .slice F3 o3 e3] _ _ hbd
  have Hload := Lib.hid (run_loadVar_row (P := Tryz.prog) _ _ _ 97 _ _ _ hRF Tryz.underlying97 rfl intSize)
  have Hp := Lib.hid ((hqb.other (w' := (((W.setRow p7 #[.bool f3, .slice F3 o3 e3]).setRow p8 #[.bool rg, .slice rA rn rc]).setRow (w.heap.size + 1) #[.bool f3, .slice F3 o3 e3])) hbd zero_two (fun c hc => setRow_other _ _ _ _ hc)).more (C := (((W.setRow p7 #[.bool f3, .slice F3 o3 e3]).setRow p8 #[.bool rg, .slice rA rn rc]).setRow (w.heap.size + 1) #[.bool f3, .slice F3 o3 e3]).heap.size) (by simp) (Nat.le_refl _))
  have HBF := Lib.hid (below_setRow hSb.1 (show w.heap.size <= w.heap.size + 1 by omega) #[.bool f3, .slice F3 o3 e3])
  have Hbd := Lib.hid hbd
  have Hone2 : Hid ((#[.bool f3, .slice F3 o3 e3] : Array Value).all (·.oneCell') = true) := by show _ = true; simp [Value.oneCell']
  clear hRF
  go_wp2_with (refine wpList_store_row rfl 97 (.tmp 2) (.tmp 35) none rfl rfl (w.heap.size + 1) 97 _ #[.bool f3, .slice F3 o3 e3] rfl rfl Hbd.out rfl intSize Hone2.out ?_)
  exact bodyPost_ret (v := .agg #[.bool f3, .slice F3 o3 e3]) (by simp [results, Tryz.results47, asAddr, Act.put, Hload.out]) rfl ⟨⟨_, rfl, Hp.out⟩, HBF.out⟩
 have n410 : ∀ (W : World) (f0 : Bool) (F0 : Option Addr) (o0 e0 : Nat) (f1 : Bool) (F1 : Option Addr) (o1 e1 : Nat) (f2 : Bool) (F2 : Option Addr) (o2 e2 : Nat) (f3 : Bool) (F3 : Option Addr) (o3 e3 : Nat) (rg : Bool) (rA : Option Addr) (rn rc : Nat) (p7 : Nat), RegM w w.heap.size W2.heap.size (W2.heap.size + 1) (W2.heap.size + 2) W5.heap.size #[.bool a1, .slice B1 m1 d1] #[.bool a2, .slice B2 m2 d2] #[.bool a3, .slice B3 m3 d3] #[.bool a4, .slice B4 m4 d4] W -> W_0.heap.size <= W.heap.size -> W.heap[w.heap.size + 1]? = some (.cells #[.bool false, .slice none 0 0] 97 (0, 0)) -> PI W W.heap.size (max (1 + k) 1 + 1) (.agg #[.bool f3, .slice F3 o3 e3]) (Int.tdiv (2 * N + (-D)) (2 * D)) -> W.heap[p7]? = some (.cells #[.bool false, .slice none 0 0] 97 (0, 0)) -> W_0.heap.size <= p7 -> wpAnyH Tryz.prog md' ops' Q' (RegM w w.heap.size W2.heap.size (W2.heap.size + 1) (W2.heap.size + 2) W5.heap.size #[.bool a1, .slice B1 m1 d1] #[.bool a2, .slice B2 m2 d2] #[.bool a3, .slice B3 m3 d3] #[.bool a4, .slice B4 m4 d4]) 4 #[true, true, true, true, true, true, true, true, true, true, true, true, true, true, false, false, false, false] (((((((((a'.put (some 25) (.agg #[.bool f0, .slice F0 o0 e0])).put (some 27) (.agg #[.bool f1, .slice F1 o1 e1])).put (some 30) (.agg #[.bool f2, .slice F2 o2 e2])).put (some 31) (.tuple #[.agg #[.bool f3, .slice F3 o3 e3], .agg #[.bool rg, .slice rA rn rc], .int .i64 0])).put (some 22) (.tuple #[.agg #[.bool f3, .slice F3 o3 e3], .agg #[.bool rg, .slice rA rn rc], .int .i64 0])).put (some 32) (.agg #[.bool f3, .slice F3 o3 e3])).put (some 33) (.agg #[.bool rg, .slice rA rn rc])).put (some 34) (.int .i64 0)).put (some 7) (.pointer (some ⟨p7, 0, none⟩))) W := by
  intro W f0 F0 o0 e0 f1 F1 o1 e1 f2 F2 o2 e2 f3 F3 o3 e3 rg rA rn rc p7 hS hz hd hr3 h7 g7
  subst hlm hlo hlq hla
  try simp only [Act.put, z]
  refine wpAnyH_ready (rs := [14]) (by kernel_rfl) (by simp) (AllReadyH.cons rfl (fun K hK => ?_) AllReadyH.nil)
  ·obtain ⟨hB, hrow, _⟩ := row1 W #[.bool false, .slice none 0 0] 97
   go_simp
   obtain ⟨W', hWn⟩ : ∃ W', W' = W.alloc (.cells #[.bool false, .slice none 0 0] 97) := ⟨_, rfl⟩
   rw [<- hWn] at hB hrow ⊢
   clear hWn
   have hne := some_lt h7
   refine hK.out _ _ (hS.step (Nat.le_refl _) hB) (fun _ => ?_)
   clear hK K
   try simp only [Act.put, z]
   have hn := n411 W' f0 F0 o0 e0 f1 F1 o1 e1 f2 F2 o2 e2 f3 F3 o3 e3 rg rA rn rc p7 W.heap.size (hS.step (Nat.le_refl _) hB) (Nat.le_trans hz hB.size) (gbox hd hB (some_lt hd)) (hr3.at_ hB) (gbox h7 hB (some_lt h7)) (g7) (hrow) (hz) (by omega)
   try simp only [Act.put, z] at hn
   exact hn
 have n401 : ∀ (W : World) (f0 : Bool) (F0 : Option Addr) (o0 e0 : Nat) (f1 : Bool) (F1 : Option Addr) (o1 e1 : Nat) (f2 : Bool) (F2 : Option Addr) (o2 e2 : Nat) (f3 : Bool) (F3 : Option Addr) (o3 e3 : Nat) (rg : Bool) (rA : Option Addr) (rn rc : Nat) (p8 : Nat), RegM w w.heap.size W2.heap.size (W2.heap.size + 1) (W2.heap.size + 2) W5.heap.size #[.bool a1, .slice B1 m1 d1] #[.bool a2, .slice B2 m2 d2] #[.bool a3, .slice B3 m3 d3] #[.bool a4, .slice B4 m4 d4] W -> W_0.heap.size <= W.heap.size -> W.heap[w.heap.size + 1]? = some (.cells #[.bool false, .slice none 0 0] 97 (0, 0)) -> PI W W.heap.size (max (1 + k) 1 + 1) (.agg #[.bool f3, .slice F3 o3 e3]) (Int.tdiv (2 * N + (-D)) (2 * D)) -> W.heap[p8]? = some (.cells #[.bool false, .slice none 0 0] 97 (0, 0)) -> W_0.heap.size <= p8 -> wpAnyH Tryz.prog md' ops' Q' (RegM w w.heap.size W2.heap.size (W2.heap.size + 1) (W2.heap.size + 2) W5.heap.size #[.bool a1, .slice B1 m1 d1] #[.bool a2, .slice B2 m2 d2] #[.bool a3, .slice B3 m3 d3] #[.bool a4, .slice B4 m4 d4]) 4 #[true, true, true, true, true, true, true, true, true, true, true, true, true, false, true, false, false, false] (((((((((a'.put (some 25) (.agg #[.bool f0, .slice F0 o0 e0])).put (some 27) (.agg #[.bool f1, .slice F1 o1 e1])).put (some 30) (.agg #[.bool f2, .slice F2 o2 e2])).put (some 31) (.tuple #[.agg #[.bool f3, .slice F3 o3 e3], .agg #[.bool rg, .slice rA rn rc], .int .i64 0])).put (some 22) (.tuple #[.agg #[.bool f3, .slice F3 o3 e3], .agg #[.bool rg, .slice rA rn rc], .int .i64 0])).put (some 32) (.agg #[.bool f3, .slice F3 o3 e3])).put (some 33) (.agg #[.bool rg, .slice rA rn rc])).put (some 34) (.int .i64 0)).put (some 8) (.pointer (some ⟨p8, 0, none⟩))) W := by
  intro W f0 F0 o0 e0 f1 F1 o1 e1 f2 F2 o2 e2 f3 F3 o3 e3 rg rA rn rc p8 hS hz hd hr3 h8 g8
  subst hlm hlo hlq hla
  try simp only [Act.put, z]
  refine wpAnyH_ready (rs := [13]) (by kernel_rfl) (by simp) (AllReadyH.cons rfl (fun K hK => ?_) AllReadyH.nil)
  ·obtain ⟨hB, hrow, _⟩ := row1 W #[.bool false, .slice none 0 0] 97
   go_simp
   obtain ⟨W', hWn⟩ : ∃ W', W' = W.alloc (.cells #[.bool false, .slice none 0 0] 97) := ⟨_, rfl⟩
   rw [<- hWn] at hB hrow ⊢
   clear hWn
   have hne := some_lt h8
   refine hK.out _ _ (hS.step (Nat.le_refl _) hB) (fun _ => ?_)
   clear hK K
   try simp only [Act.put, z]
   have hn := n411 W' f0 F0 o0 e0 f1 F1 o1 e1 f2 F2 o2 e2 f3 F3 o3 e3 rg rA rn rc W.heap.size p8 (hS.step (Nat.le_refl _) hB) (Nat.le_trans hz hB.size) (gbox hd hB (some_lt hd)) (hr3.at_ hB) (hrow) (hz) (gbox h8 hB (some_lt h8)) (g8) (by omega)
   try simp only [Act.put, z] at hn
   exact hn
 have n400 : ∀ (W : World) (f0 : Bool) (F0 : Option Addr) (o0 e0 : Nat) (f1 : Bool) (F1 : Option Addr) (o1 e1 : Nat) (f2 : Bool) (F2 : Option Addr) (o2 e2 : Nat) (f3 : Bool) (F3 : Option Addr) (o3 e3 : Nat) (rg : Bool) (rA : Option Addr) (rn rc : Nat), RegM w w.heap.size W2.heap.size (W2.heap.size + 1) (W2.heap.size + 2) W5.heap.size #[.bool a1, .slice B1 m1 d1] #[.bool a2, .slice B2 m2 d2] #[.bool a3, .slice B3 m3 d3] #[.bool a4, .slice B4 m4 d4] W -> W_0.heap.size <= W.heap.size -> W.heap[w.heap.size + 1]? = some (.cells #[.bool false, .slice none 0 0] 97 (0, 0)) -> PI W W.heap.size (max (1 + k) 1 + 1) (.agg #[.bool f3, .slice F3 o3 e3]) (Int.tdiv (2 * N + (-D)) (2 * D)) -> wpAnyH Tryz.prog md' ops' Q' (RegM w w.heap.size W2.heap.size (W2.heap.size + 1) (W2.heap.size + 2) W5.heap.size #[.bool a1, .slice B1 m1 d1] #[.bool a2, .slice B2 m2 d2] #[.bool a3, .slice B3 m3 d3] #[.bool a4, .slice B4 m4 d4]) 5 #[true, true, true, true, true, true, true, true, true, true, true, true, true, false, false, false, false, false] ((((((((a'.put (some 25) (.agg #[.bool f0, .slice F0 o0 e0])).put (some 27) (.agg #[.bool f1, .slice F1 o1 e1])).put (some 30) (.agg #[.bool f2, .slice F2 o2 e2])).put (some 31) (.tuple #[.agg #[.bool f3, .slice F3 o3 e3], .agg #[.bool rg, .slice rA rn rc], .int .i64 0])).put (some 22) (.tuple #[.agg #[.bool f3, .slice F3 o3 e3], .agg #[.bool rg, .slice rA rn rc], .int .i64 0])).put (some 32) (.agg #[.bool f3, .slice F3 o3 e3])).put (some 33) (.agg #[.bool rg, .slice rA rn rc])).put (some 34) (.int .i64 0)) W := by
  intro W f0 F0 o0 e0 f1 F1 o1 e1 f2 F2 o2 e2 f3 F3 o3 e3 rg rA rn rc hS hz hd hr3
  subst hlm hlo hlq hla
  try simp only [Act.put, z]
  refine wpAnyH_ready (rs := [13, 14]) (by kernel_rfl) (by simp) (AllReadyH.cons rfl (fun K hK => ?_) (AllReadyH.cons rfl (fun K hK => ?_) AllReadyH.nil))
  ·obtain ⟨hB, hrow, _⟩ := row1 W #[.bool false, .slice none 0 0] 97
   go_simp
   obtain ⟨W', hWn⟩ : ∃ W', W' = W.alloc (.cells #[.bool false, .slice none 0 0] 97) := ⟨_, rfl⟩
   rw [<- hWn] at hB hrow ⊢
   clear hWn
   refine hK.out _ _ (hS.step (Nat.le_refl _) hB) (fun _ => ?_)
   clear hK K
   try simp only [Act.put, z]
   have hn := n410 W' f0 F0 o0 e0 f1 F1 o1 e1 f2 F2 o2 e2 f3 F3 o3 e3 rg rA rn rc W.heap.size (hS.step (Nat.le_refl _) hB) (Nat.le_trans hz hB.size) (gbox hd hB (some_lt hd)) (hr3.at_ hB) (hrow) (hz)
   try simp only [Act.put, z] at hn
   exact hn
  ·obtain ⟨hB, hrow, _⟩ := row1 W #[.bool false, .slice none 0 0] 97
   go_simp
   obtain ⟨W', hWn⟩ : ∃ W', W' = W.alloc (.cells #[.bool false, .slice none 0 0] 97) := ⟨_, rfl⟩
   rw [<- hWn] at hB hrow ⊢
   clear hWn
   refine hK.out _ _ (hS.step (Nat.le_refl _) hB) (fun _ => ?_)
   clear hK K
   try simp only [Act.put, z]
   have hn := n401 W' f0 F0 o0 e0 f1 F1 o1 e1 f2 F2 o2 e2 f3 F3 o3 e3 rg rA rn rc W.heap.size (hS.step (Nat.le_refl _) hB) (Nat.le_trans hz hB.size) (gbox hd hB (some_lt hd)) (hr3.at_ hB) (hrow) (hz)
   try simp only [Act.put, z] at hn
   exact hn
 have n311 : ∀ (W : World) (f0 : Bool) (F0 : Option Addr) (o0 e0 : Nat) (f1 : Bool) (F1 : Option Addr) (o1 e1 : Nat) (f2 : Bool) (F2 : Option Addr) (o2 e2 : Nat) (p7 : Nat) (p8 : Nat), RegM w w.heap.size W2.heap.size (W2.heap.size + 1) (W2.heap.size + 2) W5.heap.size #[.bool a1, .slice B1 m1 d1] #[.bool a2, .slice B2 m2 d2] #[.bool a3, .slice B3 m3 d3] #[.bool a4, .slice B4 m4 d4] W -> W_0.heap.size <= W.heap.size -> W.heap[w.heap.size + 1]? = some (.cells #[.bool false, .slice none 0 0] 97 (0, 0)) -> PI W W.heap.size (max (1 + k) 1 + 1) (.agg #[.bool f1, .slice F1 o1 e1]) (2 * N + (-D)) -> PI W W.heap.size 1 (.agg #[.bool f2, .slice F2 o2 e2]) (2 * D) -> W.heap[p7]? = some (.cells #[.bool false, .slice none 0 0] 97 (0, 0)) -> W_0.heap.size <= p7 -> W.heap[p8]? = some (.cells #[.bool false, .slice none 0 0] 97 (0, 0)) -> W_0.heap.size <= p8 -> p7 ≠ p8 -> wpAnyH Tryz.prog md' ops' Q' (RegM w w.heap.size W2.heap.size (W2.heap.size + 1) (W2.heap.size + 2) W5.heap.size #[.bool a1, .slice B1 m1 d1] #[.bool a2, .slice B2 m2 d2] #[.bool a3, .slice B3 m3 d3] #[.bool a4, .slice B4 m4 d4]) 8 #[true, true, true, true, true, true, true, true, false, false, false, false, false, true, true, false, false, false] (((((a'.put (some 25) (.agg #[.bool f0, .slice F0 o0 e0])).put (some 27) (.agg #[.bool f1, .slice F1 o1 e1])).put (some 30) (.agg #[.bool f2, .slice F2 o2 e2])).put (some 7) (.pointer (some ⟨p7, 0, none⟩))).put (some 8) (.pointer (some ⟨p8, 0, none⟩))) W := by
  intro W f0 F0 o0 e0 f1 F1 o1 e1 f2 F2 o2 e2 p7 p8 hS hz hd hr1 hr2 h7 g7 h8 g8 g78
  subst hlm hlo hlq hla
  try simp only [Act.put, z]
  refine wpAnyH_ready (rs := [8]) (by kernel_rfl) (by simp) (AllReadyH.cons rfl (fun K hK => ?_) AllReadyH.nil)
  ·go_simp
   refine (quorem_any W (max (1 + k) 1 + 1) 1 _ _ (2 * N + (-D)) (2 * D) (by omega) (by omega) HD2.out (.inl (Nat.le_refl _)) hr1 hr2).mono ?_
   rintro e W' ⟨⟨v3, rg, rA, rn, rc, rfl, hr⟩, hB⟩
   obtain ⟨f3, F3, o3, e3, rfl⟩ := hr.open
   refine hK.out _ _ (hS.step (Nat.le_refl _) hB) (fun _ => ?_)
   clear hK K
   try simp only [Act.put, z]
   refine wpAnyH_take (i := 9) (v := .tuple #[.agg #[.bool f3, .slice F3 o3 e3], .agg #[.bool rg, .slice rA rn rc], .int .i64 0]) rfl (by kernel_rfl) (by kernel_rfl) (by kernel_rfl) (fun _ _ _ h => h) (.inl ⟨by rfl, fun W' hS' => by go_simp⟩) (hS.step (Nat.le_refl _) hB) ?_
   try simp only [Act.put, z]
   refine wpAnyH_take (i := 10) (v := .agg #[.bool f3, .slice F3 o3 e3]) rfl (by kernel_rfl) (by kernel_rfl) (by kernel_rfl) (fun _ _ _ h => h) (.inl ⟨by rfl, fun W' hS' => by go_simp⟩) (hS.step (Nat.le_refl _) hB) ?_
   try simp only [Act.put, z]
   refine wpAnyH_take (i := 11) (v := .agg #[.bool rg, .slice rA rn rc]) rfl (by kernel_rfl) (by kernel_rfl) (by kernel_rfl) (fun _ _ _ h => h) (.inl ⟨by rfl, fun W' hS' => by go_simp⟩) (hS.step (Nat.le_refl _) hB) ?_
   try simp only [Act.put, z]
   refine wpAnyH_take (i := 12) (v := .int .i64 0) rfl (by kernel_rfl) (by kernel_rfl) (by kernel_rfl) (fun _ _ _ h => h) (.inl ⟨by rfl, fun W' hS' => by go_simp⟩) (hS.step (Nat.le_refl _) hB) ?_
   try simp only [Act.put, z]
   have hn := n411 W' f0 F0 o0 e0 f1 F1 o1 e1 f2 F2 o2 e2 f3 F3 o3 e3 rg rA rn rc p7 p8 (hS.step (Nat.le_refl _) hB) (Nat.le_trans hz hB.size) (gbox hd hB (some_lt hd)) (hr) (gbox h7 hB (some_lt h7)) (g7) (gbox h8 hB (some_lt h8)) (g8) (g78)
   try simp only [Act.put, z] at hn
   exact hn
 have n310 : ∀ (W : World) (f0 : Bool) (F0 : Option Addr) (o0 e0 : Nat) (f1 : Bool) (F1 : Option Addr) (o1 e1 : Nat) (f2 : Bool) (F2 : Option Addr) (o2 e2 : Nat) (p7 : Nat), RegM w w.heap.size W2.heap.size (W2.heap.size + 1) (W2.heap.size + 2) W5.heap.size #[.bool a1, .slice B1 m1 d1] #[.bool a2, .slice B2 m2 d2] #[.bool a3, .slice B3 m3 d3] #[.bool a4, .slice B4 m4 d4] W -> W_0.heap.size <= W.heap.size -> W.heap[w.heap.size + 1]? = some (.cells #[.bool false, .slice none 0 0] 97 (0, 0)) -> PI W W.heap.size (max (1 + k) 1 + 1) (.agg #[.bool f1, .slice F1 o1 e1]) (2 * N + (-D)) -> PI W W.heap.size 1 (.agg #[.bool f2, .slice F2 o2 e2]) (2 * D) -> W.heap[p7]? = some (.cells #[.bool false, .slice none 0 0] 97 (0, 0)) -> W_0.heap.size <= p7 -> wpAnyH Tryz.prog md' ops' Q' (RegM w w.heap.size W2.heap.size (W2.heap.size + 1) (W2.heap.size + 2) W5.heap.size #[.bool a1, .slice B1 m1 d1] #[.bool a2, .slice B2 m2 d2] #[.bool a3, .slice B3 m3 d3] #[.bool a4, .slice B4 m4 d4]) 9 #[true, true, true, true, true, true, true, true, false, false, false, false, false, true, false, false, false, false] ((((a'.put (some 25) (.agg #[.bool f0, .slice F0 o0 e0])).put (some 27) (.agg #[.bool f1, .slice F1 o1 e1])).put (some 30) (.agg #[.bool f2, .slice F2 o2 e2])).put (some 7) (.pointer (some ⟨p7, 0, none⟩))) W := by
  intro W f0 F0 o0 e0 f1 F1 o1 e1 f2 F2 o2 e2 p7 hS hz hd hr1 hr2 h7 g7
  subst hlm hlo hlq hla
  try simp only [Act.put, z]
  refine wpAnyH_ready (rs := [8, 14]) (by kernel_rfl) (by simp) (AllReadyH.cons rfl (fun K hK => ?_) (AllReadyH.cons rfl (fun K hK => ?_) AllReadyH.nil))
  ·go_simp
   refine (quorem_any W (max (1 + k) 1 + 1) 1 _ _ (2 * N + (-D)) (2 * D) (by omega) (by omega) HD2.out (.inl (Nat.le_refl _)) hr1 hr2).mono ?_
   rintro e W' ⟨⟨v3, rg, rA, rn, rc, rfl, hr⟩, hB⟩
   obtain ⟨f3, F3, o3, e3, rfl⟩ := hr.open
   refine hK.out _ _ (hS.step (Nat.le_refl _) hB) (fun _ => ?_)
   clear hK K
   try simp only [Act.put, z]
   refine wpAnyH_take (i := 9) (v := .tuple #[.agg #[.bool f3, .slice F3 o3 e3], .agg #[.bool rg, .slice rA rn rc], .int .i64 0]) rfl (by kernel_rfl) (by kernel_rfl) (by kernel_rfl) (fun _ _ _ h => h) (.inl ⟨by rfl, fun W' hS' => by go_simp⟩) (hS.step (Nat.le_refl _) hB) ?_
   try simp only [Act.put, z]
   refine wpAnyH_take (i := 10) (v := .agg #[.bool f3, .slice F3 o3 e3]) rfl (by kernel_rfl) (by kernel_rfl) (by kernel_rfl) (fun _ _ _ h => h) (.inl ⟨by rfl, fun W' hS' => by go_simp⟩) (hS.step (Nat.le_refl _) hB) ?_
   try simp only [Act.put, z]
   refine wpAnyH_take (i := 11) (v := .agg #[.bool rg, .slice rA rn rc]) rfl (by kernel_rfl) (by kernel_rfl) (by kernel_rfl) (fun _ _ _ h => h) (.inl ⟨by rfl, fun W' hS' => by go_simp⟩) (hS.step (Nat.le_refl _) hB) ?_
   try simp only [Act.put, z]
   refine wpAnyH_take (i := 12) (v := .int .i64 0) rfl (by kernel_rfl) (by kernel_rfl) (by kernel_rfl) (fun _ _ _ h => h) (.inl ⟨by rfl, fun W' hS' => by go_simp⟩) (hS.step (Nat.le_refl _) hB) ?_
   try simp only [Act.put, z]
   have hn := n410 W' f0 F0 o0 e0 f1 F1 o1 e1 f2 F2 o2 e2 f3 F3 o3 e3 rg rA rn rc p7 (hS.step (Nat.le_refl _) hB) (Nat.le_trans hz hB.size) (gbox hd hB (some_lt hd)) (hr) (gbox h7 hB (some_lt h7)) (g7)
   try simp only [Act.put, z] at hn
   exact hn
  ·obtain ⟨hB, hrow, _⟩ := row1 W #[.bool false, .slice none 0 0] 97
   go_simp
   obtain ⟨W', hWn⟩ : ∃ W', W' = W.alloc (.cells #[.bool false, .slice none 0 0] 97) := ⟨_, rfl⟩
   rw [<- hWn] at hB hrow ⊢
   clear hWn
   have hne := some_lt h7
   refine hK.out _ _ (hS.step (Nat.le_refl _) hB) (fun _ => ?_)
   clear hK K
   try simp only [Act.put, z]
   have hn := n311 W' f0 F0 o0 e0 f1 F1 o1 e1 f2 F2 o2 e2 p7 W.heap.size (hS.step (Nat.le_refl _) hB) (Nat.le_trans hz hB.size) (gbox hd hB (some_lt hd)) (hr1.at_ hB) (hr2.at_ hB) (gbox h7 hB (some_lt h7)) (g7) (hrow) (hz) (by omega)
   try simp only [Act.put, z] at hn
   exact hn
 have n301 : ∀ (W : World) (f0 : Bool) (F0 : Option Addr) (o0 e0 : Nat) (f1 : Bool) (F1 : Option Addr) (o1 e1 : Nat) (f2 : Bool) (F2 : Option Addr) (o2 e2 : Nat) (p8 : Nat), RegM w w.heap.size W2.heap.size (W2.heap.size + 1) (W2.heap.size + 2) W5.heap.size #[.bool a1, .slice B1 m1 d1] #[.bool a2, .slice B2 m2 d2] #[.bool a3, .slice B3 m3 d3] #[.bool a4, .slice B4 m4 d4] W -> W_0.heap.size <= W.heap.size -> W.heap[w.heap.size + 1]? = some (.cells #[.bool false, .slice none 0 0] 97 (0, 0)) -> PI W W.heap.size (max (1 + k) 1 + 1) (.agg #[.bool f1, .slice F1 o1 e1]) (2 * N + (-D)) -> PI W W.heap.size 1 (.agg #[.bool f2, .slice F2 o2 e2]) (2 * D) -> W.heap[p8]? = some (.cells #[.bool false, .slice none 0 0] 97 (0, 0)) -> W_0.heap.size <= p8 -> wpAnyH Tryz.prog md' ops' Q' (RegM w w.heap.size W2.heap.size (W2.heap.size + 1) (W2.heap.size + 2) W5.heap.size #[.bool a1, .slice B1 m1 d1] #[.bool a2, .slice B2 m2 d2] #[.bool a3, .slice B3 m3 d3] #[.bool a4, .slice B4 m4 d4]) 9 #[true, true, true, true, true, true, true, true, false, false, false, false, false, false, true, false, false, false] ((((a'.put (some 25) (.agg #[.bool f0, .slice F0 o0 e0])).put (some 27) (.agg #[.bool f1, .slice F1 o1 e1])).put (some 30) (.agg #[.bool f2, .slice F2 o2 e2])).put (some 8) (.pointer (some ⟨p8, 0, none⟩))) W := by
  intro W f0 F0 o0 e0 f1 F1 o1 e1 f2 F2 o2 e2 p8 hS hz hd hr1 hr2 h8 g8
  subst hlm hlo hlq hla
  try simp only [Act.put, z]
  refine wpAnyH_ready (rs := [8, 13]) (by kernel_rfl) (by simp) (AllReadyH.cons rfl (fun K hK => ?_) (AllReadyH.cons rfl (fun K hK => ?_) AllReadyH.nil))
  ·go_simp
   refine (quorem_any W (max (1 + k) 1 + 1) 1 _ _ (2 * N + (-D)) (2 * D) (by omega) (by omega) HD2.out (.inl (Nat.le_refl _)) hr1 hr2).mono ?_
   rintro e W' ⟨⟨v3, rg, rA, rn, rc, rfl, hr⟩, hB⟩
   obtain ⟨f3, F3, o3, e3, rfl⟩ := hr.open
   refine hK.out _ _ (hS.step (Nat.le_refl _) hB) (fun _ => ?_)
   clear hK K
   try simp only [Act.put, z]
   refine wpAnyH_take (i := 9) (v := .tuple #[.agg #[.bool f3, .slice F3 o3 e3], .agg #[.bool rg, .slice rA rn rc], .int .i64 0]) rfl (by kernel_rfl) (by kernel_rfl) (by kernel_rfl) (fun _ _ _ h => h) (.inl ⟨by rfl, fun W' hS' => by go_simp⟩) (hS.step (Nat.le_refl _) hB) ?_
   try simp only [Act.put, z]
   refine wpAnyH_take (i := 10) (v := .agg #[.bool f3, .slice F3 o3 e3]) rfl (by kernel_rfl) (by kernel_rfl) (by kernel_rfl) (fun _ _ _ h => h) (.inl ⟨by rfl, fun W' hS' => by go_simp⟩) (hS.step (Nat.le_refl _) hB) ?_
   try simp only [Act.put, z]
   refine wpAnyH_take (i := 11) (v := .agg #[.bool rg, .slice rA rn rc]) rfl (by kernel_rfl) (by kernel_rfl) (by kernel_rfl) (fun _ _ _ h => h) (.inl ⟨by rfl, fun W' hS' => by go_simp⟩) (hS.step (Nat.le_refl _) hB) ?_
   try simp only [Act.put, z]
   refine wpAnyH_take (i := 12) (v := .int .i64 0) rfl (by kernel_rfl) (by kernel_rfl) (by kernel_rfl) (fun _ _ _ h => h) (.inl ⟨by rfl, fun W' hS' => by go_simp⟩) (hS.step (Nat.le_refl _) hB) ?_
   try simp only [Act.put, z]
   have hn := n401 W' f0 F0 o0 e0 f1 F1 o1 e1 f2 F2 o2 e2 f3 F3 o3 e3 rg rA rn rc p8 (hS.step (Nat.le_refl _) hB) (Nat.le_trans hz hB.size) (gbox hd hB (some_lt hd)) (hr) (gbox h8 hB (some_lt h8)) (g8)
   try simp only [Act.put, z] at hn
   exact hn
  ·obtain ⟨hB, hrow, _⟩ := row1 W #[.bool false, .slice none 0 0] 97
   go_simp
   obtain ⟨W', hWn⟩ : ∃ W', W' = W.alloc (.cells #[.bool false, .slice none 0 0] 97) := ⟨_, rfl⟩
   rw [<- hWn] at hB hrow ⊢
   clear hWn
   have hne := some_lt h8
   refine hK.out _ _ (hS.step (Nat.le_refl _) hB) (fun _ => ?_)
   clear hK K
   try simp only [Act.put, z]
   have hn := n311 W' f0 F0 o0 e0 f1 F1 o1 e1 f2 F2 o2 e2 W.heap.size p8 (hS.step (Nat.le_refl _) hB) (Nat.le_trans hz hB.size) (gbox hd hB (some_lt hd)) (hr1.at_ hB) (hr2.at_ hB) (hrow) (hz) (gbox h8 hB (some_lt h8)) (g8) (by omega)
   try simp only [Act.put, z] at hn
   exact hn
 have n300 : ∀ (W : World) (f0 : Bool) (F0 : Option Addr) (o0 e0 : Nat) (f1 : Bool) (F1 : Option Addr) (o1 e1 : Nat) (f2 : Bool) (F2 : Option Addr) (o2 e2 : Nat), RegM w w.heap.size W2.heap.size (W2.heap.size + 1) (W2.heap.size + 2) W5.heap.size #[.bool a1, .slice B1 m1 d1] #[.bool a2, .slice B2 m2 d2] #[.bool a3, .slice B3 m3 d3] #[.bool a4, .slice B4 m4 d4] W -> W_0.heap.size <= W.heap.size -> W.heap[w.heap.size + 1]? = some (.cells #[.bool false, .slice none 0 0] 97 (0, 0)) -> PI W W.heap.size (max (1 + k) 1 + 1) (.agg #[.bool f1, .slice F1 o1 e1]) (2 * N + (-D)) -> PI W W.heap.size 1 (.agg #[.bool f2, .slice F2 o2 e2]) (2 * D) -> wpAnyH Tryz.prog md' ops' Q' (RegM w w.heap.size W2.heap.size (W2.heap.size + 1) (W2.heap.size + 2) W5.heap.size #[.bool a1, .slice B1 m1 d1] #[.bool a2, .slice B2 m2 d2] #[.bool a3, .slice B3 m3 d3] #[.bool a4, .slice B4 m4 d4]) 10 #[true, true, true, true, true, true, true, true, false, false, false, false, false, false, false, false, false, false] (((a'.put (some 25) (.agg #[.bool f0, .slice F0 o0 e0])).put (some 27) (.agg #[.bool f1, .slice F1 o1 e1])).put (some 30) (.agg #[.bool f2, .slice F2 o2 e2])) W := by
  intro W f0 F0 o0 e0 f1 F1 o1 e1 f2 F2 o2 e2 hS hz hd hr1 hr2
  subst hlm hlo hlq hla
  try simp only [Act.put, z]
  refine wpAnyH_ready (rs := [8, 13, 14]) (by kernel_rfl) (by simp) (AllReadyH.cons rfl (fun K hK => ?_) (AllReadyH.cons rfl (fun K hK => ?_) (AllReadyH.cons rfl (fun K hK => ?_) AllReadyH.nil)))
  ·go_simp
   refine (quorem_any W (max (1 + k) 1 + 1) 1 _ _ (2 * N + (-D)) (2 * D) (by omega) (by omega) HD2.out (.inl (Nat.le_refl _)) hr1 hr2).mono ?_
   rintro e W' ⟨⟨v3, rg, rA, rn, rc, rfl, hr⟩, hB⟩
   obtain ⟨f3, F3, o3, e3, rfl⟩ := hr.open
   refine hK.out _ _ (hS.step (Nat.le_refl _) hB) (fun _ => ?_)
   clear hK K
   try simp only [Act.put, z]
   refine wpAnyH_take (i := 9) (v := .tuple #[.agg #[.bool f3, .slice F3 o3 e3], .agg #[.bool rg, .slice rA rn rc], .int .i64 0]) rfl (by kernel_rfl) (by kernel_rfl) (by kernel_rfl) (fun _ _ _ h => h) (.inl ⟨by rfl, fun W' hS' => by go_simp⟩) (hS.step (Nat.le_refl _) hB) ?_
   try simp only [Act.put, z]
   refine wpAnyH_take (i := 10) (v := .agg #[.bool f3, .slice F3 o3 e3]) rfl (by kernel_rfl) (by kernel_rfl) (by kernel_rfl) (fun _ _ _ h => h) (.inl ⟨by rfl, fun W' hS' => by go_simp⟩) (hS.step (Nat.le_refl _) hB) ?_
   try simp only [Act.put, z]
   refine wpAnyH_take (i := 11) (v := .agg #[.bool rg, .slice rA rn rc]) rfl (by kernel_rfl) (by kernel_rfl) (by kernel_rfl) (fun _ _ _ h => h) (.inl ⟨by rfl, fun W' hS' => by go_simp⟩) (hS.step (Nat.le_refl _) hB) ?_
   try simp only [Act.put, z]
   refine wpAnyH_take (i := 12) (v := .int .i64 0) rfl (by kernel_rfl) (by kernel_rfl) (by kernel_rfl) (fun _ _ _ h => h) (.inl ⟨by rfl, fun W' hS' => by go_simp⟩) (hS.step (Nat.le_refl _) hB) ?_
   try simp only [Act.put, z]
   have hn := n400 W' f0 F0 o0 e0 f1 F1 o1 e1 f2 F2 o2 e2 f3 F3 o3 e3 rg rA rn rc (hS.step (Nat.le_refl _) hB) (Nat.le_trans hz hB.size) (gbox hd hB (some_lt hd)) (hr)
   try simp only [Act.put, z] at hn
   exact hn
  ·obtain ⟨hB, hrow, _⟩ := row1 W #[.bool false, .slice none 0 0] 97
   go_simp
   obtain ⟨W', hWn⟩ : ∃ W', W' = W.alloc (.cells #[.bool false, .slice none 0 0] 97) := ⟨_, rfl⟩
   rw [<- hWn] at hB hrow ⊢
   clear hWn
   refine hK.out _ _ (hS.step (Nat.le_refl _) hB) (fun _ => ?_)
   clear hK K
   try simp only [Act.put, z]
   have hn := n310 W' f0 F0 o0 e0 f1 F1 o1 e1 f2 F2 o2 e2 W.heap.size (hS.step (Nat.le_refl _) hB) (Nat.le_trans hz hB.size) (gbox hd hB (some_lt hd)) (hr1.at_ hB) (hr2.at_ hB) (hrow) (hz)
   try simp only [Act.put, z] at hn
   exact hn
  ·obtain ⟨hB, hrow, _⟩ := row1 W #[.bool false, .slice none 0 0] 97
   go_simp
   obtain ⟨W', hWn⟩ : ∃ W', W' = W.alloc (.cells #[.bool false, .slice none 0 0] 97) := ⟨_, rfl⟩
   rw [<- hWn] at hB hrow ⊢
   clear hWn
   refine hK.out _ _ (hS.step (Nat.le_refl _) hB) (fun _ => ?_)
   clear hK K
   try simp only [Act.put, z]
   have hn := n301 W' f0 F0 o0 e0 f1 F1 o1 e1 f2 F2 o2 e2 W.heap.size (hS.step (Nat.le_refl _) hB) (Nat.le_trans hz hB.size) (gbox hd hB (some_lt hd)) (hr1.at_ hB) (hr2.at_ hB) (hrow) (hz)
   try simp only [Act.put, z] at hn
   exact hn
 have n211 : ∀ (W : World) (f0 : Bool) (F0 : Option Addr) (o0 e0 : Nat) (f1 : Bool) (F1 : Option Addr) (o1 e1 : Nat) (p7 : Nat) (p8 : Nat), RegM w w.heap.size W2.heap.size (W2.heap.size + 1) (W2.heap.size + 2) W5.heap.size #[.bool a1, .slice B1 m1 d1] #[.bool a2, .slice B2 m2 d2] #[.bool a3, .slice B3 m3 d3] #[.bool a4, .slice B4 m4 d4] W -> W_0.heap.size <= W.heap.size -> W.heap[w.heap.size + 1]? = some (.cells #[.bool false, .slice none 0 0] 97 (0, 0)) -> PI W W.heap.size 1 (.agg #[.bool a2, .slice B2 m2 d2]) D -> PI W W.heap.size 1 (.agg #[.bool a4, .slice B4 m4 d4]) 2 -> PI W W.heap.size (max (1 + k) 1 + 1) (.agg #[.bool f1, .slice F1 o1 e1]) (2 * N + (-D)) -> W.heap[p7]? = some (.cells #[.bool false, .slice none 0 0] 97 (0, 0)) -> W_0.heap.size <= p7 -> W.heap[p8]? = some (.cells #[.bool false, .slice none 0 0] 97 (0, 0)) -> W_0.heap.size <= p8 -> p7 ≠ p8 -> wpAnyH Tryz.prog md' ops' Q' (RegM w w.heap.size W2.heap.size (W2.heap.size + 1) (W2.heap.size + 2) W5.heap.size #[.bool a1, .slice B1 m1 d1] #[.bool a2, .slice B2 m2 d2] #[.bool a3, .slice B3 m3 d3] #[.bool a4, .slice B4 m4 d4]) 9 #[true, true, true, true, true, true, true, false, false, false, false, false, false, true, true, false, false, false] ((((a'.put (some 25) (.agg #[.bool f0, .slice F0 o0 e0])).put (some 27) (.agg #[.bool f1, .slice F1 o1 e1])).put (some 7) (.pointer (some ⟨p7, 0, none⟩))).put (some 8) (.pointer (some ⟨p8, 0, none⟩))) W := by
  intro W f0 F0 o0 e0 f1 F1 o1 e1 p7 p8 hS hz hd hD h2 hr1 h7 g7 h8 g8 g78
  subst hlm hlo hlq hla
  try simp only [Act.put, z]
  refine wpAnyH_ready (rs := [7]) (by kernel_rfl) (by simp) (AllReadyH.cons rfl (fun K hK => ?_) AllReadyH.nil)
  ·go_simp
   refine (mul_int W 1 1 _ _ 2 D (by omega) (by omega) h2 hD).mono ?_
   rintro e W' ⟨⟨v2, rfl, hr⟩, hB⟩
   obtain ⟨f2, F2, o2, e2, rfl⟩ := hr.open
   refine hK.out _ _ (hS.step (Nat.le_refl _) hB) (fun _ => ?_)
   clear hK K
   try simp only [Act.put, z]
   have hn := n311 W' f0 F0 o0 e0 f1 F1 o1 e1 f2 F2 o2 e2 p7 p8 (hS.step (Nat.le_refl _) hB) (Nat.le_trans hz hB.size) (gbox hd hB (some_lt hd)) (hr1.at_ hB) (hr.tight Ht.out.1 Ht.out.2) (gbox h7 hB (some_lt h7)) (g7) (gbox h8 hB (some_lt h8)) (g8) (g78)
   try simp only [Act.put, z] at hn
   exact hn
 have n210 : ∀ (W : World) (f0 : Bool) (F0 : Option Addr) (o0 e0 : Nat) (f1 : Bool) (F1 : Option Addr) (o1 e1 : Nat) (p7 : Nat), RegM w w.heap.size W2.heap.size (W2.heap.size + 1) (W2.heap.size + 2) W5.heap.size #[.bool a1, .slice B1 m1 d1] #[.bool a2, .slice B2 m2 d2] #[.bool a3, .slice B3 m3 d3] #[.bool a4, .slice B4 m4 d4] W -> W_0.heap.size <= W.heap.size -> W.heap[w.heap.size + 1]? = some (.cells #[.bool false, .slice none 0 0] 97 (0, 0)) -> PI W W.heap.size 1 (.agg #[.bool a2, .slice B2 m2 d2]) D -> PI W W.heap.size 1 (.agg #[.bool a4, .slice B4 m4 d4]) 2 -> PI W W.heap.size (max (1 + k) 1 + 1) (.agg #[.bool f1, .slice F1 o1 e1]) (2 * N + (-D)) -> W.heap[p7]? = some (.cells #[.bool false, .slice none 0 0] 97 (0, 0)) -> W_0.heap.size <= p7 -> wpAnyH Tryz.prog md' ops' Q' (RegM w w.heap.size W2.heap.size (W2.heap.size + 1) (W2.heap.size + 2) W5.heap.size #[.bool a1, .slice B1 m1 d1] #[.bool a2, .slice B2 m2 d2] #[.bool a3, .slice B3 m3 d3] #[.bool a4, .slice B4 m4 d4]) 10 #[true, true, true, true, true, true, true, false, false, false, false, false, false, true, false, false, false, false] (((a'.put (some 25) (.agg #[.bool f0, .slice F0 o0 e0])).put (some 27) (.agg #[.bool f1, .slice F1 o1 e1])).put (some 7) (.pointer (some ⟨p7, 0, none⟩))) W := by
  intro W f0 F0 o0 e0 f1 F1 o1 e1 p7 hS hz hd hD h2 hr1 h7 g7
  subst hlm hlo hlq hla
  try simp only [Act.put, z]
  refine wpAnyH_ready (rs := [7, 14]) (by kernel_rfl) (by simp) (AllReadyH.cons rfl (fun K hK => ?_) (AllReadyH.cons rfl (fun K hK => ?_) AllReadyH.nil))
  ·go_simp
   refine (mul_int W 1 1 _ _ 2 D (by omega) (by omega) h2 hD).mono ?_
   rintro e W' ⟨⟨v2, rfl, hr⟩, hB⟩
   obtain ⟨f2, F2, o2, e2, rfl⟩ := hr.open
   refine hK.out _ _ (hS.step (Nat.le_refl _) hB) (fun _ => ?_)
   clear hK K
   try simp only [Act.put, z]
   have hn := n310 W' f0 F0 o0 e0 f1 F1 o1 e1 f2 F2 o2 e2 p7 (hS.step (Nat.le_refl _) hB) (Nat.le_trans hz hB.size) (gbox hd hB (some_lt hd)) (hr1.at_ hB) (hr.tight Ht.out.1 Ht.out.2) (gbox h7 hB (some_lt h7)) (g7)
   try simp only [Act.put, z] at hn
   exact hn
  ·obtain ⟨hB, hrow, _⟩ := row1 W #[.bool false, .slice none 0 0] 97
   go_simp
   obtain ⟨W', hWn⟩ : ∃ W', W' = W.alloc (.cells #[.bool false, .slice none 0 0] 97) := ⟨_, rfl⟩
   rw [<- hWn] at hB hrow ⊢
   clear hWn
   have hne := some_lt h7
   refine hK.out _ _ (hS.step (Nat.le_refl _) hB) (fun _ => ?_)
   clear hK K
   try simp only [Act.put, z]
   have hn := n211 W' f0 F0 o0 e0 f1 F1 o1 e1 p7 W.heap.size (hS.step (Nat.le_refl _) hB) (Nat.le_trans hz hB.size) (gbox hd hB (some_lt hd)) (hD.at_ hB) (h2.at_ hB) (hr1.at_ hB) (gbox h7 hB (some_lt h7)) (g7) (hrow) (hz) (by omega)
   try simp only [Act.put, z] at hn
   exact hn
 have n201 : ∀ (W : World) (f0 : Bool) (F0 : Option Addr) (o0 e0 : Nat) (f1 : Bool) (F1 : Option Addr) (o1 e1 : Nat) (p8 : Nat), RegM w w.heap.size W2.heap.size (W2.heap.size + 1) (W2.heap.size + 2) W5.heap.size #[.bool a1, .slice B1 m1 d1] #[.bool a2, .slice B2 m2 d2] #[.bool a3, .slice B3 m3 d3] #[.bool a4, .slice B4 m4 d4] W -> W_0.heap.size <= W.heap.size -> W.heap[w.heap.size + 1]? = some (.cells #[.bool false, .slice none 0 0] 97 (0, 0)) -> PI W W.heap.size 1 (.agg #[.bool a2, .slice B2 m2 d2]) D -> PI W W.heap.size 1 (.agg #[.bool a4, .slice B4 m4 d4]) 2 -> PI W W.heap.size (max (1 + k) 1 + 1) (.agg #[.bool f1, .slice F1 o1 e1]) (2 * N + (-D)) -> W.heap[p8]? = some (.cells #[.bool false, .slice none 0 0] 97 (0, 0)) -> W_0.heap.size <= p8 -> wpAnyH Tryz.prog md' ops' Q' (RegM w w.heap.size W2.heap.size (W2.heap.size + 1) (W2.heap.size + 2) W5.heap.size #[.bool a1, .slice B1 m1 d1] #[.bool a2, .slice B2 m2 d2] #[.bool a3, .slice B3 m3 d3] #[.bool a4, .slice B4 m4 d4]) 10 #[true, true, true, true, true, true, true, false, false, false, false, false, false, false, true, false, false, false] (((a'.put (some 25) (.agg #[.bool f0, .slice F0 o0 e0])).put (some 27) (.agg #[.bool f1, .slice F1 o1 e1])).put (some 8) (.pointer (some ⟨p8, 0, none⟩))) W := by
  intro W f0 F0 o0 e0 f1 F1 o1 e1 p8 hS hz hd hD h2 hr1 h8 g8
  subst hlm hlo hlq hla
  try simp only [Act.put, z]
  refine wpAnyH_ready (rs := [7, 13]) (by kernel_rfl) (by simp) (AllReadyH.cons rfl (fun K hK => ?_) (AllReadyH.cons rfl (fun K hK => ?_) AllReadyH.nil))
  ·go_simp
   refine (mul_int W 1 1 _ _ 2 D (by omega) (by omega) h2 hD).mono ?_
   rintro e W' ⟨⟨v2, rfl, hr⟩, hB⟩
   obtain ⟨f2, F2, o2, e2, rfl⟩ := hr.open
   refine hK.out _ _ (hS.step (Nat.le_refl _) hB) (fun _ => ?_)
   clear hK K
   try simp only [Act.put, z]
   have hn := n301 W' f0 F0 o0 e0 f1 F1 o1 e1 f2 F2 o2 e2 p8 (hS.step (Nat.le_refl _) hB) (Nat.le_trans hz hB.size) (gbox hd hB (some_lt hd)) (hr1.at_ hB) (hr.tight Ht.out.1 Ht.out.2) (gbox h8 hB (some_lt h8)) (g8)
   try simp only [Act.put, z] at hn
   exact hn
  ·obtain ⟨hB, hrow, _⟩ := row1 W #[.bool false, .slice none 0 0] 97
   go_simp
   obtain ⟨W', hWn⟩ : ∃ W', W' = W.alloc (.cells #[.bool false, .slice none 0 0] 97) := ⟨_, rfl⟩
   rw [<- hWn] at hB hrow ⊢
   clear hWn
   have hne := some_lt h8
   refine hK.out _ _ (hS.step (Nat.le_refl _) hB) (fun _ => ?_)
   clear hK K
   try simp only [Act.put, z]
   have hn := n211 W' f0 F0 o0 e0 f1 F1 o1 e1 W.heap.size p8 (hS.step (Nat.le_refl _) hB) (Nat.le_trans hz hB.size) (gbox hd hB (some_lt hd)) (hD.at_ hB) (h2.at_ hB) (hr1.at_ hB) (hrow) (hz) (gbox h8 hB (some_lt h8)) (g8) (by omega)
   try simp only [Act.put, z] at hn
   exact hn
 have n200 : ∀ (W : World) (f0 : Bool) (F0 : Option Addr) (o0 e0 : Nat) (f1 : Bool) (F1 : Option Addr) (o1 e1 : Nat), RegM w w.heap.size W2.heap.size (W2.heap.size + 1) (W2.heap.size + 2) W5.heap.size #[.bool a1, .slice B1 m1 d1] #[.bool a2, .slice B2 m2 d2] #[.bool a3, .slice B3 m3 d3] #[.bool a4, .slice B4 m4 d4] W -> W_0.heap.size <= W.heap.size -> W.heap[w.heap.size + 1]? = some (.cells #[.bool false, .slice none 0 0] 97 (0, 0)) -> PI W W.heap.size 1 (.agg #[.bool a2, .slice B2 m2 d2]) D -> PI W W.heap.size 1 (.agg #[.bool a4, .slice B4 m4 d4]) 2 -> PI W W.heap.size (max (1 + k) 1 + 1) (.agg #[.bool f1, .slice F1 o1 e1]) (2 * N + (-D)) -> wpAnyH Tryz.prog md' ops' Q' (RegM w w.heap.size W2.heap.size (W2.heap.size + 1) (W2.heap.size + 2) W5.heap.size #[.bool a1, .slice B1 m1 d1] #[.bool a2, .slice B2 m2 d2] #[.bool a3, .slice B3 m3 d3] #[.bool a4, .slice B4 m4 d4]) 11 #[true, true, true, true, true, true, true, false, false, false, false, false, false, false, false, false, false, false] ((a'.put (some 25) (.agg #[.bool f0, .slice F0 o0 e0])).put (some 27) (.agg #[.bool f1, .slice F1 o1 e1])) W := by
  intro W f0 F0 o0 e0 f1 F1 o1 e1 hS hz hd hD h2 hr1
  subst hlm hlo hlq hla
  try simp only [Act.put, z]
  refine wpAnyH_ready (rs := [7, 13, 14]) (by kernel_rfl) (by simp) (AllReadyH.cons rfl (fun K hK => ?_) (AllReadyH.cons rfl (fun K hK => ?_) (AllReadyH.cons rfl (fun K hK => ?_) AllReadyH.nil)))
  ·go_simp
   refine (mul_int W 1 1 _ _ 2 D (by omega) (by omega) h2 hD).mono ?_
   rintro e W' ⟨⟨v2, rfl, hr⟩, hB⟩
   obtain ⟨f2, F2, o2, e2, rfl⟩ := hr.open
   refine hK.out _ _ (hS.step (Nat.le_refl _) hB) (fun _ => ?_)
   clear hK K
   try simp only [Act.put, z]
   have hn := n300 W' f0 F0 o0 e0 f1 F1 o1 e1 f2 F2 o2 e2 (hS.step (Nat.le_refl _) hB) (Nat.le_trans hz hB.size) (gbox hd hB (some_lt hd)) (hr1.at_ hB) (hr.tight Ht.out.1 Ht.out.2)
   try simp only [Act.put, z] at hn
   exact hn
  ·obtain ⟨hB, hrow, _⟩ := row1 W #[.bool false, .slice none 0 0] 97
   go_simp
   obtain ⟨W', hWn⟩ : ∃ W', W' = W.alloc (.cells #[.bool false, .slice none 0 0] 97) := ⟨_, rfl⟩
   rw [<- hWn] at hB hrow ⊢
   clear hWn
   refine hK.out _ _ (hS.step (Nat.le_refl _) hB) (fun _ => ?_)
   clear hK K
   try simp only [Act.put, z]
   have hn := n210 W' f0 F0 o0 e0 f1 F1 o1 e1 W.heap.size (hS.step (Nat.le_refl _) hB) (Nat.le_trans hz hB.size) (gbox hd hB (some_lt hd)) (hD.at_ hB) (h2.at_ hB) (hr1.at_ hB) (hrow) (hz)
   try simp only [Act.put, z] at hn
   exact hn
  ·obtain ⟨hB, hrow, _⟩ := row1 W #[.bool false, .slice none 0 0] 97
   go_simp
   obtain ⟨W', hWn⟩ : ∃ W', W' = W.alloc (.cells #[.bool false, .slice none 0 0] 97) := ⟨_, rfl⟩
   rw [<- hWn] at hB hrow ⊢
   clear hWn
   refine hK.out _ _ (hS.step (Nat.le_refl _) hB) (fun _ => ?_)
   clear hK K
   try simp only [Act.put, z]
   have hn := n201 W' f0 F0 o0 e0 f1 F1 o1 e1 W.heap.size (hS.step (Nat.le_refl _) hB) (Nat.le_trans hz hB.size) (gbox hd hB (some_lt hd)) (hD.at_ hB) (h2.at_ hB) (hr1.at_ hB) (hrow) (hz)
   try simp only [Act.put, z] at hn
   exact hn
 have n111 : ∀ (W : World) (f0 : Bool) (F0 : Option Addr) (o0 e0 : Nat) (p7 : Nat) (p8 : Nat), RegM w w.heap.size W2.heap.size (W2.heap.size + 1) (W2.heap.size + 2) W5.heap.size #[.bool a1, .slice B1 m1 d1] #[.bool a2, .slice B2 m2 d2] #[.bool a3, .slice B3 m3 d3] #[.bool a4, .slice B4 m4 d4] W -> W_0.heap.size <= W.heap.size -> W.heap[w.heap.size + 1]? = some (.cells #[.bool false, .slice none 0 0] 97 (0, 0)) -> PI W W.heap.size 1 (.agg #[.bool a3, .slice B3 m3 d3]) (-D) -> PI W W.heap.size 1 (.agg #[.bool a2, .slice B2 m2 d2]) D -> PI W W.heap.size 1 (.agg #[.bool a4, .slice B4 m4 d4]) 2 -> PI W W.heap.size (1 + k) (.agg #[.bool f0, .slice F0 o0 e0]) (2 * N) -> W.heap[p7]? = some (.cells #[.bool false, .slice none 0 0] 97 (0, 0)) -> W_0.heap.size <= p7 -> W.heap[p8]? = some (.cells #[.bool false, .slice none 0 0] 97 (0, 0)) -> W_0.heap.size <= p8 -> p7 ≠ p8 -> wpAnyH Tryz.prog md' ops' Q' (RegM w w.heap.size W2.heap.size (W2.heap.size + 1) (W2.heap.size + 2) W5.heap.size #[.bool a1, .slice B1 m1 d1] #[.bool a2, .slice B2 m2 d2] #[.bool a3, .slice B3 m3 d3] #[.bool a4, .slice B4 m4 d4]) 10 #[true, true, true, true, false, true, true, false, false, false, false, false, false, true, true, false, false, false] (((a'.put (some 25) (.agg #[.bool f0, .slice F0 o0 e0])).put (some 7) (.pointer (some ⟨p7, 0, none⟩))).put (some 8) (.pointer (some ⟨p8, 0, none⟩))) W := by
  intro W f0 F0 o0 e0 p7 p8 hS hz hd hE hD h2 hr0 h7 g7 h8 g8 g78
  subst hlm hlo hlq hla
  try simp only [Act.put, z]
  refine wpAnyH_ready (rs := [4]) (by kernel_rfl) (by simp) (AllReadyH.cons rfl (fun K hK => ?_) AllReadyH.nil)
  ·go_simp
   refine (add_int W (1 + k) 1 _ _ (2 * N) (-D) (by omega) (by omega) hr0 hE).mono ?_
   rintro e W' ⟨⟨v1, rfl, hr⟩, hB⟩
   obtain ⟨f1, F1, o1, e1, rfl⟩ := hr.open
   refine hK.out _ _ (hS.step (Nat.le_refl _) hB) (fun _ => ?_)
   clear hK K
   try simp only [Act.put, z]
   have hn := n211 W' f0 F0 o0 e0 f1 F1 o1 e1 p7 p8 (hS.step (Nat.le_refl _) hB) (Nat.le_trans hz hB.size) (gbox hd hB (some_lt hd)) (hD.at_ hB) (h2.at_ hB) (hr) (gbox h7 hB (some_lt h7)) (g7) (gbox h8 hB (some_lt h8)) (g8) (g78)
   try simp only [Act.put, z] at hn
   exact hn
 have n110 : ∀ (W : World) (f0 : Bool) (F0 : Option Addr) (o0 e0 : Nat) (p7 : Nat), RegM w w.heap.size W2.heap.size (W2.heap.size + 1) (W2.heap.size + 2) W5.heap.size #[.bool a1, .slice B1 m1 d1] #[.bool a2, .slice B2 m2 d2] #[.bool a3, .slice B3 m3 d3] #[.bool a4, .slice B4 m4 d4] W -> W_0.heap.size <= W.heap.size -> W.heap[w.heap.size + 1]? = some (.cells #[.bool false, .slice none 0 0] 97 (0, 0)) -> PI W W.heap.size 1 (.agg #[.bool a3, .slice B3 m3 d3]) (-D) -> PI W W.heap.size 1 (.agg #[.bool a2, .slice B2 m2 d2]) D -> PI W W.heap.size 1 (.agg #[.bool a4, .slice B4 m4 d4]) 2 -> PI W W.heap.size (1 + k) (.agg #[.bool f0, .slice F0 o0 e0]) (2 * N) -> W.heap[p7]? = some (.cells #[.bool false, .slice none 0 0] 97 (0, 0)) -> W_0.heap.size <= p7 -> wpAnyH Tryz.prog md' ops' Q' (RegM w w.heap.size W2.heap.size (W2.heap.size + 1) (W2.heap.size + 2) W5.heap.size #[.bool a1, .slice B1 m1 d1] #[.bool a2, .slice B2 m2 d2] #[.bool a3, .slice B3 m3 d3] #[.bool a4, .slice B4 m4 d4]) 11 #[true, true, true, true, false, true, true, false, false, false, false, false, false, true, false, false, false, false] ((a'.put (some 25) (.agg #[.bool f0, .slice F0 o0 e0])).put (some 7) (.pointer (some ⟨p7, 0, none⟩))) W := by
  intro W f0 F0 o0 e0 p7 hS hz hd hE hD h2 hr0 h7 g7
  subst hlm hlo hlq hla
  try simp only [Act.put, z]
  refine wpAnyH_ready (rs := [4, 14]) (by kernel_rfl) (by simp) (AllReadyH.cons rfl (fun K hK => ?_) (AllReadyH.cons rfl (fun K hK => ?_) AllReadyH.nil))
  ·go_simp
   refine (add_int W (1 + k) 1 _ _ (2 * N) (-D) (by omega) (by omega) hr0 hE).mono ?_
   rintro e W' ⟨⟨v1, rfl, hr⟩, hB⟩
   obtain ⟨f1, F1, o1, e1, rfl⟩ := hr.open
   refine hK.out _ _ (hS.step (Nat.le_refl _) hB) (fun _ => ?_)
   clear hK K
   try simp only [Act.put, z]
   have hn := n210 W' f0 F0 o0 e0 f1 F1 o1 e1 p7 (hS.step (Nat.le_refl _) hB) (Nat.le_trans hz hB.size) (gbox hd hB (some_lt hd)) (hD.at_ hB) (h2.at_ hB) (hr) (gbox h7 hB (some_lt h7)) (g7)
   try simp only [Act.put, z] at hn
   exact hn
  ·obtain ⟨hB, hrow, _⟩ := row1 W #[.bool false, .slice none 0 0] 97
   go_simp
   obtain ⟨W', hWn⟩ : ∃ W', W' = W.alloc (.cells #[.bool false, .slice none 0 0] 97) := ⟨_, rfl⟩
   rw [<- hWn] at hB hrow ⊢
   clear hWn
   have hne := some_lt h7
   refine hK.out _ _ (hS.step (Nat.le_refl _) hB) (fun _ => ?_)
   clear hK K
   try simp only [Act.put, z]
   have hn := n111 W' f0 F0 o0 e0 p7 W.heap.size (hS.step (Nat.le_refl _) hB) (Nat.le_trans hz hB.size) (gbox hd hB (some_lt hd)) (hE.at_ hB) (hD.at_ hB) (h2.at_ hB) (hr0.at_ hB) (gbox h7 hB (some_lt h7)) (g7) (hrow) (hz) (by omega)
   try simp only [Act.put, z] at hn
   exact hn
 have n101 : ∀ (W : World) (f0 : Bool) (F0 : Option Addr) (o0 e0 : Nat) (p8 : Nat), RegM w w.heap.size W2.heap.size (W2.heap.size + 1) (W2.heap.size + 2) W5.heap.size #[.bool a1, .slice B1 m1 d1] #[.bool a2, .slice B2 m2 d2] #[.bool a3, .slice B3 m3 d3] #[.bool a4, .slice B4 m4 d4] W -> W_0.heap.size <= W.heap.size -> W.heap[w.heap.size + 1]? = some (.cells #[.bool false, .slice none 0 0] 97 (0, 0)) -> PI W W.heap.size 1 (.agg #[.bool a3, .slice B3 m3 d3]) (-D) -> PI W W.heap.size 1 (.agg #[.bool a2, .slice B2 m2 d2]) D -> PI W W.heap.size 1 (.agg #[.bool a4, .slice B4 m4 d4]) 2 -> PI W W.heap.size (1 + k) (.agg #[.bool f0, .slice F0 o0 e0]) (2 * N) -> W.heap[p8]? = some (.cells #[.bool false, .slice none 0 0] 97 (0, 0)) -> W_0.heap.size <= p8 -> wpAnyH Tryz.prog md' ops' Q' (RegM w w.heap.size W2.heap.size (W2.heap.size + 1) (W2.heap.size + 2) W5.heap.size #[.bool a1, .slice B1 m1 d1] #[.bool a2, .slice B2 m2 d2] #[.bool a3, .slice B3 m3 d3] #[.bool a4, .slice B4 m4 d4]) 11 #[true, true, true, true, false, true, true, false, false, false, false, false, false, false, true, false, false, false] ((a'.put (some 25) (.agg #[.bool f0, .slice F0 o0 e0])).put (some 8) (.pointer (some ⟨p8, 0, none⟩))) W := by
  intro W f0 F0 o0 e0 p8 hS hz hd hE hD h2 hr0 h8 g8
  subst hlm hlo hlq hla
  try simp only [Act.put, z]
  refine wpAnyH_ready (rs := [4, 13]) (by kernel_rfl) (by simp) (AllReadyH.cons rfl (fun K hK => ?_) (AllReadyH.cons rfl (fun K hK => ?_) AllReadyH.nil))
  ·go_simp
   refine (add_int W (1 + k) 1 _ _ (2 * N) (-D) (by omega) (by omega) hr0 hE).mono ?_
   rintro e W' ⟨⟨v1, rfl, hr⟩, hB⟩
   obtain ⟨f1, F1, o1, e1, rfl⟩ := hr.open
   refine hK.out _ _ (hS.step (Nat.le_refl _) hB) (fun _ => ?_)
   clear hK K
   try simp only [Act.put, z]
   have hn := n201 W' f0 F0 o0 e0 f1 F1 o1 e1 p8 (hS.step (Nat.le_refl _) hB) (Nat.le_trans hz hB.size) (gbox hd hB (some_lt hd)) (hD.at_ hB) (h2.at_ hB) (hr) (gbox h8 hB (some_lt h8)) (g8)
   try simp only [Act.put, z] at hn
   exact hn
  ·obtain ⟨hB, hrow, _⟩ := row1 W #[.bool false, .slice none 0 0] 97
   go_simp
   obtain ⟨W', hWn⟩ : ∃ W', W' = W.alloc (.cells #[.bool false, .slice none 0 0] 97) := ⟨_, rfl⟩
   rw [<- hWn] at hB hrow ⊢
   clear hWn
   have hne := some_lt h8
   refine hK.out _ _ (hS.step (Nat.le_refl _) hB) (fun _ => ?_)
   clear hK K
   try simp only [Act.put, z]
   have hn := n111 W' f0 F0 o0 e0 W.heap.size p8 (hS.step (Nat.le_refl _) hB) (Nat.le_trans hz hB.size) (gbox hd hB (some_lt hd)) (hE.at_ hB) (hD.at_ hB) (h2.at_ hB) (hr0.at_ hB) (hrow) (hz) (gbox h8 hB (some_lt h8)) (g8) (by omega)
   try simp only [Act.put, z] at hn
   exact hn
 have n100 : ∀ (W : World) (f0 : Bool) (F0 : Option Addr) (o0 e0 : Nat), RegM w w.heap.size W2.heap.size (W2.heap.size + 1) (W2.heap.size + 2) W5.heap.size #[.bool a1, .slice B1 m1 d1] #[.bool a2, .slice B2 m2 d2] #[.bool a3, .slice B3 m3 d3] #[.bool a4, .slice B4 m4 d4] W -> W_0.heap.size <= W.heap.size -> W.heap[w.heap.size + 1]? = some (.cells #[.bool false, .slice none 0 0] 97 (0, 0)) -> PI W W.heap.size 1 (.agg #[.bool a3, .slice B3 m3 d3]) (-D) -> PI W W.heap.size 1 (.agg #[.bool a2, .slice B2 m2 d2]) D -> PI W W.heap.size 1 (.agg #[.bool a4, .slice B4 m4 d4]) 2 -> PI W W.heap.size (1 + k) (.agg #[.bool f0, .slice F0 o0 e0]) (2 * N) -> wpAnyH Tryz.prog md' ops' Q' (RegM w w.heap.size W2.heap.size (W2.heap.size + 1) (W2.heap.size + 2) W5.heap.size #[.bool a1, .slice B1 m1 d1] #[.bool a2, .slice B2 m2 d2] #[.bool a3, .slice B3 m3 d3] #[.bool a4, .slice B4 m4 d4]) 12 #[true, true, true, true, false, true, true, false, false, false, false, false, false, false, false, false, false, false] (a'.put (some 25) (.agg #[.bool f0, .slice F0 o0 e0])) W := by
  intro W f0 F0 o0 e0 hS hz hd hE hD h2 hr0
  subst hlm hlo hlq hla
  try simp only [Act.put, z]
  refine wpAnyH_ready (rs := [4, 13, 14]) (by kernel_rfl) (by simp) (AllReadyH.cons rfl (fun K hK => ?_) (AllReadyH.cons rfl (fun K hK => ?_) (AllReadyH.cons rfl (fun K hK => ?_) AllReadyH.nil)))
  ·go_simp
   refine (add_int W (1 + k) 1 _ _ (2 * N) (-D) (by omega) (by omega) hr0 hE).mono ?_
   rintro e W' ⟨⟨v1, rfl, hr⟩, hB⟩
   obtain ⟨f1, F1, o1, e1, rfl⟩ := hr.open
   refine hK.out _ _ (hS.step (Nat.le_refl _) hB) (fun _ => ?_)
   clear hK K
   try simp only [Act.put, z]
   have hn := n200 W' f0 F0 o0 e0 f1 F1 o1 e1 (hS.step (Nat.le_refl _) hB) (Nat.le_trans hz hB.size) (gbox hd hB (some_lt hd)) (hD.at_ hB) (h2.at_ hB) (hr)
   try simp only [Act.put, z] at hn
   exact hn
  ·obtain ⟨hB, hrow, _⟩ := row1 W #[.bool false, .slice none 0 0] 97
   go_simp
   obtain ⟨W', hWn⟩ : ∃ W', W' = W.alloc (.cells #[.bool false, .slice none 0 0] 97) := ⟨_, rfl⟩
   rw [<- hWn] at hB hrow ⊢
   clear hWn
   refine hK.out _ _ (hS.step (Nat.le_refl _) hB) (fun _ => ?_)
   clear hK K
   try simp only [Act.put, z]
   have hn := n110 W' f0 F0 o0 e0 W.heap.size (hS.step (Nat.le_refl _) hB) (Nat.le_trans hz hB.size) (gbox hd hB (some_lt hd)) (hE.at_ hB) (hD.at_ hB) (h2.at_ hB) (hr0.at_ hB) (hrow) (hz)
   try simp only [Act.put, z] at hn
   exact hn
  ·obtain ⟨hB, hrow, _⟩ := row1 W #[.bool false, .slice none 0 0] 97
   go_simp
   obtain ⟨W', hWn⟩ : ∃ W', W' = W.alloc (.cells #[.bool false, .slice none 0 0] 97) := ⟨_, rfl⟩
   rw [<- hWn] at hB hrow ⊢
   clear hWn
   refine hK.out _ _ (hS.step (Nat.le_refl _) hB) (fun _ => ?_)
   clear hK K
   try simp only [Act.put, z]
   have hn := n101 W' f0 F0 o0 e0 W.heap.size (hS.step (Nat.le_refl _) hB) (Nat.le_trans hz hB.size) (gbox hd hB (some_lt hd)) (hE.at_ hB) (hD.at_ hB) (h2.at_ hB) (hr0.at_ hB) (hrow) (hz)
   try simp only [Act.put, z] at hn
   exact hn
 have n011 : ∀ (W : World)  (p7 : Nat) (p8 : Nat), RegM w w.heap.size W2.heap.size (W2.heap.size + 1) (W2.heap.size + 2) W5.heap.size #[.bool a1, .slice B1 m1 d1] #[.bool a2, .slice B2 m2 d2] #[.bool a3, .slice B3 m3 d3] #[.bool a4, .slice B4 m4 d4] W -> W_0.heap.size <= W.heap.size -> W.heap[w.heap.size + 1]? = some (.cells #[.bool false, .slice none 0 0] 97 (0, 0)) -> PI W W.heap.size k (.agg #[.bool a1, .slice B1 m1 d1]) N -> PI W W.heap.size 1 (.agg #[.bool a3, .slice B3 m3 d3]) (-D) -> PI W W.heap.size 1 (.agg #[.bool a2, .slice B2 m2 d2]) D -> PI W W.heap.size 1 (.agg #[.bool a4, .slice B4 m4 d4]) 2 -> W.heap[p7]? = some (.cells #[.bool false, .slice none 0 0] 97 (0, 0)) -> W_0.heap.size <= p7 -> W.heap[p8]? = some (.cells #[.bool false, .slice none 0 0] 97 (0, 0)) -> W_0.heap.size <= p8 -> p7 ≠ p8 -> wpAnyH Tryz.prog md' ops' Q' (RegM w w.heap.size W2.heap.size (W2.heap.size + 1) (W2.heap.size + 2) W5.heap.size #[.bool a1, .slice B1 m1 d1] #[.bool a2, .slice B2 m2 d2] #[.bool a3, .slice B3 m3 d3] #[.bool a4, .slice B4 m4 d4]) 11 #[true, true, false, true, false, true, true, false, false, false, false, false, false, true, true, false, false, false] ((a'.put (some 7) (.pointer (some ⟨p7, 0, none⟩))).put (some 8) (.pointer (some ⟨p8, 0, none⟩))) W := by
  intro W  p7 p8 hS hz hd hN hE hD h2 h7 g7 h8 g8 g78
  subst hlm hlo hlq hla
  try simp only [Act.put, z]
  refine wpAnyH_ready (rs := [2]) (by kernel_rfl) (by simp) (AllReadyH.cons rfl (fun K hK => ?_) AllReadyH.nil)
  ·go_simp
   refine (mul_int W 1 k _ _ 2 N (by omega) (by omega) h2 hN).mono ?_
   rintro e W' ⟨⟨v0, rfl, hr⟩, hB⟩
   obtain ⟨f0, F0, o0, e0, rfl⟩ := hr.open
   refine hK.out _ _ (hS.step (Nat.le_refl _) hB) (fun _ => ?_)
   clear hK K
   try simp only [Act.put, z]
   have hn := n111 W' f0 F0 o0 e0 p7 p8 (hS.step (Nat.le_refl _) hB) (Nat.le_trans hz hB.size) (gbox hd hB (some_lt hd)) (hE.at_ hB) (hD.at_ hB) (h2.at_ hB) (hr) (gbox h7 hB (some_lt h7)) (g7) (gbox h8 hB (some_lt h8)) (g8) (g78)
   try simp only [Act.put, z] at hn
   exact hn
 have n010 : ∀ (W : World)  (p7 : Nat), RegM w w.heap.size W2.heap.size (W2.heap.size + 1) (W2.heap.size + 2) W5.heap.size #[.bool a1, .slice B1 m1 d1] #[.bool a2, .slice B2 m2 d2] #[.bool a3, .slice B3 m3 d3] #[.bool a4, .slice B4 m4 d4] W -> W_0.heap.size <= W.heap.size -> W.heap[w.heap.size + 1]? = some (.cells #[.bool false, .slice none 0 0] 97 (0, 0)) -> PI W W.heap.size k (.agg #[.bool a1, .slice B1 m1 d1]) N -> PI W W.heap.size 1 (.agg #[.bool a3, .slice B3 m3 d3]) (-D) -> PI W W.heap.size 1 (.agg #[.bool a2, .slice B2 m2 d2]) D -> PI W W.heap.size 1 (.agg #[.bool a4, .slice B4 m4 d4]) 2 -> W.heap[p7]? = some (.cells #[.bool false, .slice none 0 0] 97 (0, 0)) -> W_0.heap.size <= p7 -> wpAnyH Tryz.prog md' ops' Q' (RegM w w.heap.size W2.heap.size (W2.heap.size + 1) (W2.heap.size + 2) W5.heap.size #[.bool a1, .slice B1 m1 d1] #[.bool a2, .slice B2 m2 d2] #[.bool a3, .slice B3 m3 d3] #[.bool a4, .slice B4 m4 d4]) 12 #[true, true, false, true, false, true, true, false, false, false, false, false, false, true, false, false, false, false] (a'.put (some 7) (.pointer (some ⟨p7, 0, none⟩))) W := by
  intro W  p7 hS hz hd hN hE hD h2 h7 g7
  subst hlm hlo hlq hla
  try simp only [Act.put, z]
  refine wpAnyH_ready (rs := [2, 14]) (by kernel_rfl) (by simp) (AllReadyH.cons rfl (fun K hK => ?_) (AllReadyH.cons rfl (fun K hK => ?_) AllReadyH.nil))
  ·go_simp
   refine (mul_int W 1 k _ _ 2 N (by omega) (by omega) h2 hN).mono ?_
   rintro e W' ⟨⟨v0, rfl, hr⟩, hB⟩
   obtain ⟨f0, F0, o0, e0, rfl⟩ := hr.open
   refine hK.out _ _ (hS.step (Nat.le_refl _) hB) (fun _ => ?_)
   clear hK K
   try simp only [Act.put, z]
   have hn := n110 W' f0 F0 o0 e0 p7 (hS.step (Nat.le_refl _) hB) (Nat.le_trans hz hB.size) (gbox hd hB (some_lt hd)) (hE.at_ hB) (hD.at_ hB) (h2.at_ hB) (hr) (gbox h7 hB (some_lt h7)) (g7)
   try simp only [Act.put, z] at hn
   exact hn
  ·obtain ⟨hB, hrow, _⟩ := row1 W #[.bool false, .slice none 0 0] 97
   go_simp
   obtain ⟨W', hWn⟩ : ∃ W', W' = W.alloc (.cells #[.bool false, .slice none 0 0] 97) := ⟨_, rfl⟩
   rw [<- hWn] at hB hrow ⊢
   clear hWn
   have hne := some_lt h7
   refine hK.out _ _ (hS.step (Nat.le_refl _) hB) (fun _ => ?_)
   clear hK K
   try simp only [Act.put, z]
   have hn := n011 W'  p7 W.heap.size (hS.step (Nat.le_refl _) hB) (Nat.le_trans hz hB.size) (gbox hd hB (some_lt hd)) (hN.at_ hB) (hE.at_ hB) (hD.at_ hB) (h2.at_ hB) (gbox h7 hB (some_lt h7)) (g7) (hrow) (hz) (by omega)
   try simp only [Act.put, z] at hn
   exact hn
 have n001 : ∀ (W : World)  (p8 : Nat), RegM w w.heap.size W2.heap.size (W2.heap.size + 1) (W2.heap.size + 2) W5.heap.size #[.bool a1, .slice B1 m1 d1] #[.bool a2, .slice B2 m2 d2] #[.bool a3, .slice B3 m3 d3] #[.bool a4, .slice B4 m4 d4] W -> W_0.heap.size <= W.heap.size -> W.heap[w.heap.size + 1]? = some (.cells #[.bool false, .slice none 0 0] 97 (0, 0)) -> PI W W.heap.size k (.agg #[.bool a1, .slice B1 m1 d1]) N -> PI W W.heap.size 1 (.agg #[.bool a3, .slice B3 m3 d3]) (-D) -> PI W W.heap.size 1 (.agg #[.bool a2, .slice B2 m2 d2]) D -> PI W W.heap.size 1 (.agg #[.bool a4, .slice B4 m4 d4]) 2 -> W.heap[p8]? = some (.cells #[.bool false, .slice none 0 0] 97 (0, 0)) -> W_0.heap.size <= p8 -> wpAnyH Tryz.prog md' ops' Q' (RegM w w.heap.size W2.heap.size (W2.heap.size + 1) (W2.heap.size + 2) W5.heap.size #[.bool a1, .slice B1 m1 d1] #[.bool a2, .slice B2 m2 d2] #[.bool a3, .slice B3 m3 d3] #[.bool a4, .slice B4 m4 d4]) 12 #[true, true, false, true, false, true, true, false, false, false, false, false, false, false, true, false, false, false] (a'.put (some 8) (.pointer (some ⟨p8, 0, none⟩))) W := by
  intro W  p8 hS hz hd hN hE hD h2 h8 g8
  subst hlm hlo hlq hla
  try simp only [Act.put, z]
  refine wpAnyH_ready (rs := [2, 13]) (by kernel_rfl) (by simp) (AllReadyH.cons rfl (fun K hK => ?_) (AllReadyH.cons rfl (fun K hK => ?_) AllReadyH.nil))
  ·go_simp
   refine (mul_int W 1 k _ _ 2 N (by omega) (by omega) h2 hN).mono ?_
   rintro e W' ⟨⟨v0, rfl, hr⟩, hB⟩
   obtain ⟨f0, F0, o0, e0, rfl⟩ := hr.open
   refine hK.out _ _ (hS.step (Nat.le_refl _) hB) (fun _ => ?_)
   clear hK K
   try simp only [Act.put, z]
   have hn := n101 W' f0 F0 o0 e0 p8 (hS.step (Nat.le_refl _) hB) (Nat.le_trans hz hB.size) (gbox hd hB (some_lt hd)) (hE.at_ hB) (hD.at_ hB) (h2.at_ hB) (hr) (gbox h8 hB (some_lt h8)) (g8)
   try simp only [Act.put, z] at hn
   exact hn
  ·obtain ⟨hB, hrow, _⟩ := row1 W #[.bool false, .slice none 0 0] 97
   go_simp
   obtain ⟨W', hWn⟩ : ∃ W', W' = W.alloc (.cells #[.bool false, .slice none 0 0] 97) := ⟨_, rfl⟩
   rw [<- hWn] at hB hrow ⊢
   clear hWn
   have hne := some_lt h8
   refine hK.out _ _ (hS.step (Nat.le_refl _) hB) (fun _ => ?_)
   clear hK K
   try simp only [Act.put, z]
   have hn := n011 W'  W.heap.size p8 (hS.step (Nat.le_refl _) hB) (Nat.le_trans hz hB.size) (gbox hd hB (some_lt hd)) (hN.at_ hB) (hE.at_ hB) (hD.at_ hB) (h2.at_ hB) (hrow) (hz) (gbox h8 hB (some_lt h8)) (g8) (by omega)
   try simp only [Act.put, z] at hn
   exact hn
 have n000 : ∀ (W : World) , RegM w w.heap.size W2.heap.size (W2.heap.size + 1) (W2.heap.size + 2) W5.heap.size #[.bool a1, .slice B1 m1 d1] #[.bool a2, .slice B2 m2 d2] #[.bool a3, .slice B3 m3 d3] #[.bool a4, .slice B4 m4 d4] W -> W_0.heap.size <= W.heap.size -> W.heap[w.heap.size + 1]? = some (.cells #[.bool false, .slice none 0 0] 97 (0, 0)) -> PI W W.heap.size k (.agg #[.bool a1, .slice B1 m1 d1]) N -> PI W W.heap.size 1 (.agg #[.bool a3, .slice B3 m3 d3]) (-D) -> PI W W.heap.size 1 (.agg #[.bool a2, .slice B2 m2 d2]) D -> PI W W.heap.size 1 (.agg #[.bool a4, .slice B4 m4 d4]) 2 -> wpAnyH Tryz.prog md' ops' Q' (RegM w w.heap.size W2.heap.size (W2.heap.size + 1) (W2.heap.size + 2) W5.heap.size #[.bool a1, .slice B1 m1 d1] #[.bool a2, .slice B2 m2 d2] #[.bool a3, .slice B3 m3 d3] #[.bool a4, .slice B4 m4 d4]) 13 #[true, true, false, true, false, true, true, false, false, false, false, false, false, false, false, false, false, false] a' W := by
  intro W  hS hz hd hN hE hD h2
  subst hlm hlo hlq hla
  try simp only [Act.put, z]
  refine wpAnyH_ready (rs := [2, 13, 14]) (by kernel_rfl) (by simp) (AllReadyH.cons rfl (fun K hK => ?_) (AllReadyH.cons rfl (fun K hK => ?_) (AllReadyH.cons rfl (fun K hK => ?_) AllReadyH.nil)))
  ·go_simp
   refine (mul_int W 1 k _ _ 2 N (by omega) (by omega) h2 hN).mono ?_
   rintro e W' ⟨⟨v0, rfl, hr⟩, hB⟩
   obtain ⟨f0, F0, o0, e0, rfl⟩ := hr.open
   refine hK.out _ _ (hS.step (Nat.le_refl _) hB) (fun _ => ?_)
   clear hK K
   try simp only [Act.put, z]
   have hn := n100 W' f0 F0 o0 e0 (hS.step (Nat.le_refl _) hB) (Nat.le_trans hz hB.size) (gbox hd hB (some_lt hd)) (hE.at_ hB) (hD.at_ hB) (h2.at_ hB) (hr)
   try simp only [Act.put, z] at hn
   exact hn
  ·obtain ⟨hB, hrow, _⟩ := row1 W #[.bool false, .slice none 0 0] 97
   go_simp
   obtain ⟨W', hWn⟩ : ∃ W', W' = W.alloc (.cells #[.bool false, .slice none 0 0] 97) := ⟨_, rfl⟩
   rw [<- hWn] at hB hrow ⊢
   clear hWn
   refine hK.out _ _ (hS.step (Nat.le_refl _) hB) (fun _ => ?_)
   clear hK K
   try simp only [Act.put, z]
   have hn := n010 W'  W.heap.size (hS.step (Nat.le_refl _) hB) (Nat.le_trans hz hB.size) (gbox hd hB (some_lt hd)) (hN.at_ hB) (hE.at_ hB) (hD.at_ hB) (h2.at_ hB) (hrow) (hz)
   try simp only [Act.put, z] at hn
   exact hn
  ·obtain ⟨hB, hrow, _⟩ := row1 W #[.bool false, .slice none 0 0] 97
   go_simp
   obtain ⟨W', hWn⟩ : ∃ W', W' = W.alloc (.cells #[.bool false, .slice none 0 0] 97) := ⟨_, rfl⟩
   rw [<- hWn] at hB hrow ⊢
   clear hWn
   refine hK.out _ _ (hS.step (Nat.le_refl _) hB) (fun _ => ?_)
   clear hK K
   try simp only [Act.put, z]
   have hn := n001 W'  W.heap.size (hS.step (Nat.le_refl _) hB) (Nat.le_trans hz hB.size) (gbox hd hB (some_lt hd)) (hN.at_ hB) (hE.at_ hB) (hD.at_ hB) (h2.at_ hB) (hrow) (hz)
   try simp only [Act.put, z] at hn
   exact hn
 exact n000 W_0 hS (Nat.le_refl _) hd0 hQN hQE hQD hQ2
theorem round_rat (k : Nat) (v : Value) (N D : Int) (hk : k <= 100000) (hD : D ≠ 0) (hlo : -1000000000 < 2 * D) (hhi : 2 * D < 1000000000) (h : RI w w.heap.size k 1 v N D) :
  Calls Tryz.prog 47 #[v] w fun e w' => (∃ r, e = .returned r /\ PI w' w'.heap.size (max (1 + k) 1 + 1) r (Int.tdiv (2 * N + (if N < 0 then -D else D)) (2 * D))) /\ Below w.heap.size w w' := by
 by_cases hn : N < 0
 ·rw [if_pos hn]; exact round_neg w k v N D hk hD hlo hhi hn h
 ·rw [if_neg hn]; exact round_pos w k v N D hk hD hlo hhi hn h
end
end Go.Proofs.YtcblobokjhhboaaGreat
