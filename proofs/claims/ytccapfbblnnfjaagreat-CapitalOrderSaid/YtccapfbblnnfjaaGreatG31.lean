/- My texts RefRound. -/
import Derived.Test.YtccapfbblnnfjaaGreatG26
import Derived.Test.YtccapfbblnnfjaaGreatG30
set_option linter.unusedVariables false
set_option linter.unusedSimpArgs false
set_option maxRecDepth 100000
set_option maxHeartbeats 8000000
namespace Go.Proofs.YtccapfbblnnfjaaGreat
namespace R1
open Go.RowKit
section
variable (w : World)
theorem round_rat (k j : Nat) (v : Value) (N D : Int) (hk : k <= 100000) (hj : j <= 100000) (hD : 0 < D) (h : RI w w.heap.size k j v N D) :
  Calls Tryz.prog 88 #[v] w fun e w' => (∃ r, e = .returned r /\ PI w' w'.heap.size (max (1 + k) j + 1) r (Big.sgn (decide (N < 0)) (Int.tdiv (2 * (N.natAbs : Int) + D) (2 * D)))) /\ Below w.heap.size w w' := by
 obtain ⟨g1, A1, n1, c1, g2, A2, n2, c2, rfl⟩ := h.open
 obtain ⟨W1, hW1, hB0, hb0, hb1, hz⟩ := nw2 w #[.bool g1, .slice A1 n1 c1, .bool g2, .slice A2 n2 c2] #[.bool false, .slice none 0 0] 59 57
 have HW := Lib.hid hW1
 have Hb1 := Lib.hid hb1
 have HD := Lib.hid hD
 have HD2 : Hid (2 * D ≠ 0) := by show _ ≠ _; omega
 have x0 := cell_of_row _ _ 0 _ _ _ hb0
 have x1 := cell_of_row _ _ 1 _ _ _ hb0
 have x2 := cell_of_row _ _ 2 _ _ _ hb0
 have x3 := cell_of_row _ _ 3 _ _ _ hb0
 simp at x0 x1 x2 x3
 have s1 : w.heap.size < W1.heap.size := by omega
 have s1' : w.heap.size + 1 < W1.heap.size := by omega
 clear hW1 hz hb0 hb1 hD
 go_enter Tryz.func88, Tryz.ntmps88
 go_upto_region 1 with (fail)
 rw [<- HW.out]
 go_wp2_with (fail)
 refine (parts_any W1 k j _ N D (by have := HD.out; omega) (h.at_ hB0)).mono ?_
 rintro e W2 ⟨⟨a1, B1, m1, d1, a2, B2, m2, d2, rfl, hp1, hp2⟩, hB2⟩
 have hBw2 := hB0.trans (hB2.mono hB0.size)
 have hc1 := gbox Hb1.out hB2 s1'
 have hq2 := hB2.size
 obtain ⟨hBa, hra1, hra2, hza⟩ := row_new2 W2 #[.bool a1, .slice B1 m1 d1] #[.bool a2, .slice B2 m2 d2] 57 57
 have hBwa := hBw2.trans (hBa.mono hBw2.size)
 have hda := gbox hc1 hBa (some_lt hc1)
 obtain ⟨Wa, hWa⟩ : ∃ Wa, Wa = ((W2.alloc (.cells #[.bool a1, .slice B1 m1 d1] 57)).alloc (.cells #[.bool a2, .slice B2 m2 d2] 57)) := ⟨_, rfl⟩
 rw [<- hWa] at hBa hra1 hra2 hza hBwa hda
 have HWa := Lib.hid hWa
 have Hra1 := Lib.hid hra1
 have Hra2 := Lib.hid hra2
 have Hda := Lib.hid hda
 clear x0 x1 x2 x3 hra1 hra2 hza hWa hc1 hda
 go_upto_region 2 with (fail)
 rw [<- HWa.out]
 go_wp2_with (fail)
 refine (of_int Wa 2 (by omega) (by omega)).mono ?_
 rintro e W5 ⟨⟨r5, rfl, hr5⟩, hB5⟩
 obtain ⟨a4, B4, m4, d4, rfl⟩ := hr5.open
 have h53 := gbox Hra1.out hB5 (some_lt Hra1.out)
 have h54 := gbox Hra2.out hB5 (some_lt Hra2.out)
 have h5d := gbox Hda.out hB5 (some_lt Hda.out)
 have hBw5 := hBwa.trans (hB5.mono hBwa.size)
 obtain ⟨hBg, hrg, hzg⟩ := row_new W5 #[.bool a4, .slice B4 m4 d4] 57
 have hg3 := gbox h53 hBg (some_lt h53)
 have hg4 := gbox h54 hBg (some_lt h54)
 have hgd := gbox h5d hBg (some_lt h5d)
 have hBwg := hBw5.trans (hBg.mono hBw5.size)
 have hlt1 := some_lt h54
 obtain ⟨Wg, hWg⟩ : ∃ Wg, Wg = (W5.alloc (.cells #[.bool a4, .slice B4 m4 d4] 57)) := ⟨_, rfl⟩
 rw [<- hWg] at hBg hrg hzg hg3 hg4 hgd hBwg
 have HWg := Lib.hid hWg
 have hNi := (((hp1.at_ hBa).at_ hB5).at_ hBg).drw
 have hDi := (((hp2.at_ hBa).at_ hB5).at_ hBg).drw
 have h2i := ((hr5.tight (j := 1) (by decide) (by decide)).at_ hBg).drw
 have hS0 : Reg w [(w.heap.size + 1, #[.bool false, .slice none 0 0], 57), (W2.heap.size, #[.bool a1, .slice B1 m1 d1], 57), (W2.heap.size + 1, #[.bool a2, .slice B2 m2 d2], 57), (W5.heap.size, #[.bool a4, .slice B4 m4 d4], 57)] Wg := ⟨hBwg, by simp [hgd, hg3, hg4, hrg]⟩
 have hS := hS0.drew
 clear hWg h53 h54 h5d hg3 hg4 hgd
 go_upto_region 3 with (fail)
 rw [<- HWg.out]
 refine wp_region_held (S := Reg w [(w.heap.size + 1, #[.bool false, .slice none 0 0], 57), (W2.heap.size, #[.bool a1, .slice B1 m1 d1], 57), (W2.heap.size + 1, #[.bool a2, .slice B2 m2 d2], 57), (W5.heap.size, #[.bool a4, .slice B4 m4 d4], 57)]) (by kernel_rfl) ?_
 change wpAnyH _ _ _ _ _ _ _ _ (World.drew Wg)
 obtain ⟨W_0, hWd⟩ : ∃ W_0, W_0 = Wg.drew := ⟨_, rfl⟩
 rw [<- hWd] at hS hNi hDi h2i ⊢
 have hl1 := hS.lt (.head _)
 have hl2 := hS.lt (.tail _ (.head _))
 have hl3 := hS.lt (.tail _ (.tail _ (.head _)))
 have hl4 := hS.lt (.tail _ (.tail _ (.tail _ (.head _))))
 clear hWd hzg hBg hBwg hBw5 hB5 hBa hBwa hBw2 hB2 hB0 hp1 hp2 hrg hr5 hS0
 refine tk (i := 0) (v := .agg #[.bool a4, .slice B4 m4 d4]) rfl (by kernel_rfl) (fun _ _ _ h => h) (yieldsIf_load_mid (by rfl) 57 _ rfl W5.heap.size 0 rfl [.bool a4, .slice B4 m4 d4] _ (fun W' hS' => range2 (hS'.get (.tail _ (.tail _ (.tail _ (.head _)))))) Tryz.underlying57 rfl intSize) hS ?_
 try simp only [z]
 refine tk (i := 1) (v := .agg #[.bool a1, .slice B1 m1 d1]) rfl (by kernel_rfl) (fun _ _ _ h => h) (yieldsIf_load_mid (by rfl) 57 _ rfl W2.heap.size 0 rfl [.bool a1, .slice B1 m1 d1] _ (fun W' hS' => range2 (hS'.get (.tail _ (.head _)))) Tryz.underlying57 rfl intSize) hS ?_
 try simp only [z]
 refine tk (i := 4) (v := .agg #[.bool a2, .slice B2 m2 d2]) rfl (by kernel_rfl) (fun _ _ _ h => h) (yieldsIf_load_mid (by rfl) 57 _ rfl (W2.heap.size + 1) 0 rfl [.bool a2, .slice B2 m2 d2] _ (fun W' hS' => range2 (hS'.get (.tail _ (.tail _ (.head _))))) Tryz.underlying57 rfl intSize) hS ?_
 try simp only [z]
 refine tk (i := 6) (v := .agg #[.bool a4, .slice B4 m4 d4]) rfl (by kernel_rfl) (fun _ _ _ h => h) (yieldsIf_load_mid (by rfl) 57 _ rfl W5.heap.size 0 rfl [.bool a4, .slice B4 m4 d4] _ (fun W' hS' => range2 (hS'.get (.tail _ (.tail _ (.tail _ (.head _)))))) Tryz.underlying57 rfl intSize) hS ?_
 try simp only [z]
 refine tk (i := 7) (v := .agg #[.bool a2, .slice B2 m2 d2]) rfl (by kernel_rfl) (fun _ _ _ h => h) (yieldsIf_load_mid (by rfl) 57 _ rfl (W2.heap.size + 1) 0 rfl [.bool a2, .slice B2 m2 d2] _ (fun W' hS' => range2 (hS'.get (.tail _ (.tail _ (.head _))))) Tryz.underlying57 rfl intSize) hS ?_
 try simp only [z]
 refine wpAnyH_letters fun md' ops' Q' a' hlm hlo hlq hla => ?_
 obtain ⟨RG, hRG⟩ : ∃ R, R = Reg w [(w.heap.size + 1, #[.bool false, .slice none 0 0], 57), (W2.heap.size, #[.bool a1, .slice B1 m1 d1], 57), (W2.heap.size + 1, #[.bool a2, .slice B2 m2 d2], 57), (W5.heap.size, #[.bool a4, .slice B4 m4 d4], 57)] := ⟨_, rfl⟩
 rw [<- hRG] at hS ⊢
 have n5 : ∀ (m : Nat) (W : World) (f0 : Bool) (F0 : Option Addr) (o0 e0 : Nat) (f1 : Bool) (F1 : Option Addr) (o1 e1 : Nat) (f2 : Bool) (F2 : Option Addr) (o2 e2 : Nat) (f3 : Bool) (F3 : Option Addr) (o3 e3 : Nat) (f4 : Bool) (F4 : Option Addr) (o4 e4 : Nat) (rg : Bool) (rA : Option Addr) (rn rc : Nat) (b6 : Bool) (v6 : Value) (p6 : Nat) (b7 : Bool) (v7 : Value) (p7 : Nat), 3 + cond b6 0 1 + cond b7 0 1 <= m -> RG W -> W_0.heap.size <= W.heap.size -> PI W W.heap.size k (.agg #[.bool a1, .slice B1 m1 d1]) N -> PI W W.heap.size (max (1 + k) j + 1) (.agg #[.bool f4, .slice F4 o4 e4]) (Int.tdiv (2 * (N.natAbs : Int) + D) (2 * D)) -> Mk W_0 W b6 v6 p6 #[.bool false, .slice none 0 0] 57 -> Mk W_0 W b7 v7 p7 #[.bool false, .slice none 0 0] 57 -> (b6 = true -> b7 = true -> p6 ≠ p7) -> wpAnyH Tryz.prog md' ops' Q' RG m #[true, true, true, true, true, true, true, true, true, true, true, true, true, true, b6, b7, false, false, false] (((((((((((a'.put (some 18) (.agg #[.bool f0, .slice F0 o0 e0])).put (some 19) (.agg #[.bool f1, .slice F1 o1 e1])).put (some 21) (.agg #[.bool f2, .slice F2 o2 e2])).put (some 24) (.agg #[.bool f3, .slice F3 o3 e3])).put (some 25) (.tuple #[.agg #[.bool f4, .slice F4 o4 e4], .agg #[.bool rg, .slice rA rn rc], .int .i64 0])).put (some 15) (.tuple #[.agg #[.bool f4, .slice F4 o4 e4], .agg #[.bool rg, .slice rA rn rc], .int .i64 0])).put (some 26) (.agg #[.bool f4, .slice F4 o4 e4])).put (some 27) (.agg #[.bool rg, .slice rA rn rc])).put (some 28) (.int .i64 0)).put (some 6) v6).put (some 7) v7) W := by
  intro m
  induction m with
  | zero => intros; omega
  | succ m ih =>
  intro W f0 F0 o0 e0 f1 F1 o1 e1 f2 F2 o2 e2 f3 F3 o3 e3 f4 F4 o4 e4 rg rA rn rc b6 v6 p6 b7 v7 p7 hm hS hz hNi hr4 H6 H7 G67
  subst hlm hlo hlq hla hRG
  try simp only [z]
  by_cases hb : b6 = true /\ b7 = true
  rotate_left
  ·refine wpAnyH_ready (rs := (cond b6 [] [14] ++ (cond b7 [] [15] ++ []))) (by revert hb; cases b6 <;> cases b7 <;> intro hb <;> first | exact absurd (by decide) hb | kernel_rfl) (by revert hb; cases b6 <;> cases b7 <;> decide) (ropt (fun h6 => .cons rfl (fun K hK => ?_) .nil) (ropt (fun h7 => .cons rfl (fun K hK => ?_) .nil) .nil))
   ·subst h6
    obtain ⟨W', hWn, hB, hrow, _⟩ := nw1 W #[.bool false, .slice none 0 0] 57
    go_simp
    rw [<- hWn]
    clear hWn
    have hS' := hS.step hB
    refine hK.out _ _ hS' (fun _ => ?_)
    clear hK K
    try simp only [z]
    have hn := ih W' f0 F0 o0 e0 f1 F1 o1 e1 f2 F2 o2 e2 f3 F3 o3 e3 f4 F4 o4 e4 rg rA rn rc true (.pointer (some ⟨W.heap.size, 0, none⟩)) W.heap.size b7 v7 p7 (by simp only [cond_true, cond_false] at hm ⊢; omega) hS' (Nat.le_trans hz hB.size) (hNi.at_ hB) (hr4.at_ hB) (fun _ => ⟨rfl, hz, hrow⟩) (H7.step hB) (fun _ h => by have := some_lt (H7 h).2.2; omega)
    try simp only [z] at hn
    exact hn
   ·subst h7
    obtain ⟨W', hWn, hB, hrow, _⟩ := nw1 W #[.bool false, .slice none 0 0] 57
    go_simp
    rw [<- hWn]
    clear hWn
    have hS' := hS.step hB
    refine hK.out _ _ hS' (fun _ => ?_)
    clear hK K
    try simp only [z]
    have hn := ih W' f0 F0 o0 e0 f1 F1 o1 e1 f2 F2 o2 e2 f3 F3 o3 e3 f4 F4 o4 e4 rg rA rn rc b6 v6 p6 true (.pointer (some ⟨W.heap.size, 0, none⟩)) W.heap.size (by simp only [cond_true, cond_false] at hm ⊢; omega) hS' (Nat.le_trans hz hB.size) (hNi.at_ hB) (hr4.at_ hB) (H6.step hB) (fun _ => ⟨rfl, hz, hrow⟩) (fun h _ => by have := some_lt (H6 h).2.2; omega)
    try simp only [z] at hn
    exact hn
  obtain ⟨rfl, rfl⟩ := hb
  obtain ⟨rfl, g6, h6⟩ := H6 rfl
  obtain ⟨rfl, g7, h7⟩ := H7 rfl
  have g67 := G67 rfl rfl
  obtain ⟨m, rfl⟩ : ∃ k, m = k + 2 := ⟨m - 2, by simp only [cond_true] at hm; omega⟩
  clear ih hm
  refine wpAnyH_ready (rs := [16]) (by kernel_rfl) (by simp) (AllReadyH.cons rfl (fun K hK => ?_) AllReadyH.nil)
  rw [if_pos (by rfl)]
  refine wp_store_row 57 _ _ none rfl rfl p6 57 _ #[.bool f4, .slice F4 o4 e4] rfl rfl h6 rfl intSize (by simp [Value.oneCell']) ?_
  have hSa := hS.store p6 (by have := hS.1.size; omega) (by simp; omega) #[.bool f4, .slice F4 o4 e4]
  have ha6 := setRow_heap W p6 _ #[.bool f4, .slice F4 o4 e4] _ _ h6
  have ha7 := (setRow_other W p6 p7 #[.bool f4, .slice F4 o4 e4] (by omega)).trans h7
  have hqa := (hr4.other (w' := (W.setRow p6 #[.bool f4, .slice F4 o4 e4])) h6 (no_int2 _ _ _ _) (fun c hc => setRow_other _ _ _ _ hc))
  have hna := (hNi.other (w' := (W.setRow p6 #[.bool f4, .slice F4 o4 e4])) h6 (no_int2 _ _ _ _) (fun c hc => setRow_other _ _ _ _ hc))
  refine hK.out _ _ hSa (fun _ => ?_)
  clear hK K
  try simp only [z]
  refine wpAnyH_ready (rs := [17]) (by kernel_rfl) (by simp) (AllReadyH.cons rfl (fun K hK => ?_) AllReadyH.nil)
  rw [if_pos (by rfl)]
  refine wp_store_row 57 _ _ none rfl rfl p7 57 _ #[.bool rg, .slice rA rn rc] rfl rfl ha7 rfl intSize (by simp [Value.oneCell']) ?_
  have hSb := hSa.store p7 (by have := hS.1.size; omega) (by simp; omega) #[.bool rg, .slice rA rn rc]
  have hb6 := (setRow_other (W.setRow p6 #[.bool f4, .slice F4 o4 e4]) p7 p6 #[.bool rg, .slice rA rn rc] (by omega)).trans ha6
  have hqb := (hqa.other (w' := ((W.setRow p6 #[.bool f4, .slice F4 o4 e4]).setRow p7 #[.bool rg, .slice rA rn rc])) ha7 (no_int2 _ _ _ _) (fun c hc => setRow_other _ _ _ _ hc)).more (C := ((W.setRow p6 #[.bool f4, .slice F4 o4 e4]).setRow p7 #[.bool rg, .slice rA rn rc]).heap.size) (by simp) (Nat.le_refl _)
  have hnb := (hna.other (w' := ((W.setRow p6 #[.bool f4, .slice F4 o4 e4]).setRow p7 #[.bool rg, .slice rA rn rc])) ha7 (no_int2 _ _ _ _) (fun c hc => setRow_other _ _ _ _ hc)).more (C := ((W.setRow p6 #[.bool f4, .slice F4 o4 e4]).setRow p7 #[.bool rg, .slice rA rn rc]).heap.size) (by simp) (Nat.le_refl _)
  have hzb : ((W.setRow p6 #[.bool f4, .slice F4 o4 e4]).setRow p7 #[.bool rg, .slice rA rn rc]).heap.size = W.heap.size := by simp
  refine hK.out _ _ hSb (fun _ => ?_)
  clear hK K
  try simp only [z]
  refine wpAnyH_ready (rs := [18]) (by kernel_rfl) (by simp) (AllReadyH.cons rfl (fun K hK => ?_) AllReadyH.nil)
  go_simp
  refine hK.out _ _ hSb (fun _ => ?_)
  clear hK K
  try simp only [z]
  refine wpAnyH_done (by kernel_rfl) ?_ _
  have hl6 := some_lt hb6
  obtain ⟨Wb, hWb⟩ : ∃ Wb, Wb = ((W.setRow p6 #[.bool f4, .slice F4 o4 e4]).setRow p7 #[.bool rg, .slice rA rn rc]) := ⟨_, rfl⟩
  rw [<- hWb] at hSb hb6 hqb hnb hl6 ⊢
  clear hWb hzb hSa ha6 ha7 hqa hna
  have ht3 := hSb.get (.tail _ (.head _))
  have x0 := cell_of_row _ _ 0 _ _ _ ht3
  have x1 := cell_of_row _ _ 1 _ _ _ ht3
  simp at x0 x1
  have s6 : W2.heap.size < Wb.heap.size := some_lt ht3
  clear ht3
  go_wp2_with (fail)
  refine (sign_any Wb k _ N hnb).mono ?_
  rintro e Wc ⟨rfl, hBc⟩
  have hSc := hSb.step hBc
  have hc6 := gbox hb6 hBc hl6
  have hqc := hqb.at_ hBc
  have hcd := hSc.get (.head _)
  clear x0 x1
  have x0 := cell_of_row _ _ 0 _ _ _ hc6
  have x1 := cell_of_row _ _ 1 _ _ _ hc6
  simp at x0 x1
  have s7 : p6 < Wc.heap.size := some_lt hc6
  have Hcd := Lib.hid hcd
  clear hc6 hcd
  by_cases hn : N < 0
  ·have hsg := sg_ng N hn
   have hdn : Hid (decide (N < 0) = true) := by show _ = _; exact decide_eq_true hn
   clear hn
   go_wp2_with (fail)
   refine (neg_any Wc _ _ _ (by omega) hqc).mono ?_
   rintro e Wd ⟨⟨rd, rfl, hrd⟩, hBd⟩
   obtain ⟨a9, B9, m9, d9, rfl⟩ := hrd.open
   have hSd := hSc.step hBd
   have Hdd := Lib.hid (hSd.get (.head _))
   have Ho := Lib.hid (one2 a9 B9 m9 d9)
   have hR := setRow_heap Wd (w.heap.size + 1) _ #[.bool a9, .slice B9 m9 d9] _ _ Hdd.out
   have hload := Lib.hid (run_loadVar_row (P := Tryz.prog) _ _ _ 57 _ _ _ hR Tryz.underlying57 rfl intSize)
   have hPF := Lib.hid ((hrd.other (w' := Wd.setRow (w.heap.size + 1) #[.bool a9, .slice B9 m9 d9]) Hdd.out (no_int2 _ _ _ _) (fun c hc => setRow_other _ _ _ _ hc)).more (C := (Wd.setRow (w.heap.size + 1) #[.bool a9, .slice B9 m9 d9]).heap.size) (by simp) (Nat.le_refl _))
   have hBF := Lib.hid (below_setRow hSd.1 (show w.heap.size <= w.heap.size + 1 by omega) #[.bool a9, .slice B9 m9 d9])
   clear hR
   go_wp2_with (refine wpList_store_row rfl 57 (.tmp 2) (.tmp 33) none rfl rfl (w.heap.size + 1) 57 _ #[.bool a9, .slice B9 m9 d9] rfl rfl Hdd.out rfl intSize Ho.out ?_)
   exact bodyPost_ret (v := .agg #[.bool a9, .slice B9 m9 d9]) (by simp [results, Tryz.results88, asAddr, Act.put, hload.out]) rfl ⟨⟨_, rfl, by rw [hdn.out]; exact hPF.out⟩, hBF.out⟩
  ·have hsg := sg_nn N hn
   have hdn : Hid (decide (N < 0) = false) := by show _ = _; exact decide_eq_false hn
   have Ho := Lib.hid (one2 f4 F4 o4 e4)
   have hR := setRow_heap Wc (w.heap.size + 1) _ #[.bool f4, .slice F4 o4 e4] _ _ Hcd.out
   have hload := Lib.hid (run_loadVar_row (P := Tryz.prog) _ _ _ 57 _ _ _ hR Tryz.underlying57 rfl intSize)
   have hPF := Lib.hid ((hqc.other (w' := Wc.setRow (w.heap.size + 1) #[.bool f4, .slice F4 o4 e4]) Hcd.out (no_int2 _ _ _ _) (fun c hc => setRow_other _ _ _ _ hc)).more (C := (Wc.setRow (w.heap.size + 1) #[.bool f4, .slice F4 o4 e4]).heap.size) (by simp) (Nat.le_refl _))
   have hBF := Lib.hid (below_setRow hSc.1 (show w.heap.size <= w.heap.size + 1 by omega) #[.bool f4, .slice F4 o4 e4])
   clear hn hR
   go_wp2_with (refine wpList_store_row rfl 57 (.tmp 2) (.tmp 34) none rfl rfl (w.heap.size + 1) 57 _ #[.bool f4, .slice F4 o4 e4] rfl rfl Hcd.out rfl intSize Ho.out ?_)
   exact bodyPost_ret (v := .agg #[.bool f4, .slice F4 o4 e4]) (by simp [results, Tryz.results88, asAddr, Act.put, hload.out]) rfl ⟨⟨_, rfl, by rw [hdn.out]; exact hPF.out⟩, hBF.out⟩
 have n4 : ∀ (m : Nat) (W : World) (f0 : Bool) (F0 : Option Addr) (o0 e0 : Nat) (f1 : Bool) (F1 : Option Addr) (o1 e1 : Nat) (f2 : Bool) (F2 : Option Addr) (o2 e2 : Nat) (f3 : Bool) (F3 : Option Addr) (o3 e3 : Nat) (b6 : Bool) (v6 : Value) (p6 : Nat) (b7 : Bool) (v7 : Value) (p7 : Nat), 8 + cond b6 0 1 + cond b7 0 1 <= m -> RG W -> W_0.heap.size <= W.heap.size -> PI W W.heap.size k (.agg #[.bool a1, .slice B1 m1 d1]) N -> PI W W.heap.size (max (1 + k) j + 1) (.agg #[.bool f2, .slice F2 o2 e2]) (2 * (N.natAbs : Int) + D) -> PI W W.heap.size (1 + j) (.agg #[.bool f3, .slice F3 o3 e3]) (2 * D) -> Mk W_0 W b6 v6 p6 #[.bool false, .slice none 0 0] 57 -> Mk W_0 W b7 v7 p7 #[.bool false, .slice none 0 0] 57 -> (b6 = true -> b7 = true -> p6 ≠ p7) -> wpAnyH Tryz.prog md' ops' Q' RG m #[true, true, true, true, true, true, true, true, true, false, false, false, false, false, b6, b7, false, false, false] ((((((a'.put (some 18) (.agg #[.bool f0, .slice F0 o0 e0])).put (some 19) (.agg #[.bool f1, .slice F1 o1 e1])).put (some 21) (.agg #[.bool f2, .slice F2 o2 e2])).put (some 24) (.agg #[.bool f3, .slice F3 o3 e3])).put (some 6) v6).put (some 7) v7) W := by
  intro m
  induction m with
  | zero => intros; omega
  | succ m ih =>
  intro W f0 F0 o0 e0 f1 F1 o1 e1 f2 F2 o2 e2 f3 F3 o3 e3 b6 v6 p6 b7 v7 p7 hm hS hz hNi hr2 hr3 H6 H7 G67
  subst hlm hlo hlq hla hRG
  try simp only [z]
  refine wpAnyH_ready (rs := 9 :: (cond b6 [] [14] ++ (cond b7 [] [15] ++ []))) (by cases b6 <;> cases b7 <;> kernel_rfl) (by simp) (.cons rfl (fun K hK => ?_) (ropt (fun h6 => .cons rfl (fun K hK => ?_) .nil) (ropt (fun h7 => .cons rfl (fun K hK => ?_) .nil) .nil)))
  ·clear ih
   go_simp
   refine (quorem_any W (max (1 + k) j + 1) (1 + j) _ _ (2 * (N.natAbs : Int) + D) (2 * D) (by omega) (by omega) HD2.out hr2 hr3).mono ?_
   rintro e W' ⟨⟨v, rg, rA, rn, rc, rfl, hr⟩, hB⟩
   obtain ⟨f4, F4, o4, e4, rfl⟩ := hr.open
   have hS' := hS.step hB
   refine hK.out _ _ hS' (fun _ => ?_)
   clear hK K
   try simp only [z]
   obtain ⟨m, rfl⟩ : ∃ k, m = k + 4 := ⟨m - 4, by omega⟩
   refine wpAnyH_take (i := 10) (v := .tuple #[.agg #[.bool f4, .slice F4 o4 e4], .agg #[.bool rg, .slice rA rn rc], .int .i64 0]) rfl (by kernel_rfl) (by cases b6 <;> cases b7 <;> kernel_rfl) (by cases b6 <;> cases b7 <;> kernel_rfl) (fun _ _ _ h => h) (.inl ⟨by rfl, fun W' hS' => by go_simp⟩) hS' ?_
   try simp only [z]
   refine wpAnyH_take (i := 11) (v := .agg #[.bool f4, .slice F4 o4 e4]) rfl (by kernel_rfl) (by cases b6 <;> cases b7 <;> kernel_rfl) (by cases b6 <;> cases b7 <;> kernel_rfl) (fun _ _ _ h => h) (.inl ⟨by rfl, fun W' hS' => by go_simp⟩) hS' ?_
   try simp only [z]
   refine wpAnyH_take (i := 12) (v := .agg #[.bool rg, .slice rA rn rc]) rfl (by kernel_rfl) (by cases b6 <;> cases b7 <;> kernel_rfl) (by cases b6 <;> cases b7 <;> kernel_rfl) (fun _ _ _ h => h) (.inl ⟨by rfl, fun W' hS' => by go_simp⟩) hS' ?_
   try simp only [z]
   refine wpAnyH_take (i := 13) (v := .int .i64 0) rfl (by kernel_rfl) (by cases b6 <;> cases b7 <;> kernel_rfl) (by cases b6 <;> cases b7 <;> kernel_rfl) (fun _ _ _ h => h) (.inl ⟨by rfl, fun W' hS' => by go_simp⟩) hS' ?_
   try simp only [z]
   have hn := n5 m W' f0 F0 o0 e0 f1 F1 o1 e1 f2 F2 o2 e2 f3 F3 o3 e3 f4 F4 o4 e4 rg rA rn rc b6 v6 p6 b7 v7 p7 (by omega) hS' (Nat.le_trans hz hB.size) (hNi.at_ hB) (hr) (H6.step hB) (H7.step hB) G67
   try simp only [z] at hn
   exact hn
  ·subst h6
   obtain ⟨W', hWn, hB, hrow, _⟩ := nw1 W #[.bool false, .slice none 0 0] 57
   go_simp
   rw [<- hWn]
   clear hWn
   have hS' := hS.step hB
   refine hK.out _ _ hS' (fun _ => ?_)
   clear hK K
   try simp only [z]
   have hn := ih W' f0 F0 o0 e0 f1 F1 o1 e1 f2 F2 o2 e2 f3 F3 o3 e3 true (.pointer (some ⟨W.heap.size, 0, none⟩)) W.heap.size b7 v7 p7 (by simp only [cond_true, cond_false] at hm ⊢; omega) hS' (Nat.le_trans hz hB.size) (hNi.at_ hB) (hr2.at_ hB) (hr3.at_ hB) (fun _ => ⟨rfl, hz, hrow⟩) (H7.step hB) (fun _ h => by have := some_lt (H7 h).2.2; omega)
   try simp only [z] at hn
   exact hn
  ·subst h7
   obtain ⟨W', hWn, hB, hrow, _⟩ := nw1 W #[.bool false, .slice none 0 0] 57
   go_simp
   rw [<- hWn]
   clear hWn
   have hS' := hS.step hB
   refine hK.out _ _ hS' (fun _ => ?_)
   clear hK K
   try simp only [z]
   have hn := ih W' f0 F0 o0 e0 f1 F1 o1 e1 f2 F2 o2 e2 f3 F3 o3 e3 b6 v6 p6 true (.pointer (some ⟨W.heap.size, 0, none⟩)) W.heap.size (by simp only [cond_true, cond_false] at hm ⊢; omega) hS' (Nat.le_trans hz hB.size) (hNi.at_ hB) (hr2.at_ hB) (hr3.at_ hB) (H6.step hB) (fun _ => ⟨rfl, hz, hrow⟩) (fun h _ => by have := some_lt (H6 h).2.2; omega)
   try simp only [z] at hn
   exact hn
 have n3 : ∀ (m : Nat) (W : World) (f0 : Bool) (F0 : Option Addr) (o0 e0 : Nat) (f1 : Bool) (F1 : Option Addr) (o1 e1 : Nat) (f2 : Bool) (F2 : Option Addr) (o2 e2 : Nat) (b6 : Bool) (v6 : Value) (p6 : Nat) (b7 : Bool) (v7 : Value) (p7 : Nat), 9 + cond b6 0 1 + cond b7 0 1 <= m -> RG W -> W_0.heap.size <= W.heap.size -> PI W W.heap.size k (.agg #[.bool a1, .slice B1 m1 d1]) N -> PI W W.heap.size j (.agg #[.bool a2, .slice B2 m2 d2]) D -> PI W W.heap.size 1 (.agg #[.bool a4, .slice B4 m4 d4]) 2 -> PI W W.heap.size (max (1 + k) j + 1) (.agg #[.bool f2, .slice F2 o2 e2]) (2 * (N.natAbs : Int) + D) -> Mk W_0 W b6 v6 p6 #[.bool false, .slice none 0 0] 57 -> Mk W_0 W b7 v7 p7 #[.bool false, .slice none 0 0] 57 -> (b6 = true -> b7 = true -> p6 ≠ p7) -> wpAnyH Tryz.prog md' ops' Q' RG m #[true, true, true, true, true, true, true, true, false, false, false, false, false, false, b6, b7, false, false, false] (((((a'.put (some 18) (.agg #[.bool f0, .slice F0 o0 e0])).put (some 19) (.agg #[.bool f1, .slice F1 o1 e1])).put (some 21) (.agg #[.bool f2, .slice F2 o2 e2])).put (some 6) v6).put (some 7) v7) W := by
  intro m
  induction m with
  | zero => intros; omega
  | succ m ih =>
  intro W f0 F0 o0 e0 f1 F1 o1 e1 f2 F2 o2 e2 b6 v6 p6 b7 v7 p7 hm hS hz hNi hDi h2i hr2 H6 H7 G67
  subst hlm hlo hlq hla hRG
  try simp only [z]
  refine wpAnyH_ready (rs := 8 :: (cond b6 [] [14] ++ (cond b7 [] [15] ++ []))) (by cases b6 <;> cases b7 <;> kernel_rfl) (by simp) (.cons rfl (fun K hK => ?_) (ropt (fun h6 => .cons rfl (fun K hK => ?_) .nil) (ropt (fun h7 => .cons rfl (fun K hK => ?_) .nil) .nil)))
  ·clear ih
   go_simp
   refine (mul_int W 1 j _ _ 2 D (by omega) (by omega) h2i hDi).mono ?_
   rintro e W' ⟨⟨v, rfl, hr⟩, hB⟩
   obtain ⟨f3, F3, o3, e3, rfl⟩ := hr.open
   have hS' := hS.step hB
   refine hK.out _ _ hS' (fun _ => ?_)
   clear hK K
   try simp only [z]
   have hn := n4 m W' f0 F0 o0 e0 f1 F1 o1 e1 f2 F2 o2 e2 f3 F3 o3 e3 b6 v6 p6 b7 v7 p7 (by omega) hS' (Nat.le_trans hz hB.size) (hNi.at_ hB) (hr2.at_ hB) (hr) (H6.step hB) (H7.step hB) G67
   try simp only [z] at hn
   exact hn
  ·subst h6
   obtain ⟨W', hWn, hB, hrow, _⟩ := nw1 W #[.bool false, .slice none 0 0] 57
   go_simp
   rw [<- hWn]
   clear hWn
   have hS' := hS.step hB
   refine hK.out _ _ hS' (fun _ => ?_)
   clear hK K
   try simp only [z]
   have hn := ih W' f0 F0 o0 e0 f1 F1 o1 e1 f2 F2 o2 e2 true (.pointer (some ⟨W.heap.size, 0, none⟩)) W.heap.size b7 v7 p7 (by simp only [cond_true, cond_false] at hm ⊢; omega) hS' (Nat.le_trans hz hB.size) (hNi.at_ hB) (hDi.at_ hB) (h2i.at_ hB) (hr2.at_ hB) (fun _ => ⟨rfl, hz, hrow⟩) (H7.step hB) (fun _ h => by have := some_lt (H7 h).2.2; omega)
   try simp only [z] at hn
   exact hn
  ·subst h7
   obtain ⟨W', hWn, hB, hrow, _⟩ := nw1 W #[.bool false, .slice none 0 0] 57
   go_simp
   rw [<- hWn]
   clear hWn
   have hS' := hS.step hB
   refine hK.out _ _ hS' (fun _ => ?_)
   clear hK K
   try simp only [z]
   have hn := ih W' f0 F0 o0 e0 f1 F1 o1 e1 f2 F2 o2 e2 b6 v6 p6 true (.pointer (some ⟨W.heap.size, 0, none⟩)) W.heap.size (by simp only [cond_true, cond_false] at hm ⊢; omega) hS' (Nat.le_trans hz hB.size) (hNi.at_ hB) (hDi.at_ hB) (h2i.at_ hB) (hr2.at_ hB) (H6.step hB) (fun _ => ⟨rfl, hz, hrow⟩) (fun h _ => by have := some_lt (H6 h).2.2; omega)
   try simp only [z] at hn
   exact hn
 have n2 : ∀ (m : Nat) (W : World) (f0 : Bool) (F0 : Option Addr) (o0 e0 : Nat) (f1 : Bool) (F1 : Option Addr) (o1 e1 : Nat) (b6 : Bool) (v6 : Value) (p6 : Nat) (b7 : Bool) (v7 : Value) (p7 : Nat), 10 + cond b6 0 1 + cond b7 0 1 <= m -> RG W -> W_0.heap.size <= W.heap.size -> PI W W.heap.size k (.agg #[.bool a1, .slice B1 m1 d1]) N -> PI W W.heap.size j (.agg #[.bool a2, .slice B2 m2 d2]) D -> PI W W.heap.size 1 (.agg #[.bool a4, .slice B4 m4 d4]) 2 -> PI W W.heap.size (1 + k) (.agg #[.bool f1, .slice F1 o1 e1]) (2 * (N.natAbs : Int)) -> Mk W_0 W b6 v6 p6 #[.bool false, .slice none 0 0] 57 -> Mk W_0 W b7 v7 p7 #[.bool false, .slice none 0 0] 57 -> (b6 = true -> b7 = true -> p6 ≠ p7) -> wpAnyH Tryz.prog md' ops' Q' RG m #[true, true, true, true, true, false, true, true, false, false, false, false, false, false, b6, b7, false, false, false] ((((a'.put (some 18) (.agg #[.bool f0, .slice F0 o0 e0])).put (some 19) (.agg #[.bool f1, .slice F1 o1 e1])).put (some 6) v6).put (some 7) v7) W := by
  intro m
  induction m with
  | zero => intros; omega
  | succ m ih =>
  intro W f0 F0 o0 e0 f1 F1 o1 e1 b6 v6 p6 b7 v7 p7 hm hS hz hNi hDi h2i hr1 H6 H7 G67
  subst hlm hlo hlq hla hRG
  try simp only [z]
  refine wpAnyH_ready (rs := 5 :: (cond b6 [] [14] ++ (cond b7 [] [15] ++ []))) (by cases b6 <;> cases b7 <;> kernel_rfl) (by simp) (.cons rfl (fun K hK => ?_) (ropt (fun h6 => .cons rfl (fun K hK => ?_) .nil) (ropt (fun h7 => .cons rfl (fun K hK => ?_) .nil) .nil)))
  ·clear ih
   go_simp
   refine (add_int W (1 + k) j _ _ (2 * (N.natAbs : Int)) D (by omega) (by omega) hr1 hDi).mono ?_
   rintro e W' ⟨⟨v, rfl, hr⟩, hB⟩
   obtain ⟨f2, F2, o2, e2, rfl⟩ := hr.open
   have hS' := hS.step hB
   refine hK.out _ _ hS' (fun _ => ?_)
   clear hK K
   try simp only [z]
   have hn := n3 m W' f0 F0 o0 e0 f1 F1 o1 e1 f2 F2 o2 e2 b6 v6 p6 b7 v7 p7 (by omega) hS' (Nat.le_trans hz hB.size) (hNi.at_ hB) (hDi.at_ hB) (h2i.at_ hB) (hr) (H6.step hB) (H7.step hB) G67
   try simp only [z] at hn
   exact hn
  ·subst h6
   obtain ⟨W', hWn, hB, hrow, _⟩ := nw1 W #[.bool false, .slice none 0 0] 57
   go_simp
   rw [<- hWn]
   clear hWn
   have hS' := hS.step hB
   refine hK.out _ _ hS' (fun _ => ?_)
   clear hK K
   try simp only [z]
   have hn := ih W' f0 F0 o0 e0 f1 F1 o1 e1 true (.pointer (some ⟨W.heap.size, 0, none⟩)) W.heap.size b7 v7 p7 (by simp only [cond_true, cond_false] at hm ⊢; omega) hS' (Nat.le_trans hz hB.size) (hNi.at_ hB) (hDi.at_ hB) (h2i.at_ hB) (hr1.at_ hB) (fun _ => ⟨rfl, hz, hrow⟩) (H7.step hB) (fun _ h => by have := some_lt (H7 h).2.2; omega)
   try simp only [z] at hn
   exact hn
  ·subst h7
   obtain ⟨W', hWn, hB, hrow, _⟩ := nw1 W #[.bool false, .slice none 0 0] 57
   go_simp
   rw [<- hWn]
   clear hWn
   have hS' := hS.step hB
   refine hK.out _ _ hS' (fun _ => ?_)
   clear hK K
   try simp only [z]
   have hn := ih W' f0 F0 o0 e0 f1 F1 o1 e1 b6 v6 p6 true (.pointer (some ⟨W.heap.size, 0, none⟩)) W.heap.size (by simp only [cond_true, cond_false] at hm ⊢; omega) hS' (Nat.le_trans hz hB.size) (hNi.at_ hB) (hDi.at_ hB) (h2i.at_ hB) (hr1.at_ hB) (H6.step hB) (fun _ => ⟨rfl, hz, hrow⟩) (fun h _ => by have := some_lt (H6 h).2.2; omega)
   try simp only [z] at hn
   exact hn
 have n1 : ∀ (m : Nat) (W : World) (f0 : Bool) (F0 : Option Addr) (o0 e0 : Nat) (b6 : Bool) (v6 : Value) (p6 : Nat) (b7 : Bool) (v7 : Value) (p7 : Nat), 11 + cond b6 0 1 + cond b7 0 1 <= m -> RG W -> W_0.heap.size <= W.heap.size -> PI W W.heap.size k (.agg #[.bool a1, .slice B1 m1 d1]) N -> PI W W.heap.size j (.agg #[.bool a2, .slice B2 m2 d2]) D -> PI W W.heap.size 1 (.agg #[.bool a4, .slice B4 m4 d4]) 2 -> PI W W.heap.size k (.agg #[.bool f0, .slice F0 o0 e0]) (N.natAbs : Int) -> Mk W_0 W b6 v6 p6 #[.bool false, .slice none 0 0] 57 -> Mk W_0 W b7 v7 p7 #[.bool false, .slice none 0 0] 57 -> (b6 = true -> b7 = true -> p6 ≠ p7) -> wpAnyH Tryz.prog md' ops' Q' RG m #[true, true, true, false, true, false, true, true, false, false, false, false, false, false, b6, b7, false, false, false] (((a'.put (some 18) (.agg #[.bool f0, .slice F0 o0 e0])).put (some 6) v6).put (some 7) v7) W := by
  intro m
  induction m with
  | zero => intros; omega
  | succ m ih =>
  intro W f0 F0 o0 e0 b6 v6 p6 b7 v7 p7 hm hS hz hNi hDi h2i hr0 H6 H7 G67
  subst hlm hlo hlq hla hRG
  try simp only [z]
  refine wpAnyH_ready (rs := 3 :: (cond b6 [] [14] ++ (cond b7 [] [15] ++ []))) (by cases b6 <;> cases b7 <;> kernel_rfl) (by simp) (.cons rfl (fun K hK => ?_) (ropt (fun h6 => .cons rfl (fun K hK => ?_) .nil) (ropt (fun h7 => .cons rfl (fun K hK => ?_) .nil) .nil)))
  ·clear ih
   go_simp
   refine (mul_int W 1 k _ _ 2 (N.natAbs : Int) (by omega) (by omega) h2i hr0).mono ?_
   rintro e W' ⟨⟨v, rfl, hr⟩, hB⟩
   obtain ⟨f1, F1, o1, e1, rfl⟩ := hr.open
   have hS' := hS.step hB
   refine hK.out _ _ hS' (fun _ => ?_)
   clear hK K
   try simp only [z]
   have hn := n2 m W' f0 F0 o0 e0 f1 F1 o1 e1 b6 v6 p6 b7 v7 p7 (by omega) hS' (Nat.le_trans hz hB.size) (hNi.at_ hB) (hDi.at_ hB) (h2i.at_ hB) (hr) (H6.step hB) (H7.step hB) G67
   try simp only [z] at hn
   exact hn
  ·subst h6
   obtain ⟨W', hWn, hB, hrow, _⟩ := nw1 W #[.bool false, .slice none 0 0] 57
   go_simp
   rw [<- hWn]
   clear hWn
   have hS' := hS.step hB
   refine hK.out _ _ hS' (fun _ => ?_)
   clear hK K
   try simp only [z]
   have hn := ih W' f0 F0 o0 e0 true (.pointer (some ⟨W.heap.size, 0, none⟩)) W.heap.size b7 v7 p7 (by simp only [cond_true, cond_false] at hm ⊢; omega) hS' (Nat.le_trans hz hB.size) (hNi.at_ hB) (hDi.at_ hB) (h2i.at_ hB) (hr0.at_ hB) (fun _ => ⟨rfl, hz, hrow⟩) (H7.step hB) (fun _ h => by have := some_lt (H7 h).2.2; omega)
   try simp only [z] at hn
   exact hn
  ·subst h7
   obtain ⟨W', hWn, hB, hrow, _⟩ := nw1 W #[.bool false, .slice none 0 0] 57
   go_simp
   rw [<- hWn]
   clear hWn
   have hS' := hS.step hB
   refine hK.out _ _ hS' (fun _ => ?_)
   clear hK K
   try simp only [z]
   have hn := ih W' f0 F0 o0 e0 b6 v6 p6 true (.pointer (some ⟨W.heap.size, 0, none⟩)) W.heap.size (by simp only [cond_true, cond_false] at hm ⊢; omega) hS' (Nat.le_trans hz hB.size) (hNi.at_ hB) (hDi.at_ hB) (h2i.at_ hB) (hr0.at_ hB) (H6.step hB) (fun _ => ⟨rfl, hz, hrow⟩) (fun h _ => by have := some_lt (H6 h).2.2; omega)
   try simp only [z] at hn
   exact hn
 have n0 : ∀ (m : Nat) (W : World) (b6 : Bool) (v6 : Value) (p6 : Nat) (b7 : Bool) (v7 : Value) (p7 : Nat), 12 + cond b6 0 1 + cond b7 0 1 <= m -> RG W -> W_0.heap.size <= W.heap.size -> PI W W.heap.size k (.agg #[.bool a1, .slice B1 m1 d1]) N -> PI W W.heap.size j (.agg #[.bool a2, .slice B2 m2 d2]) D -> PI W W.heap.size 1 (.agg #[.bool a4, .slice B4 m4 d4]) 2 -> Mk W_0 W b6 v6 p6 #[.bool false, .slice none 0 0] 57 -> Mk W_0 W b7 v7 p7 #[.bool false, .slice none 0 0] 57 -> (b6 = true -> b7 = true -> p6 ≠ p7) -> wpAnyH Tryz.prog md' ops' Q' RG m #[true, true, false, false, true, false, true, true, false, false, false, false, false, false, b6, b7, false, false, false] ((a'.put (some 6) v6).put (some 7) v7) W := by
  intro m
  induction m with
  | zero => intros; omega
  | succ m ih =>
  intro W b6 v6 p6 b7 v7 p7 hm hS hz hNi hDi h2i H6 H7 G67
  subst hlm hlo hlq hla hRG
  try simp only [z]
  refine wpAnyH_ready (rs := 2 :: (cond b6 [] [14] ++ (cond b7 [] [15] ++ []))) (by cases b6 <;> cases b7 <;> kernel_rfl) (by simp) (.cons rfl (fun K hK => ?_) (ropt (fun h6 => .cons rfl (fun K hK => ?_) .nil) (ropt (fun h7 => .cons rfl (fun K hK => ?_) .nil) .nil)))
  ·clear ih
   go_simp
   refine (abs_any W k _ N (by omega) hNi).mono ?_
   rintro e W' ⟨⟨v, rfl, hr⟩, hB⟩
   obtain ⟨f0, F0, o0, e0, rfl⟩ := hr.open
   have hS' := hS.step hB
   refine hK.out _ _ hS' (fun _ => ?_)
   clear hK K
   try simp only [z]
   have hn := n1 m W' f0 F0 o0 e0 b6 v6 p6 b7 v7 p7 (by omega) hS' (Nat.le_trans hz hB.size) (hNi.at_ hB) (hDi.at_ hB) (h2i.at_ hB) (hr) (H6.step hB) (H7.step hB) G67
   try simp only [z] at hn
   exact hn
  ·subst h6
   obtain ⟨W', hWn, hB, hrow, _⟩ := nw1 W #[.bool false, .slice none 0 0] 57
   go_simp
   rw [<- hWn]
   clear hWn
   have hS' := hS.step hB
   refine hK.out _ _ hS' (fun _ => ?_)
   clear hK K
   try simp only [z]
   have hn := ih W' true (.pointer (some ⟨W.heap.size, 0, none⟩)) W.heap.size b7 v7 p7 (by simp only [cond_true, cond_false] at hm ⊢; omega) hS' (Nat.le_trans hz hB.size) (hNi.at_ hB) (hDi.at_ hB) (h2i.at_ hB) (fun _ => ⟨rfl, hz, hrow⟩) (H7.step hB) (fun _ h => by have := some_lt (H7 h).2.2; omega)
   try simp only [z] at hn
   exact hn
  ·subst h7
   obtain ⟨W', hWn, hB, hrow, _⟩ := nw1 W #[.bool false, .slice none 0 0] 57
   go_simp
   rw [<- hWn]
   clear hWn
   have hS' := hS.step hB
   refine hK.out _ _ hS' (fun _ => ?_)
   clear hK K
   try simp only [z]
   have hn := ih W' b6 v6 p6 true (.pointer (some ⟨W.heap.size, 0, none⟩)) W.heap.size (by simp only [cond_true, cond_false] at hm ⊢; omega) hS' (Nat.le_trans hz hB.size) (hNi.at_ hB) (hDi.at_ hB) (h2i.at_ hB) (H6.step hB) (fun _ => ⟨rfl, hz, hrow⟩) (fun h _ => by have := some_lt (H6 h).2.2; omega)
   try simp only [z] at hn
   exact hn
 have hn := n0 _ W_0 false undef 0 false undef 0 (Nat.le_refl _) hS (Nat.le_refl _) hNi hDi h2i (fun h => nomatch h) (fun h => nomatch h) (fun h => nomatch h)
 subst hlm hlo hlq hla hRG
 exact hn
end
end R1
end Go.Proofs.YtccapfbblnnfjaaGreat
