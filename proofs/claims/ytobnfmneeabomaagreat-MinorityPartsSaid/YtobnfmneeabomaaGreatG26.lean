/- My texts RatRound. -/
import Derived.Test.YtobnfmneeabomaaGreatG15
set_option linter.unusedVariables false
set_option linter.unusedSimpArgs false
set_option maxRecDepth 100000
set_option maxHeartbeats 8000000
namespace Go.Proofs.YtobnfmneeabomaaGreat
open Go.RowKit
theorem rowsRI (w : World) (X Y : Array Value) (t s : TypeId) : Below w.heap.size w ((w.alloc (.cells X t)).alloc (.cells Y s)) /\ ((w.alloc (.cells X t)).alloc (.cells Y s)).heap[w.heap.size]? = some (.cells X t (0, 0)) /\ ((w.alloc (.cells X t)).alloc (.cells Y s)).heap[w.heap.size + 1]? = some (.cells Y s (0, 0)) /\ ((w.alloc (.cells X t)).alloc (.cells Y s)).heap.size = w.heap.size + 2 := by
 refine ⟨((Below.refl _ _).alloc (Nat.le_refl _) _).alloc (by simp) _, ?_, ?_, by simp⟩
 ·rw [Below.heap_alloc _ _ _ (by simp)]; exact heap_alloc_new w _
 ·have := heap_alloc_new (w.alloc (.cells X t)) (.cells Y s)
  rwa [show (w.alloc (.cells X t)).heap.size = w.heap.size + 1 by simp] at this
theorem row1 (w : World) (X : Array Value) (t : TypeId) : Below w.heap.size w (w.alloc (.cells X t)) /\ (w.alloc (.cells X t)).heap[w.heap.size]? = some (.cells X t (0, 0)) /\ (w.alloc (.cells X t)).heap.size = w.heap.size + 1 :=
 ⟨(Below.refl _ _).alloc (Nat.le_refl _) _, heap_alloc_new w _, by simp⟩
theorem int_none (g : Bool) (A : Option Addr) (n c : Nat) : ∀ (j : Nat) (z : Int), (#[.bool g, .slice A n c] : Array Value)[j]? ≠ some (.int .u32 z) := by
 intro j z
 match j with
 | 0 => simp
 | 1 => simp
 | j + 2 => simp
theorem PI.drw {W : World} {k : Nat} {v : Value} {z : Int} (h : PI W W.heap.size k v z) : PI W.drew W.drew.heap.size k v z := h.at_ (below_drawn (Below.refl _ _) 1)
theorem sg_nn (N : Int) (h : ¬ N < 0) : decide (sg N < 0) = false := by
 rcases Int.lt_trichotomy N 0 with hl | hl | hl
 ·exact absurd hl h
 ·rw [sg_pos.2.2.2 hl]; rfl
 ·rw [sg_pos.1.2 hl]; rfl
theorem sg_ng (N : Int) (h : N < 0) : decide (sg N < 0) = true := by
 rw [sg_pos.2.1.2 h]; rfl
theorem zero_two : ∀ (j : Nat) (n : Int), (#[.bool false, .slice none 0 0] : Array Value)[j]? ≠ some (.int .u32 n) := by
 intro j n
 match j with
 | 0 => simp
 | 1 => simp
 | j + 2 => simp
theorem wpAnyH_letters {P : Program} {md : Region.Mode} {ops : Array Oper} {Q : Exit -> Act -> World -> Prop} {S : World -> Prop} {fuel : Nat} {listed : Array Bool} {a : Act} {w : World}
  (h : ∀ (md' : Region.Mode) (ops' : Array Oper) (Q' : Exit -> Act -> World -> Prop) (a' : Act), md' = md -> ops' = ops -> Q' = Q -> a' = a -> wpAnyH P md' ops' Q' S fuel listed a' w) : wpAnyH P md ops Q S fuel listed a w := h _ _ _ _ rfl rfl rfl rfl
section
variable (w : World)
theorem round_go (k : Nat) (v : Value) (N D Z : Int) (K0 : Nat) (hKK : K0 = max (1 + k) 1 + 1) (hZ : Z = if N < 0 then -D else D) (hk : k <= 100000) (hD : D ≠ 0) (hlo : -1000000000 < 2 * D) (hhi : 2 * D < 1000000000) (h : RI w w.heap.size k 1 v N D) :
  Calls Tryz.prog 38 #[v] w fun e w' => (∃ r, e = .returned r /\ PI w' w'.heap.size K0 r (Int.tdiv (2 * N + Z) (2 * D))) /\ Below w.heap.size w w' := by
 obtain ⟨g1, A1, n1, c1, g2, A2, n2, c2, rfl⟩ := h.open
 obtain ⟨hB0, hb0, hb1, hz⟩ := rowsRI w #[.bool g1, .slice A1 n1 c1, .bool g2, .slice A2 n2 c2] #[.bool false, .slice none 0 0] 90 88
 obtain ⟨W1, hW1⟩ : ∃ W1, W1 = ((w.alloc (.cells #[.bool g1, .slice A1 n1 c1, .bool g2, .slice A2 n2 c2] 90)).alloc (.cells #[.bool false, .slice none 0 0] 88)) := ⟨_, rfl⟩
 rw [<- hW1] at hB0 hb0 hb1 hz
 have HW := Lib.hid hW1
 have Hz := Lib.hid hz
 have Hb1 := Lib.hid hb1
 have HD := Lib.hid hD
 have HZ := Lib.hid hZ
 have HKK := Lib.hid hKK
 have HD2 : Hid (2 * D ≠ 0) := by show _ ≠ _; omega
 have Ht : Hid (-1000000000 ^ 1 < 2 * D /\ 2 * D < 1000000000 ^ 1) := by show _ /\ _; rw [Int.pow_succ, Int.pow_zero]; omega
 have x0 := cell_of_row _ _ 0 _ _ _ hb0
 have x1 := cell_of_row _ _ 1 _ _ _ hb0
 have x2 := cell_of_row _ _ 2 _ _ _ hb0
 have x3 := cell_of_row _ _ 3 _ _ _ hb0
 simp at x0 x1 x2 x3
 have s1 : w.heap.size < W1.heap.size := by omega
 clear hW1 hz hb0 hb1 hD hlo hhi hZ hKK
 go_enter Tryz.func38, Tryz.ntmps38
 go_upto_region 1 with (fail)
 rw [<- HW.out]
 go_wp2_with (fail)
 refine (parts_any W1 k 1 _ N D HD.out (h.at_ hB0)).mono ?_
 rintro e W2 ⟨⟨a1, B1, m1, d1, a2, B2, m2, d2, rfl, hp1, hp2⟩, hB2⟩
 have hq1 := Hz.out
 have hsz2 := hB2.size
 have hBw2 := hB0.trans (hB2.mono hB0.size)
 have hc1 := gbox Hb1.out hB2 (by omega)
 obtain ⟨hBa, hra1, hra2, hza⟩ := rows2 W2 #[.bool a1, .slice B1 m1 d1] #[.bool a2, .slice B2 m2 d2] 88
 have hBwa := hBw2.trans (hBa.mono hBw2.size)
 have hda := gbox hc1 hBa (by omega)
 obtain ⟨Wa, hWa⟩ : ∃ Wa, Wa = ((W2.alloc (.cells #[.bool a1, .slice B1 m1 d1] 88)).alloc (.cells #[.bool a2, .slice B2 m2 d2] 88)) := ⟨_, rfl⟩
 rw [<- hWa] at hBa hra1 hra2 hza hBwa hda
 have HWa := Lib.hid hWa
 have y0 := cell_of_row _ _ 0 _ _ _ hra2
 have y1 := cell_of_row _ _ 1 _ _ _ hra2
 simp at y0 y1
 have s4 : W2.heap.size + 1 < Wa.heap.size := by omega
 have Hra1 := Lib.hid hra1
 have Hra2 := Lib.hid hra2
 have Hza := Lib.hid hza
 have Hda := Lib.hid hda
 clear x0 x1 x2 x3 hra1 hra2 hza hWa hc1 hda
 go_upto_region 2 with (fail)
 rw [<- HWa.out]
 obtain ⟨hBc, hrc, hzc⟩ := row1 Wa #[.bool a2, .slice B2 m2 d2] 88
 have hza := Hza.out
 have hBwc := hBwa.trans (hBc.mono hBwa.size)
 rw [hza] at hrc
 have hc3 := gbox Hra1.out hBc (by omega)
 have hc4 := gbox Hra2.out hBc (by omega)
 have hcd := gbox Hda.out hBc (by omega)
 obtain ⟨Wc, hWc⟩ : ∃ Wc, Wc = (Wa.alloc (.cells #[.bool a2, .slice B2 m2 d2] 88)) := ⟨_, rfl⟩
 rw [<- hWc] at hBc hrc hzc hBwc hc3 hc4 hcd
 have HWc := Lib.hid hWc
 have hp1c := (hp1.at_ hBa).at_ hBc
 have hp2c := (hp2.at_ hBa).at_ hBc
 go_upto_region 3 with (fail)
 rw [<- HWc.out]
 have z0 := cell_of_row _ _ 0 _ _ _ hc3
 have z1 := cell_of_row _ _ 1 _ _ _ hc3
 simp at z0 z1
 have s5 : W2.heap.size < Wc.heap.size := by omega
 clear y0 y1 hWc
 go_wp2_with (fail)
 refine (sign_any Wc k _ N hp1c).mono ?_
 rintro e W3 ⟨rfl, hB3⟩
 have hsz3 := hB3.size
 have hBw3 := hBwc.trans (hB3.mono hBwc.size)
 have h33 := gbox hc3 hB3 (by omega)
 have h34 := gbox hc4 hB3 (by omega)
 have h35 := gbox hrc hB3 (by omega)
 have h3d := gbox hcd hB3 (by omega)
 have hp1d := hp1c.at_ hB3
 have hp2d := hp2c.at_ hB3
 clear z0 z1
 refine (Classical.em (N < 0)).elim (fun hn => ?_) (fun hn => ?_)
 focus
  have hsg := sg_ng N hn
  obtain ⟨Ez, hEz⟩ : ∃ Ez, Ez = -D := ⟨_, rfl⟩
  have HE0 : Hid (Ez = Z) := by show _ = _; rw [HZ.out, if_pos hn]; exact hEz
  clear hn
  have y0 := cell_of_row _ _ 0 _ _ _ h34
  have y1 := cell_of_row _ _ 1 _ _ _ h34
  simp at y0 y1
  have s6 : W2.heap.size + 1 < W3.heap.size := by omega
  go_wp2_with (fail)
  refine (neg_at W3 W3.heap.size 1 (Nat.le_refl _) _ D (by omega) hp2d).mono ?_
  rintro e W4 ⟨⟨r4, rfl, hr4⟩, hB4⟩
  obtain ⟨a3, B3, m3, d3, rfl⟩ := hr4.open
  have hsz4 := hB4.size
  have H35 := Lib.hid (gbox h35 hB4 (by omega))
  have Hone : Hid ((#[.bool a3, .slice B3 m3 d3] : Array Value).all (·.oneCell') = true) := by show _ = true; simp [Value.oneCell']
  obtain ⟨Wf, hWf⟩ : ∃ Wf, Wf = W4.setRow (W2.heap.size + 2) #[.bool a3, .slice B3 m3 d3] := ⟨_, rfl⟩
  have hf5 := setRow_heap W4 (W2.heap.size + 2) _ #[.bool a3, .slice B3 m3 d3] _ _ H35.out
  have hf3 := (setRow_other W4 (W2.heap.size + 2) W2.heap.size #[.bool a3, .slice B3 m3 d3] (by omega)).trans (gbox h33 hB4 (by omega))
  have hf4 := (setRow_other W4 (W2.heap.size + 2) (W2.heap.size + 1) #[.bool a3, .slice B3 m3 d3] (by omega)).trans (gbox h34 hB4 (by omega))
  have hfd := (setRow_other W4 (W2.heap.size + 2) (w.heap.size + 1) #[.bool a3, .slice B3 m3 d3] (by omega)).trans (gbox h3d hB4 (by omega))
  have hBwf := below_setRow (hBw3.trans (hB4.mono hBw3.size)) (show w.heap.size <= (W2.heap.size + 2) by omega) #[.bool a3, .slice B3 m3 d3]
  have hpN := ((hp1d.at_ hB4).other (w' := W4.setRow (W2.heap.size + 2) #[.bool a3, .slice B3 m3 d3]) H35.out (int_none a2 B2 m2 d2) (fun c hc => setRow_other _ _ _ _ hc)).more (C := (W4.setRow (W2.heap.size + 2) #[.bool a3, .slice B3 m3 d3]).heap.size) (j := k) (by simp) (Nat.le_refl _)
  have hpD := ((hp2d.at_ hB4).other (w' := W4.setRow (W2.heap.size + 2) #[.bool a3, .slice B3 m3 d3]) H35.out (int_none a2 B2 m2 d2) (fun c hc => setRow_other _ _ _ _ hc)).more (C := (W4.setRow (W2.heap.size + 2) #[.bool a3, .slice B3 m3 d3]).heap.size) (j := 1) (by simp) (Nat.le_refl _)
  have hpE := (hr4.other (w' := W4.setRow (W2.heap.size + 2) #[.bool a3, .slice B3 m3 d3]) H35.out (int_none a2 B2 m2 d2) (fun c hc => setRow_other _ _ _ _ hc)).more (C := (W4.setRow (W2.heap.size + 2) #[.bool a3, .slice B3 m3 d3]).heap.size) (j := 1) (by simp; omega) (Nat.le_refl _)
  have hzf : Wf.heap.size = W4.heap.size := by rw [hWf]; simp
  rw [<- hWf] at hf5 hf3 hf4 hfd hBwf hpN hpD hpE
  rw [<- hEz] at hpE
  have HWf := Lib.hid hWf
  clear y0 y1 hWf
  go_wp2_with (refine wpList_store_row rfl 88 (.tmp 5) (.tmp 20) none rfl rfl (W2.heap.size + 2) 88 _ #[.bool a3, .slice B3 m3 d3] rfl rfl H35.out rfl intSize Hone.out ?_)
  rw [<- HWf.out]
  clear hr4 hBw3 hsz3 hsz4 h33 h34 h35 h3d hp1d hp2d hsg hB3 hB4 H35 Hone s6 hEz hzf HWf
 rotate_left
 focus
  have hsg := sg_nn N hn
  obtain ⟨Ez, hEz⟩ : ∃ Ez, Ez = D := ⟨_, rfl⟩
  have HE0 : Hid (Ez = Z) := by show _ = _; rw [HZ.out, if_neg hn]; exact hEz
  clear hn
  obtain ⟨a3, B3, m3, d3, h3⟩ : ∃ a3 B3 m3 d3, (#[.bool a3, .slice B3 m3 d3] : Array Value) = #[.bool a2, .slice B2 m2 d2] := ⟨_, _, _, _, rfl⟩
  obtain ⟨Wf, hWf⟩ : ∃ Wf, Wf = W3 := ⟨_, rfl⟩
  subst hWf
  have hf5 := h35
  have hf3 := h33
  have hf4 := h34
  have hfd := h3d
  have hBwf := hBw3
  have hpN := hp1d
  have hpD := hp2d
  have hpE := hp2d
  rw [<- h3] at hf5 hpE
  rw [<- hEz] at hpE
  have H3 := Lib.hid h3
  clear h3 hEz
  go_wp2_with (fail)
  clear hBw3 hsz3 h33 h34 h35 h3d hp1d hp2d hsg hB3 H3
 all_goals (
  refine (of_int Wf 2 (by omega) (by omega)).mono ?_
  rintro e W5 ⟨⟨r5, rfl, hr5⟩, hB5⟩
  obtain ⟨a4, B4, m4, d4, rfl⟩ := hr5.open
  have hsz5 := hB5.size
  have hBw5 := hBwf.trans (hB5.mono hBwf.size)
  have h53 := gbox hf3 hB5 (some_lt hf3)
  have h54 := gbox hf4 hB5 (some_lt hf4)
  have h55 := gbox hf5 hB5 (some_lt hf5)
  have h5d := gbox hfd hB5 (some_lt hfd)
  obtain ⟨hBg, hrg, hzg⟩ := row1 W5 #[.bool a4, .slice B4 m4 d4] 88
  have hg3 := gbox h53 hBg (some_lt h53)
  have hg4 := gbox h54 hBg (some_lt h54)
  have hg5 := gbox h55 hBg (some_lt h55)
  have hgd := gbox h5d hBg (some_lt h5d)
  have hBwg := hBw5.trans (hBg.mono hBw5.size)
  obtain ⟨Wg, hWg⟩ : ∃ Wg, Wg = (W5.alloc (.cells #[.bool a4, .slice B4 m4 d4] 88)) := ⟨_, rfl⟩
  rw [<- hWg] at hBg hrg hzg hg3 hg4 hg5 hgd hBwg
  have HWg := Lib.hid hWg
  have hN := ((hpN.at_ hB5).at_ hBg).drw
  have hD := ((hpD.at_ hB5).at_ hBg).drw
  have hE := ((hpE.at_ hB5).at_ hBg).drw
  have h2 := ((hr5.tight (j := 1) (by decide) (by decide)).at_ hBg).drw
  have hS0 : Reg w [(w.heap.size + 1, #[.bool false, .slice none 0 0], 88), (W2.heap.size, #[.bool a1, .slice B1 m1 d1], 88), (W2.heap.size + 1, #[.bool a2, .slice B2 m2 d2], 88), (W2.heap.size + 2, #[.bool a3, .slice B3 m3 d3], 88), (W5.heap.size, #[.bool a4, .slice B4 m4 d4], 88)] Wg := ⟨hBwg, by simp [hgd, hg3, hg4, hg5, hrg]⟩
  have hS := hS0.drew
  clear hWg h53 h54 h55 h5d hf3 hf4 hf5 hfd hg3 hg4 hg5 hgd
  go_upto_region 6 with (fail)
  rw [<- HWg.out]
  refine wp_region_held (S := Reg w [(w.heap.size + 1, #[.bool false, .slice none 0 0], 88), (W2.heap.size, #[.bool a1, .slice B1 m1 d1], 88), (W2.heap.size + 1, #[.bool a2, .slice B2 m2 d2], 88), (W2.heap.size + 2, #[.bool a3, .slice B3 m3 d3], 88), (W5.heap.size, #[.bool a4, .slice B4 m4 d4], 88)]) (by kernel_rfl) ?_
  change wpAnyH _ _ _ _ _ _ _ _ (World.drew Wg)
  obtain ⟨W_0, hWd⟩ : ∃ W_0, W_0 = Wg.drew := ⟨_, rfl⟩
  rw [<- hWd] at hS hN hD hE h2 ⊢
  have hl1 := hS.lt (.head _)
  have hl2 := hS.lt (.tail _ (.head _))
  have hl3 := hS.lt (.tail _ (.tail _ (.head _)))
  have hl4 := hS.lt (.tail _ (.tail _ (.tail _ (.head _))))
  have hl5 := hS.lt (.tail _ (.tail _ (.tail _ (.tail _ (.head _)))))
  clear hWd hzg hzc hza hBg hBwg hBw5 hBwf hB5 hBc hBwc hBa hBwa hBw2 hB2 hB0 hpN hpD hpE hp1 hp2 hp1c hp2c hrc hc3 hc4 hcd hrg hr5 hS0 hsz5
  refine tk (i := 0) (v := .agg #[.bool a4, .slice B4 m4 d4]) rfl (by kernel_rfl) (fun _ _ _ h => h) (yieldsIf_load_mid (by rfl) 88 _ rfl W5.heap.size 0 rfl [.bool a4, .slice B4 m4 d4] _ (fun W' hS' => range2 (hS'.get (.tail _ (.tail _ (.tail _ (.tail _ (.head _))))))) Tryz.underlying88 rfl intSize) hS ?_
  try simp only [z]
  refine tk (i := 1) (v := .agg #[.bool a1, .slice B1 m1 d1]) rfl (by kernel_rfl) (fun _ _ _ h => h) (yieldsIf_load_mid (by rfl) 88 _ rfl W2.heap.size 0 rfl [.bool a1, .slice B1 m1 d1] _ (fun W' hS' => range2 (hS'.get (.tail _ (.head _)))) Tryz.underlying88 rfl intSize) hS ?_
  try simp only [z]
  refine tk (i := 3) (v := .agg #[.bool a3, .slice B3 m3 d3]) rfl (by kernel_rfl) (fun _ _ _ h => h) (yieldsIf_load_mid (by rfl) 88 _ rfl (W2.heap.size + 2) 0 rfl [.bool a3, .slice B3 m3 d3] _ (fun W' hS' => range2 (hS'.get (.tail _ (.tail _ (.tail _ (.head _)))))) Tryz.underlying88 rfl intSize) hS ?_
  try simp only [z]
  refine tk (i := 5) (v := .agg #[.bool a4, .slice B4 m4 d4]) rfl (by kernel_rfl) (fun _ _ _ h => h) (yieldsIf_load_mid (by rfl) 88 _ rfl W5.heap.size 0 rfl [.bool a4, .slice B4 m4 d4] _ (fun W' hS' => range2 (hS'.get (.tail _ (.tail _ (.tail _ (.tail _ (.head _))))))) Tryz.underlying88 rfl intSize) hS ?_
  try simp only [z]
  refine tk (i := 6) (v := .agg #[.bool a2, .slice B2 m2 d2]) rfl (by kernel_rfl) (fun _ _ _ h => h) (yieldsIf_load_mid (by rfl) 88 _ rfl (W2.heap.size + 1) 0 rfl [.bool a2, .slice B2 m2 d2] _ (fun W' hS' => range2 (hS'.get (.tail _ (.tail _ (.head _))))) Tryz.underlying88 rfl intSize) hS ?_
  try simp only [z]
  refine wpAnyH_letters fun md' ops' Q' a' hlm hlo hlq hla => ?_
  obtain ⟨RG, hRG⟩ : ∃ R, R = Reg w [(w.heap.size + 1, #[.bool false, .slice none 0 0], 88), (W2.heap.size, #[.bool a1, .slice B1 m1 d1], 88), (W2.heap.size + 1, #[.bool a2, .slice B2 m2 d2], 88), (W2.heap.size + 2, #[.bool a3, .slice B3 m3 d3], 88), (W5.heap.size, #[.bool a4, .slice B4 m4 d4], 88)] := ⟨_, rfl⟩
  rw [<- hRG] at hS ⊢
  have n4 : ∀ (m : Nat) (W : World) (f0 : Bool) (F0 : Option Addr) (o0 e0 : Nat) (f1 : Bool) (F1 : Option Addr) (o1 e1 : Nat) (f2 : Bool) (F2 : Option Addr) (o2 e2 : Nat) (f3 : Bool) (F3 : Option Addr) (o3 e3 : Nat) (rg : Bool) (rA : Option Addr) (rn rc : Nat) (b7 : Bool) (v7 : Value) (p7 : Nat) (b8 : Bool) (v8 : Value) (p8 : Nat), 3 + cond b7 0 1 + cond b8 0 1 <= m -> RG W -> W_0.heap.size <= W.heap.size -> PI W W.heap.size (max (1 + k) 1 + 1) (.agg #[.bool f3, .slice F3 o3 e3]) (Int.tdiv (2 * N + Ez) (2 * D)) -> Mk W_0 W b7 v7 p7 #[.bool false, .slice none 0 0] 88 -> Mk W_0 W b8 v8 p8 #[.bool false, .slice none 0 0] 88 -> (b7 = true -> b8 = true -> p7 ≠ p8) -> wpAnyH Tryz.prog md' ops' Q' RG m #[true, true, true, true, true, true, true, true, true, true, true, true, true, b7, b8, false, false, false] ((((((((((a'.put (some 25) (.agg #[.bool f0, .slice F0 o0 e0])).put (some 27) (.agg #[.bool f1, .slice F1 o1 e1])).put (some 30) (.agg #[.bool f2, .slice F2 o2 e2])).put (some 31) (.tuple #[.agg #[.bool f3, .slice F3 o3 e3], .agg #[.bool rg, .slice rA rn rc], .int .i64 0])).put (some 22) (.tuple #[.agg #[.bool f3, .slice F3 o3 e3], .agg #[.bool rg, .slice rA rn rc], .int .i64 0])).put (some 32) (.agg #[.bool f3, .slice F3 o3 e3])).put (some 33) (.agg #[.bool rg, .slice rA rn rc])).put (some 34) (.int .i64 0)).put (some 7) v7).put (some 8) v8) W := by
   intro m
   induction m with
   | zero => intros; omega
   | succ m ih =>
   intro W f0 F0 o0 e0 f1 F1 o1 e1 f2 F2 o2 e2 f3 F3 o3 e3 rg rA rn rc b7 v7 p7 b8 v8 p8 hm hS hz hr3 H7 H8 G78
   subst hlm hlo hlq hla hRG
   try simp only [z]
   by_cases hb : b7 = true /\ b8 = true
   rotate_left
   ·refine wpAnyH_ready (rs := (cond b7 [] [13] ++ (cond b8 [] [14] ++ []))) (by revert hb; cases b7 <;> cases b8 <;> intro hb <;> first | exact absurd (by decide) hb | kernel_rfl) (by revert hb; cases b7 <;> cases b8 <;> decide) (ropt (fun h7 => .cons rfl (fun K hK => ?_) .nil) (ropt (fun h8 => .cons rfl (fun K hK => ?_) .nil) .nil))
    ·subst h7
     obtain ⟨W', hWn, hB, hrow, _⟩ := nw1 W #[.bool false, .slice none 0 0] 88
     go_simp
     rw [<- hWn]
     clear hWn
     have hS' := hS.step hB
     refine hK.out _ _ hS' (fun _ => ?_)
     clear hK K
     try simp only [z]
     have hn := ih W' f0 F0 o0 e0 f1 F1 o1 e1 f2 F2 o2 e2 f3 F3 o3 e3 rg rA rn rc true (.pointer (some ⟨W.heap.size, 0, none⟩)) W.heap.size b8 v8 p8 (by simp only [cond_true, cond_false] at hm ⊢; omega) hS' (Nat.le_trans hz hB.size) (hr3.at_ hB) (fun _ => ⟨rfl, hz, hrow⟩) (H8.step hB) (fun _ h => by have := some_lt (H8 h).2.2; omega)
     try simp only [z] at hn
     exact hn
    ·subst h8
     obtain ⟨W', hWn, hB, hrow, _⟩ := nw1 W #[.bool false, .slice none 0 0] 88
     go_simp
     rw [<- hWn]
     clear hWn
     have hS' := hS.step hB
     refine hK.out _ _ hS' (fun _ => ?_)
     clear hK K
     try simp only [z]
     have hn := ih W' f0 F0 o0 e0 f1 F1 o1 e1 f2 F2 o2 e2 f3 F3 o3 e3 rg rA rn rc b7 v7 p7 true (.pointer (some ⟨W.heap.size, 0, none⟩)) W.heap.size (by simp only [cond_true, cond_false] at hm ⊢; omega) hS' (Nat.le_trans hz hB.size) (hr3.at_ hB) (H7.step hB) (fun _ => ⟨rfl, hz, hrow⟩) (fun h _ => by have := some_lt (H7 h).2.2; omega)
     try simp only [z] at hn
     exact hn
   obtain ⟨rfl, rfl⟩ := hb
   obtain ⟨rfl, g7, h7⟩ := H7 rfl
   obtain ⟨rfl, g8, h8⟩ := H8 rfl
   have g78 := G78 rfl rfl
   obtain ⟨m, rfl⟩ : ∃ k, m = k + 2 := ⟨m - 2, by simp only [cond_true] at hm; omega⟩
   clear ih hm
   refine wpAnyH_ready (rs := [15]) (by kernel_rfl) (by simp) (AllReadyH.cons rfl (fun K hK => ?_) AllReadyH.nil)
   rw [if_pos (by rfl)]
   refine wp_store_row 88 _ _ none rfl rfl p7 88 _ #[.bool f3, .slice F3 o3 e3] rfl rfl h7 rfl intSize (by simp [Value.oneCell']) ?_
   have hSa := hS.store p7 (by have := hS.1.size; omega) (by simp; omega) #[.bool f3, .slice F3 o3 e3]
   have ha7 := setRow_heap W p7 _ #[.bool f3, .slice F3 o3 e3] _ _ h7
   have ha8 := (setRow_other W p7 p8 #[.bool f3, .slice F3 o3 e3] (by omega)).trans h8
   have hqa := hr3.other (w' := (W.setRow p7 #[.bool f3, .slice F3 o3 e3])) h7 zero_two (fun c hc => setRow_other _ _ _ _ hc)
   refine hK.out _ _ hSa (fun _ => ?_)
   clear hK K
   try simp only [z]
   refine wpAnyH_ready (rs := [16]) (by kernel_rfl) (by simp) (AllReadyH.cons rfl (fun K hK => ?_) AllReadyH.nil)
   rw [if_pos (by rfl)]
   refine wp_store_row 88 _ _ none rfl rfl p8 88 _ #[.bool rg, .slice rA rn rc] rfl rfl ha8 rfl intSize (by simp [Value.oneCell']) ?_
   have hSb := hSa.store p8 (by have := hS.1.size; omega) (by simp; omega) #[.bool rg, .slice rA rn rc]
   have hb7 := (setRow_other (W.setRow p7 #[.bool f3, .slice F3 o3 e3]) p8 p7 #[.bool rg, .slice rA rn rc] (by omega)).trans ha7
   have hbd := hSb.get (.head _)
   have hqb := hqa.other (w' := ((W.setRow p7 #[.bool f3, .slice F3 o3 e3]).setRow p8 #[.bool rg, .slice rA rn rc])) ha8 zero_two (fun c hc => setRow_other _ _ _ _ hc)
   refine hK.out _ _ hSb (fun _ => ?_)
   clear hK K
   try simp only [z]
   refine wpAnyH_ready (rs := [17]) (by kernel_rfl) (by simp) (AllReadyH.cons rfl (fun K hK => ?_) AllReadyH.nil)
   go_simp
   refine hK.out _ _ hSb (fun _ => ?_)
   clear hK K
   try simp only [z]
   refine wpAnyH_done (by kernel_rfl) ?_ _
   have hc0 := cell_of_row _ _ 0 _ _ _ hb7
   have hc1 := cell_of_row _ _ 1 _ _ _ hb7
   simp at hc0 hc1
   have hRF := setRow_heap ((W.setRow p7 #[.bool f3, .slice F3 o3 e3]).setRow p8 #[.bool rg, .slice rA rn rc]) (w.heap.size + 1) _ #[.bool f3, .slice F3 o3 e3] _ _ hbd
   have Hload := Lib.hid (run_loadVar_row (P := Tryz.prog) _ _ _ 88 _ _ _ hRF Tryz.underlying88 rfl intSize)
   have Hp := Lib.hid ((hqb.other (w' := (((W.setRow p7 #[.bool f3, .slice F3 o3 e3]).setRow p8 #[.bool rg, .slice rA rn rc]).setRow (w.heap.size + 1) #[.bool f3, .slice F3 o3 e3])) hbd zero_two (fun c hc => setRow_other _ _ _ _ hc)).more (C := (((W.setRow p7 #[.bool f3, .slice F3 o3 e3]).setRow p8 #[.bool rg, .slice rA rn rc]).setRow (w.heap.size + 1) #[.bool f3, .slice F3 o3 e3]).heap.size) (by simp) (Nat.le_refl _))
   have HBF := Lib.hid (below_setRow hSb.1 (show w.heap.size <= w.heap.size + 1 by omega) #[.bool f3, .slice F3 o3 e3])
   have Hbd := Lib.hid hbd
   have Hone2 : Hid ((#[.bool f3, .slice F3 o3 e3] : Array Value).all (·.oneCell') = true) := by show _ = true; simp [Value.oneCell']
   clear hRF
   go_wp2_with (refine wpList_store_row rfl 88 (.tmp 2) (.tmp 35) none rfl rfl (w.heap.size + 1) 88 _ #[.bool f3, .slice F3 o3 e3] rfl rfl Hbd.out rfl intSize Hone2.out ?_)
   rw [HE0.out, <- HKK.out] at Hp
   exact bodyPost_ret (v := .agg #[.bool f3, .slice F3 o3 e3]) (by simp [results, Tryz.results38, asAddr, Act.put, Hload.out]) rfl ⟨⟨_, rfl, Hp.out⟩, HBF.out⟩
  have n3 : ∀ (m : Nat) (W : World) (f0 : Bool) (F0 : Option Addr) (o0 e0 : Nat) (f1 : Bool) (F1 : Option Addr) (o1 e1 : Nat) (f2 : Bool) (F2 : Option Addr) (o2 e2 : Nat) (b7 : Bool) (v7 : Value) (p7 : Nat) (b8 : Bool) (v8 : Value) (p8 : Nat), 8 + cond b7 0 1 + cond b8 0 1 <= m -> RG W -> W_0.heap.size <= W.heap.size -> PI W W.heap.size (max (1 + k) 1 + 1) (.agg #[.bool f1, .slice F1 o1 e1]) (2 * N + Ez) -> PI W W.heap.size 1 (.agg #[.bool f2, .slice F2 o2 e2]) (2 * D) -> Mk W_0 W b7 v7 p7 #[.bool false, .slice none 0 0] 88 -> Mk W_0 W b8 v8 p8 #[.bool false, .slice none 0 0] 88 -> (b7 = true -> b8 = true -> p7 ≠ p8) -> wpAnyH Tryz.prog md' ops' Q' RG m #[true, true, true, true, true, true, true, true, false, false, false, false, false, b7, b8, false, false, false] (((((a'.put (some 25) (.agg #[.bool f0, .slice F0 o0 e0])).put (some 27) (.agg #[.bool f1, .slice F1 o1 e1])).put (some 30) (.agg #[.bool f2, .slice F2 o2 e2])).put (some 7) v7).put (some 8) v8) W := by
   intro m
   induction m with
   | zero => intros; omega
   | succ m ih =>
   intro W f0 F0 o0 e0 f1 F1 o1 e1 f2 F2 o2 e2 b7 v7 p7 b8 v8 p8 hm hS hz hr1 hr2 H7 H8 G78
   subst hlm hlo hlq hla hRG
   try simp only [z]
   refine wpAnyH_ready (rs := 8 :: (cond b7 [] [13] ++ (cond b8 [] [14] ++ []))) (by cases b7 <;> cases b8 <;> kernel_rfl) (by simp) (.cons rfl (fun K hK => ?_) (ropt (fun h7 => .cons rfl (fun K hK => ?_) .nil) (ropt (fun h8 => .cons rfl (fun K hK => ?_) .nil) .nil)))
   ·clear ih
    go_simp
    refine (quorem_any W (max (1 + k) 1 + 1) 1 _ _ (2 * N + Ez) (2 * D) (by omega) (by omega) HD2.out (.inl (Nat.le_refl _)) hr1 hr2).mono ?_
    rintro e W' ⟨⟨v, rg, rA, rn, rc, rfl, hr⟩, hB⟩
    obtain ⟨f3, F3, o3, e3, rfl⟩ := hr.open
    have hS' := hS.step hB
    refine hK.out _ _ hS' (fun _ => ?_)
    clear hK K
    try simp only [z]
    obtain ⟨m, rfl⟩ : ∃ k, m = k + 4 := ⟨m - 4, by omega⟩
    refine wpAnyH_take (i := 9) (v := .tuple #[.agg #[.bool f3, .slice F3 o3 e3], .agg #[.bool rg, .slice rA rn rc], .int .i64 0]) rfl (by kernel_rfl) (by cases b7 <;> cases b8 <;> kernel_rfl) (by cases b7 <;> cases b8 <;> kernel_rfl) (fun _ _ _ h => h) (.inl ⟨by rfl, fun W' hS' => by go_simp⟩) hS' ?_
    try simp only [z]
    refine wpAnyH_take (i := 10) (v := .agg #[.bool f3, .slice F3 o3 e3]) rfl (by kernel_rfl) (by cases b7 <;> cases b8 <;> kernel_rfl) (by cases b7 <;> cases b8 <;> kernel_rfl) (fun _ _ _ h => h) (.inl ⟨by rfl, fun W' hS' => by go_simp⟩) hS' ?_
    try simp only [z]
    refine wpAnyH_take (i := 11) (v := .agg #[.bool rg, .slice rA rn rc]) rfl (by kernel_rfl) (by cases b7 <;> cases b8 <;> kernel_rfl) (by cases b7 <;> cases b8 <;> kernel_rfl) (fun _ _ _ h => h) (.inl ⟨by rfl, fun W' hS' => by go_simp⟩) hS' ?_
    try simp only [z]
    refine wpAnyH_take (i := 12) (v := .int .i64 0) rfl (by kernel_rfl) (by cases b7 <;> cases b8 <;> kernel_rfl) (by cases b7 <;> cases b8 <;> kernel_rfl) (fun _ _ _ h => h) (.inl ⟨by rfl, fun W' hS' => by go_simp⟩) hS' ?_
    try simp only [z]
    have hn := n4 m W' f0 F0 o0 e0 f1 F1 o1 e1 f2 F2 o2 e2 f3 F3 o3 e3 rg rA rn rc b7 v7 p7 b8 v8 p8 (by omega) hS' (Nat.le_trans hz hB.size) (hr) (H7.step hB) (H8.step hB) G78
    try simp only [z] at hn
    exact hn
   ·subst h7
    obtain ⟨W', hWn, hB, hrow, _⟩ := nw1 W #[.bool false, .slice none 0 0] 88
    go_simp
    rw [<- hWn]
    clear hWn
    have hS' := hS.step hB
    refine hK.out _ _ hS' (fun _ => ?_)
    clear hK K
    try simp only [z]
    have hn := ih W' f0 F0 o0 e0 f1 F1 o1 e1 f2 F2 o2 e2 true (.pointer (some ⟨W.heap.size, 0, none⟩)) W.heap.size b8 v8 p8 (by simp only [cond_true, cond_false] at hm ⊢; omega) hS' (Nat.le_trans hz hB.size) (hr1.at_ hB) (hr2.at_ hB) (fun _ => ⟨rfl, hz, hrow⟩) (H8.step hB) (fun _ h => by have := some_lt (H8 h).2.2; omega)
    try simp only [z] at hn
    exact hn
   ·subst h8
    obtain ⟨W', hWn, hB, hrow, _⟩ := nw1 W #[.bool false, .slice none 0 0] 88
    go_simp
    rw [<- hWn]
    clear hWn
    have hS' := hS.step hB
    refine hK.out _ _ hS' (fun _ => ?_)
    clear hK K
    try simp only [z]
    have hn := ih W' f0 F0 o0 e0 f1 F1 o1 e1 f2 F2 o2 e2 b7 v7 p7 true (.pointer (some ⟨W.heap.size, 0, none⟩)) W.heap.size (by simp only [cond_true, cond_false] at hm ⊢; omega) hS' (Nat.le_trans hz hB.size) (hr1.at_ hB) (hr2.at_ hB) (H7.step hB) (fun _ => ⟨rfl, hz, hrow⟩) (fun h _ => by have := some_lt (H7 h).2.2; omega)
    try simp only [z] at hn
    exact hn
  have n2 : ∀ (m : Nat) (W : World) (f0 : Bool) (F0 : Option Addr) (o0 e0 : Nat) (f1 : Bool) (F1 : Option Addr) (o1 e1 : Nat) (b7 : Bool) (v7 : Value) (p7 : Nat) (b8 : Bool) (v8 : Value) (p8 : Nat), 9 + cond b7 0 1 + cond b8 0 1 <= m -> RG W -> W_0.heap.size <= W.heap.size -> PI W W.heap.size 1 (.agg #[.bool a2, .slice B2 m2 d2]) D -> PI W W.heap.size 1 (.agg #[.bool a4, .slice B4 m4 d4]) 2 -> PI W W.heap.size (max (1 + k) 1 + 1) (.agg #[.bool f1, .slice F1 o1 e1]) (2 * N + Ez) -> Mk W_0 W b7 v7 p7 #[.bool false, .slice none 0 0] 88 -> Mk W_0 W b8 v8 p8 #[.bool false, .slice none 0 0] 88 -> (b7 = true -> b8 = true -> p7 ≠ p8) -> wpAnyH Tryz.prog md' ops' Q' RG m #[true, true, true, true, true, true, true, false, false, false, false, false, false, b7, b8, false, false, false] ((((a'.put (some 25) (.agg #[.bool f0, .slice F0 o0 e0])).put (some 27) (.agg #[.bool f1, .slice F1 o1 e1])).put (some 7) v7).put (some 8) v8) W := by
   intro m
   induction m with
   | zero => intros; omega
   | succ m ih =>
   intro W f0 F0 o0 e0 f1 F1 o1 e1 b7 v7 p7 b8 v8 p8 hm hS hz hD h2 hr1 H7 H8 G78
   subst hlm hlo hlq hla hRG
   try simp only [z]
   refine wpAnyH_ready (rs := 7 :: (cond b7 [] [13] ++ (cond b8 [] [14] ++ []))) (by cases b7 <;> cases b8 <;> kernel_rfl) (by simp) (.cons rfl (fun K hK => ?_) (ropt (fun h7 => .cons rfl (fun K hK => ?_) .nil) (ropt (fun h8 => .cons rfl (fun K hK => ?_) .nil) .nil)))
   ·clear ih
    go_simp
    refine (mul_int W 1 1 _ _ 2 D (by omega) (by omega) h2 hD).mono ?_
    rintro e W' ⟨⟨v, rfl, hr⟩, hB⟩
    obtain ⟨f2, F2, o2, e2, rfl⟩ := hr.open
    have hS' := hS.step hB
    refine hK.out _ _ hS' (fun _ => ?_)
    clear hK K
    try simp only [z]
    have hn := n3 m W' f0 F0 o0 e0 f1 F1 o1 e1 f2 F2 o2 e2 b7 v7 p7 b8 v8 p8 (by omega) hS' (Nat.le_trans hz hB.size) (hr1.at_ hB) (hr.tight Ht.out.1 Ht.out.2) (H7.step hB) (H8.step hB) G78
    try simp only [z] at hn
    exact hn
   ·subst h7
    obtain ⟨W', hWn, hB, hrow, _⟩ := nw1 W #[.bool false, .slice none 0 0] 88
    go_simp
    rw [<- hWn]
    clear hWn
    have hS' := hS.step hB
    refine hK.out _ _ hS' (fun _ => ?_)
    clear hK K
    try simp only [z]
    have hn := ih W' f0 F0 o0 e0 f1 F1 o1 e1 true (.pointer (some ⟨W.heap.size, 0, none⟩)) W.heap.size b8 v8 p8 (by simp only [cond_true, cond_false] at hm ⊢; omega) hS' (Nat.le_trans hz hB.size) (hD.at_ hB) (h2.at_ hB) (hr1.at_ hB) (fun _ => ⟨rfl, hz, hrow⟩) (H8.step hB) (fun _ h => by have := some_lt (H8 h).2.2; omega)
    try simp only [z] at hn
    exact hn
   ·subst h8
    obtain ⟨W', hWn, hB, hrow, _⟩ := nw1 W #[.bool false, .slice none 0 0] 88
    go_simp
    rw [<- hWn]
    clear hWn
    have hS' := hS.step hB
    refine hK.out _ _ hS' (fun _ => ?_)
    clear hK K
    try simp only [z]
    have hn := ih W' f0 F0 o0 e0 f1 F1 o1 e1 b7 v7 p7 true (.pointer (some ⟨W.heap.size, 0, none⟩)) W.heap.size (by simp only [cond_true, cond_false] at hm ⊢; omega) hS' (Nat.le_trans hz hB.size) (hD.at_ hB) (h2.at_ hB) (hr1.at_ hB) (H7.step hB) (fun _ => ⟨rfl, hz, hrow⟩) (fun h _ => by have := some_lt (H7 h).2.2; omega)
    try simp only [z] at hn
    exact hn
  have n1 : ∀ (m : Nat) (W : World) (f0 : Bool) (F0 : Option Addr) (o0 e0 : Nat) (b7 : Bool) (v7 : Value) (p7 : Nat) (b8 : Bool) (v8 : Value) (p8 : Nat), 10 + cond b7 0 1 + cond b8 0 1 <= m -> RG W -> W_0.heap.size <= W.heap.size -> PI W W.heap.size 1 (.agg #[.bool a3, .slice B3 m3 d3]) Ez -> PI W W.heap.size 1 (.agg #[.bool a2, .slice B2 m2 d2]) D -> PI W W.heap.size 1 (.agg #[.bool a4, .slice B4 m4 d4]) 2 -> PI W W.heap.size (1 + k) (.agg #[.bool f0, .slice F0 o0 e0]) (2 * N) -> Mk W_0 W b7 v7 p7 #[.bool false, .slice none 0 0] 88 -> Mk W_0 W b8 v8 p8 #[.bool false, .slice none 0 0] 88 -> (b7 = true -> b8 = true -> p7 ≠ p8) -> wpAnyH Tryz.prog md' ops' Q' RG m #[true, true, true, true, false, true, true, false, false, false, false, false, false, b7, b8, false, false, false] (((a'.put (some 25) (.agg #[.bool f0, .slice F0 o0 e0])).put (some 7) v7).put (some 8) v8) W := by
   intro m
   induction m with
   | zero => intros; omega
   | succ m ih =>
   intro W f0 F0 o0 e0 b7 v7 p7 b8 v8 p8 hm hS hz hE hD h2 hr0 H7 H8 G78
   subst hlm hlo hlq hla hRG
   try simp only [z]
   refine wpAnyH_ready (rs := 4 :: (cond b7 [] [13] ++ (cond b8 [] [14] ++ []))) (by cases b7 <;> cases b8 <;> kernel_rfl) (by simp) (.cons rfl (fun K hK => ?_) (ropt (fun h7 => .cons rfl (fun K hK => ?_) .nil) (ropt (fun h8 => .cons rfl (fun K hK => ?_) .nil) .nil)))
   ·clear ih
    go_simp
    refine (add_int W (1 + k) 1 _ _ (2 * N) Ez (by omega) (by omega) hr0 hE).mono ?_
    rintro e W' ⟨⟨v, rfl, hr⟩, hB⟩
    obtain ⟨f1, F1, o1, e1, rfl⟩ := hr.open
    have hS' := hS.step hB
    refine hK.out _ _ hS' (fun _ => ?_)
    clear hK K
    try simp only [z]
    have hn := n2 m W' f0 F0 o0 e0 f1 F1 o1 e1 b7 v7 p7 b8 v8 p8 (by omega) hS' (Nat.le_trans hz hB.size) (hD.at_ hB) (h2.at_ hB) (hr) (H7.step hB) (H8.step hB) G78
    try simp only [z] at hn
    exact hn
   ·subst h7
    obtain ⟨W', hWn, hB, hrow, _⟩ := nw1 W #[.bool false, .slice none 0 0] 88
    go_simp
    rw [<- hWn]
    clear hWn
    have hS' := hS.step hB
    refine hK.out _ _ hS' (fun _ => ?_)
    clear hK K
    try simp only [z]
    have hn := ih W' f0 F0 o0 e0 true (.pointer (some ⟨W.heap.size, 0, none⟩)) W.heap.size b8 v8 p8 (by simp only [cond_true, cond_false] at hm ⊢; omega) hS' (Nat.le_trans hz hB.size) (hE.at_ hB) (hD.at_ hB) (h2.at_ hB) (hr0.at_ hB) (fun _ => ⟨rfl, hz, hrow⟩) (H8.step hB) (fun _ h => by have := some_lt (H8 h).2.2; omega)
    try simp only [z] at hn
    exact hn
   ·subst h8
    obtain ⟨W', hWn, hB, hrow, _⟩ := nw1 W #[.bool false, .slice none 0 0] 88
    go_simp
    rw [<- hWn]
    clear hWn
    have hS' := hS.step hB
    refine hK.out _ _ hS' (fun _ => ?_)
    clear hK K
    try simp only [z]
    have hn := ih W' f0 F0 o0 e0 b7 v7 p7 true (.pointer (some ⟨W.heap.size, 0, none⟩)) W.heap.size (by simp only [cond_true, cond_false] at hm ⊢; omega) hS' (Nat.le_trans hz hB.size) (hE.at_ hB) (hD.at_ hB) (h2.at_ hB) (hr0.at_ hB) (H7.step hB) (fun _ => ⟨rfl, hz, hrow⟩) (fun h _ => by have := some_lt (H7 h).2.2; omega)
    try simp only [z] at hn
    exact hn
  have n0 : ∀ (m : Nat) (W : World) (b7 : Bool) (v7 : Value) (p7 : Nat) (b8 : Bool) (v8 : Value) (p8 : Nat), 11 + cond b7 0 1 + cond b8 0 1 <= m -> RG W -> W_0.heap.size <= W.heap.size -> PI W W.heap.size k (.agg #[.bool a1, .slice B1 m1 d1]) N -> PI W W.heap.size 1 (.agg #[.bool a3, .slice B3 m3 d3]) Ez -> PI W W.heap.size 1 (.agg #[.bool a2, .slice B2 m2 d2]) D -> PI W W.heap.size 1 (.agg #[.bool a4, .slice B4 m4 d4]) 2 -> Mk W_0 W b7 v7 p7 #[.bool false, .slice none 0 0] 88 -> Mk W_0 W b8 v8 p8 #[.bool false, .slice none 0 0] 88 -> (b7 = true -> b8 = true -> p7 ≠ p8) -> wpAnyH Tryz.prog md' ops' Q' RG m #[true, true, false, true, false, true, true, false, false, false, false, false, false, b7, b8, false, false, false] ((a'.put (some 7) v7).put (some 8) v8) W := by
   intro m
   induction m with
   | zero => intros; omega
   | succ m ih =>
   intro W b7 v7 p7 b8 v8 p8 hm hS hz hN hE hD h2 H7 H8 G78
   subst hlm hlo hlq hla hRG
   try simp only [z]
   refine wpAnyH_ready (rs := 2 :: (cond b7 [] [13] ++ (cond b8 [] [14] ++ []))) (by cases b7 <;> cases b8 <;> kernel_rfl) (by simp) (.cons rfl (fun K hK => ?_) (ropt (fun h7 => .cons rfl (fun K hK => ?_) .nil) (ropt (fun h8 => .cons rfl (fun K hK => ?_) .nil) .nil)))
   ·clear ih
    go_simp
    refine (mul_int W 1 k _ _ 2 N (by omega) (by omega) h2 hN).mono ?_
    rintro e W' ⟨⟨v, rfl, hr⟩, hB⟩
    obtain ⟨f0, F0, o0, e0, rfl⟩ := hr.open
    have hS' := hS.step hB
    refine hK.out _ _ hS' (fun _ => ?_)
    clear hK K
    try simp only [z]
    have hn := n1 m W' f0 F0 o0 e0 b7 v7 p7 b8 v8 p8 (by omega) hS' (Nat.le_trans hz hB.size) (hE.at_ hB) (hD.at_ hB) (h2.at_ hB) (hr) (H7.step hB) (H8.step hB) G78
    try simp only [z] at hn
    exact hn
   ·subst h7
    obtain ⟨W', hWn, hB, hrow, _⟩ := nw1 W #[.bool false, .slice none 0 0] 88
    go_simp
    rw [<- hWn]
    clear hWn
    have hS' := hS.step hB
    refine hK.out _ _ hS' (fun _ => ?_)
    clear hK K
    try simp only [z]
    have hn := ih W' true (.pointer (some ⟨W.heap.size, 0, none⟩)) W.heap.size b8 v8 p8 (by simp only [cond_true, cond_false] at hm ⊢; omega) hS' (Nat.le_trans hz hB.size) (hN.at_ hB) (hE.at_ hB) (hD.at_ hB) (h2.at_ hB) (fun _ => ⟨rfl, hz, hrow⟩) (H8.step hB) (fun _ h => by have := some_lt (H8 h).2.2; omega)
    try simp only [z] at hn
    exact hn
   ·subst h8
    obtain ⟨W', hWn, hB, hrow, _⟩ := nw1 W #[.bool false, .slice none 0 0] 88
    go_simp
    rw [<- hWn]
    clear hWn
    have hS' := hS.step hB
    refine hK.out _ _ hS' (fun _ => ?_)
    clear hK K
    try simp only [z]
    have hn := ih W' b7 v7 p7 true (.pointer (some ⟨W.heap.size, 0, none⟩)) W.heap.size (by simp only [cond_true, cond_false] at hm ⊢; omega) hS' (Nat.le_trans hz hB.size) (hN.at_ hB) (hE.at_ hB) (hD.at_ hB) (h2.at_ hB) (H7.step hB) (fun _ => ⟨rfl, hz, hrow⟩) (fun h _ => by have := some_lt (H7 h).2.2; omega)
    try simp only [z] at hn
    exact hn
  have hn := n0 _ W_0 false undef 0 false undef 0 (Nat.le_refl _) hS (Nat.le_refl _) hN hE hD h2 (fun h => nomatch h) (fun h => nomatch h) (fun h => nomatch h)
  subst hlm hlo hlq hla hRG
  exact hn)
theorem round_rat (k : Nat) (v : Value) (N D : Int) (hk : k <= 100000) (hD : D ≠ 0) (hlo : -1000000000 < 2 * D) (hhi : 2 * D < 1000000000) (h : RI w w.heap.size k 1 v N D) :
  Calls Tryz.prog 38 #[v] w fun e w' => (∃ r, e = .returned r /\ PI w' w'.heap.size (max (1 + k) 1 + 1) r (Int.tdiv (2 * N + (if N < 0 then -D else D)) (2 * D))) /\ Below w.heap.size w w' :=
 round_go w k v N D _ _ rfl rfl hk hD hlo hhi h
end
end Go.Proofs.YtobnfmneeabomaaGreat
