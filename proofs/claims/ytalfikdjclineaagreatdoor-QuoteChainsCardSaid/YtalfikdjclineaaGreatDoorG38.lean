/- My texts LawCross. -/
import Derived.Test.YtalfikdjclineaaGreatDoorG22
import Derived.Test.YtalfikdjclineaaGreatDoorG25
import Derived.Test.YtalfikdjclineaaGreatDoorG33
import Derived.Test.YtalfikdjclineaaGreatDoorG36
import Derived.Test.YtalfikdjclineaaGreatDoorG37
set_option linter.unusedVariables false
set_option linter.unusedSimpArgs false
set_option maxRecDepth 100000
set_option maxHeartbeats 8000000
namespace Go.Proofs.YtalfikdjclineaaGreatDoor
open Go.RowKit
def crossT (a b er : Int) : List UInt8 := if er = 0 then Dec.frac (Int.tdiv a (Int.gcd a b)).toNat (Int.tdiv b (Int.gcd a b)).toNat else Dec.frac 0 1
theorem red_signs {a b : Int} (ha : 0 < a) (hb : 0 < b) : 0 <= Int.tdiv a (Int.gcd a b) /\ 0 < Int.tdiv b (Int.gcd a b) := by
  have hg : (0 : Int) < (Int.gcd a b : Int) := by have := Int.gcd_pos_of_ne_zero_left b (show a ≠ 0 by omega); omega
  obtain ⟨q, hq⟩ := Int.gcd_dvd_right a b
  refine ⟨Int.tdiv_nonneg (by omega) (by omega), ?_⟩
  obtain ⟨G, hG⟩ : ∃ G, G = (Int.gcd a b : Int) := ⟨_, rfl⟩
  rw [<- hG] at hq hg ⊢
  rw [hq, Int.mul_tdiv_cancel_left _ (by omega)]
  rcases Int.lt_or_le 0 q with h | h
  · exact h
  · exfalso
    have : G * q <= G * 0 := Int.mul_le_mul_of_nonneg_left h (by omega)
    omega
theorem CrossPost.text {a b er : Int} {w w' : World} {e : Ending} (h : CrossPost a b er w e w') (hab : er = 0 -> 0 < a /\ 0 < b) : Below w.heap.size w w' /\ ∃ g1 A1 n1 c1 g2 A2 n2 c2, e = .returned (.tuple #[.agg #[.bool g1, .slice A1 n1 c1, .bool g2, .slice A2 n2 c2], .int .i64 er]) /\
    ∀ W, Below w'.heap.size w' W -> Tab W.heap.size W -> Calls Tryz.prog 9 #[.agg #[.bool g1, .slice A1 n1 c1, .bool g2, .slice A2 n2 c2]] W fun e w'' => e = .returned (.string ⟨(crossT a b er).toArray⟩) /\ Below W.heap.size W w'' := by
  obtain ⟨h1, r, h2, h3⟩ := h
  refine ⟨h1, ?_⟩
  rcases h3 with ⟨h4, rfl⟩ | ⟨rfl, h4⟩
  · refine ⟨false, none, 0, 0, false, none, 0, 0, h2, fun W _ hT => ?_⟩
    unfold crossT
    rw [if_neg h4]
    exact textz_any W hT
  · obtain ⟨g1, A1, n1, c1, g2, A2, n2, c2, rfl⟩ := h4.open
    refine ⟨g1, A1, n1, c1, g2, A2, n2, c2, h2, fun W hW hT => ?_⟩
    have hs := red_signs (hab rfl).1 (hab rfl).2
    exact textq_any W 3 3 _ _ _ (by omega) (by omega) hs.1 hs.2 (h4.at_ hW) hT
theorem R1.CrossPost.text {a b er : Int} {w w' : World} {e : Ending} (h : R1.CrossPost a b er w e w') (hab : er = 0 -> 0 < a /\ 0 < b) : Below w.heap.size w w' /\ ∃ g1 A1 n1 c1 g2 A2 n2 c2, e = .returned (.tuple #[.agg #[.bool g1, .slice A1 n1 c1, .bool g2, .slice A2 n2 c2], .int .i64 er]) /\
    ∀ W, Below w'.heap.size w' W -> Calls Tryz.prog 10 #[.agg #[.bool g1, .slice A1 n1 c1, .bool g2, .slice A2 n2 c2]] W fun e w'' => e = .returned (.string ⟨(crossT a b er).toArray⟩) /\ Below W.heap.size W w'' := by
  obtain ⟨h1, r, h2, h3⟩ := h
  refine ⟨h1, ?_⟩
  rcases h3 with ⟨h4, rfl⟩ | ⟨rfl, h4⟩
  · refine ⟨false, none, 0, 0, false, none, 0, 0, h2, fun W _ => ?_⟩
    unfold crossT
    rw [if_neg h4]
    exact R1.textz_any W
  · obtain ⟨g1, A1, n1, c1, g2, A2, n2, c2, rfl⟩ := h4.open
    refine ⟨g1, A1, n1, c1, g2, A2, n2, c2, h2, fun W hW => ?_⟩
    have hs := red_signs (hab rfl).1 (hab rfl).2
    exact R1.textq_any W 5 5 _ _ _ (by omega) (by omega) hs.1 hs.2 (h4.at_ hW)
theorem range4r {w : World} {b : Nat} {x0 x1 x2 x3 : Value} {t : TypeId} {fr : Nat × Nat} (h : w.heap[b]? = some (.cells #[x0, x1, x2, x3] t fr)) : w.rangeAt b 0 [x0, x1, x2, x3] := by
  intro j v hj
  rw [cell_of_row _ _ _ _ _ _ h]
  match j with
  | 0 => simpa using hj
  | 1 => simpa using hj
  | 2 => simpa using hj
  | 3 => simpa using hj
  | j + 4 => simp at hj
section
variable (w : World)
theorem law_cross (g : Grp) (A : Option Addr) (n c : Nat) (rs : List Rt) (cu cv : ByteArray) (d : Int) (hl : rs.length = n) (hn : n <= maxLen) (hg : g.gc.size <= maxLen) (hcu : cu.size <= maxLen) (hcv : cv.size <= maxLen) (hr : ∀ r ∈ rs, r.wf) (h : RatesAt w w.heap.size A rs) (hT : Tab w.heap.size w) :
    Calls Tryz.prog 3 #[.agg #[.string g.gc, .int .i64 g.Y, .int .i64 g.M, .int .i64 g.N, g.x0, g.x1, g.x2, g.x3, g.x4, g.x5, g.x6, g.x7, g.x8, g.x9, g.x10, g.x11, g.x12, g.x13, g.x14, g.x15, g.x16, .slice A n c], .agg #[.string cu, .string cv, .int .i64 d]] w fun e w' => e = .returned (.bool true) /\ Below w.heap.size w w' := by
  obtain ⟨w0, hw0⟩ : ∃ W, W = (w.alloc (.cells #[.string g.gc, .int .i64 g.Y, .int .i64 g.M, .int .i64 g.N, g.x0, g.x1, g.x2, g.x3, g.x4, g.x5, g.x6, g.x7, g.x8, g.x9, g.x10, g.x11, g.x12, g.x13, g.x14, g.x15, g.x16, .slice A n c] 32)).alloc (.cells #[.string cu, .string cv, .int .i64 d] 34) := ⟨_, rfl⟩
  have hB0 : Below w.heap.size w w0 := by rw [hw0]; exact ((Below.refl w.heap.size w).alloc (Nat.le_refl _) _).alloc (by simp) _
  have hG0 : w0.heap[w.heap.size]? = some (.cells #[.string g.gc, .int .i64 g.Y, .int .i64 g.M, .int .i64 g.N, g.x0, g.x1, g.x2, g.x3, g.x4, g.x5, g.x6, g.x7, g.x8, g.x9, g.x10, g.x11, g.x12, g.x13, g.x14, g.x15, g.x16, .slice A n c] 32) := by rw [hw0]; exact heap_alloc2_old w _ _
  have hP0 : w0.heap[w.heap.size + 1]? = some (.cells #[.string cu, .string cv, .int .i64 d] 34 (0, 0)) := by rw [hw0]; exact heap_alloc2_new w _ _
  have HW0 := Lib.hid hw0
  have HG0 := Lib.hid hG0
  have HP0 := Lib.hid hP0
  have HB0 := Lib.hid hB0
  have HT0 := Lib.hid hT
  have HR0 := Lib.hid (h.at_ hB0 (Nat.le_refl _))
  have hq0 : w.heap.size + 1 < w0.heap.size := (Array.getElem?_eq_some_iff.1 hP0).1
  have hcv' := hcv
  unfold maxLen at hcv'
  clear hw0 hG0 hP0 h hT hB0
  go_enter Tryz.func3, Tryz.ntmps3
  go_upto_region 1 with (fail)
  rw [<- HW0.out]
  go_wp2_with (fail)
  refine (awake_any w0).mono ?_
  rintro e w1 ⟨rfl, hB⟩
  have HB1 := Lib.hid (HB0.out.trans (hB.mono HB0.out.size))
  have hG1 := (hB.block _ (by omega)).trans HG0.out
  have HG1 := Lib.hid hG1
  have HP1 := Lib.hid ((hB.block _ hq0).trans HP0.out)
  have HR1 := Lib.hid (HR0.out.at_ hB (Nat.le_refl _))
  have hq1 := Nat.lt_of_lt_of_le hq0 hB.size
  have x0 := cell_of_row _ _ 0 _ _ _ HP1.out
  have x1 := cell_of_row _ _ 1 _ _ _ HP1.out
  simp at x0 x1
  clear hB
  go_wp2_with (refine wpList_load_row rfl 32 _ rfl _ rfl _ _ _ _ hG1 Tryz.underlying32 rfl bsize ?_)
  refine (lfew_any w1 _ _ _ _ rs _ hl hn hg hcu hr HR1.out).mono ?_
  cases hf : (fewB g rs && decide (cu.size <= 20)) with
  | false =>
    rintro e w2 ⟨rfl, hB2⟩
    clear hf
    go_wp2
    go_ret
    exact ⟨rfl, HB1.out.trans (hB2.mono HB1.out.size)⟩
  | true =>
  have h150 := fewB_iff g rs cu hf
  have h150' : n <= 1000 := by omega
  rintro e w2 ⟨rfl, hB2⟩
  have HB2 := Lib.hid (HB1.out.trans (hB2.mono HB1.out.size))
  have HG2 := Lib.hid ((hB2.block _ (by omega)).trans HG1.out)
  have HP2 := Lib.hid ((hB2.block _ hq1).trans HP1.out)
  have HR2 := Lib.hid (HR1.out.at_ hB2 (Nat.le_refl _))
  have hq2 := Nat.lt_of_lt_of_le hq1 hB2.size
  have y0 := cell_of_row _ _ 0 _ _ _ HP2.out
  have y1 := cell_of_row _ _ 1 _ _ _ HP2.out
  have y2 := cell_of_row _ _ 2 _ _ _ HP2.out
  simp at y0 y1 y2
  clear x0 x1 hB2 hf hG1
  by_cases h20 : 20 < cv.size
  · go_wp2
    go_ret
    exact ⟨rfl, HB2.out⟩
  have hp2 := part_of (bsplit HG2.out)
  have hs2 := bslice HG2.out
  have hcv20 : cv.size <= 20 := by omega
  obtain ⟨X, hX⟩ : ∃ X, X = Rates.whichR g.gc rs cu d := ⟨_, rfl⟩
  obtain ⟨V, hV⟩ : ∃ V, V = Rates.whichR g.gc rs cv d := ⟨_, rfl⟩
  obtain ⟨er, her⟩ : ∃ er, er = Rates.crossE g.gc rs cu cv d := ⟨_, rfl⟩
  have hpos : er = 0 -> 0 < X.1.val /\ 0 < V.1.val := by
    intro h0
    rcases Rates.crossE_cases g.gc rs cu cv d with ⟨_, e⟩ | ⟨_, e⟩ | ⟨_, _, e⟩ | ⟨_, _, _, e⟩ | ⟨_, h1, h2, _⟩
    · omega
    · omega
    · omega
    · omega
    · have k1 := Rates.whichR_val g.gc rs cu d h1
      have k2 := Rates.whichR_val g.gc rs cv d h2
      rw [hX, hV]; omega
  have HX := Lib.hid hX
  have HV := Lib.hid hV
  have Her := Lib.hid her
  have Hpos := Lib.hid hpos
  clear hX hV her hpos h150
  go_wp2_with (refine wpList_load_list rfl 29 _ rfl ⟨w.heap.size, 0, none⟩ rfl _ _ hp2 Tryz.underlying29 rfl gsize ?_)
  refine (dcross_any w2 g A n c rs cu cv d hl h150' hg hcu hcv hr HR2.out).mono ?_
  rw [<- HX.out, <- HV.out, <- Her.out]
  rintro e w3 hcp
  obtain ⟨hB3, g1, A1, n1, c1, g2, A2, n2, c2, rfl, htx⟩ := hcp.text Hpos.out
  have HTX := Lib.hid htx
  clear hcp htx
  obtain ⟨w4, hw4⟩ : ∃ W, W = w3.alloc (.cells #[.bool g1, .slice A1 n1 c1, .bool g2, .slice A2 n2 c2] 41) := ⟨_, rfl⟩
  have hB4 : Below w3.heap.size w3 w4 := by rw [hw4]; exact (Below.refl _ _).alloc (Nat.le_refl _) _
  have hx4 : w4.heap[w3.heap.size]? = some (.cells #[.bool g1, .slice A1 n1 c1, .bool g2, .slice A2 n2 c2] 41 (0, 0)) := by rw [hw4]; exact heap_alloc_new w3 _
  have hB34 := hB3.trans (hB4.mono hB3.size)
  have HW4 := Lib.hid hw4
  have HX4 := Lib.hid hx4
  have HB4 := Lib.hid hB4
  have HB24 := Lib.hid (HB2.out.trans (hB34.mono HB2.out.size))
  have hG4 := (hB34.block _ (by omega)).trans HG2.out
  have hP4 := (hB34.block _ hq2).trans HP2.out
  have HR4 := Lib.hid (HR2.out.at_ hB34 (Nat.le_refl _))
  have hq4 := Nat.lt_of_lt_of_le hq2 hB34.size
  have hr4 : w3.heap.size < w4.heap.size := (Array.getElem?_eq_some_iff.1 hx4).1
  have z0 := cell_of_row _ _ 0 _ _ _ hP4
  have z1 := cell_of_row _ _ 1 _ _ _ hP4
  have z2 := cell_of_row _ _ 2 _ _ _ hP4
  simp at z0 z1 z2
  have hp4 := part_of (bsplit hG4)
  have hs4 := bslice hG4
  clear y0 y1 y2 hp2 hs2 hw4 hx4 hB34 hB4 hP4 hB3
  go_upto_region 6 with (fail)
  rw [<- HW4.out]
  go_wp2_with (refine wpList_load_list rfl 29 _ rfl ⟨w.heap.size, 0, none⟩ rfl _ _ hp4 Tryz.underlying29 rfl gsize ?_)
  refine (R1.rcross_any w4 g A n c rs cu cv d hl h150' hg hcu hcv hr HR4.out).mono ?_
  rw [<- HX.out, <- HV.out, <- Her.out]
  rintro e w5 hcp
  obtain ⟨hB5, g3, A3, n3, c3, g4, A4, n4, c4, rfl, htx⟩ := hcp.text Hpos.out
  have HTY := Lib.hid htx
  clear hcp htx
  obtain ⟨w6, hw6⟩ : ∃ W, W = w5.alloc (.cells #[.bool g3, .slice A3 n3 c3, .bool g4, .slice A4 n4 c4] 49) := ⟨_, rfl⟩
  have hB6 : Below w5.heap.size w5 w6 := by rw [hw6]; exact (Below.refl _ _).alloc (Nat.le_refl _) _
  have hx6 : w6.heap[w5.heap.size]? = some (.cells #[.bool g3, .slice A3 n3 c3, .bool g4, .slice A4 n4 c4] 49 (0, 0)) := by rw [hw6]; exact heap_alloc_new w5 _
  have hB46 := hB5.trans (hB6.mono hB5.size)
  have HW6 := Lib.hid hw6
  have HX6 := Lib.hid hx6
  have HB6 := Lib.hid hB6
  have HB06 := Lib.hid (HB24.out.trans (hB46.mono HB24.out.size))
  have HB36 := Lib.hid (HB4.out.trans (hB46.mono HB4.out.size))
  have HY4 := Lib.hid ((hB46.block _ hr4).trans HX4.out)
  have hr6 : w5.heap.size < w6.heap.size := (Array.getElem?_eq_some_iff.1 hx6).1
  have hr46 := Nat.lt_of_lt_of_le hr4 hB46.size
  clear z0 z1 z2 hp4 hs4 hw6 hx6 hB46 hB6 hB5 hG4
  go_upto_region 7 with (fail)
  rw [<- HW6.out]
  obtain ⟨TT, hTT⟩ : ∃ TT, TT = crossT X.1.val V.1.val er := ⟨_, rfl⟩
  have HTT := Lib.hid hTT
  clear hTT
  have hS : Below w6.heap.size w6 w6.drew := below_drawn (Below.refl _ _) 1
  refine wp_region_held (S := Below w6.heap.size w6) (by kernel_rfl) ?_
  change wpAnyH _ _ _ _ _ _ _ _ (World.drew w6)
  obtain ⟨WC, hWd⟩ : ∃ W, W = w6.drew := ⟨_, rfl⟩
  rw [<- hWd] at hS ⊢
  clear hWd
  refine wpAnyH_take (i := 0) (v := .int .i64 er) rfl (by kernel_rfl) (by kernel_rfl) (by kernel_rfl) (fun _ _ _ h => h) (.inl ⟨by rfl, fun W' hS' => by go_simp⟩) hS ?_
  try simp only [Act.put, z]
  refine wpAnyH_take (i := 1) (v := .int .i64 er) rfl (by kernel_rfl) (by kernel_rfl) (by kernel_rfl) (fun _ _ _ h => h) (.inl ⟨by rfl, fun W' hS' => by go_simp⟩) hS ?_
  try simp only [Act.put, z]
  refine wpAnyH_take (i := 2) (v := .bool true) rfl (by kernel_rfl) (by kernel_rfl) (by kernel_rfl) (fun _ _ _ h => h) (.inl ⟨by rfl, fun W' hS' => by go_simp⟩) hS ?_
  try simp only [Act.put, z]
  refine wpAnyH_take (i := 3) (v := .bool true) rfl (by kernel_rfl) (by kernel_rfl) (by kernel_rfl) (fun _ _ _ h => h) (.inl ⟨by rfl, fun W' hS' => by go_simp⟩) hS ?_
  try simp only [Act.put, z]
  refine wpAnyH_take (i := 4) (v := .agg #[.bool g1, .slice A1 n1 c1, .bool g2, .slice A2 n2 c2]) rfl (by kernel_rfl) (by kernel_rfl) (by kernel_rfl) (fun _ _ _ h => h) (yieldsIf_load_mid (by rfl) 41 _ rfl w3.heap.size 0 rfl [.bool g1, .slice A1 n1 c1, .bool g2, .slice A2 n2 c2] _ (fun W' hS' => range4r ((hS'.block _ hr46).trans HY4.out)) Tryz.underlying41 rfl ratSize) hS ?_
  try simp only [Act.put, z]
  refine wpAnyH_take (i := 6) (v := .agg #[.bool g3, .slice A3 n3 c3, .bool g4, .slice A4 n4 c4]) rfl (by kernel_rfl) (by kernel_rfl) (by kernel_rfl) (fun _ _ _ h => h) (yieldsIf_load_mid (by rfl) 49 _ rfl w5.heap.size 0 rfl [.bool g3, .slice A3 n3 c3, .bool g4, .slice A4 n4 c4] _ (fun W' hS' => range4r ((hS'.block _ hr6).trans HX6.out)) Tryz.underlying49 rfl R1.ratSize) hS ?_
  try simp only [Act.put, z]
  refine wpAnyH_ready (rs := [5]) (by kernel_rfl) (by simp) (AllReadyH.cons rfl (fun K hK => ?_) AllReadyH.nil)
  go_simp
  refine (HTX.out WC (HB36.out.trans (hS.mono HB36.out.size)) (tab_up (HT0.out.on (HB06.out.trans (hS.mono HB06.out.size))) (Nat.le_trans HB06.out.size hS.size))).mono ?_
  rw [<- HTT.out]
  rintro e WD ⟨rfl, hBd⟩
  have hS1 := hS.trans (hBd.mono hS.size)
  refine hK.out _ _ hS1 (fun _ => ?_)
  clear hK K
  try simp only [Act.put, z]
  refine wpAnyH_ready (rs := [7]) (by kernel_rfl) (by simp) (AllReadyH.cons rfl (fun K hK => ?_) AllReadyH.nil)
  go_simp
  refine (HTY.out WD (HB6.out.trans (hS1.mono HB6.out.size))).mono ?_
  rw [<- HTT.out]
  rintro e WE ⟨rfl, hBe⟩
  have hS2 := hS1.trans (hBe.mono hS1.size)
  refine hK.out _ _ hS2 (fun _ => ?_)
  clear hK K
  try simp only [Act.put, z]
  refine wpAnyH_take (i := 8) (v := .bool true) rfl (by kernel_rfl) (by kernel_rfl) (by kernel_rfl) (fun _ _ _ h => h) (.inl ⟨by rfl, fun W' hS' => by go_simp⟩) hS2 ?_
  try simp only [Act.put, z]
  refine wpAnyH_take (i := 9) (v := .bool true) rfl (by kernel_rfl) (by kernel_rfl) (by kernel_rfl) (fun _ _ _ h => h) (.inl ⟨by rfl, fun W' hS' => by go_simp⟩) hS2 ?_
  try simp only [Act.put, z]
  refine wpAnyH_ready (rs := [10]) (by kernel_rfl) (by simp) (AllReadyH.cons rfl (fun K hK => ?_) AllReadyH.nil)
  go_simp
  refine hK.out _ _ hS2 (fun _ => ?_)
  clear hK K
  try simp only [Act.put, z]
  refine wpAnyH_done (by kernel_rfl) ?_ _
  try simp only [Act.put, z]
  go_wp2
  go_ret
  exact ⟨rfl, HB06.out.trans (hS2.mono HB06.out.size)⟩
end
end Go.Proofs.YtalfikdjclineaaGreatDoor
