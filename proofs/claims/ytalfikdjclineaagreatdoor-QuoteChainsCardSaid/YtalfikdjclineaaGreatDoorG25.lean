/- My texts CrossD. -/
import Derived.Test.YtalfikdjclineaaGreatDoorG22
import Derived.Test.YtalfikdjclineaaGreatDoorG24
import Derived.Test.YtalfikdjclineaaGreatDoorG11
set_option linter.unusedVariables false
set_option linter.unusedSimpArgs false
set_option maxRecDepth 100000
set_option maxHeartbeats 8000000
namespace Go.Proofs.YtalfikdjclineaaGreatDoor
open Go.RowKit
def CrossPost (a b er : Int) (w : World) (e : Ending) (w' : World) : Prop :=
  Below w.heap.size w w' /\ ∃ r, e = .returned (.tuple #[r, .int .i64 er]) /\ ((er ≠ 0 /\ r = .agg #[.bool false, .slice none 0 0, .bool false, .slice none 0 0]) ∨ (er = 0 /\ RI w' w'.heap.size 3 3 r (Int.tdiv a (Int.gcd a b)) (Int.tdiv b (Int.gcd a b))))
theorem redBy_pos {a b : Int} (h : 0 < b) : redBy a b = (Int.gcd a b : Int) := by unfold redBy; rw [if_neg (by omega)]
section
variable (w : World)
theorem dcross_any (g : Grp) (A : Option Addr) (n c : Nat) (rs : List Rt) (cu cv : ByteArray) (d : Int) (hl : rs.length = n) (hn : n <= 1000) (hg : g.gc.size <= maxLen) (hcu : cu.size <= maxLen) (hcv : cv.size <= maxLen) (hr : ∀ r ∈ rs, r.wf) (h : RatesAt w w.heap.size A rs) :
    Calls Tryz.prog 7 #[.agg #[.string g.gc, .int .i64 g.Y, .int .i64 g.M, .int .i64 g.N, g.x0, g.x1, g.x2, g.x3, g.x4, g.x5, g.x6, g.x7, g.x8, g.x9, g.x10, g.x11, g.x12, g.x13, g.x14, g.x15, g.x16], .slice A n c, .string cu, .string cv, .int .i64 d] w (CrossPost (Rates.whichR g.gc rs cu d).1.val (Rates.whichR g.gc rs cv d).1.val (Rates.crossE g.gc rs cu cv d) w) := by
  obtain ⟨w1, hw1⟩ : ∃ W, W = (w.alloc (.cells #[.string g.gc, .int .i64 g.Y, .int .i64 g.M, .int .i64 g.N, g.x0, g.x1, g.x2, g.x3, g.x4, g.x5, g.x6, g.x7, g.x8, g.x9, g.x10, g.x11, g.x12, g.x13, g.x14, g.x15, g.x16] 29)).alloc (.cells #[.bool false, .slice none 0 0, .bool false, .slice none 0 0] 41) := ⟨_, rfl⟩
  have hB1 : Below w.heap.size w w1 := by rw [hw1]; exact ((Below.refl w.heap.size w).alloc (Nat.le_refl _) _).alloc (by simp) _
  have hz1 : w1.heap.size = w.heap.size + 2 := by rw [hw1]; simp
  have hG1 : w1.heap[w.heap.size]? = some (.cells #[.string g.gc, .int .i64 g.Y, .int .i64 g.M, .int .i64 g.N, g.x0, g.x1, g.x2, g.x3, g.x4, g.x5, g.x6, g.x7, g.x8, g.x9, g.x10, g.x11, g.x12, g.x13, g.x14, g.x15, g.x16] 29) := by rw [hw1]; exact heap_alloc2_old w _ _
  have hZ1 : w1.heap[w.heap.size + 1]? = some (.cells #[.bool false, .slice none 0 0, .bool false, .slice none 0 0] 41 (0, 0)) := by rw [hw1]; exact heap_alloc2_new w _ _
  have HW1 := Lib.hid hw1
  have HG1 := Lib.hid hG1
  have HZ1 := Lib.hid hZ1
  have HR1 := Lib.hid (h.at_ hB1 (Nat.le_refl _))
  have Hz1 := Lib.hid hz1
  obtain ⟨w2, hw2⟩ : ∃ W, W = w1.alloc (.cells #[.string cu, .string cv] 9) := ⟨_, rfl⟩
  have hB2 : Below w1.heap.size w1 w2 := by rw [hw2]; exact (Below.refl _ _).alloc (Nat.le_refl _) _
  have hs2 : w2.heap[w1.heap.size]? = some (.cells #[.string cu, .string cv] 9 (0, 0)) := by rw [hw2]; exact heap_alloc_new w1 _
  have HW2 := Lib.hid hw2
  have y0 := cell_of_row _ _ 0 _ _ _ hs2
  have y1 := cell_of_row _ _ 1 _ _ _ hs2
  simp at y0 y1
  have Y := Lib.hid (And.intro y0 y1)
  have sz2 : w1.heap.size < w2.heap.size := (Array.getElem?_eq_some_iff.1 hs2).1
  have HG2 := Lib.hid ((hB2.block _ (by omega)).trans hG1)
  have HZ2 := Lib.hid ((hB2.block _ (by omega)).trans hZ1)
  have HR2 := Lib.hid (HR1.out.at_ hB2 (Nat.le_refl _))
  have HB02 := Lib.hid (hB1.trans (hB2.mono hB1.size))
  have hq2 : w.heap.size + 1 < w2.heap.size := by omega
  have hq1 : w.heap.size + 1 < w1.heap.size := by omega
  clear hw1 hw2 hG1 hZ1 hs2 y0 y1 h hB2 hz1
  have HG := HG1.out
  go_enter Tryz.func7, Tryz.ntmps7
  go_upto_region 1 with (fail)
  rw [<- HW1.out]
  go_wp2_with (refine wpList_load_row rfl 29 _ rfl _ rfl _ _ _ _ HG Tryz.underlying29 rfl gsize ?_)
  rw [<- HW2.out]
  refine (check2_any w2 g A n c _ w1.heap.size rs cu cv d hl (by omega) hg hcu hcv hr HR2.out sz2 Y.out.1 Y.out.2).mono ?_
  obtain ⟨E2, hE2⟩ : ∃ E, E = Rates.errQ2 g.gc rs cu cv d := ⟨_, rfl⟩
  obtain ⟨X, hX⟩ : ∃ X, X = Rates.whichR g.gc rs cu d := ⟨_, rfl⟩
  obtain ⟨V, hV⟩ : ∃ V, V = Rates.whichR g.gc rs cv d := ⟨_, rfl⟩
  obtain ⟨CE, hCE⟩ : ∃ C, C = Rates.crossE g.gc rs cu cv d := ⟨_, rfl⟩
  have hcases := Rates.crossE_cases g.gc rs cu cv d
  have hvx := Rates.whichR_val g.gc rs cu d
  have hvv := Rates.whichR_val g.gc rs cv d
  rw [<- hE2, <- hX, <- hV, <- hCE] at hcases
  rw [<- hX] at hvx
  rw [<- hV] at hvv
  rw [<- hE2, <- hX, <- hV, <- hCE]
  have HX := Lib.hid hX
  have HV := Lib.hid hV
  have HCE := Lib.hid hCE
  have Hvx := Lib.hid hvx
  have Hvv := Lib.hid hvv
  clear hE2 hX hV hCE hvx hvv
  rintro e w3 ⟨rfl, hB3⟩
  have hB03 := HB02.out.trans (hB3.mono HB02.out.size)
  have HG3 := Lib.hid ((hB3.block _ (by omega)).trans HG2.out)
  have HZ3 := Lib.hid ((hB3.block _ hq2).trans HZ2.out)
  have HR3 := Lib.hid (HR2.out.at_ hB3 (Nat.le_refl _))
  have HB03 := Lib.hid hB03
  have hq3 := Nat.lt_of_lt_of_le hq2 hB3.size
  clear HG hB3 hB03
  rcases hcases with ⟨rfl, rfl⟩ | ⟨rfl, rfl⟩ | ⟨rfl, hx, rfl⟩ | ⟨rfl, hx, hv, rfl⟩ | ⟨rfl, hx, hv, rfl⟩
  · skip
    have hZ := HZ3.out
    have hRF := setRow_heap w3 (w.heap.size + 1) _ #[.bool false, .slice none 0 0, .bool false, .slice none 0 0] _ _ hZ
    have hload := Lib.hid (run_loadVar_row (P := Tryz.prog) _ _ _ 41 _ _ _ hRF Tryz.underlying41 rfl ratSize)
    have hBF := Lib.hid (below_setRow HB03.out (show w.heap.size <= w.heap.size + 1 by omega) #[.bool false, .slice none 0 0, .bool false, .slice none 0 0])
    clear hRF
    go_wp2_with (refine wpList_store_row rfl 41 (.tmp 10) _ none rfl rfl (w.heap.size + 1) 41 _ #[.bool false, .slice none 0 0, .bool false, .slice none 0 0] rfl rfl hZ rfl ratSize (by simp [Value.oneCell']) ?_)
    exact bodyPost_ret (v := .tuple #[.agg #[.bool false, .slice none 0 0, .bool false, .slice none 0 0], .int .i64 1]) (by simp [results, Tryz.results7, asAddr, Act.put, hload.out]) rfl (by rw [<- HCE.out]; exact ⟨hBF.out, _, rfl, .inl ⟨by decide, rfl⟩⟩)
  · skip
    have hZ := HZ3.out
    have hRF := setRow_heap w3 (w.heap.size + 1) _ #[.bool false, .slice none 0 0, .bool false, .slice none 0 0] _ _ hZ
    have hload := Lib.hid (run_loadVar_row (P := Tryz.prog) _ _ _ 41 _ _ _ hRF Tryz.underlying41 rfl ratSize)
    have hBF := Lib.hid (below_setRow HB03.out (show w.heap.size <= w.heap.size + 1 by omega) #[.bool false, .slice none 0 0, .bool false, .slice none 0 0])
    clear hRF
    go_wp2_with (refine wpList_store_row rfl 41 (.tmp 10) _ none rfl rfl (w.heap.size + 1) 41 _ #[.bool false, .slice none 0 0, .bool false, .slice none 0 0] rfl rfl hZ rfl ratSize (by simp [Value.oneCell']) ?_)
    exact bodyPost_ret (v := .tuple #[.agg #[.bool false, .slice none 0 0, .bool false, .slice none 0 0], .int .i64 2]) (by simp [results, Tryz.results7, asAddr, Act.put, hload.out]) rfl (by rw [<- HCE.out]; exact ⟨hBF.out, _, rfl, .inl ⟨by decide, rfl⟩⟩)
  all_goals
    have HG := HG3.out
    have Hx := Lib.hid hx
    clear hx
    go_wp2_with (refine wpList_load_row rfl 29 _ rfl _ rfl _ _ _ _ HG Tryz.underlying29 rfl gsize ?_)
    refine (spot_any w3 g A n c rs cu d hl hn hg hcu hr HR3.out).mono ?_
    rw [<- HX.out]
    rintro e w4 ⟨rfl, hB4⟩
    have HB04 := Lib.hid (HB03.out.trans (hB4.mono HB03.out.size))
    have HG4 := Lib.hid ((hB4.block _ (by omega)).trans HG3.out)
    have HZ4 := Lib.hid ((hB4.block _ hq3).trans HZ3.out)
    have HR4 := Lib.hid (HR3.out.at_ hB4 (Nat.le_refl _))
    have hq4 := Nat.lt_of_lt_of_le hq3 hB4.size
    clear HG hB4
    have HG := HG4.out
    go_wp2_with (refine wpList_load_row rfl 29 _ rfl _ rfl _ _ _ _ HG Tryz.underlying29 rfl gsize ?_)
    refine (spot_any w4 g A n c rs cv d hl hn hg hcv hr HR4.out).mono ?_
    rw [<- HV.out]
    rintro e w5 ⟨rfl, hB5⟩
    have HB05 := Lib.hid (HB04.out.trans (hB5.mono HB04.out.size))
    have HZ5 := Lib.hid ((hB5.block _ hq4).trans HZ4.out)
    have hq5 := Nat.lt_of_lt_of_le hq4 hB5.size
    clear HG hB5
  · have hxb : (X.2 != 0) = true := by simp only [bne_iff_ne]; exact Hx.out
    have hZ := HZ5.out
    have hRF := setRow_heap w5 (w.heap.size + 1) _ #[.bool false, .slice none 0 0, .bool false, .slice none 0 0] _ _ hZ
    have hload := Lib.hid (run_loadVar_row (P := Tryz.prog) _ _ _ 41 _ _ _ hRF Tryz.underlying41 rfl ratSize)
    have hBF := Lib.hid (below_setRow HB05.out (show w.heap.size <= w.heap.size + 1 by omega) #[.bool false, .slice none 0 0, .bool false, .slice none 0 0])
    clear hRF
    go_wp2_with (refine wpList_store_row rfl 41 (.tmp 10) _ none rfl rfl (w.heap.size + 1) 41 _ #[.bool false, .slice none 0 0, .bool false, .slice none 0 0] rfl rfl hZ rfl ratSize (by simp [Value.oneCell']) ?_)
    exact bodyPost_ret (v := .tuple #[.agg #[.bool false, .slice none 0 0, .bool false, .slice none 0 0], .int .i64 13]) (by simp [results, Tryz.results7, asAddr, Act.put, hload.out]) rfl (by rw [<- HCE.out]; exact ⟨hBF.out, _, rfl, .inl ⟨by decide, rfl⟩⟩)
  · have hxb : (X.2 != 0) = false := by rw [Hx.out]; rfl
    have hvb : (V.2 != 0) = true := by simp only [bne_iff_ne]; exact hv
    have hZ := HZ5.out
    have hRF := setRow_heap w5 (w.heap.size + 1) _ #[.bool false, .slice none 0 0, .bool false, .slice none 0 0] _ _ hZ
    have hload := Lib.hid (run_loadVar_row (P := Tryz.prog) _ _ _ 41 _ _ _ hRF Tryz.underlying41 rfl ratSize)
    have hBF := Lib.hid (below_setRow HB05.out (show w.heap.size <= w.heap.size + 1 by omega) #[.bool false, .slice none 0 0, .bool false, .slice none 0 0])
    clear hRF
    go_wp2_with (refine wpList_store_row rfl 41 (.tmp 10) _ none rfl rfl (w.heap.size + 1) 41 _ #[.bool false, .slice none 0 0, .bool false, .slice none 0 0] rfl rfl hZ rfl ratSize (by simp [Value.oneCell']) ?_)
    exact bodyPost_ret (v := .tuple #[.agg #[.bool false, .slice none 0 0, .bool false, .slice none 0 0], .int .i64 13]) (by simp [results, Tryz.results7, asAddr, Act.put, hload.out]) rfl (by rw [<- HCE.out]; exact ⟨hBF.out, _, rfl, .inl ⟨by decide, rfl⟩⟩)
  · have hxb : (X.2 != 0) = false := by rw [Hx.out]; rfl
    have hvb : (V.2 != 0) = false := by rw [hv]; rfl
    have bx := Hvx.out Hx.out
    have bv := Hvv.out hv
    obtain ⟨a, ha⟩ : ∃ a, a = X.1.val := ⟨_, rfl⟩
    obtain ⟨b, hb⟩ : ∃ b, b = V.1.val := ⟨_, rfl⟩
    rw [<- ha] at bx ⊢
    rw [<- hb] at bv ⊢
    have Ha := Lib.hid ha
    have Hb := Lib.hid hb
    clear ha hb hv
    go_wp2_with (fail)
    refine (ratofg_any w5 a b (by omega) (by omega) (by omega) (by omega) (by omega)).mono ?_
    rw [redBy_pos (show 0 < b by omega)]
    rintro e w6 ⟨⟨r3, rfl, hr3⟩, hB6⟩
    have HB06 := Lib.hid (HB05.out.trans (hB6.mono HB05.out.size))
    have HZ6 := Lib.hid ((hB6.block _ hq5).trans HZ5.out)
    clear hB6
    obtain ⟨g1, A1, n1, c1, g2, A2, n2, c2, rfl⟩ := hr3.open
    have hZ := HZ6.out
    have hRF := setRow_heap w6 (w.heap.size + 1) _ #[.bool g1, .slice A1 n1 c1, .bool g2, .slice A2 n2 c2] _ _ hZ
    have hload := Lib.hid (run_loadVar_row (P := Tryz.prog) _ _ _ 41 _ _ _ hRF Tryz.underlying41 rfl ratSize)
    have hBF := Lib.hid (below_setRow HB06.out (show w.heap.size <= w.heap.size + 1 by omega) #[.bool g1, .slice A1 n1 c1, .bool g2, .slice A2 n2 c2])
    have hp := Lib.hid ((hr3.other (w' := w6.setRow (w.heap.size + 1) #[.bool g1, .slice A1 n1 c1, .bool g2, .slice A2 n2 c2]) hZ zero_none (fun c hc => setRow_other _ _ _ _ hc)).more (C := (w6.setRow (w.heap.size + 1) #[.bool g1, .slice A1 n1 c1, .bool g2, .slice A2 n2 c2]).heap.size) (by simp) (Nat.le_refl _) (Nat.le_refl _))
    clear hRF
    go_wp2_with (refine wpList_store_row rfl 41 (.tmp 10) _ none rfl rfl (w.heap.size + 1) 41 _ #[.bool g1, .slice A1 n1 c1, .bool g2, .slice A2 n2 c2] rfl rfl hZ rfl ratSize (by simp [Value.oneCell']) ?_)
    exact bodyPost_ret (v := .tuple #[.agg #[.bool g1, .slice A1 n1 c1, .bool g2, .slice A2 n2 c2], .int .i64 0]) (by simp [results, Tryz.results7, asAddr, Act.put, hload.out]) rfl (by rw [<- HCE.out, <- HX.out, <- HV.out, <- Ha.out, <- Hb.out]; exact ⟨hBF.out, _, rfl, .inr ⟨rfl, hp.out⟩⟩)
end
end Go.Proofs.YtalfikdjclineaaGreatDoor
