/- My texts RatNew. -/
import Derived.Test.YtalfikdjclineaaGreatDoorG10
set_option linter.unusedVariables false
set_option linter.unusedSimpArgs false
set_option maxRecDepth 100000
set_option maxHeartbeats 8000000
namespace Go.Proofs.YtalfikdjclineaaGreatDoor
open Go.RowKit

theorem RI.open {w : World} {B k j : Nat} {v : Value} {N D : Int} (h : RI w B k j v N D) : ∃ (g1 : Bool) (A1 : Option Addr) (n1 c1 : Nat) (g2 : Bool) (A2 : Option Addr) (n2 c2 : Nat), v = .agg #[.bool g1, .slice A1 n1 c1, .bool g2, .slice A2 n2 c2] := by
  obtain ⟨g1, A1, n1, c1, g2, A2, n2, c2, e, _⟩ := h
  exact ⟨g1, A1, n1, c1, g2, A2, n2, c2, e⟩
theorem RI.other {w w' : World} {B k j b : Nat} {v : Value} {N D : Int} {cs : Array Value} {t : TypeId} {fr : Nat × Nat} (h : RI w B k j v N D) (hb : w.heap[b]? = some (.cells cs t fr)) (hcs : ∀ (j : Nat) (n : Int), cs[j]? ≠ some (.int .u32 n)) (hw : ∀ c, c ≠ b -> w'.heap[c]? = w.heap[c]?) : RI w' B k j v N D := by
  obtain ⟨g1, A1, n1, c1, g2, A2, n2, c2, e, h1, h2⟩ := h
  exact ⟨g1, A1, n1, c1, g2, A2, n2, c2, e, h1.other hb hcs hw, h2.other hb hcs hw⟩
theorem RI.more {w : World} {B C k j k' j' : Nat} {v : Value} {N D : Int} (h : RI w B k j v N D) (hC : B <= C) (hk : k <= k') (hj : j <= j') : RI w C k' j' v N D := by
  obtain ⟨g1, A1, n1, c1, g2, A2, n2, c2, e, h1, h2⟩ := h
  exact ⟨g1, A1, n1, c1, g2, A2, n2, c2, e, h1.more hC hk, h2.more hC hj⟩
theorem zero_none : ∀ (j : Nat) (n : Int), (#[.bool false, .slice none 0 0, .bool false, .slice none 0 0] : Array Value)[j]? ≠ some (.int .u32 n) := by
  intro j n
  match j with
  | 0 => simp
  | 1 => simp
  | 2 => simp
  | 3 => simp
  | j + 4 => simp

section
variable (w : World)
theorem new_any (k : Nat) (u v : Value) (N D : Int) (hk : k <= 100000) (hD : D ≠ 0) (hu : PI w w.heap.size k u N) (hv : PI w w.heap.size 1 v D) :
    Calls Tryz.prog 37 #[u, v] w fun e w' => (∃ r, e = .returned (.tuple #[r, .int .i64 0]) /\ RI w' w'.heap.size k 1 r (Int.tdiv N (redBy N D)) (Int.tdiv D (redBy N D))) /\ Below w.heap.size w w' := by
  obtain ⟨g1, A1, n1, c1, rfl⟩ := hu.open
  obtain ⟨g2, A2, n2, c2, rfl⟩ := hv.open
  have hB0 := (((Below.refl w.heap.size w).alloc (Nat.le_refl _) (.cells #[.bool g1, .slice A1 n1 c1] 39)).alloc (by simp) (.cells #[.bool g2, .slice A2 n2 c2] 39)).alloc (by simp; omega) (.cells #[.bool false, .slice none 0 0, .bool false, .slice none 0 0] 41)
  obtain ⟨W1, hW1⟩ : ∃ W1, W1 = (((w.alloc (.cells #[.bool g1, .slice A1 n1 c1] 39)).alloc (.cells #[.bool g2, .slice A2 n2 c2] 39)).alloc (.cells #[.bool false, .slice none 0 0, .bool false, .slice none 0 0] 41)) := ⟨_, rfl⟩
  have hz1 : W1.heap.size = w.heap.size + 3 := by rw [hW1]; simp
  have hb0 : W1.heap[w.heap.size]? = some (.cells #[.bool g1, .slice A1 n1 c1] 39 (0, 0)) := by rw [hW1, Below.heap_alloc _ _ _ (by simp; omega), Below.heap_alloc _ _ _ (by simp)]; exact heap_alloc_new w _
  have hb1 : W1.heap[w.heap.size + 1]? = some (.cells #[.bool g2, .slice A2 n2 c2] 39 (0, 0)) := by
    rw [hW1, Below.heap_alloc _ _ _ (by simp)]
    have := heap_alloc_new (w.alloc (.cells #[.bool g1, .slice A1 n1 c1] 39)) (.cells #[.bool g2, .slice A2 n2 c2] 39)
    rwa [show (w.alloc (.cells #[.bool g1, .slice A1 n1 c1] 39)).heap.size = w.heap.size + 1 by simp] at this
  have hb2 : W1.heap[w.heap.size + 2]? = some (.cells #[.bool false, .slice none 0 0, .bool false, .slice none 0 0] 41 (0, 0)) := by
    rw [hW1]
    have := heap_alloc_new ((w.alloc (.cells #[.bool g1, .slice A1 n1 c1] 39)).alloc (.cells #[.bool g2, .slice A2 n2 c2] 39)) (.cells #[.bool false, .slice none 0 0, .bool false, .slice none 0 0] 41)
    rwa [show ((w.alloc (.cells #[.bool g1, .slice A1 n1 c1] 39)).alloc (.cells #[.bool g2, .slice A2 n2 c2] 39)).heap.size = w.heap.size + 2 by simp] at this
  rw [<- hW1] at hB0
  have HW := Lib.hid hW1
  have Hz := Lib.hid hz1
  have Hb2 := Lib.hid hb2
  have hsg : (sg D == 0) = false := by simp [sg_pos.2.2]; exact hD
  have HD := Lib.hid hD
  have y0 := cell_of_row _ _ 0 _ _ _ hb1
  have y1 := cell_of_row _ _ 1 _ _ _ hb1
  simp at y0 y1
  have s1 : w.heap.size + 1 < W1.heap.size := by omega
  clear hW1 hz1 hb2 hD
  go_enter Tryz.func37, Tryz.ntmps37
  go_upto_region 1 with (fail)
  rw [<- HW.out]
  go_wp2_with (fail)
  refine (sign_any W1 1 _ D (hv.at_ hB0)).mono ?_
  rintro e w2 ⟨rfl, hB2⟩
  have hsz2 := hB2.size
  have hBw2 := hB0.trans (hB2.mono hB0.size)
  have Hz2 := Lib.hid (gbox Hb2.out hB2 (by have := Hz.out; omega))
  have ha0 := gbox hb0 hB2 (by omega)
  have ha1 := gbox hb1 hB2 (by omega)
  have x0 := cell_of_row _ _ 0 _ _ _ ha0
  have x1 := cell_of_row _ _ 1 _ _ _ ha0
  have x2 := cell_of_row _ _ 0 _ _ _ ha1
  have x3 := cell_of_row _ _ 1 _ _ _ ha1
  simp at x0 x1 x2 x3
  have s2 : w.heap.size + 1 < w2.heap.size := by omega
  have s3 : w.heap.size < w2.heap.size := by omega
  clear y0 y1 hb0 hb1 ha0 ha1
  go_wp2_with (fail)
  refine (reduced_any w2 k _ N D hk HD.out ⟨g1, A1, n1, c1, g2, A2, n2, c2, rfl, hu.at_ hBw2, hv.at_ hBw2⟩).mono ?_
  rintro e w3 ⟨⟨r3, rfl, hr3⟩, hB3⟩
  obtain ⟨g3, A3, n3, c3, g4, A4, n4, c4, rfl⟩ := hr3.open
  have hsz3 := hB3.size
  have hBw3 := hBw2.trans (hB3.mono hBw2.size)
  have Hz3 := Lib.hid (gbox Hz2.out hB3 (by have := Hz.out; omega))
  have Hone : Hid ((#[.bool g3, .slice A3 n3 c3, .bool g4, .slice A4 n4 c4] : Array Value).all (·.oneCell') = true) := by show _ = true; simp [Value.oneCell']
  have hRF := setRow_heap w3 (w.heap.size + 2) _ #[.bool g3, .slice A3 n3 c3, .bool g4, .slice A4 n4 c4] _ _ Hz3.out
  have Hload := Lib.hid (run_loadVar_row (P := Tryz.prog) _ _ _ 41 _ _ _ hRF Tryz.underlying41 rfl ratSize)
  have hBF := below_setRow hBw3 (show w.heap.size <= w.heap.size + 2 by omega) #[.bool g3, .slice A3 n3 c3, .bool g4, .slice A4 n4 c4]
  have hp := Lib.hid ((hr3.other (w' := w3.setRow (w.heap.size + 2) #[.bool g3, .slice A3 n3 c3, .bool g4, .slice A4 n4 c4]) Hz3.out zero_none (fun c hc => setRow_other _ _ _ _ hc)).more (C := (w3.setRow (w.heap.size + 2) #[.bool g3, .slice A3 n3 c3, .bool g4, .slice A4 n4 c4]).heap.size) (by simp) (Nat.le_refl _) (Nat.le_refl _))
  clear hRF x0 x1 x2 x3
  go_wp2_with (refine wpList_store_row rfl 41 (.tmp 4) (.tmp 13) none rfl rfl (w.heap.size + 2) 41 _ #[.bool g3, .slice A3 n3 c3, .bool g4, .slice A4 n4 c4] rfl rfl Hz3.out rfl ratSize Hone.out ?_)
  refine bodyPost_ret (v := .tuple #[.agg #[.bool g3, .slice A3 n3 c3, .bool g4, .slice A4 n4 c4], .int .i64 0]) (by simp [results, Tryz.results37, asAddr, Act.put, Hload.out]) rfl ⟨⟨_, rfl, hp.out⟩, hBF⟩

theorem ratof_any (n m : Int) (hn0 : -9223372036854775808 <= n) (hn1 : n <= 9223372036854775807) (hm : m ≠ 0) (hm0 : -1000000000 < m) (hm1 : m < 1000000000) :
    Calls Tryz.prog 17 #[.int .i64 n, .int .i64 m] w fun e w' => (∃ r, e = .returned (.tuple #[r, .int .i64 0]) /\ RI w' w'.heap.size 3 1 r (Int.tdiv n (redBy n m)) (Int.tdiv m (redBy n m))) /\ Below w.heap.size w w' := by
  have hB0 := (Below.refl w.heap.size w).alloc (Nat.le_refl _) (.cells #[.bool false, .slice none 0 0, .bool false, .slice none 0 0] 41)
  have hZ := heap_alloc_new w (.cells #[.bool false, .slice none 0 0, .bool false, .slice none 0 0] 41)
  have HZ := Lib.hid hZ
  have HM := Lib.hid hm
  have Hn := Lib.hid (show -9223372036854775808 <= n /\ n <= 9223372036854775807 from ⟨hn0, hn1⟩)
  have Hm := Lib.hid (show -1000000000 < m /\ m < 1000000000 from ⟨hm0, hm1⟩)
  have Hm3 : Hid (-1000000000 ^ 1 < m /\ m < 1000000000 ^ 1) := by show _ /\ _; rw [Int.pow_succ, Int.pow_zero]; omega
  clear hZ hm hn0 hn1 hm0 hm1
  go_enter Tryz.func17, Tryz.ntmps17
  go_wp2_with (fail)
  refine (of_int _ n Hn.out.1 Hn.out.2).mono ?_
  rintro e w1 ⟨⟨r1, rfl, hr1⟩, hB1⟩
  have hsz1 := hB1.size
  simp at hsz1
  go_wp2_with (fail)
  refine (of_int w1 m (by have := Hm.out; omega) (by have := Hm.out; omega)).mono ?_
  rintro e w2 ⟨⟨r2, rfl, hr2⟩, hB2⟩
  go_wp2_with (fail)
  refine (new_any w2 3 _ _ n m (by omega) HM.out (hr1.at_ hB2) (hr2.tight Hm3.out.1 Hm3.out.2)).mono ?_
  rintro e w3 ⟨⟨r3, rfl, hr3⟩, hB3⟩
  obtain ⟨g3, A3, n3, c3, g4, A4, n4, c4, rfl⟩ := hr3.open
  have hB13 := hB1.trans ((hB2.mono hB1.size).trans (hB3.mono (Nat.le_trans hB1.size hB2.size)))
  have hBw3 := hB0.trans (hB13.mono (by simp))
  have Hz3 := Lib.hid (gbox HZ.out hB13 (by simp))
  have Hone : Hid ((#[.bool g3, .slice A3 n3 c3, .bool g4, .slice A4 n4 c4] : Array Value).all (·.oneCell') = true) := by show _ = true; simp [Value.oneCell']
  have hRF := setRow_heap w3 w.heap.size _ #[.bool g3, .slice A3 n3 c3, .bool g4, .slice A4 n4 c4] _ _ Hz3.out
  have Hload := Lib.hid (run_loadVar_row (P := Tryz.prog) _ _ _ 41 _ _ _ hRF Tryz.underlying41 rfl ratSize)
  have hBF := below_setRow hBw3 (Nat.le_refl w.heap.size) #[.bool g3, .slice A3 n3 c3, .bool g4, .slice A4 n4 c4]
  have hp := Lib.hid ((hr3.other (w' := w3.setRow w.heap.size #[.bool g3, .slice A3 n3 c3, .bool g4, .slice A4 n4 c4]) Hz3.out zero_none (fun c hc => setRow_other _ _ _ _ hc)).more (C := (w3.setRow w.heap.size #[.bool g3, .slice A3 n3 c3, .bool g4, .slice A4 n4 c4]).heap.size) (by simp) (Nat.le_refl _) (Nat.le_refl _))
  clear hRF
  go_wp2_with (refine wpList_store_row rfl 41 (.tmp 4) (.tmp 11) none rfl rfl w.heap.size 41 _ #[.bool g3, .slice A3 n3 c3, .bool g4, .slice A4 n4 c4] rfl rfl Hz3.out rfl ratSize Hone.out ?_)
  refine bodyPost_ret (v := .tuple #[.agg #[.bool g3, .slice A3 n3 c3, .bool g4, .slice A4 n4 c4], .int .i64 0]) (by simp [results, Tryz.results17, asAddr, Act.put, Hload.out]) rfl ⟨⟨_, rfl, hp.out⟩, hBF⟩

theorem newg_any (k j : Nat) (u v : Value) (N D : Int) (hk : k <= 100000) (hj : j <= 100000) (hD : D ≠ 0) (hu : PI w w.heap.size k u N) (hv : PI w w.heap.size j v D) :
    Calls Tryz.prog 37 #[u, v] w fun e w' => (∃ r, e = .returned (.tuple #[r, .int .i64 0]) /\ RI w' w'.heap.size k j r (Int.tdiv N (redBy N D)) (Int.tdiv D (redBy N D))) /\ Below w.heap.size w w' := by
  obtain ⟨g1, A1, n1, c1, rfl⟩ := hu.open
  obtain ⟨g2, A2, n2, c2, rfl⟩ := hv.open
  have hB0 := (((Below.refl w.heap.size w).alloc (Nat.le_refl _) (.cells #[.bool g1, .slice A1 n1 c1] 39)).alloc (by simp) (.cells #[.bool g2, .slice A2 n2 c2] 39)).alloc (by simp; omega) (.cells #[.bool false, .slice none 0 0, .bool false, .slice none 0 0] 41)
  obtain ⟨W1, hW1⟩ : ∃ W1, W1 = (((w.alloc (.cells #[.bool g1, .slice A1 n1 c1] 39)).alloc (.cells #[.bool g2, .slice A2 n2 c2] 39)).alloc (.cells #[.bool false, .slice none 0 0, .bool false, .slice none 0 0] 41)) := ⟨_, rfl⟩
  have hz1 : W1.heap.size = w.heap.size + 3 := by rw [hW1]; simp
  have hb0 : W1.heap[w.heap.size]? = some (.cells #[.bool g1, .slice A1 n1 c1] 39 (0, 0)) := by rw [hW1, Below.heap_alloc _ _ _ (by simp; omega), Below.heap_alloc _ _ _ (by simp)]; exact heap_alloc_new w _
  have hb1 : W1.heap[w.heap.size + 1]? = some (.cells #[.bool g2, .slice A2 n2 c2] 39 (0, 0)) := by
    rw [hW1, Below.heap_alloc _ _ _ (by simp)]
    have := heap_alloc_new (w.alloc (.cells #[.bool g1, .slice A1 n1 c1] 39)) (.cells #[.bool g2, .slice A2 n2 c2] 39)
    rwa [show (w.alloc (.cells #[.bool g1, .slice A1 n1 c1] 39)).heap.size = w.heap.size + 1 by simp] at this
  have hb2 : W1.heap[w.heap.size + 2]? = some (.cells #[.bool false, .slice none 0 0, .bool false, .slice none 0 0] 41 (0, 0)) := by
    rw [hW1]
    have := heap_alloc_new ((w.alloc (.cells #[.bool g1, .slice A1 n1 c1] 39)).alloc (.cells #[.bool g2, .slice A2 n2 c2] 39)) (.cells #[.bool false, .slice none 0 0, .bool false, .slice none 0 0] 41)
    rwa [show ((w.alloc (.cells #[.bool g1, .slice A1 n1 c1] 39)).alloc (.cells #[.bool g2, .slice A2 n2 c2] 39)).heap.size = w.heap.size + 2 by simp] at this
  rw [<- hW1] at hB0
  have HW := Lib.hid hW1
  have Hz := Lib.hid hz1
  have Hb2 := Lib.hid hb2
  have hsg : (sg D == 0) = false := by simp [sg_pos.2.2]; exact hD
  have HD := Lib.hid hD
  have y0 := cell_of_row _ _ 0 _ _ _ hb1
  have y1 := cell_of_row _ _ 1 _ _ _ hb1
  simp at y0 y1
  have s1 : w.heap.size + 1 < W1.heap.size := by omega
  clear hW1 hz1 hb2 hD
  go_enter Tryz.func37, Tryz.ntmps37
  go_upto_region 1 with (fail)
  rw [<- HW.out]
  go_wp2_with (fail)
  refine (sign_any W1 j _ D (hv.at_ hB0)).mono ?_
  rintro e w2 ⟨rfl, hB2⟩
  have hsz2 := hB2.size
  have hBw2 := hB0.trans (hB2.mono hB0.size)
  have Hz2 := Lib.hid (gbox Hb2.out hB2 (by have := Hz.out; omega))
  have ha0 := gbox hb0 hB2 (by omega)
  have ha1 := gbox hb1 hB2 (by omega)
  have x0 := cell_of_row _ _ 0 _ _ _ ha0
  have x1 := cell_of_row _ _ 1 _ _ _ ha0
  have x2 := cell_of_row _ _ 0 _ _ _ ha1
  have x3 := cell_of_row _ _ 1 _ _ _ ha1
  simp at x0 x1 x2 x3
  have s2 : w.heap.size + 1 < w2.heap.size := by omega
  have s3 : w.heap.size < w2.heap.size := by omega
  clear y0 y1 hb0 hb1 ha0 ha1
  go_wp2_with (fail)
  refine (reducedg_any w2 k j _ N D hk hj HD.out ⟨g1, A1, n1, c1, g2, A2, n2, c2, rfl, hu.at_ hBw2, hv.at_ hBw2⟩).mono ?_
  rintro e w3 ⟨⟨r3, rfl, hr3⟩, hB3⟩
  obtain ⟨g3, A3, n3, c3, g4, A4, n4, c4, rfl⟩ := hr3.open
  have hsz3 := hB3.size
  have hBw3 := hBw2.trans (hB3.mono hBw2.size)
  have Hz3 := Lib.hid (gbox Hz2.out hB3 (by have := Hz.out; omega))
  have Hone : Hid ((#[.bool g3, .slice A3 n3 c3, .bool g4, .slice A4 n4 c4] : Array Value).all (·.oneCell') = true) := by show _ = true; simp [Value.oneCell']
  have hRF := setRow_heap w3 (w.heap.size + 2) _ #[.bool g3, .slice A3 n3 c3, .bool g4, .slice A4 n4 c4] _ _ Hz3.out
  have Hload := Lib.hid (run_loadVar_row (P := Tryz.prog) _ _ _ 41 _ _ _ hRF Tryz.underlying41 rfl ratSize)
  have hBF := below_setRow hBw3 (show w.heap.size <= w.heap.size + 2 by omega) #[.bool g3, .slice A3 n3 c3, .bool g4, .slice A4 n4 c4]
  have hp := Lib.hid ((hr3.other (w' := w3.setRow (w.heap.size + 2) #[.bool g3, .slice A3 n3 c3, .bool g4, .slice A4 n4 c4]) Hz3.out zero_none (fun c hc => setRow_other _ _ _ _ hc)).more (C := (w3.setRow (w.heap.size + 2) #[.bool g3, .slice A3 n3 c3, .bool g4, .slice A4 n4 c4]).heap.size) (by simp) (Nat.le_refl _) (Nat.le_refl _))
  clear hRF x0 x1 x2 x3
  go_wp2_with (refine wpList_store_row rfl 41 (.tmp 4) (.tmp 13) none rfl rfl (w.heap.size + 2) 41 _ #[.bool g3, .slice A3 n3 c3, .bool g4, .slice A4 n4 c4] rfl rfl Hz3.out rfl ratSize Hone.out ?_)
  refine bodyPost_ret (v := .tuple #[.agg #[.bool g3, .slice A3 n3 c3, .bool g4, .slice A4 n4 c4], .int .i64 0]) (by simp [results, Tryz.results37, asAddr, Act.put, Hload.out]) rfl ⟨⟨_, rfl, hp.out⟩, hBF⟩

theorem ratofg_any (n m : Int) (hn0 : -9223372036854775808 <= n) (hn1 : n <= 9223372036854775807) (hm : m ≠ 0) (hm0 : -9223372036854775808 <= m) (hm1 : m <= 9223372036854775807) :
    Calls Tryz.prog 17 #[.int .i64 n, .int .i64 m] w fun e w' => (∃ r, e = .returned (.tuple #[r, .int .i64 0]) /\ RI w' w'.heap.size 3 3 r (Int.tdiv n (redBy n m)) (Int.tdiv m (redBy n m))) /\ Below w.heap.size w w' := by
  have hB0 := (Below.refl w.heap.size w).alloc (Nat.le_refl _) (.cells #[.bool false, .slice none 0 0, .bool false, .slice none 0 0] 41)
  have hZ := heap_alloc_new w (.cells #[.bool false, .slice none 0 0, .bool false, .slice none 0 0] 41)
  have HZ := Lib.hid hZ
  have HM := Lib.hid hm
  have Hn := Lib.hid (show -9223372036854775808 <= n /\ n <= 9223372036854775807 from ⟨hn0, hn1⟩)
  have Hm := Lib.hid (show -9223372036854775808 <= m /\ m <= 9223372036854775807 from ⟨hm0, hm1⟩)
  clear hZ hm hn0 hn1 hm0 hm1
  go_enter Tryz.func17, Tryz.ntmps17
  go_wp2_with (fail)
  refine (of_int _ n Hn.out.1 Hn.out.2).mono ?_
  rintro e w1 ⟨⟨r1, rfl, hr1⟩, hB1⟩
  have hsz1 := hB1.size
  simp at hsz1
  go_wp2_with (fail)
  refine (of_int w1 m (by have := Hm.out; omega) (by have := Hm.out; omega)).mono ?_
  rintro e w2 ⟨⟨r2, rfl, hr2⟩, hB2⟩
  go_wp2_with (fail)
  refine (newg_any w2 3 3 _ _ n m (by omega) (by omega) HM.out (hr1.at_ hB2) hr2).mono ?_
  rintro e w3 ⟨⟨r3, rfl, hr3⟩, hB3⟩
  obtain ⟨g3, A3, n3, c3, g4, A4, n4, c4, rfl⟩ := hr3.open
  have hB13 := hB1.trans ((hB2.mono hB1.size).trans (hB3.mono (Nat.le_trans hB1.size hB2.size)))
  have hBw3 := hB0.trans (hB13.mono (by simp))
  have Hz3 := Lib.hid (gbox HZ.out hB13 (by simp))
  have Hone : Hid ((#[.bool g3, .slice A3 n3 c3, .bool g4, .slice A4 n4 c4] : Array Value).all (·.oneCell') = true) := by show _ = true; simp [Value.oneCell']
  have hRF := setRow_heap w3 w.heap.size _ #[.bool g3, .slice A3 n3 c3, .bool g4, .slice A4 n4 c4] _ _ Hz3.out
  have Hload := Lib.hid (run_loadVar_row (P := Tryz.prog) _ _ _ 41 _ _ _ hRF Tryz.underlying41 rfl ratSize)
  have hBF := below_setRow hBw3 (Nat.le_refl w.heap.size) #[.bool g3, .slice A3 n3 c3, .bool g4, .slice A4 n4 c4]
  have hp := Lib.hid ((hr3.other (w' := w3.setRow w.heap.size #[.bool g3, .slice A3 n3 c3, .bool g4, .slice A4 n4 c4]) Hz3.out zero_none (fun c hc => setRow_other _ _ _ _ hc)).more (C := (w3.setRow w.heap.size #[.bool g3, .slice A3 n3 c3, .bool g4, .slice A4 n4 c4]).heap.size) (by simp) (Nat.le_refl _) (Nat.le_refl _))
  clear hRF
  go_wp2_with (refine wpList_store_row rfl 41 (.tmp 4) (.tmp 11) none rfl rfl w.heap.size 41 _ #[.bool g3, .slice A3 n3 c3, .bool g4, .slice A4 n4 c4] rfl rfl Hz3.out rfl ratSize Hone.out ?_)
  refine bodyPost_ret (v := .tuple #[.agg #[.bool g3, .slice A3 n3 c3, .bool g4, .slice A4 n4 c4], .int .i64 0]) (by simp [results, Tryz.results17, asAddr, Act.put, Hload.out]) rfl ⟨⟨_, rfl, hp.out⟩, hBF⟩
end
end Go.Proofs.YtalfikdjclineaaGreatDoor
