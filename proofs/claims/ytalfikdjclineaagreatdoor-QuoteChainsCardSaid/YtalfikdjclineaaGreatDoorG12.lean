/- My texts RatParts, RatMul. -/
import Derived.Test.YtalfikdjclineaaGreatDoorG11
set_option linter.unusedVariables false
set_option linter.unusedSimpArgs false
set_option maxRecDepth 100000
set_option maxHeartbeats 8000000
namespace Go.Proofs.YtalfikdjclineaaGreatDoor
open Go.RowKit

def RegP (w : World) (X : Array Value) (W' : World) : Prop :=
  Below w.heap.size w W' /\ W'.heap[w.heap.size]? = some (.cells X 41 (0, 0)) /\ (∃ cs : Array Value, W'.heap[w.heap.size + 1]? = some (.cells cs 39 (0, 0)) /\ cs.size = 2) /\ ∃ cs : Array Value, W'.heap[w.heap.size + 2]? = some (.cells cs 39 (0, 0)) /\ cs.size = 2
theorem RegP.lt {w W : World} {X : Array Value} (h : RegP w X W) : w.heap.size + 2 < W.heap.size := by
  obtain ⟨_, _, _, cs, h, _⟩ := h
  exact (Array.getElem?_eq_some_iff.1 h).1
theorem RegP.step {w W W' : World} {X : Array Value} (h : RegP w X W) (hb : Below W.heap.size W W') : RegP w X W' := by
  have hlt := h.lt
  obtain ⟨h1, h2, ⟨cs, h4, h5⟩, ds, h6, h7⟩ := h
  exact ⟨h1.trans (hb.mono h1.size), (hb.block _ (by omega)).trans h2, ⟨cs, (hb.block _ (by omega)).trans h4, h5⟩, ds, (hb.block _ hlt).trans h6, h7⟩
theorem RegP.drew {w W : World} {X : Array Value} (h : RegP w X W) : RegP w X W.drew := ⟨below_drawn h.1 1, h.2⟩
theorem RegP.store1 {w W : World} {X : Array Value} (h : RegP w X W) (cs : Array Value) (hc : cs.size = 2) : RegP w X (W.setRow (w.heap.size + 1) cs) := by
  obtain ⟨h1, h2, ⟨ds, h4, h5⟩, es, h6, h7⟩ := h
  exact ⟨below_setRow h1 (by omega) _, (setRow_other _ _ _ _ (by omega)).trans h2, ⟨cs, setRow_heap _ _ _ _ _ _ h4, hc⟩, es, (setRow_other _ _ _ _ (by omega)).trans h6, h7⟩
theorem RegP.store2 {w W : World} {X : Array Value} (h : RegP w X W) (cs : Array Value) (hc : cs.size = 2) : RegP w X (W.setRow (w.heap.size + 2) cs) := by
  obtain ⟨h1, h2, ⟨ds, h4, h5⟩, es, h6, h7⟩ := h
  exact ⟨below_setRow h1 (by omega) _, (setRow_other _ _ _ _ (by omega)).trans h2, ⟨ds, (setRow_other _ _ _ _ (by omega)).trans h4, h5⟩, cs, setRow_heap _ _ _ _ _ _ h6, hc⟩
theorem RegP.start (w : World) (X : Array Value) : RegP w X (((w.alloc (.cells X 41)).alloc (.cells #[.bool false, .slice none 0 0] 39)).alloc (.cells #[.bool false, .slice none 0 0] 39)) := by
  refine ⟨(((Below.refl _ _).alloc (Nat.le_refl _) _).alloc (by simp) _).alloc (by simp; omega) _, ?_, ⟨#[.bool false, .slice none 0 0], ?_, rfl⟩, #[.bool false, .slice none 0 0], ?_, rfl⟩
  · rw [Below.heap_alloc _ _ _ (by simp; omega), Below.heap_alloc _ _ _ (by simp)]; exact heap_alloc_new w _
  · rw [Below.heap_alloc _ _ _ (by simp)]
    have := heap_alloc_new (w.alloc (.cells X 41)) (.cells #[.bool false, .slice none 0 0] 39)
    rwa [show (w.alloc (.cells X 41)).heap.size = w.heap.size + 1 by simp] at this
  · have := heap_alloc_new ((w.alloc (.cells X 41)).alloc (.cells #[.bool false, .slice none 0 0] 39)) (.cells #[.bool false, .slice none 0 0] 39)
    rwa [show ((w.alloc (.cells X 41)).alloc (.cells #[.bool false, .slice none 0 0] 39)).heap.size = w.heap.size + 2 by simp] at this
theorem range4 {w : World} {b : Nat} {x0 x1 x2 x3 : Value} {t : TypeId} {fr : Nat × Nat} (h : w.heap[b]? = some (.cells #[x0, x1, x2, x3] t fr)) : w.rangeAt b 0 [x0, x1] /\ w.rangeAt b 2 [x2, x3] := by
  constructor
  all_goals
    intro j v hj
    rw [cell_of_row _ _ _ _ _ _ h]
    match j with
    | 0 => simpa using hj
    | 1 => simpa using hj
    | j + 2 => simp at hj

def PartsPost (k j : Nat) (N D : Int) (w : World) (e : Ending) (w' : World) : Prop :=
  (∃ g1 A1 n1 c1 g2 A2 n2 c2, e = .returned (.tuple #[.agg #[.bool g1, .slice A1 n1 c1], .agg #[.bool g2, .slice A2 n2 c2]]) /\ PI w' w'.heap.size k (.agg #[.bool g1, .slice A1 n1 c1]) N /\ PI w' w'.heap.size j (.agg #[.bool g2, .slice A2 n2 c2]) D) /\ Below w.heap.size w w'
section
variable (w : World)
theorem parts_any (k j : Nat) (v : Value) (N D : Int) (hD : D ≠ 0) (h : RI w w.heap.size k j v N D) :
    Calls Tryz.prog 21 #[v] w (PartsPost k j N D w) := by
  obtain ⟨g1, A1, n1, c1, g2, A2, n2, c2, rfl, hN, hDp⟩ := h
  have hS0 := RegP.start w #[.bool g1, .slice A1 n1 c1, .bool g2, .slice A2 n2 c2]
  obtain ⟨W1, hW1⟩ : ∃ W1, W1 = (((w.alloc (.cells #[.bool g1, .slice A1 n1 c1, .bool g2, .slice A2 n2 c2] 41)).alloc (.cells #[.bool false, .slice none 0 0] 39)).alloc (.cells #[.bool false, .slice none 0 0] 39)) := ⟨_, rfl⟩
  rw [<- hW1] at hS0
  have HW := Lib.hid hW1
  have hsg : (sg D == 0) = false := by simp [sg_pos.2.2]; exact hD
  have hlt0 := hS0.lt
  have x2 := cell_of_row _ _ 2 _ _ _ hS0.2.1
  have x3 := cell_of_row _ _ 3 _ _ _ hS0.2.1
  simp at x2 x3
  clear hW1 hD
  go_enter Tryz.func21, Tryz.ntmps21
  go_upto_region 1 with (fail)
  rw [<- HW.out]
  go_wp2_with (fail)
  refine (sign_any W1 j _ D (hDp.at_ hS0.1)).mono ?_
  rintro e W2 ⟨rfl, hB2⟩
  have hS2 := hS0.step hB2
  have hS := hS2.drew
  clear x2 x3
  go_upto_region 3 with (fail)
  refine wp_region_held (S := RegP w #[.bool g1, .slice A1 n1 c1, .bool g2, .slice A2 n2 c2]) (by kernel_rfl) ?_
  change wpAnyH _ _ _ _ _ _ _ _ (World.drew _)
  refine wpAnyH_take (i := 0) (v := .pointer (some ⟨w.heap.size, 0, none⟩)) rfl (by kernel_rfl) (by kernel_rfl) (by kernel_rfl) (fun _ _ _ h => h) (.inl ⟨by rfl, fun W' hS' => by go_simp⟩) hS ?_
  try simp only [Act.put, z]
  refine wpAnyH_take (i := 1) (v := .agg #[.bool g1, .slice A1 n1 c1]) rfl (by kernel_rfl) (by kernel_rfl) (by kernel_rfl) (fun _ _ _ h => h) (yieldsIf_load_mid (by rfl) 39 _ rfl w.heap.size 0 rfl [.bool g1, .slice A1 n1 c1] _ (fun W' hS' => (range4 hS'.2.1).1) Tryz.underlying39 rfl intSize) hS ?_
  try simp only [Act.put, z]
  refine wpAnyH_take (i := 2) (v := .pointer (some ⟨w.heap.size, 2, none⟩)) rfl (by kernel_rfl) (by kernel_rfl) (by kernel_rfl) (fun _ _ _ h => h) (.inl ⟨by rfl, fun W' hS' => by go_simp⟩) hS ?_
  try simp only [Act.put, z]
  refine wpAnyH_take (i := 3) (v := .agg #[.bool g2, .slice A2 n2 c2]) rfl (by kernel_rfl) (by kernel_rfl) (by kernel_rfl) (fun _ _ _ h => h) (yieldsIf_load_mid (by rfl) 39 _ rfl w.heap.size 2 rfl [.bool g2, .slice A2 n2 c2] _ (fun W' hS' => (range4 hS'.2.1).2) Tryz.underlying39 rfl intSize) hS ?_
  try simp only [Act.put, z]
  refine wpAnyH_ready (rs := [4]) (by kernel_rfl) (by simp) (AllReadyH.cons rfl (fun K hK => ?_) AllReadyH.nil)
  rw [if_pos (by rfl)]
  obtain ⟨cs, hcs, hcs2⟩ := hS.2.2.1
  refine wp_store_row 39 _ _ none rfl rfl (w.heap.size + 1) 39 cs #[.bool g1, .slice A1 n1 c1] rfl rfl hcs hcs2 intSize (by simp [Value.oneCell']) ?_
  have hR1 := setRow_heap W2.drew (w.heap.size + 1) cs #[.bool g1, .slice A1 n1 c1] _ _ hcs
  have hS3 := hS.store1 #[.bool g1, .slice A1 n1 c1] rfl
  refine hK.out _ _ hS3 (fun _ => ?_)
  clear hK K
  try simp only [Act.put, z]
  refine wpAnyH_ready (rs := [5]) (by kernel_rfl) (by simp) (AllReadyH.cons rfl (fun K hK => ?_) AllReadyH.nil)
  rw [if_pos (by rfl)]
  obtain ⟨ds, hds, hds2⟩ := hS3.2.2.2
  refine wp_store_row 39 _ _ none rfl rfl (w.heap.size + 2) 39 ds #[.bool g2, .slice A2 n2 c2] rfl rfl hds hds2 intSize (by simp [Value.oneCell']) ?_
  have hR2 := setRow_heap (W2.drew.setRow (w.heap.size + 1) #[.bool g1, .slice A1 n1 c1]) (w.heap.size + 2) ds #[.bool g2, .slice A2 n2 c2] _ _ hds
  have hR1' := (setRow_other (W2.drew.setRow (w.heap.size + 1) #[.bool g1, .slice A1 n1 c1]) (w.heap.size + 2) (w.heap.size + 1) #[.bool g2, .slice A2 n2 c2] (by omega)).trans hR1
  have hS4 := hS3.store2 #[.bool g2, .slice A2 n2 c2] rfl
  refine hK.out _ _ hS4 (fun _ => ?_)
  clear hK K
  try simp only [Act.put, z]
  refine wpAnyH_done (by kernel_rfl) ?_ _
  have hload1 := run_loadVar_row (P := Tryz.prog) _ _ _ 39 _ _ _ hR1' Tryz.underlying39 rfl intSize
  have hload2 := run_loadVar_row (P := Tryz.prog) _ _ _ 39 _ _ _ hR2 Tryz.underlying39 rfl intSize
  go_wp2
  exact bodyPost_ret (v := .tuple #[.agg #[.bool g1, .slice A1 n1 c1], .agg #[.bool g2, .slice A2 n2 c2]]) (by simp [results, Tryz.results21, asAddr, Act.put, hload1, hload2]) rfl ⟨⟨g1, A1, n1, c1, g2, A2, n2, c2, rfl, hN.at_ hS4.1, hDp.at_ hS4.1⟩, hS4.1⟩
end

def RegM (w : World) (B p1 p2 p3 p4 : Nat) (X1 X2 X3 X4 : Array Value) (W' : World) : Prop :=
  Below B w W' /\ W'.heap[p1]? = some (.cells X1 39 (0, 0)) /\ W'.heap[p2]? = some (.cells X2 39 (0, 0)) /\ W'.heap[p3]? = some (.cells X3 39 (0, 0)) /\ W'.heap[p4]? = some (.cells X4 39 (0, 0))
theorem some_lt {w : World} {b : Nat} {O : Obj} (h : w.heap[b]? = some O) : b < w.heap.size := (Array.getElem?_eq_some_iff.1 h).1
theorem RegM.step {w W W' : World} {B p1 p2 p3 p4 : Nat} {X1 X2 X3 X4 : Array Value} (h : RegM w B p1 p2 p3 p4 X1 X2 X3 X4 W) (hBw : B <= w.heap.size) (hb : Below W.heap.size W W') : RegM w B p1 p2 p3 p4 X1 X2 X3 X4 W' := by
  obtain ⟨h0, h1, h2, h3, h4⟩ := h
  exact ⟨h0.trans (hb.mono (Nat.le_trans hBw h0.size)), (hb.block _ (some_lt h1)).trans h1, (hb.block _ (some_lt h2)).trans h2, (hb.block _ (some_lt h3)).trans h3, (hb.block _ (some_lt h4)).trans h4⟩
theorem RegM.drew {w W : World} {B p1 p2 p3 p4 : Nat} {X1 X2 X3 X4 : Array Value} (h : RegM w B p1 p2 p3 p4 X1 X2 X3 X4 W) : RegM w B p1 p2 p3 p4 X1 X2 X3 X4 W.drew := ⟨below_drawn h.1 1, h.2⟩
theorem RegM.store {w W : World} {B p1 p2 p3 p4 : Nat} {X1 X2 X3 X4 : Array Value} (h : RegM w B p1 p2 p3 p4 X1 X2 X3 X4 W) (d : Nat) (hd : B <= d) (e1 : p1 ≠ d) (e2 : p2 ≠ d) (e3 : p3 ≠ d) (e4 : p4 ≠ d) (cs : Array Value) : RegM w B p1 p2 p3 p4 X1 X2 X3 X4 (W.setRow d cs) := by
  obtain ⟨h0, h1, h2, h3, h4⟩ := h
  exact ⟨below_setRow h0 hd _, (setRow_other _ _ _ _ e1).trans h1, (setRow_other _ _ _ _ e2).trans h2, (setRow_other _ _ _ _ e3).trans h3, (setRow_other _ _ _ _ e4).trans h4⟩
theorem range2 {w : World} {b : Nat} {x0 x1 : Value} {t : TypeId} {fr : Nat × Nat} (h : w.heap[b]? = some (.cells #[x0, x1] t fr)) : w.rangeAt b 0 [x0, x1] := by
  intro j v hj
  rw [cell_of_row _ _ _ _ _ _ h]
  match j with
  | 0 => simpa using hj
  | 1 => simpa using hj
  | j + 2 => simp at hj
theorem rows3 (w : World) (X Y Z : Array Value) (t : TypeId) : Below w.heap.size w (((w.alloc (.cells X t)).alloc (.cells Y t)).alloc (.cells Z t)) /\ (((w.alloc (.cells X t)).alloc (.cells Y t)).alloc (.cells Z t)).heap[w.heap.size]? = some (.cells X t (0, 0)) /\ (((w.alloc (.cells X t)).alloc (.cells Y t)).alloc (.cells Z t)).heap[w.heap.size + 1]? = some (.cells Y t (0, 0)) /\ (((w.alloc (.cells X t)).alloc (.cells Y t)).alloc (.cells Z t)).heap[w.heap.size + 2]? = some (.cells Z t (0, 0)) /\ (((w.alloc (.cells X t)).alloc (.cells Y t)).alloc (.cells Z t)).heap.size = w.heap.size + 3 := by
  refine ⟨(((Below.refl _ _).alloc (Nat.le_refl _) _).alloc (by simp) _).alloc (by simp; omega) _, ?_, ?_, ?_, by simp⟩
  · rw [Below.heap_alloc _ _ _ (by simp; omega), Below.heap_alloc _ _ _ (by simp)]; exact heap_alloc_new w _
  · rw [Below.heap_alloc _ _ _ (by simp)]
    have := heap_alloc_new (w.alloc (.cells X t)) (.cells Y t)
    rwa [show (w.alloc (.cells X t)).heap.size = w.heap.size + 1 by simp] at this
  · have := heap_alloc_new ((w.alloc (.cells X t)).alloc (.cells Y t)) (.cells Z t)
    rwa [show ((w.alloc (.cells X t)).alloc (.cells Y t)).heap.size = w.heap.size + 2 by simp] at this
theorem rows2 (w : World) (X Y : Array Value) (t : TypeId) : Below w.heap.size w ((w.alloc (.cells X t)).alloc (.cells Y t)) /\ ((w.alloc (.cells X t)).alloc (.cells Y t)).heap[w.heap.size]? = some (.cells X t (0, 0)) /\ ((w.alloc (.cells X t)).alloc (.cells Y t)).heap[w.heap.size + 1]? = some (.cells Y t (0, 0)) /\ ((w.alloc (.cells X t)).alloc (.cells Y t)).heap.size = w.heap.size + 2 := by
  refine ⟨((Below.refl _ _).alloc (Nat.le_refl _) _).alloc (by simp) _, ?_, ?_, by simp⟩
  · rw [Below.heap_alloc _ _ _ (by simp)]; exact heap_alloc_new w _
  · have := heap_alloc_new (w.alloc (.cells X t)) (.cells Y t)
    rwa [show (w.alloc (.cells X t)).heap.size = w.heap.size + 1 by simp] at this
section
variable (w : World)
theorem mul_rat (k1 j1 k2 j2 : Nat) (u v : Value) (N1 D1 N2 D2 : Int) (hk : k1 + k2 <= 100000) (hj : j1 + j2 <= 100000) (hD1 : D1 ≠ 0) (hD2 : D2 ≠ 0) (hlo : -1000000000 < D1 * D2) (hhi : D1 * D2 < 1000000000) (hu : RI w w.heap.size k1 j1 u N1 D1) (hv : RI w w.heap.size k2 j2 v N2 D2) :
    Calls Tryz.prog 12 #[u, v] w fun e w' => (∃ r, e = .returned r /\ RI w' w'.heap.size (k1 + k2) 1 r (Int.tdiv (N1 * N2) (redBy (N1 * N2) (D1 * D2))) (Int.tdiv (D1 * D2) (redBy (N1 * N2) (D1 * D2)))) /\ Below w.heap.size w w' := by
  obtain ⟨g1, A1, n1, c1, g2, A2, n2, c2, rfl⟩ := hu.open
  obtain ⟨g3, A3, n3, c3, g4, A4, n4, c4, rfl⟩ := hv.open
  obtain ⟨hB0, hb0, hb1, hb2, hz⟩ := rows3 w #[.bool g1, .slice A1 n1 c1, .bool g2, .slice A2 n2 c2] #[.bool g3, .slice A3 n3 c3, .bool g4, .slice A4 n4 c4] #[.bool false, .slice none 0 0, .bool false, .slice none 0 0] 41
  obtain ⟨W1, hW1⟩ : ∃ W1, W1 = (((w.alloc (.cells #[.bool g1, .slice A1 n1 c1, .bool g2, .slice A2 n2 c2] 41)).alloc (.cells #[.bool g3, .slice A3 n3 c3, .bool g4, .slice A4 n4 c4] 41)).alloc (.cells #[.bool false, .slice none 0 0, .bool false, .slice none 0 0] 41)) := ⟨_, rfl⟩
  rw [<- hW1] at hB0 hb0 hb1 hb2 hz
  have HW := Lib.hid hW1
  have Hz := Lib.hid hz
  have Hb1 := Lib.hid hb1
  have Hb2 := Lib.hid hb2
  have HD : Hid (D1 * D2 ≠ 0) := by show _ ≠ _; exact Int.mul_ne_zero hD1 hD2
  have Ht : Hid (-1000000000 ^ 1 < D1 * D2 /\ D1 * D2 < 1000000000 ^ 1) := by show _ /\ _; rw [Int.pow_succ, Int.pow_zero]; omega
  have HD1 := Lib.hid hD1
  have HD2 := Lib.hid hD2
  have x0 := cell_of_row _ _ 0 _ _ _ hb0
  have x1 := cell_of_row _ _ 1 _ _ _ hb0
  have x2 := cell_of_row _ _ 2 _ _ _ hb0
  have x3 := cell_of_row _ _ 3 _ _ _ hb0
  simp at x0 x1 x2 x3
  have s1 : w.heap.size < W1.heap.size := by omega
  clear hW1 hz hb0 hb1 hb2 hD1 hD2 hlo hhi
  go_enter Tryz.func12, Tryz.ntmps12
  go_upto_region 1 with (fail)
  rw [<- HW.out]
  go_wp2_with (fail)
  refine (parts_any W1 k1 j1 _ N1 D1 HD1.out (hu.at_ hB0)).mono ?_
  rintro e W2 ⟨⟨a1, B1, m1, d1, a2, B2, m2, d2, rfl, hp1, hp2⟩, hB2⟩
  have hsz2 := hB2.size
  have hq1 := Hz.out
  have hBw2 := hB0.trans (hB2.mono hB0.size)
  have Hc1 := Lib.hid (gbox Hb1.out hB2 (by omega))
  have Hc2 := Lib.hid (gbox Hb2.out hB2 (by omega))
  have s2 : w.heap.size + 1 < W2.heap.size := by omega
  have s3 : w.heap.size + 2 < W2.heap.size := by omega
  obtain ⟨hBa, hra1, hra2, hza⟩ := rows2 W2 #[.bool a1, .slice B1 m1 d1] #[.bool a2, .slice B2 m2 d2] 39
  have hBwa := hBw2.trans (hBa.mono hBw2.size)
  obtain ⟨Wa, hWa⟩ : ∃ Wa, Wa = ((W2.alloc (.cells #[.bool a1, .slice B1 m1 d1] 39)).alloc (.cells #[.bool a2, .slice B2 m2 d2] 39)) := ⟨_, rfl⟩
  have hy := gbox Hc1.out hBa s2
  rw [<- hWa] at hBa hra1 hra2 hza hBwa hy
  have Hra1 := Lib.hid hra1
  have Hra2 := Lib.hid hra2
  have Hza := Lib.hid hza
  have HWa := Lib.hid hWa
  have y0 := cell_of_row _ _ 0 _ _ _ hy
  have y1 := cell_of_row _ _ 1 _ _ _ hy
  have y2 := cell_of_row _ _ 2 _ _ _ hy
  have y3 := cell_of_row _ _ 3 _ _ _ hy
  simp at y0 y1 y2 y3
  have s4 : w.heap.size + 1 < Wa.heap.size := by omega
  clear x0 x1 x2 x3 hra1 hra2 hza hWa hy
  go_upto_region 2 with (fail)
  rw [<- HWa.out]
  go_wp2_with (fail)
  refine (parts_any Wa k2 j2 _ N2 D2 HD2.out (hv.at_ hBwa)).mono ?_
  rintro e W3 ⟨⟨a3, B3, m3, d3, a4, B4, m4, d4, rfl, hp3, hp4⟩, hB3⟩
  have hza := Hza.out
  have hsz3 := hB3.size
  have hBw3 := hBwa.trans (hB3.mono hBwa.size)
  have hr1 := gbox Hra1.out hB3 (by omega)
  have hr2 := gbox Hra2.out hB3 (by omega)
  have hd3 := gbox (gbox Hc2.out hBa s3) hB3 (by omega)
  obtain ⟨hBb, hrb1, hrb2, hzb⟩ := rows2 W3 #[.bool a3, .slice B3 m3 d3] #[.bool a4, .slice B4 m4 d4] 39
  have hBw4 := hBw3.trans (hBb.mono hBw3.size)
  have hq4 := gbox hr1 hBb (by omega)
  have hq5 := gbox hr2 hBb (by omega)
  have hd4 := gbox hd3 hBb (by omega)
  have hB24 := (hBa.trans (hB3.mono (by omega))).trans (hBb.mono (by omega))
  obtain ⟨W4, hW4⟩ : ∃ W4, W4 = ((W3.alloc (.cells #[.bool a3, .slice B3 m3 d3] 39)).alloc (.cells #[.bool a4, .slice B4 m4 d4] 39)) := ⟨_, rfl⟩
  rw [<- hW4] at hBb hrb1 hrb2 hzb hBw4 hq4 hq5 hd4 hB24
  have hS0 : RegM w w.heap.size W2.heap.size (W2.heap.size + 1) W3.heap.size (W3.heap.size + 1) #[.bool a1, .slice B1 m1 d1] #[.bool a2, .slice B2 m2 d2] #[.bool a3, .slice B3 m3 d3] #[.bool a4, .slice B4 m4 d4] W4 := ⟨hBw4, hq4, hq5, hrb1, hrb2⟩
  have hS := hS0.drew
  have HW4 := Lib.hid hW4
  have Hd4 := Lib.hid hd4
  have hN1 := hp1.at_ (below_drawn hB24 1)
  have hM1 := hp2.at_ (below_drawn hB24 1)
  have hN2 := hp3.at_ (below_drawn hBb 1)
  have hM2 := hp4.at_ (below_drawn hBb 1)
  clear hW4 hd4 hrb1 hrb2 hq4 hq5 hr1 hr2 hd3 y0 y1 y2 y3
  go_upto_region 3 with (fail)
  rw [<- HW4.out]
  refine wp_region_held (S := RegM w w.heap.size W2.heap.size (W2.heap.size + 1) W3.heap.size (W3.heap.size + 1) #[.bool a1, .slice B1 m1 d1] #[.bool a2, .slice B2 m2 d2] #[.bool a3, .slice B3 m3 d3] #[.bool a4, .slice B4 m4 d4]) (by kernel_rfl) ?_
  change wpAnyH _ _ _ _ _ _ _ _ (World.drew _)
  refine wpAnyH_take (i := 0) (v := .agg #[.bool a1, .slice B1 m1 d1]) rfl (by kernel_rfl) (by kernel_rfl) (by kernel_rfl) (fun _ _ _ h => h) (yieldsIf_load_mid (by rfl) 39 _ rfl W2.heap.size 0 rfl [.bool a1, .slice B1 m1 d1] _ (fun W' hS' => range2 hS'.2.1) Tryz.underlying39 rfl intSize) hS ?_
  try simp only [Act.put, z]
  refine wpAnyH_take (i := 1) (v := .agg #[.bool a3, .slice B3 m3 d3]) rfl (by kernel_rfl) (by kernel_rfl) (by kernel_rfl) (fun _ _ _ h => h) (yieldsIf_load_mid (by rfl) 39 _ rfl W3.heap.size 0 rfl [.bool a3, .slice B3 m3 d3] _ (fun W' hS' => range2 hS'.2.2.2.1) Tryz.underlying39 rfl intSize) hS ?_
  try simp only [Act.put, z]
  refine wpAnyH_take (i := 3) (v := .agg #[.bool a2, .slice B2 m2 d2]) rfl (by kernel_rfl) (by kernel_rfl) (by kernel_rfl) (fun _ _ _ h => h) (yieldsIf_load_mid (by rfl) 39 _ rfl (W2.heap.size + 1) 0 rfl [.bool a2, .slice B2 m2 d2] _ (fun W' hS' => range2 hS'.2.2.1) Tryz.underlying39 rfl intSize) hS ?_
  try simp only [Act.put, z]
  refine wpAnyH_take (i := 4) (v := .agg #[.bool a4, .slice B4 m4 d4]) rfl (by kernel_rfl) (by kernel_rfl) (by kernel_rfl) (fun _ _ _ h => h) (yieldsIf_load_mid (by rfl) 39 _ rfl (W3.heap.size + 1) 0 rfl [.bool a4, .slice B4 m4 d4] _ (fun W' hS' => range2 hS'.2.2.2.2) Tryz.underlying39 rfl intSize) hS ?_
  try simp only [Act.put, z]
  refine wpAnyH_ready (rs := [2]) (by kernel_rfl) (by simp) (AllReadyH.cons rfl (fun K hK => ?_) AllReadyH.nil)
  go_simp
  refine (mul_int W4.drew k1 k2 _ _ N1 N2 (by omega) (by omega) hN1 hN2).mono ?_
  rintro e W5 ⟨⟨r5, rfl, hr5⟩, hB5⟩
  obtain ⟨g5, A5, n5, c5, rfl⟩ := hr5.open
  have hS5 := hS.step (Nat.le_refl _) hB5
  refine hK.out _ _ hS5 (fun _ => ?_)
  clear hK K
  try simp only [Act.put, z]
  refine wpAnyH_ready (rs := [5]) (by kernel_rfl) (by simp) (AllReadyH.cons rfl (fun K hK => ?_) AllReadyH.nil)
  go_simp
  refine (mul_int W5 j1 j2 _ _ D1 D2 (by omega) (by omega) (hM1.at_ hB5) (hM2.at_ hB5)).mono ?_
  rintro e W6 ⟨⟨r6, rfl, hr6⟩, hB6⟩
  obtain ⟨g6, A6, n6, c6, rfl⟩ := hr6.open
  have hS6 := hS5.step (Nat.le_refl _) hB6
  refine hK.out _ _ hS6 (fun _ => ?_)
  clear hK K
  try simp only [Act.put, z]
  refine wpAnyH_take (i := 6) (v := .agg #[.bool g5, .slice A5 n5 c5, .bool g6, .slice A6 n6 c6]) rfl (by kernel_rfl) (by kernel_rfl) (by kernel_rfl) (fun _ _ _ h => h) (.inl ⟨by rfl, fun W' hS' => by go_simp⟩) hS6 ?_
  try simp only [Act.put, z]
  refine wpAnyH_ready (rs := [7]) (by kernel_rfl) (by simp) (AllReadyH.cons rfl (fun K hK => ?_) AllReadyH.nil)
  go_simp
  refine (reduced_any W6 (k1 + k2) _ (N1 * N2) (D1 * D2) hk HD.out ⟨g5, A5, n5, c5, g6, A6, n6, c6, rfl, hr5.at_ hB6, hr6.tight Ht.out.1 Ht.out.2⟩).mono ?_
  rintro e W7 ⟨⟨r7, rfl, hr7⟩, hB7⟩
  obtain ⟨g7, A7, n7, c7, g8, A8, n8, c8, rfl⟩ := hr7.open
  have hS7 := hS6.step (Nat.le_refl _) hB7
  refine hK.out _ _ hS7 (fun _ => ?_)
  clear hK K
  try simp only [Act.put, z]
  have hz5 := hB5.size
  have hz6 := hB6.size
  have hz5' : W4.heap.size <= W5.heap.size := hz5
  have hd4 : W4.drew.heap[w.heap.size + 2]? = some (.cells #[.bool false, .slice none 0 0, .bool false, .slice none 0 0] 41 (0, 0)) := Hd4.out
  have hd7 := gbox (gbox (gbox hd4 hB5 (by show _ < W4.heap.size; omega)) hB6 (by omega)) hB7 (by omega)
  refine wpAnyH_ready (rs := [8]) (by kernel_rfl) (by simp) (AllReadyH.cons rfl (fun K hK => ?_) AllReadyH.nil)
  rw [if_pos (by rfl)]
  refine wp_store_row 41 _ _ none rfl rfl (w.heap.size + 2) 41 _ #[.bool g7, .slice A7 n7 c7, .bool g8, .slice A8 n8 c8] rfl rfl hd7 rfl ratSize (by simp [Value.oneCell']) ?_
  have hR8 := setRow_heap W7 (w.heap.size + 2) _ #[.bool g7, .slice A7 n7 c7, .bool g8, .slice A8 n8 c8] _ _ hd7
  have hS8 := hS7.store (w.heap.size + 2) (by omega) (by omega) (by omega) (by omega) (by omega) #[.bool g7, .slice A7 n7 c7, .bool g8, .slice A8 n8 c8]
  refine hK.out _ _ hS8 (fun _ => ?_)
  clear hK K
  try simp only [Act.put, z]
  refine wpAnyH_done (by kernel_rfl) ?_ _
  have hload := run_loadVar_row (P := Tryz.prog) _ _ _ 41 _ _ _ hR8 Tryz.underlying41 rfl ratSize
  have hp := (hr7.other (w' := W7.setRow (w.heap.size + 2) #[.bool g7, .slice A7 n7 c7, .bool g8, .slice A8 n8 c8]) hd7 zero_none (fun c hc => setRow_other _ _ _ _ hc)).more (C := (W7.setRow (w.heap.size + 2) #[.bool g7, .slice A7 n7 c7, .bool g8, .slice A8 n8 c8]).heap.size) (by simp) (Nat.le_refl _) (Nat.le_refl _)
  go_wp2
  exact bodyPost_ret (v := .agg #[.bool g7, .slice A7 n7 c7, .bool g8, .slice A8 n8 c8]) (by simp [results, Tryz.results12, asAddr, Act.put, hload]) rfl ⟨⟨_, rfl, hp⟩, hS8.1⟩
end
end Go.Proofs.YtalfikdjclineaaGreatDoor
