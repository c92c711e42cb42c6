/- My texts RefRatOf, RefParts. -/
import Derived.Test.YtalfikdjclineaaGreatDoorG31
set_option linter.unusedVariables false
set_option linter.unusedSimpArgs false
set_option maxRecDepth 100000
set_option maxHeartbeats 8000000
namespace Go.Proofs.YtalfikdjclineaaGreatDoor
namespace R1
open Go.RowKit
section
variable (w : World)
theorem ratof_any (n m : Int) (hn0 : -9223372036854775808 <= n) (hn1 : n <= 9223372036854775807) (hm0 : 0 < m) (hm1 : m <= 9223372036854775807) :
    Calls Tryz.prog 20 #[.int .i64 n, .int .i64 m] w fun e w' => (∃ r, e = .returned (.tuple #[r, .int .i64 0]) /\ RI w' w'.heap.size 5 5 r (Int.tdiv n (Int.gcd n m)) (Int.tdiv m (Int.gcd n m))) /\ Below w.heap.size w w' := by
  obtain ⟨hB0, hb0, hz⟩ := row_new w #[.bool false, .slice none 0 0, .bool false, .slice none 0 0] 49
  obtain ⟨W1, hW1⟩ : ∃ W1, W1 = (w.alloc (.cells #[.bool false, .slice none 0 0, .bool false, .slice none 0 0] 49)) := ⟨_, rfl⟩
  rw [<- hW1] at hB0 hb0 hz
  have HW := Lib.hid hW1
  have Hb0 := Lib.hid hb0
  have s1 : w.heap.size < W1.heap.size := by omega
  clear hW1 hz hb0
  go_enter Tryz.func20, Tryz.ntmps20
  go_upto_region 1 with (fail)
  rw [<- HW.out]
  go_wp2_with (fail)
  refine (of_int W1 n hn0 hn1).mono ?_
  rintro e W2 ⟨⟨r2, rfl, hr2⟩, hB2⟩
  go_wp2_with (fail)
  refine (of_int W2 m (by omega) (by omega)).mono ?_
  rintro e W3 ⟨⟨r3, rfl, hr3⟩, hB3⟩
  go_wp2_with (fail)
  refine (new_any W3 5 5 _ _ n m (by omega) (by omega) (by omega) (hr2.at_ hB3) hr3).mono ?_
  rintro e W4 ⟨⟨r4, rfl, hr4⟩, hB4⟩
  obtain ⟨g3, A3, n3, c3, g4, A4, n4, c4, rfl⟩ := hr4.open
  have hB02 := hB0.trans (hB2.mono hB0.size)
  have hB03 := hB02.trans (hB3.mono hB02.size)
  have hBw := hB03.trans (hB4.mono hB03.size)
  have hd2 := gbox Hb0.out hB2 s1
  have hd3 := gbox hd2 hB3 (some_lt hd2)
  have hd4 := gbox hd3 hB4 (some_lt hd3)
  have Hd4 := Lib.hid hd4
  have Ho := Lib.hid (one4 g3 A3 n3 c3 g4 A4 n4 c4)
  have hR := setRow_heap W4 w.heap.size _ #[.bool g3, .slice A3 n3 c3, .bool g4, .slice A4 n4 c4] _ _ hd4
  have hload := Lib.hid (run_loadVar_row (P := Tryz.prog) _ _ _ 49 _ _ _ hR Tryz.underlying49 rfl ratSize)
  have hPF := Lib.hid ((hr4.other (w' := W4.setRow w.heap.size #[.bool g3, .slice A3 n3 c3, .bool g4, .slice A4 n4 c4]) hd4 (no_int4 _ _ _ _ _ _ _ _) (fun c hc => setRow_other _ _ _ _ hc)).more (C := (W4.setRow w.heap.size #[.bool g3, .slice A3 n3 c3, .bool g4, .slice A4 n4 c4]).heap.size) (by simp) (Nat.le_refl _) (Nat.le_refl _))
  have hBF := Lib.hid (below_setRow hBw (Nat.le_refl _) #[.bool g3, .slice A3 n3 c3, .bool g4, .slice A4 n4 c4])
  clear hd2 hd3 hd4 hR
  go_wp2_with (refine wpList_store_row rfl 49 (.tmp 4) (.tmp 11) none rfl rfl w.heap.size 49 _ #[.bool g3, .slice A3 n3 c3, .bool g4, .slice A4 n4 c4] rfl rfl Hd4.out rfl ratSize Ho.out ?_)
  exact bodyPost_ret (v := .tuple #[.agg #[.bool g3, .slice A3 n3 c3, .bool g4, .slice A4 n4 c4], .int .i64 0]) (by simp [results, Tryz.results20, asAddr, Act.put, hload.out]) rfl ⟨⟨_, rfl, hPF.out⟩, hBF.out⟩
end
end R1
end Go.Proofs.YtalfikdjclineaaGreatDoor
namespace Go.Proofs.YtalfikdjclineaaGreatDoor
namespace R1
open Go.RowKit

def RegP (w : World) (X : Array Value) (W' : World) : Prop :=
  Below w.heap.size w W' /\ W'.heap[w.heap.size]? = some (.cells X 49 (0, 0)) /\ (∃ cs : Array Value, W'.heap[w.heap.size + 1]? = some (.cells cs 47 (0, 0)) /\ cs.size = 2) /\ ∃ cs : Array Value, W'.heap[w.heap.size + 2]? = some (.cells cs 47 (0, 0)) /\ cs.size = 2
theorem RegP.lt {w W : World} {X : Array Value} (h : RegP w X W) : w.heap.size + 2 < W.heap.size := by
  obtain ⟨_, _, _, cs, h, _⟩ := h
  exact (Array.getElem?_eq_some_iff.1 h).1
theorem RegP.step {w W W' : World} {X : Array Value} (h : RegP w X W) (hb : Below W.heap.size W W') : RegP w X W' := by
  have hlt := h.lt
  obtain ⟨h1, h2, ⟨cs, h4, h5⟩, ds, h6, h7⟩ := h
  exact ⟨h1.trans (hb.mono h1.size), (hb.block _ (by omega)).trans h2, ⟨cs, (hb.block _ (by omega)).trans h4, h5⟩, ds, (hb.block _ hlt).trans h6, h7⟩
theorem RegP.drew {w W : World} {X : Array Value} (h : RegP w X W) : RegP w X W.drew := ⟨below_drawn h.1 1, h.2⟩
theorem RegP.store1 {w W : World} {X : Array Value} (h : RegP w X W) (cs : Array Value) (hc : cs.size = 2) : RegP w X (W.setRow (w.heap.size + 1) cs) := by
  obtain ⟨h1, h2, ⟨ds, h4, h5⟩, es, h6, h7⟩ := h
  exact ⟨below_setRow h1 (by omega) _, (setRow_other _ _ _ _ (by omega)).trans h2, ⟨cs, setRow_heap _ _ _ _ _ _ h4, hc⟩, es, (setRow_other _ _ _ _ (by omega)).trans h6, h7⟩
theorem RegP.store2 {w W : World} {X : Array Value} (h : RegP w X W) (cs : Array Value) (hc : cs.size = 2) : RegP w X (W.setRow (w.heap.size + 2) cs) := by
  obtain ⟨h1, h2, ⟨ds, h4, h5⟩, es, h6, h7⟩ := h
  exact ⟨below_setRow h1 (by omega) _, (setRow_other _ _ _ _ (by omega)).trans h2, ⟨ds, (setRow_other _ _ _ _ (by omega)).trans h4, h5⟩, cs, setRow_heap _ _ _ _ _ _ h6, hc⟩
theorem RegP.start (w : World) (X : Array Value) : RegP w X (((w.alloc (.cells X 49)).alloc (.cells #[.bool false, .slice none 0 0] 47)).alloc (.cells #[.bool false, .slice none 0 0] 47)) := by
  refine ⟨(((Below.refl _ _).alloc (Nat.le_refl _) _).alloc (by simp) _).alloc (by simp; omega) _, ?_, ⟨#[.bool false, .slice none 0 0], ?_, rfl⟩, #[.bool false, .slice none 0 0], ?_, rfl⟩
  · rw [Below.heap_alloc _ _ _ (by simp; omega), Below.heap_alloc _ _ _ (by simp)]; exact heap_alloc_new w _
  · rw [Below.heap_alloc _ _ _ (by simp)]
    have := heap_alloc_new (w.alloc (.cells X 49)) (.cells #[.bool false, .slice none 0 0] 47)
    rwa [show (w.alloc (.cells X 49)).heap.size = w.heap.size + 1 by simp] at this
  · have := heap_alloc_new ((w.alloc (.cells X 49)).alloc (.cells #[.bool false, .slice none 0 0] 47)) (.cells #[.bool false, .slice none 0 0] 47)
    rwa [show ((w.alloc (.cells X 49)).alloc (.cells #[.bool false, .slice none 0 0] 47)).heap.size = w.heap.size + 2 by simp] at this
theorem range4 {w : World} {b : Nat} {x0 x1 x2 x3 : Value} {t : TypeId} {fr : Nat × Nat} (h : w.heap[b]? = some (.cells #[x0, x1, x2, x3] t fr)) : w.rangeAt b 0 [x0, x1] /\ w.rangeAt b 2 [x2, x3] := by
  constructor
  all_goals
    intro j v hj
    rw [cell_of_row _ _ _ _ _ _ h]
    match j with
    | 0 => simpa using hj
    | 1 => simpa using hj
    | j + 2 => simp at hj

def PartsPost (k j : Nat) (N D : Int) (w : World) (e : Ending) (w' : World) : Prop :=
  (∃ g1 A1 n1 c1 g2 A2 n2 c2, e = .returned (.tuple #[.agg #[.bool g1, .slice A1 n1 c1], .agg #[.bool g2, .slice A2 n2 c2]]) /\ PI w' w'.heap.size k (.agg #[.bool g1, .slice A1 n1 c1]) N /\ PI w' w'.heap.size j (.agg #[.bool g2, .slice A2 n2 c2]) D) /\ Below w.heap.size w w'
section
variable (w : World)
theorem parts_any (k j : Nat) (v : Value) (N D : Int) (hD : D ≠ 0) (h : RI w w.heap.size k j v N D) :
    Calls Tryz.prog 25 #[v] w (PartsPost k j N D w) := by
  obtain ⟨g1, A1, n1, c1, g2, A2, n2, c2, rfl, hN, hDp⟩ := h
  have hS0 := RegP.start w #[.bool g1, .slice A1 n1 c1, .bool g2, .slice A2 n2 c2]
  obtain ⟨W1, hW1⟩ : ∃ W1, W1 = (((w.alloc (.cells #[.bool g1, .slice A1 n1 c1, .bool g2, .slice A2 n2 c2] 49)).alloc (.cells #[.bool false, .slice none 0 0] 47)).alloc (.cells #[.bool false, .slice none 0 0] 47)) := ⟨_, rfl⟩
  rw [<- hW1] at hS0
  have HW := Lib.hid hW1
  have hsg : (sg D == 0) = false := by simp [sg_pos.2.2]; exact hD
  have hlt0 := hS0.lt
  have x2 := cell_of_row _ _ 2 _ _ _ hS0.2.1
  have x3 := cell_of_row _ _ 3 _ _ _ hS0.2.1
  simp at x2 x3
  clear hW1 hD
  go_enter Tryz.func25, Tryz.ntmps25
  go_upto_region 1 with (fail)
  rw [<- HW.out]
  go_wp2_with (fail)
  refine (sign_any W1 j _ D (hDp.at_ hS0.1)).mono ?_
  rintro e W2 ⟨rfl, hB2⟩
  have hS2 := hS0.step hB2
  have hS := hS2.drew
  clear x2 x3
  go_upto_region 3 with (fail)
  refine wp_region_held (S := RegP w #[.bool g1, .slice A1 n1 c1, .bool g2, .slice A2 n2 c2]) (by kernel_rfl) ?_
  change wpAnyH _ _ _ _ _ _ _ _ (World.drew _)
  refine wpAnyH_take (i := 0) (v := .pointer (some ⟨w.heap.size, 0, none⟩)) rfl (by kernel_rfl) (by kernel_rfl) (by kernel_rfl) (fun _ _ _ h => h) (.inl ⟨by rfl, fun W' hS' => by go_simp⟩) hS ?_
  try simp only [Act.put, z]
  refine wpAnyH_take (i := 1) (v := .agg #[.bool g1, .slice A1 n1 c1]) rfl (by kernel_rfl) (by kernel_rfl) (by kernel_rfl) (fun _ _ _ h => h) (yieldsIf_load_mid (by rfl) 47 _ rfl w.heap.size 0 rfl [.bool g1, .slice A1 n1 c1] _ (fun W' hS' => (range4 hS'.2.1).1) Tryz.underlying47 rfl intSize) hS ?_
  try simp only [Act.put, z]
  refine wpAnyH_take (i := 2) (v := .pointer (some ⟨w.heap.size, 2, none⟩)) rfl (by kernel_rfl) (by kernel_rfl) (by kernel_rfl) (fun _ _ _ h => h) (.inl ⟨by rfl, fun W' hS' => by go_simp⟩) hS ?_
  try simp only [Act.put, z]
  refine wpAnyH_take (i := 3) (v := .agg #[.bool g2, .slice A2 n2 c2]) rfl (by kernel_rfl) (by kernel_rfl) (by kernel_rfl) (fun _ _ _ h => h) (yieldsIf_load_mid (by rfl) 47 _ rfl w.heap.size 2 rfl [.bool g2, .slice A2 n2 c2] _ (fun W' hS' => (range4 hS'.2.1).2) Tryz.underlying47 rfl intSize) hS ?_
  try simp only [Act.put, z]
  refine wpAnyH_ready (rs := [4]) (by kernel_rfl) (by simp) (AllReadyH.cons rfl (fun K hK => ?_) AllReadyH.nil)
  rw [if_pos (by rfl)]
  obtain ⟨cs, hcs, hcs2⟩ := hS.2.2.1
  refine wp_store_row 47 _ _ none rfl rfl (w.heap.size + 1) 47 cs #[.bool g1, .slice A1 n1 c1] rfl rfl hcs hcs2 intSize (by simp [Value.oneCell']) ?_
  have hR1 := setRow_heap W2.drew (w.heap.size + 1) cs #[.bool g1, .slice A1 n1 c1] _ _ hcs
  have hS3 := hS.store1 #[.bool g1, .slice A1 n1 c1] rfl
  refine hK.out _ _ hS3 (fun _ => ?_)
  clear hK K
  try simp only [Act.put, z]
  refine wpAnyH_ready (rs := [5]) (by kernel_rfl) (by simp) (AllReadyH.cons rfl (fun K hK => ?_) AllReadyH.nil)
  rw [if_pos (by rfl)]
  obtain ⟨ds, hds, hds2⟩ := hS3.2.2.2
  refine wp_store_row 47 _ _ none rfl rfl (w.heap.size + 2) 47 ds #[.bool g2, .slice A2 n2 c2] rfl rfl hds hds2 intSize (by simp [Value.oneCell']) ?_
  have hR2 := setRow_heap (W2.drew.setRow (w.heap.size + 1) #[.bool g1, .slice A1 n1 c1]) (w.heap.size + 2) ds #[.bool g2, .slice A2 n2 c2] _ _ hds
  have hR1' := (setRow_other (W2.drew.setRow (w.heap.size + 1) #[.bool g1, .slice A1 n1 c1]) (w.heap.size + 2) (w.heap.size + 1) #[.bool g2, .slice A2 n2 c2] (by omega)).trans hR1
  have hS4 := hS3.store2 #[.bool g2, .slice A2 n2 c2] rfl
  refine hK.out _ _ hS4 (fun _ => ?_)
  clear hK K
  try simp only [Act.put, z]
  refine wpAnyH_done (by kernel_rfl) ?_ _
  have hload1 := run_loadVar_row (P := Tryz.prog) _ _ _ 47 _ _ _ hR1' Tryz.underlying47 rfl intSize
  have hload2 := run_loadVar_row (P := Tryz.prog) _ _ _ 47 _ _ _ hR2 Tryz.underlying47 rfl intSize
  go_wp2
  exact bodyPost_ret (v := .tuple #[.agg #[.bool g1, .slice A1 n1 c1], .agg #[.bool g2, .slice A2 n2 c2]]) (by simp [results, Tryz.results25, asAddr, Act.put, hload1, hload2]) rfl ⟨⟨g1, A1, n1, c1, g2, A2, n2, c2, rfl, hN.at_ hS4.1, hDp.at_ hS4.1⟩, hS4.1⟩
end
end R1
end Go.Proofs.YtalfikdjclineaaGreatDoor
