/- My texts RatRed. -/
import Derived.Test.YtalfikdjclineaaGreatDoorG09
set_option linter.unusedVariables false
set_option linter.unusedSimpArgs false
set_option maxRecDepth 100000
set_option maxHeartbeats 8000000
namespace Go.Proofs.YtalfikdjclineaaGreatDoor
open Go.RowKit

theorem gbox {W W' : World} {B b : Nat} {O : Obj} (hG : W.heap[b]? = some O) (hB : Below B W W') (hb : b < B) : W'.heap[b]? = some O := (hB.block b hb).trans hG
def RI (w : World) (B k j : Nat) (v : Value) (N D : Int) : Prop :=
  ∃ (g1 : Bool) (A1 : Option Addr) (n1 c1 : Nat) (g2 : Bool) (A2 : Option Addr) (n2 c2 : Nat), v = .agg #[.bool g1, .slice A1 n1 c1, .bool g2, .slice A2 n2 c2] /\
    PI w B k (.agg #[.bool g1, .slice A1 n1 c1]) N /\ PI w B j (.agg #[.bool g2, .slice A2 n2 c2]) D
theorem PI.open {w : World} {B k : Nat} {u : Value} {z : Int} (h : PI w B k u z) : ∃ (g : Bool) (A : Option Addr) (n c : Nat), u = .agg #[.bool g, .slice A n c] := by
  obtain ⟨g, A, n, c, l, e, _⟩ := h
  exact ⟨g, A, n, c, e⟩
theorem RI.at_ {w w' : World} {k j : Nat} {v : Value} {N D : Int} (h : RI w w.heap.size k j v N D) (hb : Below w.heap.size w w') : RI w' w'.heap.size k j v N D := by
  obtain ⟨g1, A1, n1, c1, g2, A2, n2, c2, e, h1, h2⟩ := h
  exact ⟨g1, A1, n1, c1, g2, A2, n2, c2, e, h1.at_ hb, h2.at_ hb⟩
def redBy (N D : Int) : Int := if D < 0 then -(Int.gcd N D : Int) else (Int.gcd N D : Int)
theorem redBy_ne {N D : Int} (h : D ≠ 0) : redBy N D ≠ 0 := by
  have : 0 < Int.gcd N D := Int.gcd_pos_of_ne_zero_right _ h
  unfold redBy; split <;> omega
theorem gcd_le {N D : Int} (h : D ≠ 0) : (Int.gcd N D : Int) <= D.natAbs := by
  have h1 : Int.gcd N D ∣ D.natAbs := Nat.gcd_dvd_right _ _
  have := Nat.le_of_dvd (by omega) h1
  omega
theorem PI.bound {w : World} {B : Nat} {v : Value} {z : Int} (h : PI w B 1 v z) : (z.natAbs : Int) < 1000000000 := by
  obtain ⟨g, A, n, c, l, rfl, hl, hn, hc, hL, hN, hx, _, _⟩ := h.parts
  have h1 := Big.val_lt (B := 1000000000) (by omega) hL
  have h0 := Big.val_nonneg (B := 1000000000) (by omega) hL
  have h2 := Big.pow_le (B := 1000000000) (by omega) (show l.length <= 1 by omega)
  rw [Int.pow_succ, Int.pow_zero] at h2
  rw [hx]
  cases g <;> simp [Big.sgn] <;> omega

theorem PI.other {w w' : World} {B k b : Nat} {v : Value} {z : Int} {cs : Array Value} {t : TypeId} {fr : Nat × Nat} (h : PI w B k v z) (hb : w.heap[b]? = some (.cells cs t fr)) (hcs : ∀ (j : Nat) (n : Int), cs[j]? ≠ some (.int .u32 n)) (hw : ∀ c, c ≠ b -> w'.heap[c]? = w.heap[c]?) : PI w' B k v z := by
  obtain ⟨g, A, n, c, l, h1, h2, h3, h4, h5, h6, h7, h8, h9⟩ := h
  refine ⟨g, A, n, c, l, h1, h2, h3, h4, h5, h6, h7, h8, ?_⟩
  rcases h9 with h | ⟨d, o, e, hl, hc⟩
  · exact .inl h
  · rcases Nat.eq_zero_or_pos l.length with h0 | h0
    · exact .inl (List.length_eq_zero_iff.1 h0)
    · have hne : d ≠ b := by
        rintro rfl
        have := hc.1 0 h0
        rw [cell_of_row _ _ _ _ _ _ hb] at this
        exact hcs _ _ this
      exact .inr ⟨d, o, e, hl, fun j hj => (World.cell?_of_block (w := w) (hw d hne)).trans (hc.1 j hj), hc.2.of_block (hw d hne)⟩
theorem wpList_store_row {P : Program} {ops : Array Oper} {rest : List Oper} {o : Oper} {a : Act} {w : World} {Q : Exit -> Act -> World -> Prop} (hgd : o.guard = none) (ty : TypeId) (x y : Operand) (d : Option Tmp) (ho : o.op = .store ty x y) (hd : o.dst = d)
    (b : Nat) (t : TypeId) (old cells : Array Value) (hx : a.eval x = .pointer (some ⟨b, 0, none⟩)) (hy : a.eval y = .agg cells)
    (hg : w.heap[b]? = some (.cells old t (0, 0))) (hs : old.size = cells.size) (hi : (P.info? ty).map (·.size) = some cells.size) (h1 : cells.all (·.oneCell') = true)
    (h : wpList P ops Q rest (a.put d undef) (w.setRow b cells)) : wpList P ops Q (o :: rest) a w :=
  wpList_plain hgd fun _ hK => wp_store_row ty x y d ho hd b t old cells hx hy hg hs hi h1 (hK _ _ h)
theorem ratSize : (Tryz.prog.info? 41).map (·.size) = some 4 := by kernel_rfl
section
variable (w : World)
theorem neg_at (Bk k : Nat) (hBk : Bk <= w.heap.size) (v : Value) (z : Int) (hk : k <= 1000000) (h : PI w Bk k v z) :
    Calls Tryz.prog 54 #[v] w fun e w' => (∃ u, e = .returned u /\ PI w' Bk k u (-z)) /\ Below w.heap.size w w' := by
  obtain ⟨neg, A, n, c, l, rfl, hl, hn, hc, hL, hN, hz, hA, _⟩ := h.parts
  have E : Hid (-z = Big.sgn (!neg) (Big.val 1000000000 l)) := by show _ = _; rw [hz]; cases neg <;> simp [Big.sgn]
  have H := Lib.hid (((hA.more hBk).start (.cells #[.bool neg, .slice A n c] 39)).start (.cells #[.bool false, .slice none 0 0] 39))
  have hB0 := ((Below.refl w.heap.size w).alloc (Nat.le_refl _) (.cells #[.bool neg, .slice A n c] 39)).alloc (by simp) (.cells #[.bool false, .slice none 0 0] 39)
  have hZ := heap_alloc_new (w.alloc (.cells #[.bool neg, .slice A n c] 39)) (.cells #[.bool false, .slice none 0 0] 39)
  rw [show (w.alloc (.cells #[.bool neg, .slice A n c] 39)).heap.size = w.heap.size + 1 by simp] at hZ
  have hP := Lib.hid (PI.mk (neg := !neg) hl hn hc hL hA)
  clear hz hA h
  go_enter Tryz.func54, Tryz.ntmps54
  go_wp2_with (fail)
  refine (signed_any _ (!neg) A n c l hl (by omega) hc H.out).mono ?_
  rintro e w1 ⟨rfl, hB⟩
  have hq := hB.size
  simp at hq
  have hB1 := hB0.trans (hB.mono (by simp; omega))
  have hZ1 := (hB.block _ (by simp)).trans hZ
  have z0 := cell_of_row _ _ 0 _ _ _ hZ1
  have z1 := cell_of_row _ _ 1 _ _ _ hZ1
  have zf := fun j => frozen_of_row _ _ j _ _ hZ1
  simp at z0 z1
  clear hZ hZ1
  go_wp2
  have hBf := (hB1.setCell (p := ⟨w.heap.size + 1, 0, none⟩) (by simp) (.bool (!neg && decide (0 < (Big.trim l).length)))).setCell (p := ⟨w.heap.size + 1, 1, none⟩) (by simp) (.slice A (Big.trim l).length c)
  refine bodyPost_ret (v := .agg #[.bool (!neg && decide (0 < (Big.trim l).length)), .slice A (Big.trim l).length c]) (by simp [results, Tryz.results54, go_sem, z0, z1]) rfl ⟨⟨_, rfl, ?_⟩, hBf⟩
  rw [E.out]
  exact hP.out.below hBf hBk

theorem reduced_any (k : Nat) (v : Value) (N D : Int) (hk : k <= 100000) (hD : D ≠ 0) (h : RI w w.heap.size k 1 v N D) :
    Calls Tryz.prog 28 #[v] w fun e w' => (∃ r, e = .returned r /\ RI w' w'.heap.size k 1 r (Int.tdiv N (redBy N D)) (Int.tdiv D (redBy N D))) /\ Below w.heap.size w w' := by
  obtain ⟨g1, A1, n1, c1, g2, A2, n2, c2, rfl, hN, hDp⟩ := h
  have hB0 := ((Below.refl w.heap.size w).alloc (Nat.le_refl _) (.cells #[.bool g1, .slice A1 n1 c1, .bool g2, .slice A2 n2 c2] 41)).alloc (by simp) (.cells #[.bool false, .slice none 0 0, .bool false, .slice none 0 0] 41)
  have hX := (Below.heap_alloc (w.alloc (.cells #[.bool g1, .slice A1 n1 c1, .bool g2, .slice A2 n2 c2] 41)) (.cells #[.bool false, .slice none 0 0, .bool false, .slice none 0 0] 41) w.heap.size (by simp)).trans (heap_alloc_new w (.cells #[.bool g1, .slice A1 n1 c1, .bool g2, .slice A2 n2 c2] 41))
  have hZ := heap_alloc_new (w.alloc (.cells #[.bool g1, .slice A1 n1 c1, .bool g2, .slice A2 n2 c2] 41)) (.cells #[.bool false, .slice none 0 0, .bool false, .slice none 0 0] 41)
  rw [show (w.alloc (.cells #[.bool g1, .slice A1 n1 c1, .bool g2, .slice A2 n2 c2] 41)).heap.size = w.heap.size + 1 by simp] at hZ
  have Hbd := Lib.hid hDp.bound
  have Hgl := Lib.hid (gcd_le (N := N) hD)
  have Hne := Lib.hid (redBy_ne (N := N) hD)
  have Hrb : Hid (-1000000000 ^ 1 < redBy N D /\ redBy N D < 1000000000 ^ 1) := by
    show _ /\ _
    have h1 := Hbd.out
    have h2 := Hgl.out
    rw [Int.pow_succ, Int.pow_zero]
    unfold redBy; split <;> omega
  by_cases hneg : D < 0
  · have Hsg := Lib.hid (sg_pos.2.1.2 hneg)
    have Hrd : Hid (redBy N D = -(Int.gcd N D : Int)) := by show _ = _; unfold redBy; rw [if_pos hneg]
    clear hneg hD
    go_enter Tryz.func28, Tryz.ntmps28
    go_wp2_with (fail)
    refine (gcd_any _ k 1 _ _ N D (by omega) (by omega) (hN.at_ hB0) (hDp.at_ hB0)).mono ?_
    rintro e w1 ⟨⟨r1, rfl, hr1⟩, hB1⟩
    obtain ⟨g3, A3, n3, c3, rfl⟩ := hr1.open
    have hq1 := hB1.size
    simp at hq1
    have hBw1 := hB0.trans (hB1.mono (by simp; omega))
    have hX1 := Lib.hid (gbox hX hB1 (by simp; omega))
    have hZ1 := Lib.hid (gbox hZ hB1 (by simp))
    have x2 := cell_of_row _ _ 2 _ _ _ hX1.out
    have x3 := cell_of_row _ _ 3 _ _ _ hX1.out
    simp at x2 x3
    have hw1 : w.heap.size < w1.heap.size := by omega
    have hw1' : w.heap.size + 1 < w1.heap.size := by omega
    clear hX hZ
    go_wp2_with (fail)
    refine (sign_any _ 1 _ D (hDp.at_ (hBw1.alloc hBw1.size (.cells #[.bool g3, .slice A3 n3 c3] 39)))).mono ?_
    rw [Hsg.out]
    rintro e w2 ⟨rfl, hB2⟩
    have hq2 := hB2.size
    simp at hq2
    have hBw2 := (hBw1.alloc hBw1.size (.cells #[.bool g3, .slice A3 n3 c3] 39)).trans (hB2.mono (by simp; omega))
    have hX2 := Lib.hid (gbox ((Below.heap_alloc w1 (.cells #[.bool g3, .slice A3 n3 c3] 39) _ hw1).trans hX1.out) hB2 (by simp; omega))
    have hZ2 := Lib.hid (gbox ((Below.heap_alloc w1 (.cells #[.bool g3, .slice A3 n3 c3] 39) _ hw1').trans hZ1.out) hB2 (by simp; omega))
    have hG2 := Lib.hid (gbox (heap_alloc_new w1 (.cells #[.bool g3, .slice A3 n3 c3] 39)) hB2 (by simp))
    have hr2 := (hr1.below ((Below.refl w1.heap.size w1).alloc (Nat.le_refl _) (.cells #[.bool g3, .slice A3 n3 c3] 39)) (Nat.le_refl _)).below hB2 (by simp)
    have g0 := cell_of_row _ _ 0 _ _ _ hG2.out
    have g1' := cell_of_row _ _ 1 _ _ _ hG2.out
    have gf := fun j => frozen_of_row _ _ j _ _ hG2.out
    simp at g0 g1'
    have hw2 : w1.heap.size < w2.heap.size := by omega
    have hw2b : w.heap.size < w2.heap.size := by omega
    have hw2c : w.heap.size + 1 < w2.heap.size := by omega
    clear x2 x3
    go_wp2_with (fail)
    refine (neg_at w2 w1.heap.size (k + 1) (by omega) _ _ (by omega) hr2).mono ?_
    rintro e w3 ⟨⟨r3, rfl, hr3⟩, hB3⟩
    obtain ⟨g5, A5, n5, c5, rfl⟩ := hr3.open
    have hq3 := hB3.size
    have hX3 := Lib.hid (gbox hX2.out hB3 hw2b)
    have hZ3 := Lib.hid (gbox hZ2.out hB3 hw2c)
    have hG3 := Lib.hid (gbox hG2.out hB3 hw2)
    have hBw3 := hBw2.trans (hB3.mono (by omega))
    have y0 := cell_of_row _ _ 0 _ _ _ hX3.out
    have y1 := cell_of_row _ _ 1 _ _ _ hX3.out
    have k0 := cell_of_row _ _ 0 _ _ _ hG3.out
    have k1 := cell_of_row _ _ 1 _ _ _ hG3.out
    have kf := fun j => frozen_of_row _ _ j _ _ hG3.out
    simp at y0 y1 k0 k1
    have hw3 : w1.heap.size < w3.heap.size := by omega
    have hw3b : w.heap.size < w3.heap.size := by omega
    have hne1 : w.heap.size ≠ w1.heap.size := by omega
    have hne2 : w1.heap.size ≠ w.heap.size := by omega
    have hPV0 : PI ((w3.setCell ⟨w1.heap.size, 0, none⟩ (.bool g5)).setCell ⟨w1.heap.size, 1, none⟩ (.slice A5 n5 c5)) ((w3.setCell ⟨w1.heap.size, 0, none⟩ (.bool g5)).setCell ⟨w1.heap.size, 1, none⟩ (.slice A5 n5 c5)).heap.size 1 (.agg #[.bool g5, .slice A5 n5 c5]) (redBy N D) := by
      have h1 := (hr3.below (((Below.refl w1.heap.size w3).setCell (p := ⟨w1.heap.size, 0, none⟩) (Nat.le_refl _) (.bool g5)).setCell (p := ⟨w1.heap.size, 1, none⟩) (Nat.le_refl _) (.slice A5 n5 c5)) (Nat.le_refl _)).more (C := ((w3.setCell ⟨w1.heap.size, 0, none⟩ (.bool g5)).setCell ⟨w1.heap.size, 1, none⟩ (.slice A5 n5 c5)).heap.size) (j := k + 1) (by simp; omega) (Nat.le_refl _)
      rw [<- Hrd.out] at h1
      exact h1.tight Hrb.out.1 Hrb.out.2
    have hBV0 : Below w.heap.size w ((w3.setCell ⟨w1.heap.size, 0, none⟩ (.bool g5)).setCell ⟨w1.heap.size, 1, none⟩ (.slice A5 n5 c5)) := (hBw3.setCell (p := ⟨w1.heap.size, 0, none⟩) (by simp; omega) (.bool g5)).setCell (p := ⟨w1.heap.size, 1, none⟩) (by simp; omega) (.slice A5 n5 c5)
    have hoth : ∀ c, c ≠ w1.heap.size -> ((w3.setCell ⟨w1.heap.size, 0, none⟩ (.bool g5)).setCell ⟨w1.heap.size, 1, none⟩ (.slice A5 n5 c5)).heap[c]? = w3.heap[c]? := fun c hc => (Below.heap_setCell _ _ _ c (fun e => hc (by simpa using e))).trans (Below.heap_setCell _ _ _ c (fun e => hc (by simpa using e)))
    have hXV0 := (hoth w.heap.size hne1).trans hX3.out
    have hZV0 := (hoth (w.heap.size + 1) (by omega)).trans hZ3.out
    have hGV0 := heap_setCell_same _ _ 1 _ _ (.slice A5 n5 c5) (heap_setCell_same w3 w1.heap.size 0 _ _ (.bool g5) hG3.out)
    simp at hGV0
    obtain ⟨V, hVe⟩ : ∃ V, ((w3.setCell ⟨w1.heap.size, 0, none⟩ (.bool g5)).setCell ⟨w1.heap.size, 1, none⟩ (.slice A5 n5 c5)) = V := ⟨_, rfl⟩
    have hqV : w1.heap.size < V.heap.size := by rw [<- hVe]; simp; omega
    rw [hVe] at hPV0 hBV0 hXV0 hZV0 hGV0
    have hPV := hPV0
    have hBV := hBV0
    have hXV := Lib.hid hXV0
    have hZV := Lib.hid hZV0
    have hGV := Lib.hid hGV0
    have HVe := Lib.hid hVe
    clear hVe hXV0 hZV0 hGV0 hPV0 hBV0 hoth g0 g1' gf
    go_wp2_with (fail)
    rw [HVe.out]
    refine (quorem_any V k 1 _ _ N (redBy N D) (by omega) (by omega) Hne.out (.inl (Nat.le_refl _)) (hN.at_ hBV) hPV).mono ?_
    clear y0 y1 k0 k1 kf HVe
    rintro e w4 ⟨⟨q4, g6, A6, n6, c6, rfl, hq4⟩, hB4⟩
    obtain ⟨g7, A7, n7, c7, rfl⟩ := hq4.open
    have hsz4 := hB4.size
    have hX4 := Lib.hid (gbox hXV.out hB4 (by omega))
    have hZ4 := Lib.hid (gbox hZV.out hB4 (by omega))
    have hG4 := Lib.hid (gbox hGV.out hB4 hqV)
    have hBw4 := hBV.trans (hB4.mono (by omega))
    have x2 := cell_of_row _ _ 2 _ _ _ hX4.out
    have x3 := cell_of_row _ _ 3 _ _ _ hX4.out
    have u0 := cell_of_row _ _ 0 _ _ _ hG4.out
    have u1 := cell_of_row _ _ 1 _ _ _ hG4.out
    simp at x2 x3 u0 u1
    have s0 : w.heap.size < w4.heap.size := by omega
    have s1 : w.heap.size + 1 < w4.heap.size := by omega
    have s2 : w1.heap.size < w4.heap.size := by omega
    have hBU := (hBw4.alloc hBw4.size (.cells #[.bool g7, .slice A7 n7 c7] 39)).alloc (by simp; omega) (.cells #[.bool g6, .slice A6 n6 c6] 39)
    have hBu := ((Below.refl w4.heap.size w4).alloc (Nat.le_refl _) (.cells #[.bool g7, .slice A7 n7 c7] 39)).alloc (by simp) (.cells #[.bool g6, .slice A6 n6 c6] 39)
    go_wp2_with (fail)
    refine (quorem_any _ 1 1 _ _ D (redBy N D) (by omega) (by omega) Hne.out (.inl (Nat.le_refl _)) (hDp.at_ hBU) ((hPV.at_ hB4).at_ hBu)).mono ?_
    rintro e w5 ⟨⟨q5, g9, A9, n9, c9, rfl, hq5⟩, hB5⟩
    obtain ⟨g8, A8, n8, c8, rfl⟩ := hq5.open
    have hsz5 := hB5.size
    simp at hsz5
    have hB45 := hBu.trans (hB5.mono (by simp; omega))
    have hBw5 := hBw4.trans (hB45.mono (by omega))
    have hZ5 := Lib.hid (gbox hZ4.out hB45 s1)
    have hQ5 := Lib.hid (gbox ((Below.heap_alloc (w4.alloc (.cells #[.bool g7, .slice A7 n7 c7] 39)) (.cells #[.bool g6, .slice A6 n6 c6] 39) _ (by simp)).trans (heap_alloc_new w4 (.cells #[.bool g7, .slice A7 n7 c7] 39))) hB5 (by simp; omega))
    have q0 := cell_of_row _ _ 0 _ _ _ hQ5.out
    have q1 := cell_of_row _ _ 1 _ _ _ hQ5.out
    have z0 := cell_of_row _ _ 0 _ _ _ hZ5.out
    have z1 := cell_of_row _ _ 1 _ _ _ hZ5.out
    have z2 := cell_of_row _ _ 2 _ _ _ hZ5.out
    have z3 := cell_of_row _ _ 3 _ _ _ hZ5.out
    have zf := fun j => frozen_of_row _ _ j _ _ hZ5.out
    simp at q0 q1 z0 z1 z2 z3
    have t0 : w4.heap.size < w5.heap.size := by omega
    have t1 : w.heap.size + 1 < w5.heap.size := by omega
    have hB56 := ((Below.refl w5.heap.size w5).alloc (Nat.le_refl _) (.cells #[.bool g8, .slice A8 n8 c8] 39)).alloc (by simp) (.cells #[.bool g9, .slice A9 n9 c9] 39)
    have hBP := hBw5.trans (hB56.mono (by omega))
    have hZP := Lib.hid (gbox hZ5.out hB56 t1)
    have hno : ∀ (j : Nat) (n : Int), (#[.bool false, .slice none 0 0, .bool false, .slice none 0 0] : Array Value)[j]? ≠ some (.int .u32 n) := by
      intro j n
      match j with
      | 0 => simp
      | 1 => simp
      | 2 => simp
      | 3 => simp
      | j + 4 => simp
    have hset : ∀ c, c ≠ w.heap.size + 1 -> (((w5.alloc (.cells #[.bool g8, .slice A8 n8 c8] 39)).alloc (.cells #[.bool g9, .slice A9 n9 c9] 39)).setRow (w.heap.size + 1) #[.bool g7, .slice A7 n7 c7, .bool g8, .slice A8 n8 c8]).heap[c]? = ((w5.alloc (.cells #[.bool g8, .slice A8 n8 c8] 39)).alloc (.cells #[.bool g9, .slice A9 n9 c9] 39)).heap[c]? := fun c hc => setRow_other _ _ _ _ hc
    have hp1 := Lib.hid ((((hq4.at_ hB45).at_ hB56).other hZP.out hno hset).more (C := (((w5.alloc (.cells #[.bool g8, .slice A8 n8 c8] 39)).alloc (.cells #[.bool g9, .slice A9 n9 c9] 39)).setRow (w.heap.size + 1) #[.bool g7, .slice A7 n7 c7, .bool g8, .slice A8 n8 c8]).heap.size) (by simp) (Nat.le_refl k))
    have hp2 := Lib.hid (((hq5.at_ hB56).other hZP.out hno hset).more (C := (((w5.alloc (.cells #[.bool g8, .slice A8 n8 c8] 39)).alloc (.cells #[.bool g9, .slice A9 n9 c9] 39)).setRow (w.heap.size + 1) #[.bool g7, .slice A7 n7 c7, .bool g8, .slice A8 n8 c8]).heap.size) (by simp) (Nat.le_refl 1))
    have hBF := below_setRow hBP (show w.heap.size <= w.heap.size + 1 by omega) #[.bool g7, .slice A7 n7 c7, .bool g8, .slice A8 n8 c8]
    have hRF := setRow_heap ((w5.alloc (.cells #[.bool g8, .slice A8 n8 c8] 39)).alloc (.cells #[.bool g9, .slice A9 n9 c9] 39)) (w.heap.size + 1) _ #[.bool g7, .slice A7 n7 c7, .bool g8, .slice A8 n8 c8] _ _ hZP.out
    have hload := run_loadVar_row (P := Tryz.prog) _ _ _ 41 _ _ _ hRF Tryz.underlying41 rfl ratSize
    have Hone : Hid ((#[.bool g7, .slice A7 n7 c7, .bool g8, .slice A8 n8 c8] : Array Value).all (·.oneCell') = true) := by show _ = true; simp [Value.oneCell']
    have Hload := Lib.hid hload
    clear hset hno x2 x3 u0 u1 hRF hload z0 z1 z2 z3 zf
    go_upto_region 6 with (fail)
    go_wp2_with (refine wpList_store_row rfl 41 (.tmp 2) (.tmp 39) none rfl rfl (w.heap.size + 1) 41 _ #[.bool g7, .slice A7 n7 c7, .bool g8, .slice A8 n8 c8] rfl rfl hZP.out rfl ratSize Hone.out ?_)
    refine bodyPost_ret (v := .agg #[.bool g7, .slice A7 n7 c7, .bool g8, .slice A8 n8 c8]) (by simp [results, Tryz.results28, asAddr, Act.put, Hload.out]) rfl ⟨⟨_, rfl, _, _, _, _, _, _, _, _, rfl, hp1.out, hp2.out⟩, hBF⟩
  · have Hrd : Hid (redBy N D = (Int.gcd N D : Int)) := by show _ = _; unfold redBy; rw [if_neg hneg]
    have Hsg : Hid (sg D = 1) := by show _ = _; rw [sg_pos.1]; omega
    clear hneg hD
    go_enter Tryz.func28, Tryz.ntmps28
    go_wp2_with (fail)
    refine (gcd_any _ k 1 _ _ N D (by omega) (by omega) (hN.at_ hB0) (hDp.at_ hB0)).mono ?_
    rintro e w1 ⟨⟨r1, rfl, hr1⟩, hB1⟩
    obtain ⟨g3, A3, n3, c3, rfl⟩ := hr1.open
    have hq1 := hB1.size
    simp at hq1
    have hBw1 := hB0.trans (hB1.mono (by simp; omega))
    have hX1 := Lib.hid (gbox hX hB1 (by simp; omega))
    have hZ1 := Lib.hid (gbox hZ hB1 (by simp))
    have x2 := cell_of_row _ _ 2 _ _ _ hX1.out
    have x3 := cell_of_row _ _ 3 _ _ _ hX1.out
    simp at x2 x3
    have hw1 : w.heap.size < w1.heap.size := by omega
    have hw1' : w.heap.size + 1 < w1.heap.size := by omega
    clear hX hZ
    go_wp2_with (fail)
    refine (sign_any _ 1 _ D (hDp.at_ (hBw1.alloc hBw1.size (.cells #[.bool g3, .slice A3 n3 c3] 39)))).mono ?_
    rw [Hsg.out]
    rintro e w2 ⟨rfl, hB2⟩
    have hq2 := hB2.size
    simp at hq2
    have hBw2 := (hBw1.alloc hBw1.size (.cells #[.bool g3, .slice A3 n3 c3] 39)).trans (hB2.mono (by simp; omega))
    have hX2 := Lib.hid (gbox ((Below.heap_alloc w1 (.cells #[.bool g3, .slice A3 n3 c3] 39) _ hw1).trans hX1.out) hB2 (by simp; omega))
    have hZ2 := Lib.hid (gbox ((Below.heap_alloc w1 (.cells #[.bool g3, .slice A3 n3 c3] 39) _ hw1').trans hZ1.out) hB2 (by simp; omega))
    have hG2 := Lib.hid (gbox (heap_alloc_new w1 (.cells #[.bool g3, .slice A3 n3 c3] 39)) hB2 (by simp))
    have hr2 := (hr1.below ((Below.refl w1.heap.size w1).alloc (Nat.le_refl _) (.cells #[.bool g3, .slice A3 n3 c3] 39)) (Nat.le_refl _)).below hB2 (by simp)
    have g0 := cell_of_row _ _ 0 _ _ _ hG2.out
    have g1' := cell_of_row _ _ 1 _ _ _ hG2.out
    have gf := fun j => frozen_of_row _ _ j _ _ hG2.out
    simp at g0 g1'
    have hw2 : w1.heap.size < w2.heap.size := by omega
    have hw2b : w.heap.size < w2.heap.size := by omega
    have hw2c : w.heap.size + 1 < w2.heap.size := by omega
    clear x2 x3
    have hPV : PI w2 w2.heap.size 1 (.agg #[.bool g3, .slice A3 n3 c3]) (redBy N D) := by
      have h1 := hr2.more (C := w2.heap.size) (j := k + 1) (by omega) (Nat.le_refl _)
      rw [<- Hrd.out] at h1
      exact h1.tight Hrb.out.1 Hrb.out.2
    have hBV := hBw2
    have hXV := hX2
    have hZV := hZ2
    have hGV := hG2
    have hqV := hw2
    have y0 := cell_of_row _ _ 0 _ _ _ hX2.out
    have y1 := cell_of_row _ _ 1 _ _ _ hX2.out
    simp at y0 y1
    go_wp2_with (fail)
    refine (quorem_any w2 k 1 _ _ N (redBy N D) (by omega) (by omega) Hne.out (.inl (Nat.le_refl _)) (hN.at_ hBV) hPV).mono ?_
    clear y0 y1 g0 g1' gf
    rintro e w4 ⟨⟨q4, g6, A6, n6, c6, rfl, hq4⟩, hB4⟩
    obtain ⟨g7, A7, n7, c7, rfl⟩ := hq4.open
    have hsz4 := hB4.size
    have hX4 := Lib.hid (gbox hXV.out hB4 (by omega))
    have hZ4 := Lib.hid (gbox hZV.out hB4 (by omega))
    have hG4 := Lib.hid (gbox hGV.out hB4 hqV)
    have hBw4 := hBV.trans (hB4.mono (by omega))
    have x2 := cell_of_row _ _ 2 _ _ _ hX4.out
    have x3 := cell_of_row _ _ 3 _ _ _ hX4.out
    have u0 := cell_of_row _ _ 0 _ _ _ hG4.out
    have u1 := cell_of_row _ _ 1 _ _ _ hG4.out
    simp at x2 x3 u0 u1
    have s0 : w.heap.size < w4.heap.size := by omega
    have s1 : w.heap.size + 1 < w4.heap.size := by omega
    have s2 : w1.heap.size < w4.heap.size := by omega
    have hBU := (hBw4.alloc hBw4.size (.cells #[.bool g7, .slice A7 n7 c7] 39)).alloc (by simp; omega) (.cells #[.bool g6, .slice A6 n6 c6] 39)
    have hBu := ((Below.refl w4.heap.size w4).alloc (Nat.le_refl _) (.cells #[.bool g7, .slice A7 n7 c7] 39)).alloc (by simp) (.cells #[.bool g6, .slice A6 n6 c6] 39)
    go_wp2_with (fail)
    refine (quorem_any _ 1 1 _ _ D (redBy N D) (by omega) (by omega) Hne.out (.inl (Nat.le_refl _)) (hDp.at_ hBU) ((hPV.at_ hB4).at_ hBu)).mono ?_
    rintro e w5 ⟨⟨q5, g9, A9, n9, c9, rfl, hq5⟩, hB5⟩
    obtain ⟨g8, A8, n8, c8, rfl⟩ := hq5.open
    have hsz5 := hB5.size
    simp at hsz5
    have hB45 := hBu.trans (hB5.mono (by simp; omega))
    have hBw5 := hBw4.trans (hB45.mono (by omega))
    have hZ5 := Lib.hid (gbox hZ4.out hB45 s1)
    have hQ5 := Lib.hid (gbox ((Below.heap_alloc (w4.alloc (.cells #[.bool g7, .slice A7 n7 c7] 39)) (.cells #[.bool g6, .slice A6 n6 c6] 39) _ (by simp)).trans (heap_alloc_new w4 (.cells #[.bool g7, .slice A7 n7 c7] 39))) hB5 (by simp; omega))
    have q0 := cell_of_row _ _ 0 _ _ _ hQ5.out
    have q1 := cell_of_row _ _ 1 _ _ _ hQ5.out
    have z0 := cell_of_row _ _ 0 _ _ _ hZ5.out
    have z1 := cell_of_row _ _ 1 _ _ _ hZ5.out
    have z2 := cell_of_row _ _ 2 _ _ _ hZ5.out
    have z3 := cell_of_row _ _ 3 _ _ _ hZ5.out
    have zf := fun j => frozen_of_row _ _ j _ _ hZ5.out
    simp at q0 q1 z0 z1 z2 z3
    have t0 : w4.heap.size < w5.heap.size := by omega
    have t1 : w.heap.size + 1 < w5.heap.size := by omega
    have hB56 := ((Below.refl w5.heap.size w5).alloc (Nat.le_refl _) (.cells #[.bool g8, .slice A8 n8 c8] 39)).alloc (by simp) (.cells #[.bool g9, .slice A9 n9 c9] 39)
    have hBP := hBw5.trans (hB56.mono (by omega))
    have hZP := Lib.hid (gbox hZ5.out hB56 t1)
    have hno : ∀ (j : Nat) (n : Int), (#[.bool false, .slice none 0 0, .bool false, .slice none 0 0] : Array Value)[j]? ≠ some (.int .u32 n) := by
      intro j n
      match j with
      | 0 => simp
      | 1 => simp
      | 2 => simp
      | 3 => simp
      | j + 4 => simp
    have hset : ∀ c, c ≠ w.heap.size + 1 -> (((w5.alloc (.cells #[.bool g8, .slice A8 n8 c8] 39)).alloc (.cells #[.bool g9, .slice A9 n9 c9] 39)).setRow (w.heap.size + 1) #[.bool g7, .slice A7 n7 c7, .bool g8, .slice A8 n8 c8]).heap[c]? = ((w5.alloc (.cells #[.bool g8, .slice A8 n8 c8] 39)).alloc (.cells #[.bool g9, .slice A9 n9 c9] 39)).heap[c]? := fun c hc => setRow_other _ _ _ _ hc
    have hp1 := Lib.hid ((((hq4.at_ hB45).at_ hB56).other hZP.out hno hset).more (C := (((w5.alloc (.cells #[.bool g8, .slice A8 n8 c8] 39)).alloc (.cells #[.bool g9, .slice A9 n9 c9] 39)).setRow (w.heap.size + 1) #[.bool g7, .slice A7 n7 c7, .bool g8, .slice A8 n8 c8]).heap.size) (by simp) (Nat.le_refl k))
    have hp2 := Lib.hid (((hq5.at_ hB56).other hZP.out hno hset).more (C := (((w5.alloc (.cells #[.bool g8, .slice A8 n8 c8] 39)).alloc (.cells #[.bool g9, .slice A9 n9 c9] 39)).setRow (w.heap.size + 1) #[.bool g7, .slice A7 n7 c7, .bool g8, .slice A8 n8 c8]).heap.size) (by simp) (Nat.le_refl 1))
    have hBF := below_setRow hBP (show w.heap.size <= w.heap.size + 1 by omega) #[.bool g7, .slice A7 n7 c7, .bool g8, .slice A8 n8 c8]
    have hRF := setRow_heap ((w5.alloc (.cells #[.bool g8, .slice A8 n8 c8] 39)).alloc (.cells #[.bool g9, .slice A9 n9 c9] 39)) (w.heap.size + 1) _ #[.bool g7, .slice A7 n7 c7, .bool g8, .slice A8 n8 c8] _ _ hZP.out
    have hload := run_loadVar_row (P := Tryz.prog) _ _ _ 41 _ _ _ hRF Tryz.underlying41 rfl ratSize
    have Hone : Hid ((#[.bool g7, .slice A7 n7 c7, .bool g8, .slice A8 n8 c8] : Array Value).all (·.oneCell') = true) := by show _ = true; simp [Value.oneCell']
    have Hload := Lib.hid hload
    clear hset hno x2 x3 u0 u1 hRF hload z0 z1 z2 z3 zf
    go_upto_region 6 with (fail)
    go_wp2_with (refine wpList_store_row rfl 41 (.tmp 2) (.tmp 39) none rfl rfl (w.heap.size + 1) 41 _ #[.bool g7, .slice A7 n7 c7, .bool g8, .slice A8 n8 c8] rfl rfl hZP.out rfl ratSize Hone.out ?_)
    refine bodyPost_ret (v := .agg #[.bool g7, .slice A7 n7 c7, .bool g8, .slice A8 n8 c8]) (by simp [results, Tryz.results28, asAddr, Act.put, Hload.out]) rfl ⟨⟨_, rfl, _, _, _, _, _, _, _, _, rfl, hp1.out, hp2.out⟩, hBF⟩

theorem PI.boundg {w : World} {B k : Nat} {v : Value} {z : Int} (h : PI w B k v z) : (z.natAbs : Int) < 1000000000 ^ k := by
  obtain ⟨g, A, n, c, l, rfl, hl, hn, hc, hL, hN, hx, _, _⟩ := h.parts
  have h1 := Big.val_lt (B := 1000000000) (by omega) hL
  have h0 := Big.val_nonneg (B := 1000000000) (by omega) hL
  have h2 := Big.pow_le (B := 1000000000) (by omega) (show l.length <= k by omega)
  rw [hx]
  cases g <;> simp [Big.sgn] <;> omega
theorem reducedg_any (k j : Nat) (v : Value) (N D : Int) (hk : k <= 100000) (hj : j <= 100000) (hD : D ≠ 0) (h : RI w w.heap.size k j v N D) :
    Calls Tryz.prog 28 #[v] w fun e w' => (∃ r, e = .returned r /\ RI w' w'.heap.size k j r (Int.tdiv N (redBy N D)) (Int.tdiv D (redBy N D))) /\ Below w.heap.size w w' := by
  obtain ⟨g1, A1, n1, c1, g2, A2, n2, c2, rfl, hN, hDp⟩ := h
  have hB0 := ((Below.refl w.heap.size w).alloc (Nat.le_refl _) (.cells #[.bool g1, .slice A1 n1 c1, .bool g2, .slice A2 n2 c2] 41)).alloc (by simp) (.cells #[.bool false, .slice none 0 0, .bool false, .slice none 0 0] 41)
  have hX := (Below.heap_alloc (w.alloc (.cells #[.bool g1, .slice A1 n1 c1, .bool g2, .slice A2 n2 c2] 41)) (.cells #[.bool false, .slice none 0 0, .bool false, .slice none 0 0] 41) w.heap.size (by simp)).trans (heap_alloc_new w (.cells #[.bool g1, .slice A1 n1 c1, .bool g2, .slice A2 n2 c2] 41))
  have hZ := heap_alloc_new (w.alloc (.cells #[.bool g1, .slice A1 n1 c1, .bool g2, .slice A2 n2 c2] 41)) (.cells #[.bool false, .slice none 0 0, .bool false, .slice none 0 0] 41)
  rw [show (w.alloc (.cells #[.bool g1, .slice A1 n1 c1, .bool g2, .slice A2 n2 c2] 41)).heap.size = w.heap.size + 1 by simp] at hZ
  have Hbd := Lib.hid hDp.boundg
  have Hgl := Lib.hid (gcd_le (N := N) hD)
  have Hne := Lib.hid (redBy_ne (N := N) hD)
  have Hrb : Hid (-1000000000 ^ j < redBy N D /\ redBy N D < 1000000000 ^ j) := by
    show _ /\ _
    have h1 := Hbd.out
    have h2 := Hgl.out
    unfold redBy; split <;> omega
  by_cases hneg : D < 0
  · have Hsg := Lib.hid (sg_pos.2.1.2 hneg)
    have Hrd : Hid (redBy N D = -(Int.gcd N D : Int)) := by show _ = _; unfold redBy; rw [if_pos hneg]
    clear hneg hD
    go_enter Tryz.func28, Tryz.ntmps28
    go_wp2_with (fail)
    refine (gcdg_any _ k j _ _ N D (by omega) (by omega) (hN.at_ hB0) (hDp.at_ hB0)).mono ?_
    rintro e w1 ⟨⟨r1, rfl, hr1⟩, hB1⟩
    obtain ⟨g3, A3, n3, c3, rfl⟩ := hr1.open
    have hq1 := hB1.size
    simp at hq1
    have hBw1 := hB0.trans (hB1.mono (by simp; omega))
    have hX1 := Lib.hid (gbox hX hB1 (by simp; omega))
    have hZ1 := Lib.hid (gbox hZ hB1 (by simp))
    have x2 := cell_of_row _ _ 2 _ _ _ hX1.out
    have x3 := cell_of_row _ _ 3 _ _ _ hX1.out
    simp at x2 x3
    have hw1 : w.heap.size < w1.heap.size := by omega
    have hw1' : w.heap.size + 1 < w1.heap.size := by omega
    clear hX hZ
    go_wp2_with (fail)
    refine (sign_any _ j _ D (hDp.at_ (hBw1.alloc hBw1.size (.cells #[.bool g3, .slice A3 n3 c3] 39)))).mono ?_
    rw [Hsg.out]
    rintro e w2 ⟨rfl, hB2⟩
    have hq2 := hB2.size
    simp at hq2
    have hBw2 := (hBw1.alloc hBw1.size (.cells #[.bool g3, .slice A3 n3 c3] 39)).trans (hB2.mono (by simp; omega))
    have hX2 := Lib.hid (gbox ((Below.heap_alloc w1 (.cells #[.bool g3, .slice A3 n3 c3] 39) _ hw1).trans hX1.out) hB2 (by simp; omega))
    have hZ2 := Lib.hid (gbox ((Below.heap_alloc w1 (.cells #[.bool g3, .slice A3 n3 c3] 39) _ hw1').trans hZ1.out) hB2 (by simp; omega))
    have hG2 := Lib.hid (gbox (heap_alloc_new w1 (.cells #[.bool g3, .slice A3 n3 c3] 39)) hB2 (by simp))
    have hr2 := (hr1.below ((Below.refl w1.heap.size w1).alloc (Nat.le_refl _) (.cells #[.bool g3, .slice A3 n3 c3] 39)) (Nat.le_refl _)).below hB2 (by simp)
    have g0 := cell_of_row _ _ 0 _ _ _ hG2.out
    have g1' := cell_of_row _ _ 1 _ _ _ hG2.out
    have gf := fun j => frozen_of_row _ _ j _ _ hG2.out
    simp at g0 g1'
    have hw2 : w1.heap.size < w2.heap.size := by omega
    have hw2b : w.heap.size < w2.heap.size := by omega
    have hw2c : w.heap.size + 1 < w2.heap.size := by omega
    clear x2 x3
    go_wp2_with (fail)
    refine (neg_at w2 w1.heap.size (k + j) (by omega) _ _ (by omega) hr2).mono ?_
    rintro e w3 ⟨⟨r3, rfl, hr3⟩, hB3⟩
    obtain ⟨g5, A5, n5, c5, rfl⟩ := hr3.open
    have hq3 := hB3.size
    have hX3 := Lib.hid (gbox hX2.out hB3 hw2b)
    have hZ3 := Lib.hid (gbox hZ2.out hB3 hw2c)
    have hG3 := Lib.hid (gbox hG2.out hB3 hw2)
    have hBw3 := hBw2.trans (hB3.mono (by omega))
    have y0 := cell_of_row _ _ 0 _ _ _ hX3.out
    have y1 := cell_of_row _ _ 1 _ _ _ hX3.out
    have k0 := cell_of_row _ _ 0 _ _ _ hG3.out
    have k1 := cell_of_row _ _ 1 _ _ _ hG3.out
    have kf := fun j => frozen_of_row _ _ j _ _ hG3.out
    simp at y0 y1 k0 k1
    have hw3 : w1.heap.size < w3.heap.size := by omega
    have hw3b : w.heap.size < w3.heap.size := by omega
    have hne1 : w.heap.size ≠ w1.heap.size := by omega
    have hne2 : w1.heap.size ≠ w.heap.size := by omega
    have hPV0 : PI ((w3.setCell ⟨w1.heap.size, 0, none⟩ (.bool g5)).setCell ⟨w1.heap.size, 1, none⟩ (.slice A5 n5 c5)) ((w3.setCell ⟨w1.heap.size, 0, none⟩ (.bool g5)).setCell ⟨w1.heap.size, 1, none⟩ (.slice A5 n5 c5)).heap.size j (.agg #[.bool g5, .slice A5 n5 c5]) (redBy N D) := by
      have h1 := (hr3.below (((Below.refl w1.heap.size w3).setCell (p := ⟨w1.heap.size, 0, none⟩) (Nat.le_refl _) (.bool g5)).setCell (p := ⟨w1.heap.size, 1, none⟩) (Nat.le_refl _) (.slice A5 n5 c5)) (Nat.le_refl _)).more (C := ((w3.setCell ⟨w1.heap.size, 0, none⟩ (.bool g5)).setCell ⟨w1.heap.size, 1, none⟩ (.slice A5 n5 c5)).heap.size) (j := k + j) (by simp; omega) (Nat.le_refl _)
      rw [<- Hrd.out] at h1
      exact h1.tight Hrb.out.1 Hrb.out.2
    have hBV0 : Below w.heap.size w ((w3.setCell ⟨w1.heap.size, 0, none⟩ (.bool g5)).setCell ⟨w1.heap.size, 1, none⟩ (.slice A5 n5 c5)) := (hBw3.setCell (p := ⟨w1.heap.size, 0, none⟩) (by simp; omega) (.bool g5)).setCell (p := ⟨w1.heap.size, 1, none⟩) (by simp; omega) (.slice A5 n5 c5)
    have hoth : ∀ c, c ≠ w1.heap.size -> ((w3.setCell ⟨w1.heap.size, 0, none⟩ (.bool g5)).setCell ⟨w1.heap.size, 1, none⟩ (.slice A5 n5 c5)).heap[c]? = w3.heap[c]? := fun c hc => (Below.heap_setCell _ _ _ c (fun e => hc (by simpa using e))).trans (Below.heap_setCell _ _ _ c (fun e => hc (by simpa using e)))
    have hXV0 := (hoth w.heap.size hne1).trans hX3.out
    have hZV0 := (hoth (w.heap.size + 1) (by omega)).trans hZ3.out
    have hGV0 := heap_setCell_same _ _ 1 _ _ (.slice A5 n5 c5) (heap_setCell_same w3 w1.heap.size 0 _ _ (.bool g5) hG3.out)
    simp at hGV0
    obtain ⟨V, hVe⟩ : ∃ V, ((w3.setCell ⟨w1.heap.size, 0, none⟩ (.bool g5)).setCell ⟨w1.heap.size, 1, none⟩ (.slice A5 n5 c5)) = V := ⟨_, rfl⟩
    have hqV : w1.heap.size < V.heap.size := by rw [<- hVe]; simp; omega
    rw [hVe] at hPV0 hBV0 hXV0 hZV0 hGV0
    have hPV := hPV0
    have hBV := hBV0
    have hXV := Lib.hid hXV0
    have hZV := Lib.hid hZV0
    have hGV := Lib.hid hGV0
    have HVe := Lib.hid hVe
    clear hVe hXV0 hZV0 hGV0 hPV0 hBV0 hoth g0 g1' gf
    go_wp2_with (fail)
    rw [HVe.out]
    refine (quoremg_any V k j _ _ N (redBy N D) (by omega) (by omega) Hne.out (hN.at_ hBV) hPV).mono ?_
    clear y0 y1 k0 k1 kf HVe
    rintro e w4 ⟨⟨q4, g6, A6, n6, c6, rfl, hq4⟩, hB4⟩
    obtain ⟨g7, A7, n7, c7, rfl⟩ := hq4.open
    have hsz4 := hB4.size
    have hX4 := Lib.hid (gbox hXV.out hB4 (by omega))
    have hZ4 := Lib.hid (gbox hZV.out hB4 (by omega))
    have hG4 := Lib.hid (gbox hGV.out hB4 hqV)
    have hBw4 := hBV.trans (hB4.mono (by omega))
    have x2 := cell_of_row _ _ 2 _ _ _ hX4.out
    have x3 := cell_of_row _ _ 3 _ _ _ hX4.out
    have u0 := cell_of_row _ _ 0 _ _ _ hG4.out
    have u1 := cell_of_row _ _ 1 _ _ _ hG4.out
    simp at x2 x3 u0 u1
    have s0 : w.heap.size < w4.heap.size := by omega
    have s1 : w.heap.size + 1 < w4.heap.size := by omega
    have s2 : w1.heap.size < w4.heap.size := by omega
    have hBU := (hBw4.alloc hBw4.size (.cells #[.bool g7, .slice A7 n7 c7] 39)).alloc (by simp; omega) (.cells #[.bool g6, .slice A6 n6 c6] 39)
    have hBu := ((Below.refl w4.heap.size w4).alloc (Nat.le_refl _) (.cells #[.bool g7, .slice A7 n7 c7] 39)).alloc (by simp) (.cells #[.bool g6, .slice A6 n6 c6] 39)
    go_wp2_with (fail)
    refine (quoremg_any _ j j _ _ D (redBy N D) (by omega) (by omega) Hne.out (hDp.at_ hBU) ((hPV.at_ hB4).at_ hBu)).mono ?_
    rintro e w5 ⟨⟨q5, g9, A9, n9, c9, rfl, hq5⟩, hB5⟩
    obtain ⟨g8, A8, n8, c8, rfl⟩ := hq5.open
    have hsz5 := hB5.size
    simp at hsz5
    have hB45 := hBu.trans (hB5.mono (by simp; omega))
    have hBw5 := hBw4.trans (hB45.mono (by omega))
    have hZ5 := Lib.hid (gbox hZ4.out hB45 s1)
    have hQ5 := Lib.hid (gbox ((Below.heap_alloc (w4.alloc (.cells #[.bool g7, .slice A7 n7 c7] 39)) (.cells #[.bool g6, .slice A6 n6 c6] 39) _ (by simp)).trans (heap_alloc_new w4 (.cells #[.bool g7, .slice A7 n7 c7] 39))) hB5 (by simp; omega))
    have q0 := cell_of_row _ _ 0 _ _ _ hQ5.out
    have q1 := cell_of_row _ _ 1 _ _ _ hQ5.out
    have z0 := cell_of_row _ _ 0 _ _ _ hZ5.out
    have z1 := cell_of_row _ _ 1 _ _ _ hZ5.out
    have z2 := cell_of_row _ _ 2 _ _ _ hZ5.out
    have z3 := cell_of_row _ _ 3 _ _ _ hZ5.out
    have zf := fun j => frozen_of_row _ _ j _ _ hZ5.out
    simp at q0 q1 z0 z1 z2 z3
    have t0 : w4.heap.size < w5.heap.size := by omega
    have t1 : w.heap.size + 1 < w5.heap.size := by omega
    have hB56 := ((Below.refl w5.heap.size w5).alloc (Nat.le_refl _) (.cells #[.bool g8, .slice A8 n8 c8] 39)).alloc (by simp) (.cells #[.bool g9, .slice A9 n9 c9] 39)
    have hBP := hBw5.trans (hB56.mono (by omega))
    have hZP := Lib.hid (gbox hZ5.out hB56 t1)
    have hno : ∀ (j : Nat) (n : Int), (#[.bool false, .slice none 0 0, .bool false, .slice none 0 0] : Array Value)[j]? ≠ some (.int .u32 n) := by
      intro j n
      match j with
      | 0 => simp
      | 1 => simp
      | 2 => simp
      | 3 => simp
      | j + 4 => simp
    have hset : ∀ c, c ≠ w.heap.size + 1 -> (((w5.alloc (.cells #[.bool g8, .slice A8 n8 c8] 39)).alloc (.cells #[.bool g9, .slice A9 n9 c9] 39)).setRow (w.heap.size + 1) #[.bool g7, .slice A7 n7 c7, .bool g8, .slice A8 n8 c8]).heap[c]? = ((w5.alloc (.cells #[.bool g8, .slice A8 n8 c8] 39)).alloc (.cells #[.bool g9, .slice A9 n9 c9] 39)).heap[c]? := fun c hc => setRow_other _ _ _ _ hc
    have hp1 := Lib.hid ((((hq4.at_ hB45).at_ hB56).other hZP.out hno hset).more (C := (((w5.alloc (.cells #[.bool g8, .slice A8 n8 c8] 39)).alloc (.cells #[.bool g9, .slice A9 n9 c9] 39)).setRow (w.heap.size + 1) #[.bool g7, .slice A7 n7 c7, .bool g8, .slice A8 n8 c8]).heap.size) (by simp) (Nat.le_refl k))
    have hp2 := Lib.hid (((hq5.at_ hB56).other hZP.out hno hset).more (C := (((w5.alloc (.cells #[.bool g8, .slice A8 n8 c8] 39)).alloc (.cells #[.bool g9, .slice A9 n9 c9] 39)).setRow (w.heap.size + 1) #[.bool g7, .slice A7 n7 c7, .bool g8, .slice A8 n8 c8]).heap.size) (by simp) (Nat.le_refl j))
    have hBF := below_setRow hBP (show w.heap.size <= w.heap.size + 1 by omega) #[.bool g7, .slice A7 n7 c7, .bool g8, .slice A8 n8 c8]
    have hRF := setRow_heap ((w5.alloc (.cells #[.bool g8, .slice A8 n8 c8] 39)).alloc (.cells #[.bool g9, .slice A9 n9 c9] 39)) (w.heap.size + 1) _ #[.bool g7, .slice A7 n7 c7, .bool g8, .slice A8 n8 c8] _ _ hZP.out
    have hload := run_loadVar_row (P := Tryz.prog) _ _ _ 41 _ _ _ hRF Tryz.underlying41 rfl ratSize
    have Hone : Hid ((#[.bool g7, .slice A7 n7 c7, .bool g8, .slice A8 n8 c8] : Array Value).all (·.oneCell') = true) := by show _ = true; simp [Value.oneCell']
    have Hload := Lib.hid hload
    clear hset hno x2 x3 u0 u1 hRF hload z0 z1 z2 z3 zf
    go_upto_region 6 with (fail)
    go_wp2_with (refine wpList_store_row rfl 41 (.tmp 2) (.tmp 39) none rfl rfl (w.heap.size + 1) 41 _ #[.bool g7, .slice A7 n7 c7, .bool g8, .slice A8 n8 c8] rfl rfl hZP.out rfl ratSize Hone.out ?_)
    refine bodyPost_ret (v := .agg #[.bool g7, .slice A7 n7 c7, .bool g8, .slice A8 n8 c8]) (by simp [results, Tryz.results28, asAddr, Act.put, Hload.out]) rfl ⟨⟨_, rfl, _, _, _, _, _, _, _, _, rfl, hp1.out, hp2.out⟩, hBF⟩
  · have Hrd : Hid (redBy N D = (Int.gcd N D : Int)) := by show _ = _; unfold redBy; rw [if_neg hneg]
    have Hsg : Hid (sg D = 1) := by show _ = _; rw [sg_pos.1]; omega
    clear hneg hD
    go_enter Tryz.func28, Tryz.ntmps28
    go_wp2_with (fail)
    refine (gcdg_any _ k j _ _ N D (by omega) (by omega) (hN.at_ hB0) (hDp.at_ hB0)).mono ?_
    rintro e w1 ⟨⟨r1, rfl, hr1⟩, hB1⟩
    obtain ⟨g3, A3, n3, c3, rfl⟩ := hr1.open
    have hq1 := hB1.size
    simp at hq1
    have hBw1 := hB0.trans (hB1.mono (by simp; omega))
    have hX1 := Lib.hid (gbox hX hB1 (by simp; omega))
    have hZ1 := Lib.hid (gbox hZ hB1 (by simp))
    have x2 := cell_of_row _ _ 2 _ _ _ hX1.out
    have x3 := cell_of_row _ _ 3 _ _ _ hX1.out
    simp at x2 x3
    have hw1 : w.heap.size < w1.heap.size := by omega
    have hw1' : w.heap.size + 1 < w1.heap.size := by omega
    clear hX hZ
    go_wp2_with (fail)
    refine (sign_any _ j _ D (hDp.at_ (hBw1.alloc hBw1.size (.cells #[.bool g3, .slice A3 n3 c3] 39)))).mono ?_
    rw [Hsg.out]
    rintro e w2 ⟨rfl, hB2⟩
    have hq2 := hB2.size
    simp at hq2
    have hBw2 := (hBw1.alloc hBw1.size (.cells #[.bool g3, .slice A3 n3 c3] 39)).trans (hB2.mono (by simp; omega))
    have hX2 := Lib.hid (gbox ((Below.heap_alloc w1 (.cells #[.bool g3, .slice A3 n3 c3] 39) _ hw1).trans hX1.out) hB2 (by simp; omega))
    have hZ2 := Lib.hid (gbox ((Below.heap_alloc w1 (.cells #[.bool g3, .slice A3 n3 c3] 39) _ hw1').trans hZ1.out) hB2 (by simp; omega))
    have hG2 := Lib.hid (gbox (heap_alloc_new w1 (.cells #[.bool g3, .slice A3 n3 c3] 39)) hB2 (by simp))
    have hr2 := (hr1.below ((Below.refl w1.heap.size w1).alloc (Nat.le_refl _) (.cells #[.bool g3, .slice A3 n3 c3] 39)) (Nat.le_refl _)).below hB2 (by simp)
    have g0 := cell_of_row _ _ 0 _ _ _ hG2.out
    have g1' := cell_of_row _ _ 1 _ _ _ hG2.out
    have gf := fun j => frozen_of_row _ _ j _ _ hG2.out
    simp at g0 g1'
    have hw2 : w1.heap.size < w2.heap.size := by omega
    have hw2b : w.heap.size < w2.heap.size := by omega
    have hw2c : w.heap.size + 1 < w2.heap.size := by omega
    clear x2 x3
    have hPV : PI w2 w2.heap.size j (.agg #[.bool g3, .slice A3 n3 c3]) (redBy N D) := by
      have h1 := hr2.more (C := w2.heap.size) (j := k + j) (by omega) (Nat.le_refl _)
      rw [<- Hrd.out] at h1
      exact h1.tight Hrb.out.1 Hrb.out.2
    have hBV := hBw2
    have hXV := hX2
    have hZV := hZ2
    have hGV := hG2
    have hqV := hw2
    have y0 := cell_of_row _ _ 0 _ _ _ hX2.out
    have y1 := cell_of_row _ _ 1 _ _ _ hX2.out
    simp at y0 y1
    go_wp2_with (fail)
    refine (quoremg_any w2 k j _ _ N (redBy N D) (by omega) (by omega) Hne.out (hN.at_ hBV) hPV).mono ?_
    clear y0 y1 g0 g1' gf
    rintro e w4 ⟨⟨q4, g6, A6, n6, c6, rfl, hq4⟩, hB4⟩
    obtain ⟨g7, A7, n7, c7, rfl⟩ := hq4.open
    have hsz4 := hB4.size
    have hX4 := Lib.hid (gbox hXV.out hB4 (by omega))
    have hZ4 := Lib.hid (gbox hZV.out hB4 (by omega))
    have hG4 := Lib.hid (gbox hGV.out hB4 hqV)
    have hBw4 := hBV.trans (hB4.mono (by omega))
    have x2 := cell_of_row _ _ 2 _ _ _ hX4.out
    have x3 := cell_of_row _ _ 3 _ _ _ hX4.out
    have u0 := cell_of_row _ _ 0 _ _ _ hG4.out
    have u1 := cell_of_row _ _ 1 _ _ _ hG4.out
    simp at x2 x3 u0 u1
    have s0 : w.heap.size < w4.heap.size := by omega
    have s1 : w.heap.size + 1 < w4.heap.size := by omega
    have s2 : w1.heap.size < w4.heap.size := by omega
    have hBU := (hBw4.alloc hBw4.size (.cells #[.bool g7, .slice A7 n7 c7] 39)).alloc (by simp; omega) (.cells #[.bool g6, .slice A6 n6 c6] 39)
    have hBu := ((Below.refl w4.heap.size w4).alloc (Nat.le_refl _) (.cells #[.bool g7, .slice A7 n7 c7] 39)).alloc (by simp) (.cells #[.bool g6, .slice A6 n6 c6] 39)
    go_wp2_with (fail)
    refine (quoremg_any _ j j _ _ D (redBy N D) (by omega) (by omega) Hne.out (hDp.at_ hBU) ((hPV.at_ hB4).at_ hBu)).mono ?_
    rintro e w5 ⟨⟨q5, g9, A9, n9, c9, rfl, hq5⟩, hB5⟩
    obtain ⟨g8, A8, n8, c8, rfl⟩ := hq5.open
    have hsz5 := hB5.size
    simp at hsz5
    have hB45 := hBu.trans (hB5.mono (by simp; omega))
    have hBw5 := hBw4.trans (hB45.mono (by omega))
    have hZ5 := Lib.hid (gbox hZ4.out hB45 s1)
    have hQ5 := Lib.hid (gbox ((Below.heap_alloc (w4.alloc (.cells #[.bool g7, .slice A7 n7 c7] 39)) (.cells #[.bool g6, .slice A6 n6 c6] 39) _ (by simp)).trans (heap_alloc_new w4 (.cells #[.bool g7, .slice A7 n7 c7] 39))) hB5 (by simp; omega))
    have q0 := cell_of_row _ _ 0 _ _ _ hQ5.out
    have q1 := cell_of_row _ _ 1 _ _ _ hQ5.out
    have z0 := cell_of_row _ _ 0 _ _ _ hZ5.out
    have z1 := cell_of_row _ _ 1 _ _ _ hZ5.out
    have z2 := cell_of_row _ _ 2 _ _ _ hZ5.out
    have z3 := cell_of_row _ _ 3 _ _ _ hZ5.out
    have zf := fun j => frozen_of_row _ _ j _ _ hZ5.out
    simp at q0 q1 z0 z1 z2 z3
    have t0 : w4.heap.size < w5.heap.size := by omega
    have t1 : w.heap.size + 1 < w5.heap.size := by omega
    have hB56 := ((Below.refl w5.heap.size w5).alloc (Nat.le_refl _) (.cells #[.bool g8, .slice A8 n8 c8] 39)).alloc (by simp) (.cells #[.bool g9, .slice A9 n9 c9] 39)
    have hBP := hBw5.trans (hB56.mono (by omega))
    have hZP := Lib.hid (gbox hZ5.out hB56 t1)
    have hno : ∀ (j : Nat) (n : Int), (#[.bool false, .slice none 0 0, .bool false, .slice none 0 0] : Array Value)[j]? ≠ some (.int .u32 n) := by
      intro j n
      match j with
      | 0 => simp
      | 1 => simp
      | 2 => simp
      | 3 => simp
      | j + 4 => simp
    have hset : ∀ c, c ≠ w.heap.size + 1 -> (((w5.alloc (.cells #[.bool g8, .slice A8 n8 c8] 39)).alloc (.cells #[.bool g9, .slice A9 n9 c9] 39)).setRow (w.heap.size + 1) #[.bool g7, .slice A7 n7 c7, .bool g8, .slice A8 n8 c8]).heap[c]? = ((w5.alloc (.cells #[.bool g8, .slice A8 n8 c8] 39)).alloc (.cells #[.bool g9, .slice A9 n9 c9] 39)).heap[c]? := fun c hc => setRow_other _ _ _ _ hc
    have hp1 := Lib.hid ((((hq4.at_ hB45).at_ hB56).other hZP.out hno hset).more (C := (((w5.alloc (.cells #[.bool g8, .slice A8 n8 c8] 39)).alloc (.cells #[.bool g9, .slice A9 n9 c9] 39)).setRow (w.heap.size + 1) #[.bool g7, .slice A7 n7 c7, .bool g8, .slice A8 n8 c8]).heap.size) (by simp) (Nat.le_refl k))
    have hp2 := Lib.hid (((hq5.at_ hB56).other hZP.out hno hset).more (C := (((w5.alloc (.cells #[.bool g8, .slice A8 n8 c8] 39)).alloc (.cells #[.bool g9, .slice A9 n9 c9] 39)).setRow (w.heap.size + 1) #[.bool g7, .slice A7 n7 c7, .bool g8, .slice A8 n8 c8]).heap.size) (by simp) (Nat.le_refl j))
    have hBF := below_setRow hBP (show w.heap.size <= w.heap.size + 1 by omega) #[.bool g7, .slice A7 n7 c7, .bool g8, .slice A8 n8 c8]
    have hRF := setRow_heap ((w5.alloc (.cells #[.bool g8, .slice A8 n8 c8] 39)).alloc (.cells #[.bool g9, .slice A9 n9 c9] 39)) (w.heap.size + 1) _ #[.bool g7, .slice A7 n7 c7, .bool g8, .slice A8 n8 c8] _ _ hZP.out
    have hload := run_loadVar_row (P := Tryz.prog) _ _ _ 41 _ _ _ hRF Tryz.underlying41 rfl ratSize
    have Hone : Hid ((#[.bool g7, .slice A7 n7 c7, .bool g8, .slice A8 n8 c8] : Array Value).all (·.oneCell') = true) := by show _ = true; simp [Value.oneCell']
    have Hload := Lib.hid hload
    clear hset hno x2 x3 u0 u1 hRF hload z0 z1 z2 z3 zf
    go_upto_region 6 with (fail)
    go_wp2_with (refine wpList_store_row rfl 41 (.tmp 2) (.tmp 39) none rfl rfl (w.heap.size + 1) 41 _ #[.bool g7, .slice A7 n7 c7, .bool g8, .slice A8 n8 c8] rfl rfl hZP.out rfl ratSize Hone.out ?_)
    refine bodyPost_ret (v := .agg #[.bool g7, .slice A7 n7 c7, .bool g8, .slice A8 n8 c8]) (by simp [results, Tryz.results28, asAddr, Act.put, Hload.out]) rfl ⟨⟨_, rfl, _, _, _, _, _, _, _, _, rfl, hp1.out, hp2.out⟩, hBF⟩
end
end Go.Proofs.YtalfikdjclineaaGreatDoor
