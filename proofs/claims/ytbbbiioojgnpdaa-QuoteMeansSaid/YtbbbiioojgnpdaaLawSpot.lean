/- The walk of the law QuoteSpot. -/
import Derived.Test.YtbbbiioojgnpdaaAwake
namespace Go.Proofs.Ytbbbiioojgnpdaa
open Go.RowKit Go.Shelf

theorem bsize : (Try.prog.info? 32).map (·.size) = some 22 := by kernel_rfl
theorem bsplit {W : World} {b : Nat} {g : Grp} {A : Option Addr} {n c : Nat} (h : W.heap[b]? = some (.cells #[.string g.gc, .int .i64 g.Y, .int .i64 g.M, .int .i64 g.N, g.x0, g.x1, g.x2, g.x3, g.x4, g.x5, g.x6, g.x7, g.x8, g.x9, g.x10, g.x11, g.x12, g.x13, g.x14, g.x15, g.x16, .slice A n c] 32)) : W.heap[b]? = some (.cells (#[.string g.gc, .int .i64 g.Y, .int .i64 g.M, .int .i64 g.N, g.x0, g.x1, g.x2, g.x3, g.x4, g.x5, g.x6, g.x7, g.x8, g.x9, g.x10, g.x11, g.x12, g.x13, g.x14, g.x15, g.x16] ++ #[.slice A n c]) 32 (0, 0)) := h
theorem bslice {W : World} {b : Nat} {g : Grp} {A : Option Addr} {n c : Nat} (h : W.heap[b]? = some (.cells #[.string g.gc, .int .i64 g.Y, .int .i64 g.M, .int .i64 g.N, g.x0, g.x1, g.x2, g.x3, g.x4, g.x5, g.x6, g.x7, g.x8, g.x9, g.x10, g.x11, g.x12, g.x13, g.x14, g.x15, g.x16, .slice A n c] 32)) : W.cell? ⟨b, 21, none⟩ = some (.slice A n c) := by rw [cell_of_row _ _ 21 _ _ _ h]; rfl
theorem fewB_iff (g : Grp) (rs : List Rt) (cur : ByteArray) (h : (fewB g rs && decide (cur.size ≤ 20)) = true) : rs.length ≤ 150 := by
  unfold fewB at h
  simp only [Bool.and_eq_true, decide_eq_true_eq] at h
  exact h.1.2

section
variable (w : World)
set_option maxRecDepth 100000 in
set_option maxHeartbeats 4000000 in
theorem law_spot (g : Grp) (A : Option Addr) (n c : Nat) (rs : List Rt) (cur : ByteArray) (d : Int) (hl : rs.length = n) (hn : n ≤ maxLen) (hg : g.gc.size ≤ maxLen) (hcu : cur.size ≤ maxLen) (hr : ∀ r ∈ rs, r.wf) (h : RatesAt w w.heap.size A rs) :
    Calls Try.prog 3 #[.agg #[.string g.gc, .int .i64 g.Y, .int .i64 g.M, .int .i64 g.N, g.x0, g.x1, g.x2, g.x3, g.x4, g.x5, g.x6, g.x7, g.x8, g.x9, g.x10, g.x11, g.x12, g.x13, g.x14, g.x15, g.x16, .slice A n c], .string cur, .int .i64 d] w fun e w' => e = .returned (.bool true) ∧ Below w.heap.size w w' := by
  have H := Lib.hid h
  clear h
  have hB0 := (Below.refl w.heap.size w).alloc (Nat.le_refl _) (.cells #[.string g.gc, .int .i64 g.Y, .int .i64 g.M, .int .i64 g.N, g.x0, g.x1, g.x2, g.x3, g.x4, g.x5, g.x6, g.x7, g.x8, g.x9, g.x10, g.x11, g.x12, g.x13, g.x14, g.x15, g.x16, .slice A n c] 32)
  have hG := heap_alloc_new w (.cells #[.string g.gc, .int .i64 g.Y, .int .i64 g.M, .int .i64 g.N, g.x0, g.x1, g.x2, g.x3, g.x4, g.x5, g.x6, g.x7, g.x8, g.x9, g.x10, g.x11, g.x12, g.x13, g.x14, g.x15, g.x16, .slice A n c] 32)
  obtain ⟨x, hx⟩ : ∃ x, Rates.whichR g.gc rs cur d = x := ⟨_, rfl⟩
  have Hx := Lib.hid hx
  clear hx
  go_enter Try.func3, Try.ntmps3
  go_wp2_with (fail)
  refine (awake_any _).mono ?_
  rintro e w1 ⟨rfl, hB⟩
  have hB1 := hB0.trans (hB.mono (by simp))
  have hq1 := hB.size
  simp at hq1
  have hG1 := gbox hG hB (by simp)
  have HR1 := Lib.hid ((H.out.below hB1 (Nat.le_refl _)).more hB1.size)
  clear hG
  go_wp2_with (refine wpList_load_row rfl 32 _ rfl _ rfl _ _ _ _ hG1 Try.underlying32 rfl bsize ?_)
  refine (lfew_any _ _ _ _ _ rs _ hl hn hg hcu hr HR1.out).mono ?_
  cases hf : (fewB g rs && decide (cur.size ≤ 20)) with
  | false =>
    rintro e w2 ⟨rfl, hB2⟩
    go_wp2
    go_ret
    exact ⟨rfl, hB1.trans (hB2.mono hB1.size)⟩
  | true =>
    have h150 := fewB_iff g rs cur hf
    rintro e w2 ⟨rfl, hB2⟩
    have hB2' := hB1.trans (hB2.mono hB1.size)
    have hG2 := gbox hG1 hB2 (by omega)
    have HR2 := Lib.hid ((H.out.below hB2' (Nat.le_refl _)).more hB2'.size)
    have hq2 := hB2'.size
    have hp2 := part_of (bsplit hG2)
    have hs2 := bslice hG2
    clear hG1 hf
    have hq2' : w.heap.size < w2.heap.size := (Array.getElem?_eq_some_iff.1 hG2).1
    go_wp2_with (refine wpList_load_list rfl 29 _ rfl ⟨w.heap.size, 0, none⟩ rfl _ _ hp2 Try.underlying29 rfl gsize ?_)
    refine (spot_any _ _ _ _ _ rs _ _ hl (by omega) hg hcu hr HR2.out).mono ?_
    rw [Hx.out]
    rintro e w3 ⟨rfl, hB3⟩
    have hB3' := hB2'.trans (hB3.mono hB2'.size)
    have hG3 := gbox hG2 hB3 hq2'
    have HR3 := Lib.hid ((H.out.below hB3' (Nat.le_refl _)).more hB3'.size)
    have hp3 := part_of (bsplit hG3)
    have hs3 := bslice hG3
    have hq3' : w.heap.size < w3.heap.size := (Array.getElem?_eq_some_iff.1 hG3).1
    clear hp2 hs2 hG2
    go_wp2_with (refine wpList_load_list rfl 29 _ rfl ⟨w.heap.size, 0, none⟩ rfl _ _ hp3 Try.underlying29 rfl gsize ?_)
    refine (dwhich_any _ _ _ _ _ rs _ _ hl (by omega) hg hcu hr HR3.out).mono ?_
    rw [Hx.out]
    rintro e w4 ⟨rfl, hB4⟩
    have hB4' := hB3'.trans (hB4.mono hB3'.size)
    have hG4 := gbox hG3 hB4 hq3'
    have hq4' : w.heap.size < w4.heap.size := (Array.getElem?_eq_some_iff.1 hG4).1
    have hG4a : (w4.alloc (.cells #[.string x.1.cur, .int .i64 x.1.kind, .int .i64 x.1.when_, .int .i64 x.1.val] 39)).heap[w.heap.size]? = _ := (Below.heap_alloc w4 _ _ hq4').trans hG4
    have hp4 := part_of (bsplit hG4a)
    have hs4 := bslice hG4a
    have hR4 := ((H.out.below (hB4'.alloc hB4'.size (.cells #[.string x.1.cur, .int .i64 x.1.kind, .int .i64 x.1.when_, .int .i64 x.1.val] 39)) (Nat.le_refl _)).more (C := (w4.alloc (.cells #[.string x.1.cur, .int .i64 x.1.kind, .int .i64 x.1.when_, .int .i64 x.1.val] 39)).heap.size) (by simp; omega))
    have HR4 := Lib.hid hR4
    clear hp3 hs3 hG3 hG4 hR4
    unfold Rt.v
    go_wp2_with (refine wpList_load_list rfl 29 _ rfl ⟨w.heap.size, 0, none⟩ rfl _ _ hp4 Try.underlying29 rfl gsize ?_)
    refine (rwhich_any _ _ _ _ _ rs _ _ hl (by omega) hg hcu hr HR4.out).mono ?_
    rw [Hx.out]
    rintro e w5 ⟨rfl, hB5⟩
    have hz5 := hB5.size
    simp at hz5
    have hz5' : w4.heap.size < w5.heap.size := by omega
    obtain ⟨hc5, hf5⟩ := bcell hB5
    have hB5' := (hB4'.alloc hB4'.size (.cells #[.string x.1.cur, .int .i64 x.1.kind, .int .i64 x.1.when_, .int .i64 x.1.val] 39)).trans (hB5.mono (by simp; omega))
    clear hp4 hs4 hG4a
    unfold Rt.v
    go_wp2
    go_ret
    exact ⟨rfl, hB5'.alloc hB5'.size _⟩
end
end Go.Proofs.Ytbbbiioojgnpdaa
