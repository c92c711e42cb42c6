/- The walk of the law QuoteAverage. -/
import Derived.Test.YtbbbiioojgnpdaaLawSpot
import Derived.Test.YtbbbiioojgnpdaaSame
namespace Go.Proofs.Ytbbbiioojgnpdaa
open Go.RowKit Go.Shelf

namespace Rates
/-- The list that Days returns beside its error. -/
def daysL (g : Grp) (rs : List Rt) (cur : ByteArray) (p : Int) : List Rt := if errP g rs cur p = 0 then daysP g rs cur p else []
end Rates
theorem daysL_len (g : Grp) (rs : List Rt) (cur : ByteArray) (p : Int) : (Rates.daysL g rs cur p).length ≤ 1000 := by
  unfold Rates.daysL
  split
  · rename_i h
    have := Rates.daysP_len g rs cur p h
    omega
  · simp
theorem daysPost_one {g : Grp} {rs : List Rt} {cur : ByteArray} {p : Int} {w w' : World} {e : Ending} (h : DaysPost g rs cur p w e w') :
    Below w.heap.size w w' ∧ ∃ A n c, e = .returned (.tuple #[.slice A n c, .int .i64 (Rates.errP g rs cur p)]) ∧ (Rates.daysL g rs cur p).length = n ∧ RatesAt w' w'.heap.size A (Rates.daysL g rs cur p) := by
  unfold Rates.daysL
  obtain ⟨hB, h | h⟩ := h
  · refine ⟨hB, none, 0, 0, h.2, ?_⟩
    rw [if_neg h.1]
    exact ⟨rfl, .inl rfl⟩
  · obtain ⟨h0, A, c, he, hR⟩ := h
    refine ⟨hB, A, (Rates.daysP g rs cur p).length, c, ?_, ?_⟩
    · rw [h0]; exact he
    · rw [if_pos h0]; exact ⟨rfl, hR⟩

section
variable (w : World)
set_option maxRecDepth 100000 in
set_option maxHeartbeats 4000000 in
theorem law_average (g : Grp) (A : Option Addr) (n c : Nat) (rs : List Rt) (cur : ByteArray) (d : Int) (hl : rs.length = n) (hn : n ≤ maxLen) (hg : g.gc.size ≤ maxLen) (hcu : cur.size ≤ maxLen) (hr : ∀ r ∈ rs, r.wf) (h : RatesAt w w.heap.size A rs) :
    Calls Try.prog 4 #[.agg #[.string g.gc, .int .i64 g.Y, .int .i64 g.M, .int .i64 g.N, g.x0, g.x1, g.x2, g.x3, g.x4, g.x5, g.x6, g.x7, g.x8, g.x9, g.x10, g.x11, g.x12, g.x13, g.x14, g.x15, g.x16, .slice A n c], .string cur, .int .i64 d] w fun e w' => e = .returned (.bool true) ∧ Below w.heap.size w w' := by
  have H := Lib.hid h
  clear h
  have hB0 := (Below.refl w.heap.size w).alloc (Nat.le_refl _) (.cells #[.string g.gc, .int .i64 g.Y, .int .i64 g.M, .int .i64 g.N, g.x0, g.x1, g.x2, g.x3, g.x4, g.x5, g.x6, g.x7, g.x8, g.x9, g.x10, g.x11, g.x12, g.x13, g.x14, g.x15, g.x16, .slice A n c] 32)
  have hG := heap_alloc_new w (.cells #[.string g.gc, .int .i64 g.Y, .int .i64 g.M, .int .i64 g.N, g.x0, g.x1, g.x2, g.x3, g.x4, g.x5, g.x6, g.x7, g.x8, g.x9, g.x10, g.x11, g.x12, g.x13, g.x14, g.x15, g.x16, .slice A n c] 32)
  obtain ⟨x, hx⟩ : ∃ x, Rates.avg g rs cur d = x := ⟨_, rfl⟩
  have Hx := Lib.hid hx
  clear hx
  go_enter Try.func4, Try.ntmps4
  go_wp2_with (fail)
  refine (awake_any _).mono ?_
  rintro e w1 ⟨rfl, hB⟩
  have hB1 := hB0.trans (hB.mono (by simp))
  have hq1 := hB.size
  simp at hq1
  have hG1 := gbox hG hB (by simp)
  have HR1 := Lib.hid ((H.out.below hB1 (Nat.le_refl _)).more hB1.size)
  clear hG
  go_wp2_with (refine wpList_load_row rfl 32 _ rfl _ rfl _ _ _ _ hG1 Try.underlying32 rfl bsize ?_)
  refine (lfew_any _ _ _ _ _ rs _ hl hn hg hcu hr HR1.out).mono ?_
  cases hf : (fewB g rs && decide (cur.size ≤ 20)) with
  | false =>
    rintro e w2 ⟨rfl, hB2⟩
    go_wp2
    go_ret
    exact ⟨rfl, hB1.trans (hB2.mono hB1.size)⟩
  | true =>
    have h150 := fewB_iff g rs cur hf
    rintro e w2 ⟨rfl, hB2⟩
    have hB2' := hB1.trans (hB2.mono hB1.size)
    have hG2 := gbox hG1 hB2 (by omega)
    have HR2 := Lib.hid ((H.out.below hB2' (Nat.le_refl _)).more hB2'.size)
    have hp2 := part_of (bsplit hG2)
    have hs2 := bslice hG2
    clear hG1 hf
    have hq2' : w.heap.size < w2.heap.size := (Array.getElem?_eq_some_iff.1 hG2).1
    go_wp2_with (refine wpList_load_list rfl 29 _ rfl ⟨w.heap.size, 0, none⟩ rfl _ _ hp2 Try.underlying29 rfl gsize ?_)
    refine (davg_any _ _ _ _ _ rs _ _ hl (by omega) hg hcu hr HR2.out).mono ?_
    rw [Hx.out]
    rintro e w3 ⟨rfl, hB3⟩
    have hB3' := hB2'.trans (hB3.mono hB2'.size)
    have hG3 := gbox hG2 hB3 hq2'
    have HR3 := Lib.hid ((H.out.below hB3' (Nat.le_refl _)).more hB3'.size)
    have hp3 := part_of (bsplit hG3)
    have hs3 := bslice hG3
    have hq3' : w.heap.size < w3.heap.size := (Array.getElem?_eq_some_iff.1 hG3).1
    clear hp2 hs2 hG2
    go_wp2_with (refine wpList_load_list rfl 29 _ rfl ⟨w.heap.size, 0, none⟩ rfl _ _ hp3 Try.underlying29 rfl gsize ?_)
    refine (ravg_any _ _ _ _ _ rs _ _ hl (by omega) hg hcu hr HR3.out).mono ?_
    rw [Hx.out]
    rintro e w4 ⟨rfl, hB4⟩
    have hB4' := hB3'.trans (hB4.mono hB3'.size)
    have hG4 := gbox hG3 hB4 hq3'
    have HR4 := Lib.hid ((H.out.below hB4' (Nat.le_refl _)).more hB4'.size)
    have hp4 := part_of (bsplit hG4)
    have hs4 := bslice hG4
    have hq4' : w.heap.size < w4.heap.size := (Array.getElem?_eq_some_iff.1 hG4).1
    clear hp3 hs3 hG3
    go_wp2_with (refine wpList_load_list rfl 29 _ rfl ⟨w.heap.size, 0, none⟩ rfl _ _ hp4 Try.underlying29 rfl gsize ?_)
    refine (dDays_any _ _ _ _ _ rs _ _ hl (by omega) hg hcu hr HR4.out).mono ?_
    rintro e w5 hD
    obtain ⟨hB5, A5, n5, c5, rfl, hl5, hR5⟩ := daysPost_one hD
    clear hD
    have HL5 := Lib.hid hR5
    clear hR5
    have hB5' := hB4'.trans (hB5.mono hB4'.size)
    have hG5 := gbox hG4 hB5 hq4'
    have HR5 := Lib.hid ((H.out.below hB5' (Nat.le_refl _)).more hB5'.size)
    have hp5 := part_of (bsplit hG5)
    have hs5 := bslice hG5
    have hq5' : w.heap.size < w5.heap.size := (Array.getElem?_eq_some_iff.1 hG5).1
    clear hp4 hs4 hG4
    go_wp2_with (refine wpList_load_list rfl 29 _ rfl ⟨w.heap.size, 0, none⟩ rfl _ _ hp5 Try.underlying29 rfl gsize ?_)
    refine (rDays_any _ _ _ _ _ rs _ _ hl (by omega) hg hcu hr HR5.out).mono ?_
    rintro e w6 hD
    obtain ⟨hB6, A6, n6, c6, rfl, hl6, hR6⟩ := daysPost_one hD
    clear hD
    have HL6 := Lib.hid hR6
    have HL5' := Lib.hid ((HL5.out.below hB6 (Nat.le_refl _)).more hB6.size)
    clear hR6
    have hB6' := hB5'.trans (hB6.mono hB5'.size)
    obtain rfl : n5 = n6 := by rw [← hl5, ← hl6]
    go_wp2_with (fail)
    refine (same_any _ _ _ _ _ _ (Rates.daysL g rs cur d) hl5 (by rw [← hl5]; exact daysL_len _ _ _ _) HL5'.out HL6.out).mono ?_
    rintro e w7 ⟨rfl, hB7⟩
    go_wp2
    go_ret
    exact ⟨rfl, hB6'.trans (hB7.mono hB6'.size)⟩
end
end Go.Proofs.Ytbbbiioojgnpdaa
