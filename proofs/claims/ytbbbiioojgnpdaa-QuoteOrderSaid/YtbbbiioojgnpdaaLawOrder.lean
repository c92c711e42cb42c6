/- The walk of the law QuoteOrder. -/
import Derived.Test.YtbbbiioojgnpdaaLawSpot
import Derived.Test.YtbbbiioojgnpdaaCongr
namespace Go.Proofs.Ytbbbiioojgnpdaa
open Go.RowKit Go.Shelf

section
variable (w : World)
set_option maxRecDepth 100000 in
set_option maxHeartbeats 4000000 in
theorem law_order (g : Grp) (A : Option Addr) (n c : Nat) (rs : List Rt) (cur : ByteArray) (d0 d1 : Int) (hl : rs.length = n) (hn : n ≤ maxLen) (hg : g.gc.size ≤ maxLen) (hcu : cur.size ≤ maxLen) (hr : ∀ r ∈ rs, r.wf) (h : RatesAt w w.heap.size A rs) :
    Calls Try.prog 7 #[.agg #[.string g.gc, .int .i64 g.Y, .int .i64 g.M, .int .i64 g.N, g.x0, g.x1, g.x2, g.x3, g.x4, g.x5, g.x6, g.x7, g.x8, g.x9, g.x10, g.x11, g.x12, g.x13, g.x14, g.x15, g.x16, .slice A n c], .string cur, .agg #[.int .i64 d0, .int .i64 d1]] w fun e w' => e = .returned (.bool true) ∧ Below w.heap.size w w' := by
  have H := Lib.hid h
  clear h
  have hB0 := ((Below.refl w.heap.size w).alloc (Nat.le_refl _) (.cells #[.string g.gc, .int .i64 g.Y, .int .i64 g.M, .int .i64 g.N, g.x0, g.x1, g.x2, g.x3, g.x4, g.x5, g.x6, g.x7, g.x8, g.x9, g.x10, g.x11, g.x12, g.x13, g.x14, g.x15, g.x16, .slice A n c] 32)).alloc (by simp) (.cells #[.int .i64 d0, .int .i64 d1] 58)
  have hG := (Below.heap_alloc (w.alloc (.cells #[.string g.gc, .int .i64 g.Y, .int .i64 g.M, .int .i64 g.N, g.x0, g.x1, g.x2, g.x3, g.x4, g.x5, g.x6, g.x7, g.x8, g.x9, g.x10, g.x11, g.x12, g.x13, g.x14, g.x15, g.x16, .slice A n c] 32)) (.cells #[.int .i64 d0, .int .i64 d1] 58) w.heap.size (by simp)).trans (heap_alloc_new w (.cells #[.string g.gc, .int .i64 g.Y, .int .i64 g.M, .int .i64 g.N, g.x0, g.x1, g.x2, g.x3, g.x4, g.x5, g.x6, g.x7, g.x8, g.x9, g.x10, g.x11, g.x12, g.x13, g.x14, g.x15, g.x16, .slice A n c] 32))
  have hD := heap_alloc_new (w.alloc (.cells #[.string g.gc, .int .i64 g.Y, .int .i64 g.M, .int .i64 g.N, g.x0, g.x1, g.x2, g.x3, g.x4, g.x5, g.x6, g.x7, g.x8, g.x9, g.x10, g.x11, g.x12, g.x13, g.x14, g.x15, g.x16, .slice A n c] 32)) (.cells #[.int .i64 d0, .int .i64 d1] 58)
  rw [show (w.alloc (.cells #[.string g.gc, .int .i64 g.Y, .int .i64 g.M, .int .i64 g.N, g.x0, g.x1, g.x2, g.x3, g.x4, g.x5, g.x6, g.x7, g.x8, g.x9, g.x10, g.x11, g.x12, g.x13, g.x14, g.x15, g.x16, .slice A n c] 32)).heap.size = w.heap.size + 1 by simp] at hD
  go_enter Try.func7, Try.ntmps7
  go_wp2_with (fail)
  refine (awake_any _).mono ?_
  rintro e w1 ⟨rfl, hB⟩
  have hB1 := hB0.trans (hB.mono (by simp; omega))
  have hq1 := hB.size
  simp at hq1
  have hG1 := gbox hG hB (by simp; omega)
  have HR1 := Lib.hid ((H.out.below hB1 (Nat.le_refl _)).more hB1.size)
  clear hG
  go_wp2_with (refine wpList_load_row rfl 32 _ rfl _ rfl _ _ _ _ hG1 Try.underlying32 rfl bsize ?_)
  refine (lfew_any _ _ _ _ _ rs _ hl hn hg hcu hr HR1.out).mono ?_
  cases hf : (fewB g rs && decide (cur.size ≤ 20)) with
  | false =>
    rintro e w2 ⟨rfl, hB2⟩
    go_wp2
    go_ret
    exact ⟨rfl, hB1.trans (hB2.mono hB1.size)⟩
  | true =>
    have h150 := fewB_iff g rs cur hf
    rintro e w2 ⟨rfl, hB2⟩
    have hB2' := hB1.trans (hB2.mono hB1.size)
    have hG2 := gbox hG1 hB2 (by omega)
    have HR2 := Lib.hid ((H.out.below hB2' (Nat.le_refl _)).more hB2'.size)
    have hp2 := part_of (bsplit hG2)
    have hs2 := bslice hG2
    clear hG1 hf
    have hq2' : w.heap.size < w2.heap.size := (Array.getElem?_eq_some_iff.1 hG2).1
    go_wp2
    have hD2 := gbox (gbox hD hB (by simp)) hB2 (by omega)
    obtain ⟨i0, hi, hz0, hz1, hz2⟩ := info_parts info39
    go_loopw [7, 8] (fun v d wr => ∃ m k : Nat, m + k = rs.length ∧ d = .int .i64 ((m : Int) - 1) ∧ wr.ownsRow w2.heap.size 39 4 v k (rowOf (rs.reverse.take k)) ∧ Below w2.heap.size w2 wr) (fun _ d _ => (intOf d + 1).toNat)
    case atStart => exact ⟨n, 0, by omega, rfl, World.ownsRow_nil _ _ _ _, Below.refl _ _⟩
    case round =>
      obtain ⟨m, k, hk, rfl, hown, hb⟩ := hrel
      have hGr := gbox hG2 hb hq2'
      have hsr := bslice hGr
      have hzr := hb.size
      match m, hk with
      | m + 1, hk =>
        rw [show ((m + 1 : Nat) : Int) - 1 = (m : Int) by omega]
        have hlt : m < rs.length := by omega
        obtain ⟨b, o, rfl, hbB, c0, c1, c2, c3⟩ := (H.out.below (hB2'.trans (hb.mono hB2'.size)) (Nat.le_refl _)).look hlt
        have hst : Hid (rs.reverse.take (k + 1) = rs.reverse.take k ++ [rs[m]]) := by
          show _ = _
          rw [List.take_succ_eq_append_getElem (by simp; omega), List.getElem_reverse]
          congr 3
          omega
        have hnew := cells_at _ _ _ rs[m] (heap_alloc_new wr (.cells #[.string rs[m].cur, .int .i64 rs[m].kind, .int .i64 rs[m].when_, .int .i64 rs[m].val] 39))
        have hown1 := hown.alloc (.cells #[.string rs[m].cur, .int .i64 rs[m].kind, .int .i64 rs[m].when_, .int .i64 rs[m].val] 39)
        have hk1 : k + 1 ≤ 1000 := by omega
        go_wp2_with (at_builtin; refine wpList_append_own _ rfl _ _ 30 rfl w2.heap.size 39 i0 Rt.zero.v 4 40 Try.underlying30 hi hz0 hz1 hz2 rfl (by decide) _ _ _ rfl hown1 ⟨wr.heap.size, 0, none⟩ 1 1 (Rt.cells rs[m]) rfl rfl hnew (by simp [Rt.cells, Value.oneCell']) (by unfold maxLen; omega) (by omega) (by simp; omega) ?_)
        intro v' w9 hown' hgrow _
        have hb9 := (hb.alloc hzr (.cells #[.string rs[m].cur, .int .i64 rs[m].kind, .int .i64 rs[m].when_, .int .i64 rs[m].val] 39)).grown hgrow (by simp; omega) (own_base hown)
        go_wp2
        go_roundw
        case rel => exact ⟨m, k + 1, by omega, by go_num, by rw [hst.out, rowOf_snoc]; exact hown', hb9⟩
        case measure => simp [intOf]
      | 0, hk =>
        obtain ⟨A', c', rfl, hR'⟩ := ratesAt_own hown (by simp; try omega)
        have hkn : k = rs.length := by omega
        have htk : rs.reverse.take k = rs.reverse := List.take_of_length_le (by simp; omega)
        rw [htk] at hown hR' ⊢
        have hB3' := hB2'.trans (hb.mono hB2'.size)
        have HR3 := Lib.hid ((H.out.below hB3' (Nat.le_refl _)).more hB3'.size)
        have HT3 := Lib.hid hR'
        have hG3 := hGr
        have hD3 := gbox hD2 hb (Array.getElem?_eq_some_iff.1 hD2).1
        have hrev : rs.reverse.length = rs.length := by simp
        have hrr : ∀ r ∈ rs.reverse, r.wf := fun r hx => hr r (by simpa using hx)
        obtain ⟨x, hx⟩ : ∃ x, Rates.whichR g.gc rs cur d0 = x := ⟨_, rfl⟩
        obtain ⟨y, hy⟩ : ∃ y, Rates.avg g rs cur d1 = y := ⟨_, rfl⟩
        have Hx := Lib.hid hx
        have Hy := Lib.hid hy
        have Hx' : Hid (Rates.whichR g.gc rs.reverse cur d0 = x) := by show _ = _; rw [← Rates.whichR_reverse]; exact hx
        have Hy' : Hid (Rates.avg g rs.reverse cur d1 = y) := by show _ = _; rw [← Rates.avg_reverse]; exact hy
        clear hx hy htk hown hR'
        have hp3 := part_of (bsplit hG3)
        have hs3 := bslice hG3
        have hq3' : w.heap.size < wr.heap.size := Nat.lt_of_lt_of_le hq2' hb.size
        have hq3d : w.heap.size + 1 < wr.heap.size := (Array.getElem?_eq_some_iff.1 hD3).1
        have d30 := cell_of_row _ _ 0 _ _ _ hD3
        simp at d30
        go_wp2_with (refine wpList_load_list rfl 29 _ rfl ⟨w.heap.size, 0, none⟩ rfl _ _ hp3 Try.underlying29 rfl gsize ?_)
        refine (spot_any _ _ _ _ _ rs _ _ hl (by omega) hg hcu hr HR3.out).mono ?_
        rw [Hx.out]
        rintro e w4 ⟨rfl, hB4⟩
        have hB4' := hB3'.trans (hB4.mono hB3'.size)
        have hG4 := gbox hG3 hB4 hq3'
        have hD4 := gbox hD3 hB4 hq3d
        have hq4' : w.heap.size < w4.heap.size := (Array.getElem?_eq_some_iff.1 hG4).1
        have hq4d : w.heap.size + 1 < w4.heap.size := (Array.getElem?_eq_some_iff.1 hD4).1
        have hp4 := part_of (bsplit hG4)
        have hs4 := bslice hG4
        have d4 := cell_of_row _ _ 0 _ _ _ hD4
        simp at d4
        have HR4 := Lib.hid ((H.out.below hB4' (Nat.le_refl _)).more hB4'.size)
        have HT4 := Lib.hid ((HT3.out.below hB4 (Nat.le_refl _)).more hB4.size)
        clear hp3 hs3 hG3 hD3 d30
        go_wp2_with (refine wpList_load_list rfl 29 _ rfl ⟨w.heap.size, 0, none⟩ rfl _ _ hp4 Try.underlying29 rfl gsize ?_)
        refine (spot_any _ _ _ _ _ rs.reverse _ _ (by omega) (by omega) hg hcu hrr HT4.out).mono ?_
        rw [Hx'.out]
        rintro e w5 ⟨rfl, hB5⟩
        have hB5' := hB4'.trans (hB5.mono hB4'.size)
        have hG5 := gbox hG4 hB5 hq4'
        have hD5 := gbox hD4 hB5 hq4d
        have hq5' : w.heap.size < w5.heap.size := (Array.getElem?_eq_some_iff.1 hG5).1
        have hq5d : w.heap.size + 1 < w5.heap.size := (Array.getElem?_eq_some_iff.1 hD5).1
        have hp5 := part_of (bsplit hG5)
        have hs5 := bslice hG5
        have d5 := cell_of_row _ _ 1 _ _ _ hD5
        simp at d5
        have HR5 := Lib.hid ((H.out.below hB5' (Nat.le_refl _)).more hB5'.size)
        have HT5 := Lib.hid ((HT4.out.below hB5 (Nat.le_refl _)).more hB5.size)
        clear hp4 hs4 hG4 hD4 d4
        go_wp2_with (refine wpList_load_list rfl 29 _ rfl ⟨w.heap.size, 0, none⟩ rfl _ _ hp5 Try.underlying29 rfl gsize ?_)
        refine (davg_any _ _ _ _ _ rs _ _ hl (by omega) hg hcu hr HR5.out).mono ?_
        rw [Hy.out]
        rintro e w6 ⟨rfl, hB6⟩
        have hB6' := hB5'.trans (hB6.mono hB5'.size)
        have hG6 := gbox hG5 hB6 hq5'
        have hD6 := gbox hD5 hB6 hq5d
        have hq6' : w.heap.size < w6.heap.size := (Array.getElem?_eq_some_iff.1 hG6).1
        have hq6d : w.heap.size + 1 < w6.heap.size := (Array.getElem?_eq_some_iff.1 hD6).1
        have hp6 := part_of (bsplit hG6)
        have hs6 := bslice hG6
        have d6 := cell_of_row _ _ 1 _ _ _ hD6
        simp at d6
        have HR6 := Lib.hid ((H.out.below hB6' (Nat.le_refl _)).more hB6'.size)
        have HT6 := Lib.hid ((HT5.out.below hB6 (Nat.le_refl _)).more hB6.size)
        clear hp5 hs5 hG5 hD5 d5
        go_wp2_with (refine wpList_load_list rfl 29 _ rfl ⟨w.heap.size, 0, none⟩ rfl _ _ hp6 Try.underlying29 rfl gsize ?_)
        refine (davg_any _ _ _ _ _ rs.reverse _ _ (by omega) (by omega) hg hcu hrr HT6.out).mono ?_
        rw [Hy'.out]
        rintro e w7 ⟨rfl, hB7⟩
        go_wp2
        go_ret
        exact ⟨rfl, hB6'.trans (hB7.mono hB6'.size)⟩
end
end Go.Proofs.Ytbbbiioojgnpdaa
