/- The walk of the law QuoteLasts. -/
import Derived.Test.YtbbbiioojgnpdaaLawSpot
import Derived.Test.YtbbbiioojgnpdaaPlainLaws
import Derived.Test.YtbbbiioojgnpdaaSame
namespace Go.Proofs.Ytbbbiioojgnpdaa
open Go.RowKit Go.Shelf

section
variable (w : World)
set_option maxRecDepth 100000 in
set_option maxHeartbeats 4000000 in
theorem law_lasts (g : Grp) (A : Option Addr) (n c : Nat) (rs : List Rt) (cur to : ByteArray) (d k : Int) (hk0 : 0 ≤ k) (hk1 : k ≤ 255) (hl : rs.length = n) (hn : n ≤ maxLen) (hg : g.gc.size ≤ maxLen) (hcu : cur.size ≤ maxLen) (hr : ∀ r ∈ rs, r.wf) (h : RatesAt w w.heap.size A rs) :
    Calls Try.prog 8 #[.agg #[.string g.gc, .int .i64 g.Y, .int .i64 g.M, .int .i64 g.N, g.x0, g.x1, g.x2, g.x3, g.x4, g.x5, g.x6, g.x7, g.x8, g.x9, g.x10, g.x11, g.x12, g.x13, g.x14, g.x15, g.x16, .slice A n c], .agg #[.string cur, .string to, .int .i64 d], .int .u8 k] w fun e w' => e = .returned (.bool true) ∧ Below w.heap.size w w' := by
  have H := Lib.hid h
  clear h
  have hB0 := ((Below.refl w.heap.size w).alloc (Nat.le_refl _) (.cells #[.string g.gc, .int .i64 g.Y, .int .i64 g.M, .int .i64 g.N, g.x0, g.x1, g.x2, g.x3, g.x4, g.x5, g.x6, g.x7, g.x8, g.x9, g.x10, g.x11, g.x12, g.x13, g.x14, g.x15, g.x16, .slice A n c] 32)).alloc (by simp) (.cells #[.string cur, .string to, .int .i64 d] 47)
  have hG := (Below.heap_alloc (w.alloc (.cells #[.string g.gc, .int .i64 g.Y, .int .i64 g.M, .int .i64 g.N, g.x0, g.x1, g.x2, g.x3, g.x4, g.x5, g.x6, g.x7, g.x8, g.x9, g.x10, g.x11, g.x12, g.x13, g.x14, g.x15, g.x16, .slice A n c] 32)) (.cells #[.string cur, .string to, .int .i64 d] 47) w.heap.size (by simp)).trans (heap_alloc_new w (.cells #[.string g.gc, .int .i64 g.Y, .int .i64 g.M, .int .i64 g.N, g.x0, g.x1, g.x2, g.x3, g.x4, g.x5, g.x6, g.x7, g.x8, g.x9, g.x10, g.x11, g.x12, g.x13, g.x14, g.x15, g.x16, .slice A n c] 32))
  have hD := heap_alloc_new (w.alloc (.cells #[.string g.gc, .int .i64 g.Y, .int .i64 g.M, .int .i64 g.N, g.x0, g.x1, g.x2, g.x3, g.x4, g.x5, g.x6, g.x7, g.x8, g.x9, g.x10, g.x11, g.x12, g.x13, g.x14, g.x15, g.x16, .slice A n c] 32)) (.cells #[.string cur, .string to, .int .i64 d] 47)
  rw [show (w.alloc (.cells #[.string g.gc, .int .i64 g.Y, .int .i64 g.M, .int .i64 g.N, g.x0, g.x1, g.x2, g.x3, g.x4, g.x5, g.x6, g.x7, g.x8, g.x9, g.x10, g.x11, g.x12, g.x13, g.x14, g.x15, g.x16, .slice A n c] 32)).heap.size = w.heap.size + 1 by simp] at hD
  have Hx := Lib.hid (Rates.lasts_cases g.gc rs cur d)
  go_enter Try.func8, Try.ntmps8
  go_wp2_with (fail)
  refine (awake_any _).mono ?_
  rintro e w1 ⟨rfl, hB⟩
  have hB1 := hB0.trans (hB.mono (by simp; omega))
  have hq1 := hB.size
  simp at hq1
  have hG1 := gbox hG hB (by simp; omega)
  have hD1 := gbox hD hB (by simp)
  have HR1 := Lib.hid ((H.out.below hB1 (Nat.le_refl _)).more hB1.size)
  have p0 := cell_of_row _ _ 0 _ _ _ hD1
  simp at p0
  have hq1' : w.heap.size + 1 < w1.heap.size := by omega
  clear hG hD
  go_wp2_with (refine wpList_load_row rfl 32 _ rfl _ rfl _ _ _ _ hG1 Try.underlying32 rfl bsize ?_)
  refine (lfew_any _ _ _ _ _ rs _ hl hn hg hcu hr HR1.out).mono ?_
  cases hf : (fewB g rs && decide (cur.size ≤ 20)) with
  | false =>
    rintro e w2 ⟨rfl, hB2⟩
    go_wp2
    go_ret
    exact ⟨rfl, hB1.trans (hB2.mono hB1.size)⟩
  | true =>
    have h150 := fewB_iff g rs cur hf
    rintro e w2 ⟨rfl, hB2⟩
    have hB2' := hB1.trans (hB2.mono hB1.size)
    have hG2 := gbox hG1 hB2 (by omega)
    have hD2 := gbox hD1 hB2 (by omega)
    have HR2 := Lib.hid ((H.out.below hB2' (Nat.le_refl _)).more hB2'.size)
    have hp2 := part_of (bsplit hG2)
    have hs2 := bslice hG2
    have q0 := cell_of_row _ _ 0 _ _ _ hD2
    have q2 := cell_of_row _ _ 2 _ _ _ hD2
    simp at q0 q2
    clear hG1 hf hD1 p0
    have hq2' : w.heap.size + 1 < w2.heap.size := (Array.getElem?_eq_some_iff.1 hD2).1
    go_wp2_with (refine wpList_load_list rfl 29 _ rfl ⟨w.heap.size, 0, none⟩ rfl _ _ hp2 Try.underlying29 rfl gsize ?_)
    refine (dwhich_any _ _ _ _ _ rs _ _ hl (by omega) hg hcu hr HR2.out).mono ?_
    rcases Hx.out with ⟨x, hx, he⟩ | ⟨hx, he⟩ | ⟨hx, r, he, f1, f2, f3, f4, f5, f6⟩
    all_goals
      rw [he]
      rintro e w3 ⟨rfl, hB3⟩
      have hB3' := hB2'.trans (hB3.mono hB2'.size)
      have hG3 := gbox hG2 hB3 (by omega)
      have hD3 := gbox hD2 hB3 (by omega)
      have hq3' : w.heap.size + 1 < w3.heap.size := (Array.getElem?_eq_some_iff.1 hD3).1
      have hq3b : w.heap.size < w3.heap.size := by omega
      have r0 := cell_of_row _ _ 0 _ _ _ hD3
      have r2 := cell_of_row _ _ 2 _ _ _ hD3
      have g0 := cell_of_row _ _ 0 _ _ _ hG3
      have hs3 := bslice hG3
      simp at r0 r2 g0
      clear hG2 hD2 q0 q2 hp2 hs2
      unfold Rt.v
    · unfold Rt.zero
      go_wp2
      go_ret
      exact ⟨rfl, hB3'.alloc hB3'.size _⟩
    · go_wp2
      go_ret
      exact ⟨rfl, hB3'.alloc hB3'.size _⟩
    · have F1 := Lib.hid f1
      have F6 := Lib.hid f6
      clear f1 f6 he
      have hR4 := ((H.out.below (hB3'.alloc hB3'.size (.cells #[.string r.cur, .int .i64 r.kind, .int .i64 r.when_, .int .i64 r.val] 39)) (Nat.le_refl _)).more (C := (w3.alloc (.cells #[.string r.cur, .int .i64 r.kind, .int .i64 r.when_, .int .i64 r.val] 39)).heap.size) (by simp; omega))
      have HR4 := Lib.hid hR4
      clear hR4
      go_wp2_with (fail)
      refine (rfind_any _ _ _ _ rs _ _ _ hl (by omega) HR4.out).mono ?_
      rw [F1.out]
      rintro e w5 ⟨rfl, hB5⟩
      have hz5 := hB5.size
      simp at hz5
      have hR3 := Below.heap_alloc w3 (.cells #[.string r.cur, .int .i64 r.kind, .int .i64 r.when_, .int .i64 r.val] 39)
      have hG5 := gbox ((hR3 _ hq3b).trans hG3) hB5 (by simp; omega)
      have hD5 := gbox ((hR3 _ hq3').trans hD3) hB5 (by simp; omega)
      have hE5 := gbox (heap_alloc_new w3 (.cells #[.string r.cur, .int .i64 r.kind, .int .i64 r.when_, .int .i64 r.val] 39)) hB5 (by simp)
      have hB5' := (hB3'.alloc hB3'.size (.cells #[.string r.cur, .int .i64 r.kind, .int .i64 r.when_, .int .i64 r.val] 39)).trans (hB5.mono (by simp; omega))
      have s0 := cell_of_row _ _ 0 _ _ _ hD5
      have s2 := cell_of_row _ _ 2 _ _ _ hD5
      have e2 := cell_of_row _ _ 2 _ _ _ hE5
      have e3 := cell_of_row _ _ 3 _ _ _ hE5
      simp at s0 s2 e2 e3
      have hp5 := fun q => part_of (w := w5.drewN q) (bsplit hG5)
      have hs5 := bslice hG5
      clear r0 r2 g0 hs3 hG3 hD3 hR3
      obtain ⟨t, ht⟩ : ∃ t, Int.tmod k (d - r.when_ + 1) = t := ⟨_, rfl⟩
      have ht0 : 0 ≤ t := by rw [← ht]; exact Int.tmod_nonneg _ hk0
      have ht1 : t ≤ d - r.when_ := by
        have := Int.tmod_lt_of_pos k (b := d - r.when_ + 1) (by omega)
        omega
      have i1 : IntKind.i64.wrap (d - r.when_) = d - r.when_ := IntWalk.i64_in _ (by omega)
      have i2 : IntKind.i64.wrap (d - r.when_ + 1) = d - r.when_ + 1 := IntWalk.i64_in _ (by omega)
      have i3 : IntKind.i64.wrap (r.when_ + t) = r.when_ + t := IntWalk.i64_in _ (by omega)
      have F := Lib.hid (F6.out (r.when_ + t) (by omega) (by omega))
      have HR5 := fun q => Lib.hid ((H.out.below (below_drewN hB5' q) (Nat.le_refl _)).more (C := (w5.drewN q).heap.size) hB5'.size)
      go_wp2
      go_quiet (fail)
      go_wp2_with (refine wpList_load_list rfl 29 _ rfl ⟨w.heap.size, 0, none⟩ rfl _ _ (hp5 _) Try.underlying29 rfl gsize ?_)
      refine (spot_any _ _ _ _ _ rs _ _ hl (by omega) hg hcu hr (HR5 _).out).mono ?_
      rw [F.out]
      rintro e w6 ⟨rfl, hB6⟩
      go_wp2
      go_ret
      exact ⟨rfl, (below_drewN hB5' _).trans (hB6.mono hB5'.size)⟩
end
end Go.Proofs.Ytbbbiioojgnpdaa
