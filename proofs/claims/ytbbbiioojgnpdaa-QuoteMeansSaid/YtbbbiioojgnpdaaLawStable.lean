/- The walk of the law QuoteStable. -/
import Derived.Test.YtbbbiioojgnpdaaWith
import Derived.Test.YtbbbiioojgnpdaaPlainLaws
namespace Go.Proofs.Ytbbbiioojgnpdaa
open Go.RowKit Go.Shelf

theorem Rates.near_split (r : Rt) (c : ByteArray) (d : Int) (h : Rates.near r c d = false) : (r.cur.toList == c.toList) = false ∨ ((r.cur.toList == c.toList) = true ∧ (r.kind == 1) = false) ∨
    ((r.cur.toList == c.toList) = true ∧ (r.kind == 1) = true ∧ d < r.when_) ∨ ((r.cur.toList == c.toList) = true ∧ (r.kind == 1) = true ∧ r.when_ ≤ d ∧ r.when_ < d - 40) := by
  unfold Rates.near at h
  cases h1 : (r.cur.toList == c.toList) <;> cases h2 : (r.kind == 1) <;> simp [h1, h2] at h ⊢
  omega
theorem Rates.near_all (r : Rt) (c : ByteArray) (d : Int) (h : Rates.near r c d = true) : (r.cur.toList == c.toList) = true ∧ (r.kind == 1) = true ∧ r.when_ ≤ d ∧ d - 40 ≤ r.when_ := by
  unfold Rates.near at h
  simp only [Bool.and_eq_true, decide_eq_true_eq] at h
  exact ⟨h.1.1.1, h.1.1.2, h.1.2, h.2⟩

section
variable (w : World)
set_option maxRecDepth 100000 in
set_option maxHeartbeats 4000000 in
theorem law_stable (g : Grp) (A : Option Addr) (n c : Nat) (rs : List Rt) (r : Rt) (cur to : ByteArray) (d : Int) (hA : A = none → n = 0 ∧ c = 0) (hone : g.one) (hr0 : r.wf) (hl : rs.length = n) (hn : n ≤ maxLen) (hg : g.gc.size ≤ maxLen) (hcu : cur.size ≤ maxLen) (hr : ∀ r ∈ rs, r.wf) (h : RatesAt w w.heap.size A rs) :
    Calls Try.prog 5 #[.agg #[.string g.gc, .int .i64 g.Y, .int .i64 g.M, .int .i64 g.N, g.x0, g.x1, g.x2, g.x3, g.x4, g.x5, g.x6, g.x7, g.x8, g.x9, g.x10, g.x11, g.x12, g.x13, g.x14, g.x15, g.x16, .slice A n c], r.v, .agg #[.string cur, .string to, .int .i64 d]] w fun e w' => e = .returned (.bool true) ∧ Below w.heap.size w w' := by
  have H := Lib.hid h
  clear h
  obtain ⟨W0, hW0⟩ : ∃ W0, W0 = ((w.alloc (.cells #[.string g.gc, .int .i64 g.Y, .int .i64 g.M, .int .i64 g.N, g.x0, g.x1, g.x2, g.x3, g.x4, g.x5, g.x6, g.x7, g.x8, g.x9, g.x10, g.x11, g.x12, g.x13, g.x14, g.x15, g.x16, .slice A n c] 32)).alloc (.cells #[.string r.cur, .int .i64 r.kind, .int .i64 r.when_, .int .i64 r.val] 39)).alloc (.cells #[.string cur, .string to, .int .i64 d] 47) := ⟨_, rfl⟩
  have hB0 : Below w.heap.size w W0 := by rw [hW0]; exact (((Below.refl w.heap.size w).alloc (Nat.le_refl _) (.cells #[.string g.gc, .int .i64 g.Y, .int .i64 g.M, .int .i64 g.N, g.x0, g.x1, g.x2, g.x3, g.x4, g.x5, g.x6, g.x7, g.x8, g.x9, g.x10, g.x11, g.x12, g.x13, g.x14, g.x15, g.x16, .slice A n c] 32)).alloc (by simp) (.cells #[.string r.cur, .int .i64 r.kind, .int .i64 r.when_, .int .i64 r.val] 39)).alloc (by simp; omega) (.cells #[.string cur, .string to, .int .i64 d] 47)
  have hz0 : W0.heap.size = w.heap.size + 3 := by rw [hW0]; simp
  have hG : W0.heap[w.heap.size]? = some (.cells #[.string g.gc, .int .i64 g.Y, .int .i64 g.M, .int .i64 g.N, g.x0, g.x1, g.x2, g.x3, g.x4, g.x5, g.x6, g.x7, g.x8, g.x9, g.x10, g.x11, g.x12, g.x13, g.x14, g.x15, g.x16, .slice A n c] 32) := by rw [hW0, Below.heap_alloc _ _ _ (by simp; omega), Below.heap_alloc _ _ _ (by simp)]; exact heap_alloc_new w _
  have hE : W0.heap[w.heap.size + 1]? = some (.cells #[.string r.cur, .int .i64 r.kind, .int .i64 r.when_, .int .i64 r.val] 39) := by
    rw [hW0, Below.heap_alloc _ _ _ (by simp)]
    have := heap_alloc_new (w.alloc (.cells #[.string g.gc, .int .i64 g.Y, .int .i64 g.M, .int .i64 g.N, g.x0, g.x1, g.x2, g.x3, g.x4, g.x5, g.x6, g.x7, g.x8, g.x9, g.x10, g.x11, g.x12, g.x13, g.x14, g.x15, g.x16, .slice A n c] 32)) (.cells #[.string r.cur, .int .i64 r.kind, .int .i64 r.when_, .int .i64 r.val] 39)
    rwa [show (w.alloc (.cells #[.string g.gc, .int .i64 g.Y, .int .i64 g.M, .int .i64 g.N, g.x0, g.x1, g.x2, g.x3, g.x4, g.x5, g.x6, g.x7, g.x8, g.x9, g.x10, g.x11, g.x12, g.x13, g.x14, g.x15, g.x16, .slice A n c] 32)).heap.size = w.heap.size + 1 by simp] at this
  have hD : W0.heap[w.heap.size + 1 + 1]? = some (.cells #[.string cur, .string to, .int .i64 d] 47) := by
    have := heap_alloc_new ((w.alloc (.cells #[.string g.gc, .int .i64 g.Y, .int .i64 g.M, .int .i64 g.N, g.x0, g.x1, g.x2, g.x3, g.x4, g.x5, g.x6, g.x7, g.x8, g.x9, g.x10, g.x11, g.x12, g.x13, g.x14, g.x15, g.x16, .slice A n c] 32)).alloc (.cells #[.string r.cur, .int .i64 r.kind, .int .i64 r.when_, .int .i64 r.val] 39)) (.cells #[.string cur, .string to, .int .i64 d] 47)
    rwa [show ((w.alloc (.cells #[.string g.gc, .int .i64 g.Y, .int .i64 g.M, .int .i64 g.N, g.x0, g.x1, g.x2, g.x3, g.x4, g.x5, g.x6, g.x7, g.x8, g.x9, g.x10, g.x11, g.x12, g.x13, g.x14, g.x15, g.x16, .slice A n c] 32)).alloc (.cells #[.string r.cur, .int .i64 r.kind, .int .i64 r.when_, .int .i64 r.val] 39)).heap.size = w.heap.size + 1 + 1 by simp, ← hW0] at this
  have HW := Lib.hid hW0
  clear hW0
  have hcr := hr0.1
  unfold maxLen at hcr
  unfold Rt.v
  go_enter Try.func5, Try.ntmps5
  go_wp2_with (fail)
  rw [← HW.out]
  refine (awake_any _).mono ?_
  rintro e w1 ⟨rfl, hB⟩
  have hq1 := hB.size
  have hB1 := hB0.trans (hB.mono (by omega))
  have hG1 := gbox hG hB (by omega)
  have hE1 := gbox hE hB (by omega)
  have hD1 := gbox hD hB (by omega)
  have HR1 := Lib.hid ((H.out.below hB1 (Nat.le_refl _)).more hB1.size)
  have p0 := cell_of_row _ _ 0 _ _ _ hD1
  simp at p0
  clear hG hE hD
  go_wp2_with (refine wpList_load_row rfl 32 _ rfl _ rfl _ _ _ _ hG1 Try.underlying32 rfl bsize ?_)
  refine (lfew_any _ _ _ _ _ rs _ hl hn hg hcu hr HR1.out).mono ?_
  cases hf : (fewB g rs && decide (cur.size ≤ 20)) with
  | false =>
    rintro e w2 ⟨rfl, hB2⟩
    go_wp2
    go_ret
    exact ⟨rfl, hB1.trans (hB2.mono hB1.size)⟩
  | true =>
    have h150 := fewB_iff g rs cur hf
    rintro e w2 ⟨rfl, hB2⟩
    have hB2' := hB1.trans (hB2.mono hB1.size)
    have hq2 := hB2.size
    have hG2 := gbox hG1 hB2 (by omega)
    have hE2 := gbox hE1 hB2 (by omega)
    have hD2 := gbox hD1 hB2 (by omega)
    have HR2 := Lib.hid ((H.out.below hB2' (Nat.le_refl _)).more hB2'.size)
    have q0 := cell_of_row _ _ 0 _ _ _ hD2
    have q2 := cell_of_row _ _ 2 _ _ _ hD2
    have e0 := cell_of_row _ _ 0 _ _ _ hE2
    have e1 := cell_of_row _ _ 1 _ _ _ hE2
    have e2 := cell_of_row _ _ 2 _ _ _ hE2
    have e3 := cell_of_row _ _ 3 _ _ _ hE2
    simp at q0 q2 e0 e1 e2 e3
    clear hG1 hf hE1 hD1 p0
    by_cases h20 : r.cur.size ≤ 20
    case neg =>
      have h20' : 20 < r.cur.size := by omega
      clear h20
      go_wp2
      go_ret
      exact ⟨rfl, hB2'⟩
    cases hd : decide (-25567 ≤ d ∧ d ≤ 84005) with
    | false =>
      go_wp2_with (go_at_call 19; refine (rvalid_any _ _).mono ?_; rw [hd]; rintro e w5 ⟨rfl, rfl⟩)
      go_ret
      exact ⟨rfl, hB2'⟩
    | true =>
      have hdd : -25567 ≤ d ∧ d ≤ 84005 := of_decide_eq_true hd
      go_wp2_with (first | (refine wpList_load_row rfl 32 _ rfl _ rfl _ _ _ _ hG2 Try.underlying32 rfl bsize ?_) | (go_at_call 19; refine (rvalid_any _ _).mono ?_; rw [hd]; rintro e w5 ⟨rfl, rfl⟩))
      refine (with_any _ g A n c rs r hl (by omega) hA hg hone (fun x hx => (List.mem_cons.1 hx).elim (fun e => e ▸ hr0) (hr x)) HR2.out).mono ?_
      rintro e w4 ⟨hB4, A', m, c', hm, rfl, hR4⟩
      have Hm := Lib.hid hm
      have hm1 : m ≤ 151 := by omega
      clear hm
      have hq4 := hB4.size
      have hB4' := hB2'.trans (hB4.mono hB2'.size)
      have hG4 := gbox hG2 hB4 (by omega)
      have hE4 := gbox hE2 hB4 (by omega)
      have hD4 := gbox hD2 hB4 (by omega)
      have f0 := cell_of_row _ _ 0 _ _ _ hE4
      have f1 := cell_of_row _ _ 1 _ _ _ hE4
      have f2 := cell_of_row _ _ 2 _ _ _ hE4
      have d0 := cell_of_row _ _ 0 _ _ _ hD4
      have d2 := cell_of_row _ _ 2 _ _ _ hD4
      simp at f0 f1 f2 d0 d2
      have hb0 : w.heap.size < w4.heap.size := by omega
      have hb1 : w.heap.size + 1 < w4.heap.size := by omega
      have hb2 : w.heap.size + 1 + 1 < w4.heap.size := by omega
      have h1c : ∀ v ∈ (#[.string g.gc, .int .i64 g.Y, .int .i64 g.M, .int .i64 g.N, g.x0, g.x1, g.x2, g.x3, g.x4, g.x5, g.x6, g.x7, g.x8, g.x9, g.x10, g.x11, g.x12, g.x13, g.x14, g.x15, g.x16, .slice A' m c'] : Array Value).toList, v.oneCell' = true := fun v hv => by
        have := Array.all_eq_true_iff_forall_mem.1 (Grp.one_all hone (.slice A' m c') rfl)
        exact this v (by simpa using hv)
      have H1c := Lib.hid h1c
      have tok1 : True := trivial
      clear q0 q2 e0 e1 e2 e3 hG2 hE2 hD2 h1c
      cases hv : Rates.valid g.gc (r :: rs) with
      | false =>
        go_wp2_with (have _t := tok1; refine wpList_store_new rfl 32 _ _ rfl 32 _ #[.string g.gc, .int .i64 g.Y, .int .i64 g.M, .int .i64 g.N, g.x0, g.x1, g.x2, g.x3, g.x4, g.x5, g.x6, g.x7, g.x8, g.x9, g.x10, g.x11, g.x12, g.x13, g.x14, g.x15, g.x16, .slice A' m c'] rfl rfl rfl H1c.out bsize ?_; clear _t tok1)
        go_ret
        exact ⟨rfl, hB4'.alloc hB4'.size _⟩
      | true =>
        have Hv := Lib.hid hv
        clear hv
        cases hnear : Rates.near r cur d with
        | true =>
          obtain ⟨n1, n2, n3, n4⟩ := Rates.near_all r cur d hnear
          clear hnear
          go_wp2_with (have _t := tok1; refine wpList_store_new rfl 32 _ _ rfl 32 _ #[.string g.gc, .int .i64 g.Y, .int .i64 g.M, .int .i64 g.N, g.x0, g.x1, g.x2, g.x3, g.x4, g.x5, g.x6, g.x7, g.x8, g.x9, g.x10, g.x11, g.x12, g.x13, g.x14, g.x15, g.x16, .slice A' m c'] rfl rfl rfl H1c.out bsize ?_; clear _t tok1)
          go_ret
          exact ⟨rfl, hB4'.alloc hB4'.size _⟩
        | false =>
          have hsame := Lib.hid (Rates.whichR_cons g.gc r rs cur d Hv.out hnear)
          obtain ⟨x, hx⟩ : ∃ x, Rates.whichR g.gc rs cur d = x := ⟨_, rfl⟩
          have Hx := Lib.hid hx
          have Hx' : Hid (Rates.whichR g.gc (r :: rs) cur d = x) := by show _ = _; rw [← hsame.out]; exact hx
          have hG5 := (Below.heap_alloc w4 (.cells #[.string g.gc, .int .i64 g.Y, .int .i64 g.M, .int .i64 g.N, g.x0, g.x1, g.x2, g.x3, g.x4, g.x5, g.x6, g.x7, g.x8, g.x9, g.x10, g.x11, g.x12, g.x13, g.x14, g.x15, g.x16, .slice A' m c'] 32) _ hb0).trans hG4
          have hp5 := part_of (bsplit hG5)
          have hs5 := bslice hG5
          have HR5 := Lib.hid ((H.out.below (hB4'.alloc hB4'.size (.cells #[.string g.gc, .int .i64 g.Y, .int .i64 g.M, .int .i64 g.N, g.x0, g.x1, g.x2, g.x3, g.x4, g.x5, g.x6, g.x7, g.x8, g.x9, g.x10, g.x11, g.x12, g.x13, g.x14, g.x15, g.x16, .slice A' m c'] 32)) (Nat.le_refl _)).more (C := (w4.alloc (.cells #[.string g.gc, .int .i64 g.Y, .int .i64 g.M, .int .i64 g.N, g.x0, g.x1, g.x2, g.x3, g.x4, g.x5, g.x6, g.x7, g.x8, g.x9, g.x10, g.x11, g.x12, g.x13, g.x14, g.x15, g.x16, .slice A' m c'] 32)).heap.size) (by simp; omega))
          have HM5 := Lib.hid (hR4.start (.cells #[.string g.gc, .int .i64 g.Y, .int .i64 g.M, .int .i64 g.N, g.x0, g.x1, g.x2, g.x3, g.x4, g.x5, g.x6, g.x7, g.x8, g.x9, g.x10, g.x11, g.x12, g.x13, g.x14, g.x15, g.x16, .slice A' m c'] 32))
          have hM5 := heap_alloc_new w4 (.cells #[.string g.gc, .int .i64 g.Y, .int .i64 g.M, .int .i64 g.N, g.x0, g.x1, g.x2, g.x3, g.x4, g.x5, g.x6, g.x7, g.x8, g.x9, g.x10, g.x11, g.x12, g.x13, g.x14, g.x15, g.x16, .slice A' m c'] 32)
          have hrr : ∀ x ∈ r :: rs, x.wf := fun x hx => (List.mem_cons.1 hx).elim (fun e => e ▸ hr0) (hr x)
          have hsp := Rates.near_split r cur d hnear
          clear hx hnear hG4
          rcases hsp with n1 | ⟨n1, n2⟩ | ⟨n1, n2, n3⟩ | ⟨n1, n2, n3, n4⟩
          all_goals
            go_wp2_with (first | (have _t := tok1; refine wpList_store_new rfl 32 _ _ rfl 32 _ #[.string g.gc, .int .i64 g.Y, .int .i64 g.M, .int .i64 g.N, g.x0, g.x1, g.x2, g.x3, g.x4, g.x5, g.x6, g.x7, g.x8, g.x9, g.x10, g.x11, g.x12, g.x13, g.x14, g.x15, g.x16, .slice A' m c'] rfl rfl rfl H1c.out bsize ?_; clear _t tok1) | (refine wpList_load_list rfl 29 _ rfl ⟨w.heap.size, 0, none⟩ rfl _ _ hp5 Try.underlying29 rfl gsize ?_))
            refine (spot_any _ _ _ _ _ rs _ _ hl (by omega) hg hcu hr HR5.out).mono ?_
            rw [Hx.out]
            rintro e w6 ⟨rfl, hB6⟩
            have hq6 := hB6.size
            simp at hq6
            have hB6' := (hB4'.alloc hB4'.size (.cells #[.string g.gc, .int .i64 g.Y, .int .i64 g.M, .int .i64 g.N, g.x0, g.x1, g.x2, g.x3, g.x4, g.x5, g.x6, g.x7, g.x8, g.x9, g.x10, g.x11, g.x12, g.x13, g.x14, g.x15, g.x16, .slice A' m c'] 32)).trans (hB6.mono (by simp; omega))
            have hM6 := gbox hM5 hB6 (by simp)
            have hp6 := part_of (bsplit hM6)
            have hs6 := bslice hM6
            have HM6 := Lib.hid ((HM5.out.below hB6 (Nat.le_refl _)).more hB6.size)
            have hD6 := gbox ((Below.heap_alloc w4 (.cells #[.string g.gc, .int .i64 g.Y, .int .i64 g.M, .int .i64 g.N, g.x0, g.x1, g.x2, g.x3, g.x4, g.x5, g.x6, g.x7, g.x8, g.x9, g.x10, g.x11, g.x12, g.x13, g.x14, g.x15, g.x16, .slice A' m c'] 32) _ hb2).trans hD4) hB6 (by simp; omega)
            have s0 := cell_of_row _ _ 0 _ _ _ hD6
            have s2 := cell_of_row _ _ 2 _ _ _ hD6
            simp at s0 s2
            have hw6 : w4.heap.size < w6.heap.size := by omega
            clear hs5 d0 d2 f0 f1 f2
            go_wp2_with (refine wpList_load_list rfl 29 _ rfl ⟨w4.heap.size, 0, none⟩ rfl _ _ hp6 Try.underlying29 rfl gsize ?_)
            refine (spot_any _ _ _ _ _ (r :: rs) _ _ (by simp [Hm.out]) (by omega) hg hcu hrr HM6.out).mono ?_
            rw [Hx'.out]
            rintro e w7 ⟨rfl, hB7⟩
            go_wp2
            go_ret
            exact ⟨rfl, hB6'.trans (hB7.mono hB6'.size)⟩
end
end Go.Proofs.Ytbbbiioojgnpdaa
