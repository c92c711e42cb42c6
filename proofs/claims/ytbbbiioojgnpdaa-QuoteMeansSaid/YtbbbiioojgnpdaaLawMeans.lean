/- The walk of the law QuoteMeans. -/
import Derived.Test.YtbbbiioojgnpdaaLawStable
import Derived.Deep.DeepCutAuto
namespace Go.Proofs.Ytbbbiioojgnpdaa
open Go.RowKit Go.Shelf

theorem Rates.inside_split (r : Rt) (c : ByteArray) (a b : Int) (h : Rates.inside r c a b = false) : (r.cur.toList == c.toList) = false ∨ ((r.cur.toList == c.toList) = true ∧ (r.kind == 2) = false ∧ r.when_ < a) ∨
    ((r.cur.toList == c.toList) = true ∧ (r.kind == 2) = false ∧ a ≤ r.when_ ∧ b < r.when_) := by
  unfold Rates.inside at h
  cases h1 : (r.cur.toList == c.toList) <;> cases h2 : (r.kind == 2) <;> simp [h1, h2] at h ⊢
  omega
theorem Rates.inside_all (r : Rt) (c : ByteArray) (a b : Int) (h : Rates.inside r c a b = true) : (r.cur.toList == c.toList) = true ∧ ((r.kind == 2) = true ∨ ((r.kind == 2) = false ∧ a ≤ r.when_ ∧ r.when_ ≤ b)) := by
  unfold Rates.inside at h
  cases h1 : (r.cur.toList == c.toList) <;> cases h2 : (r.kind == 2) <;> simp [h1, h2] at h ⊢
  exact h

theorem min_snoc {l : List Rt} {x : Int} {r : Rt} (h : ∀ q ∈ l, x ≤ q.val) : ∀ q ∈ l ++ [r], min x r.val ≤ q.val := by
  intro q hq
  rcases List.mem_append.1 hq with hq | hq
  · have := h q hq; omega
  · rw [List.mem_singleton] at hq; subst hq; omega
theorem max_snoc {l : List Rt} {x : Int} {r : Rt} (h : ∀ q ∈ l, q.val ≤ x) : ∀ q ∈ l ++ [r], q.val ≤ max x r.val := by
  intro q hq
  rcases List.mem_append.1 hq with hq | hq
  · have := h q hq; omega
  · rw [List.mem_singleton] at hq; subst hq; omega
theorem first_either (W : World) (Y M N p fa fe la : Int) (h : ((fe != 0) = true ∧ Cal.err Y M N p = fe ∧ fa = 0 ∧ la = 0) ∨ ((fe != 0) = false ∧ fe = 0 ∧ Cal.err Y M N p = 0 ∧ fa = Cal.first Y M p ∧ la = Cal.last Y M p)) :
    Calls Try.prog 22 #[.agg #[.int .i64 Y, .int .i64 M, .int .i64 N], .int .i64 p] W fun e w' => e = .returned (.tuple #[.int .i64 fa, .int .i64 fe]) ∧ Below W.heap.size W w' := by
  rcases h with ⟨h1, h2, rfl, rfl⟩ | ⟨h1, rfl, h2, rfl, rfl⟩
  · subst h2; exact rFirst_bad _ _ _ _ _ (by simpa using h1)
  · exact rFirst_any _ _ _ _ _ h2
theorem last_either (W : World) (Y M N p fa fe la : Int) (h : ((fe != 0) = true ∧ Cal.err Y M N p = fe ∧ fa = 0 ∧ la = 0) ∨ ((fe != 0) = false ∧ fe = 0 ∧ Cal.err Y M N p = 0 ∧ fa = Cal.first Y M p ∧ la = Cal.last Y M p)) :
    Calls Try.prog 23 #[.agg #[.int .i64 Y, .int .i64 M, .int .i64 N], .int .i64 p] W fun e w' => e = .returned (.tuple #[.int .i64 la, .int .i64 fe]) ∧ Below W.heap.size W w' := by
  rcases h with ⟨h1, h2, rfl, rfl⟩ | ⟨h1, rfl, h2, rfl, rfl⟩
  · subst h2; exact rLast_bad _ _ _ _ _ (by simpa using h1)
  · exact rLast_any _ _ _ _ _ h2
/-- What Days returns, in one form. -/
theorem days_split {g : Grp} {rs : List Rt} {cur : ByteArray} {p : Int} {w : World} {e : Ending} {w' : World} (h : DaysPost g rs cur p w e w') :
    Below w.heap.size w w' ∧ ∃ A m c f, e = .returned (.tuple #[.slice A m c, .int .i64 f]) ∧ ((f == 0) = false ∨ ((f == 0) = true ∧ Rates.errP g rs cur p = 0 ∧ m = (Rates.daysP g rs cur p).length ∧ RatesAt w' w'.heap.size A (Rates.daysP g rs cur p))) := by
  obtain ⟨hB, ⟨h0, rfl⟩ | ⟨h0, A, c, rfl, hR⟩⟩ := h
  · exact ⟨hB, none, 0, 0, _, rfl, .inl (by simpa using h0)⟩
  · exact ⟨hB, A, _, c, 0, rfl, .inr ⟨rfl, h0, rfl, hR⟩⟩

section
variable (w : World)
set_option maxRecDepth 100000 in
set_option maxHeartbeats 4000000 in
theorem law_means (g : Grp) (A : Option Addr) (n c : Nat) (rs : List Rt) (r : Rt) (cur : ByteArray) (p : Int) (hA : A = none → n = 0 ∧ c = 0) (hone : g.one) (hr0 : r.wf) (hl : rs.length = n) (hn : n ≤ maxLen) (hg : g.gc.size ≤ maxLen) (hcu : cur.size ≤ maxLen) (hr : ∀ r ∈ rs, r.wf) (h : RatesAt w w.heap.size A rs) :
    Calls Try.prog 6 #[.agg #[.string g.gc, .int .i64 g.Y, .int .i64 g.M, .int .i64 g.N, g.x0, g.x1, g.x2, g.x3, g.x4, g.x5, g.x6, g.x7, g.x8, g.x9, g.x10, g.x11, g.x12, g.x13, g.x14, g.x15, g.x16, .slice A n c], r.v, .agg #[.string cur, .int .i64 p]] w fun e w' => e = .returned (.bool true) ∧ Below w.heap.size w w' := by
  have H := Lib.hid h
  clear h
  obtain ⟨W0, hW0⟩ : ∃ W0, W0 = ((w.alloc (.cells #[.string g.gc, .int .i64 g.Y, .int .i64 g.M, .int .i64 g.N, g.x0, g.x1, g.x2, g.x3, g.x4, g.x5, g.x6, g.x7, g.x8, g.x9, g.x10, g.x11, g.x12, g.x13, g.x14, g.x15, g.x16, .slice A n c] 32)).alloc (.cells #[.string r.cur, .int .i64 r.kind, .int .i64 r.when_, .int .i64 r.val] 39)).alloc (.cells #[.string cur, .int .i64 p] 53) := ⟨_, rfl⟩
  have hB0 : Below w.heap.size w W0 := by rw [hW0]; exact (((Below.refl w.heap.size w).alloc (Nat.le_refl _) (.cells #[.string g.gc, .int .i64 g.Y, .int .i64 g.M, .int .i64 g.N, g.x0, g.x1, g.x2, g.x3, g.x4, g.x5, g.x6, g.x7, g.x8, g.x9, g.x10, g.x11, g.x12, g.x13, g.x14, g.x15, g.x16, .slice A n c] 32)).alloc (by simp) (.cells #[.string r.cur, .int .i64 r.kind, .int .i64 r.when_, .int .i64 r.val] 39)).alloc (by simp; omega) (.cells #[.string cur, .int .i64 p] 53)
  have hz0 : W0.heap.size = w.heap.size + 3 := by rw [hW0]; simp
  have hG : W0.heap[w.heap.size]? = some (.cells #[.string g.gc, .int .i64 g.Y, .int .i64 g.M, .int .i64 g.N, g.x0, g.x1, g.x2, g.x3, g.x4, g.x5, g.x6, g.x7, g.x8, g.x9, g.x10, g.x11, g.x12, g.x13, g.x14, g.x15, g.x16, .slice A n c] 32) := by rw [hW0, Below.heap_alloc _ _ _ (by simp; omega), Below.heap_alloc _ _ _ (by simp)]; exact heap_alloc_new w _
  have hE : W0.heap[w.heap.size + 1]? = some (.cells #[.string r.cur, .int .i64 r.kind, .int .i64 r.when_, .int .i64 r.val] 39) := by
    rw [hW0, Below.heap_alloc _ _ _ (by simp)]
    have := heap_alloc_new (w.alloc (.cells #[.string g.gc, .int .i64 g.Y, .int .i64 g.M, .int .i64 g.N, g.x0, g.x1, g.x2, g.x3, g.x4, g.x5, g.x6, g.x7, g.x8, g.x9, g.x10, g.x11, g.x12, g.x13, g.x14, g.x15, g.x16, .slice A n c] 32)) (.cells #[.string r.cur, .int .i64 r.kind, .int .i64 r.when_, .int .i64 r.val] 39)
    rwa [show (w.alloc (.cells #[.string g.gc, .int .i64 g.Y, .int .i64 g.M, .int .i64 g.N, g.x0, g.x1, g.x2, g.x3, g.x4, g.x5, g.x6, g.x7, g.x8, g.x9, g.x10, g.x11, g.x12, g.x13, g.x14, g.x15, g.x16, .slice A n c] 32)).heap.size = w.heap.size + 1 by simp] at this
  have hD : W0.heap[w.heap.size + 1 + 1]? = some (.cells #[.string cur, .int .i64 p] 53) := by
    have := heap_alloc_new ((w.alloc (.cells #[.string g.gc, .int .i64 g.Y, .int .i64 g.M, .int .i64 g.N, g.x0, g.x1, g.x2, g.x3, g.x4, g.x5, g.x6, g.x7, g.x8, g.x9, g.x10, g.x11, g.x12, g.x13, g.x14, g.x15, g.x16, .slice A n c] 32)).alloc (.cells #[.string r.cur, .int .i64 r.kind, .int .i64 r.when_, .int .i64 r.val] 39)) (.cells #[.string cur, .int .i64 p] 53)
    rwa [show ((w.alloc (.cells #[.string g.gc, .int .i64 g.Y, .int .i64 g.M, .int .i64 g.N, g.x0, g.x1, g.x2, g.x3, g.x4, g.x5, g.x6, g.x7, g.x8, g.x9, g.x10, g.x11, g.x12, g.x13, g.x14, g.x15, g.x16, .slice A n c] 32)).alloc (.cells #[.string r.cur, .int .i64 r.kind, .int .i64 r.when_, .int .i64 r.val] 39)).heap.size = w.heap.size + 1 + 1 by simp, ← hW0] at this
  have HW := Lib.hid hW0
  clear hW0
  have hcr := hr0.1
  unfold maxLen at hcr
  unfold Rt.v
  go_enter Try.func6, Try.ntmps6
  go_wp2_with (fail)
  rw [← HW.out]
  refine (awake_any _).mono ?_
  rintro e w1 ⟨rfl, hB⟩
  have hq1 := hB.size
  have hB1 := hB0.trans (hB.mono (by omega))
  have hG1 := gbox hG hB (by omega)
  have hE1 := gbox hE hB (by omega)
  have hD1 := gbox hD hB (by omega)
  have HR1 := Lib.hid ((H.out.below hB1 (Nat.le_refl _)).more hB1.size)
  have p0 := cell_of_row _ _ 0 _ _ _ hD1
  simp at p0
  clear hG hE hD
  go_wp2_with (refine wpList_load_row rfl 32 _ rfl _ rfl _ _ _ _ hG1 Try.underlying32 rfl bsize ?_)
  refine (lfew_any _ _ _ _ _ rs _ hl hn hg hcu hr HR1.out).mono ?_
  cases hf : (fewB g rs && decide (cur.size ≤ 20)) with
  | false =>
    rintro e w2 ⟨rfl, hB2⟩
    go_wp2
    go_ret
    exact ⟨rfl, hB1.trans (hB2.mono hB1.size)⟩
  | true =>
    have h150 := fewB_iff g rs cur hf
    rintro e w2 ⟨rfl, hB2⟩
    have hB2' := hB1.trans (hB2.mono hB1.size)
    have hq2 := hB2.size
    have hG2 := gbox hG1 hB2 (by omega)
    have hE2 := gbox hE1 hB2 (by omega)
    have hD2 := gbox hD1 hB2 (by omega)
    have HR2 := Lib.hid ((H.out.below hB2' (Nat.le_refl _)).more hB2'.size)
    have q0 := cell_of_row _ _ 0 _ _ _ hD2
    have q2 := cell_of_row _ _ 1 _ _ _ hD2
    have e0 := cell_of_row _ _ 0 _ _ _ hE2
    have e1 := cell_of_row _ _ 1 _ _ _ hE2
    have e2 := cell_of_row _ _ 2 _ _ _ hE2
    have e3 := cell_of_row _ _ 3 _ _ _ hE2
    simp at q0 q2 e0 e1 e2 e3
    clear hG1 hf hE1 hD1 p0
    by_cases h20 : r.cur.size ≤ 20
    case neg =>
      have h20' : 20 < r.cur.size := by omega
      clear h20
      go_wp2
      go_ret
      exact ⟨rfl, hB2'⟩
    have hp2 := part_of (bsplit hG2)
    have hs2 := bslice hG2
    obtain ⟨xn, xe, hx⟩ : ∃ xn xe, Rates.avg g rs cur p = (xn, xe) := ⟨_, _, rfl⟩
    have Hx := Lib.hid hx
    clear hx
    go_wp2_with (refine wpList_load_list rfl 29 _ rfl ⟨w.heap.size, 0, none⟩ rfl _ _ hp2 Try.underlying29 rfl gsize ?_)
    refine (davg_any _ _ _ _ _ rs _ _ hl (by omega) hg hcu hr HR2.out).mono ?_
    rw [Hx.out]
    rintro e w3 ⟨rfl, hB3⟩
    have hq3 := hB3.size
    have hB3' := hB2'.trans (hB3.mono hB2'.size)
    have hG3 := gbox hG2 hB3 (by omega)
    have hE3 := gbox hE2 hB3 (by omega)
    have hD3 := gbox hD2 hB3 (by omega)
    have HR3 := Lib.hid ((H.out.below hB3' (Nat.le_refl _)).more hB3'.size)
    have hp3 := part_of (bsplit hG3)
    have hs3 := bslice hG3
    have u0 := cell_of_row _ _ 0 _ _ _ hD3
    have u1 := cell_of_row _ _ 1 _ _ _ hD3
    simp at u0 u1
    clear hp2 hs2 hG2 hE2 hD2 q0 q2 e0 e1 e2 e3 HR2
    go_wp2_with (refine wpList_load_list rfl 29 _ rfl ⟨w.heap.size, 0, none⟩ rfl _ _ hp3 Try.underlying29 rfl gsize ?_)
    refine (dDays_any _ _ _ _ _ rs _ _ hl (by omega) hg hcu hr HR3.out).mono ?_
    rintro e w4 hDP
    obtain ⟨hB4, A4, m4, c4, f4, rfl, hcase⟩ := days_split hDP
    have Hcase := Lib.hid hcase
    have hq4 := hB4.size
    have hB4' := hB3'.trans (hB4.mono hB3'.size)
    have hG4 := gbox hG3 hB4 (by omega)
    have hE4 := gbox hE3 hB4 (by omega)
    have hD4 := gbox hD3 hB4 (by omega)
    have HR4 := Lib.hid ((H.out.below hB4' (Nat.le_refl _)).more hB4'.size)
    clear hDP hcase hp3 hs3 hG3 hE3 hD3 u0 u1 HR3
    go_upto_region 7 with (fail)
    go_cut [9, 71] (fun v c wx => v = .slice A4 m4 c4 ∧ c = .bool ((xe == 0) && (f4 == 0) && decide (0 < m4)) ∧ w4 = wx)
    case first =>
      cases h1 : (xe == 0) <;> cases h2 : (f4 == 0)
      all_goals
        go_wp2
        go_meet
        exact ⟨rfl, by first | (rw [h1, h2]; rfl) | simp [h1, h2], rfl⟩
    case rest =>
      obtain ⟨rfl, rfl, rfl⟩ := hcut
      go_upto_if 71 with (fail)
      go_cut [9] (fun _ wx => Below w4.heap.size w4 wx)
      case first =>
        cases hall : ((xe == 0) && (f4 == 0) && decide (0 < m4)) with
        | false =>
          go_wp2
          go_meet
          exact Below.refl _ _
        | true =>
          simp only [Bool.and_eq_true, decide_eq_true_eq] at hall
          obtain ⟨⟨h1, h2⟩, h6⟩ := hall
          obtain ⟨h3, h4, h5⟩ : Rates.errP g rs cur p = 0 ∧ m4 = (Rates.daysP g rs cur p).length ∧ RatesAt w4 w4.heap.size A4 (Rates.daysP g rs cur p) := by
            rcases Hcase.out with h | h
            · rw [h2] at h; cases h
            · exact h.2
          have H3 := Lib.hid h3
          have hlen := Rates.daysP_len g rs cur p h3
          obtain ⟨l, hle⟩ : ∃ l, Rates.daysP g rs cur p = l := ⟨_, rfl⟩
          have Hle := Lib.hid hle
          rw [hle] at h4 h5 hlen
          have H4 := Lib.hid h4
          have H5 := Lib.hid h5
          have hl0 : 0 < l.length := by omega
          have hm31 : m4 ≤ 31 := by omega
          obtain ⟨bb, o, rfl, hbB, k0, k1, k2, k3⟩ := h5.look hl0
          simp at k3
          clear h3 h4 h5 hle h1 h2 k0 k1 k2 Hcase
          go_wp2
          go_quiet (fail)
          go_wp2
          go_loopw [11, 12, 13] (fun a b i wr => ∃ (k : Nat) (x y : Int), k ≤ m4 ∧ i = .int .i64 k ∧ a = .int .i64 x ∧ b = .int .i64 y ∧ (∀ r ∈ l.take k, x ≤ r.val) ∧ (∀ r ∈ l.take k, r.val ≤ y) ∧ Below w4.heap.size w4 wr) (fun _ _ i _ => m4 - (intOf i).toNat)
          case atStart => exact ⟨0, _, _, Nat.zero_le _, rfl, rfl, rfl, by simp, by simp, below_drewN (Below.refl _ _) _⟩
          case round =>
            obtain ⟨k, x, y, hk, rfl, rfl, rfl, hx, hy, hb⟩ := hrel
            have HX := Lib.hid hx
            have HY := Lib.hid hy
            clear hx hy k3 hbB
            by_cases hlt : k < m4
            · have hkl : k < l.length := by have := H4.out; omega
              obtain ⟨bb', o', e', hbB, k0, k1, k2, k3⟩ := (H5.out.below hb (Nat.le_refl _)).look hkl
              cases e'
              have hst : Hid (l.take (k + 1) = l.take k ++ [l[k]]) := by show _ = _; rw [List.take_succ_eq_append_getElem hkl]
              go_wp2
              go_quiet (fail)
              go_wp2
              go_roundw
              case rel => exact ⟨k + 1, _, _, by omega, by go_num, rfl, rfl, by rw [hst.out]; exact min_snoc HX.out, by rw [hst.out]; exact max_snoc HY.out, below_drewN hb _⟩
              case measure => simp [intOf]; omega
            · have hkl : k = l.length := by have := H4.out; omega
              have htk : l.take k = l := List.take_of_length_le (by omega)
              have HXl : Hid (∀ r ∈ l, x ≤ r.val) := by show ∀ r ∈ l, _; rw [← htk]; exact HX.out
              have HYl : Hid (∀ r ∈ l, r.val ≤ y) := by show ∀ r ∈ l, _; rw [← htk]; exact HY.out
              have hG5 := gbox hG4 hb (by omega)
              have hD5 := gbox hD4 hb (by omega)
              have hs5 := bslice hG5
              have v0 := cell_of_row _ _ 0 _ _ _ hD5
              have v1 := cell_of_row _ _ 1 _ _ _ hD5
              simp at v0 v1
              have HR5 := Lib.hid (HR4.out.at_ hb (Nat.le_refl _))
              clear hkl htk hG5 hD5 HX HY
              rcases Rates.find_getD (Rates.find rs cur 2 p) with ⟨v, hv⟩ | hv
              · have Hv := Lib.hid hv
                clear hv
                go_wp2_with (fail)
                refine (rfind_any _ _ _ _ rs _ _ _ hl (by omega) HR5.out).mono ?_
                rw [Hv.out]
                rintro e w6 ⟨rfl, hB6⟩
                go_wp2
                go_meet
                exact hb.trans (hB6.mono hb.size)
              · have hmean := Rates.avg_mean g rs cur p H3.out hv (by rw [Hle.out]; exact hl0)
                rw [Hle.out, Hx.out] at hmean
                have hxn : xn = Rates.mean l := congrArg Prod.fst hmean
                have hlo : x ≤ xn := by rw [hxn]; exact Rates.mean_lo x l hl0 HXl.out
                have hhi : xn ≤ y := by rw [hxn]; exact Rates.mean_hi y l hl0 HYl.out
                have Hv := Lib.hid hv
                clear hv hmean hxn
                go_wp2_with (fail)
                refine (rfind_any _ _ _ _ rs _ _ _ hl (by omega) HR5.out).mono ?_
                rw [Hv.out]
                rintro e w6 ⟨rfl, hB6⟩
                go_wp2
                go_meet
                exact hb.trans (hB6.mono hb.size)
      case rest =>
        have hb := hcut
        have hG5 := gbox hG4 hb (by omega)
        have hE5 := gbox hE4 hb (by omega)
        have hD5 := gbox hD4 hb (by omega)
        have hq5 := hb.size
        have hB5' := hB4'.trans (hb.mono hB4'.size)
        have HR5 := Lib.hid (HR4.out.at_ hb (Nat.le_refl _))
        clear hcut Hcase HR4 hG4 hE4 hD4
        have hb0 : w.heap.size < wc.heap.size := by omega
        have hb1 : w.heap.size + 1 < wc.heap.size := by omega
        have hb2 : w.heap.size + 1 + 1 < wc.heap.size := by omega
        have c1 := cell_of_row _ _ 1 _ _ _ hG5
        have c2 := cell_of_row _ _ 2 _ _ _ hG5
        have c3 := cell_of_row _ _ 3 _ _ _ hG5
        have d1 := cell_of_row _ _ 1 _ _ _ hD5
        simp at c1 c2 c3 d1
        obtain ⟨fa, fe, la, hfa⟩ : ∃ fa fe la : Int, ((fe != 0) = true ∧ Cal.err g.Y g.M g.N p = fe ∧ fa = 0 ∧ la = 0) ∨ ((fe != 0) = false ∧ fe = 0 ∧ Cal.err g.Y g.M g.N p = 0 ∧ fa = Cal.first g.Y g.M p ∧ la = Cal.last g.Y g.M p) := by
          by_cases h : Cal.err g.Y g.M g.N p = 0
          · exact ⟨_, 0, _, .inr ⟨by simp, rfl, h, rfl, rfl⟩⟩
          · exact ⟨0, _, 0, .inl ⟨by simpa using h, rfl, rfl, rfl⟩⟩
        have Hfa := Lib.hid hfa
        clear hfa
        have hFirst := fun W => Lib.hid (first_either W g.Y g.M g.N p fa fe la Hfa.out)
        have hLast := fun W => Lib.hid (last_either W g.Y g.M g.N p fa fe la Hfa.out)
        go_wp2_with (fail)
        refine (hFirst _).out.mono ?_
        rintro e w5 ⟨rfl, hB5⟩
        have hqf := hB5.size
        obtain ⟨hc5, hf5⟩ := bcell hB5
        have hb0 : w.heap.size < w5.heap.size := by omega
        have hb2 : w.heap.size + 1 + 1 < w5.heap.size := by omega
        go_wp2_with (fail)
        refine (hLast _).out.mono ?_
        rintro e w6 ⟨rfl, hB6⟩
        have hqg := hB6.size
        have hB6w := hb.trans ((hB5.mono hq5).trans (hB6.mono (by omega)))
        have hB56 := hB5.trans (hB6.mono hqf)
        have hG6 := gbox hG5 hB56 (by omega)
        have hE6 := gbox hE5 hB56 (by omega)
        have hD6 := gbox hD5 hB56 (by omega)
        have HR6 := Lib.hid (HR5.out.at_ hB56 (Nat.le_refl _))
        have hB6' := hB5'.trans (hB56.mono hB5'.size)
        have i0 := cell_of_row _ _ 0 _ _ _ hE6
        have i1 := cell_of_row _ _ 1 _ _ _ hE6
        have i2 := cell_of_row _ _ 2 _ _ _ hE6
        have i3 := cell_of_row _ _ 3 _ _ _ hE6
        simp at i0 i1 i2 i3
        clear hc5 hf5 c1 c2 c3 d1 hG5 hE5 hD5 HR5
        go_wp2_with (refine wpList_load_row rfl 32 _ rfl _ rfl _ _ _ _ hG6 Try.underlying32 rfl bsize ?_)
        refine (with_any _ g A n c rs r hl (by omega) hA hg hone (fun x hx => (List.mem_cons.1 hx).elim (fun e => e ▸ hr0) (hr x)) HR6.out).mono ?_
        rintro e w7 ⟨hB7, A', m, c', hm, rfl, hR7⟩
        have Hm := Lib.hid hm
        have hm1 : m ≤ 151 := by omega
        clear hm
        have hq7 := hB7.size
        have hB7' := hB6'.trans (hB7.mono hB6'.size)
        have hG7 := gbox hG6 hB7 (by omega)
        have hE7 := gbox hE6 hB7 (by omega)
        have hD7 := gbox hD6 hB7 (by omega)
        have f0 := cell_of_row _ _ 0 _ _ _ hE7
        have f1 := cell_of_row _ _ 1 _ _ _ hE7
        have f2 := cell_of_row _ _ 2 _ _ _ hE7
        have d0 := cell_of_row _ _ 0 _ _ _ hD7
        have d1 := cell_of_row _ _ 1 _ _ _ hD7
        simp at f0 f1 f2 d0 d1
        have hb0 : w.heap.size < w7.heap.size := by omega
        have hb1 : w.heap.size + 1 < w7.heap.size := by omega
        have hb2 : w.heap.size + 1 + 1 < w7.heap.size := by omega
        have h1c : ∀ v ∈ (#[.string g.gc, .int .i64 g.Y, .int .i64 g.M, .int .i64 g.N, g.x0, g.x1, g.x2, g.x3, g.x4, g.x5, g.x6, g.x7, g.x8, g.x9, g.x10, g.x11, g.x12, g.x13, g.x14, g.x15, g.x16, .slice A' m c'] : Array Value).toList, v.oneCell' = true := fun v hv => by
          have := Array.all_eq_true_iff_forall_mem.1 (Grp.one_all hone (.slice A' m c') rfl)
          exact this v (by simpa using hv)
        have H1c := Lib.hid h1c
        have hp8 := part_of (bsplit (heap_alloc_new w7 (.cells #[.string g.gc, .int .i64 g.Y, .int .i64 g.M, .int .i64 g.N, g.x0, g.x1, g.x2, g.x3, g.x4, g.x5, g.x6, g.x7, g.x8, g.x9, g.x10, g.x11, g.x12, g.x13, g.x14, g.x15, g.x16, .slice A' m c'] 32)))
        have hs8 := bslice (heap_alloc_new w7 (.cells #[.string g.gc, .int .i64 g.Y, .int .i64 g.M, .int .i64 g.N, g.x0, g.x1, g.x2, g.x3, g.x4, g.x5, g.x6, g.x7, g.x8, g.x9, g.x10, g.x11, g.x12, g.x13, g.x14, g.x15, g.x16, .slice A' m c'] 32))
        have HM8 := Lib.hid (hR7.start (.cells #[.string g.gc, .int .i64 g.Y, .int .i64 g.M, .int .i64 g.N, g.x0, g.x1, g.x2, g.x3, g.x4, g.x5, g.x6, g.x7, g.x8, g.x9, g.x10, g.x11, g.x12, g.x13, g.x14, g.x15, g.x16, .slice A' m c'] 32))
        have tok1 : True := trivial
        clear h1c hG6 hE6 hD6 i0 i1 i2 i3 hB56 HR6
        go_upto_region 19 with (have _t := tok1; refine wpList_store_new rfl 32 _ _ rfl 32 _ #[.string g.gc, .int .i64 g.Y, .int .i64 g.M, .int .i64 g.N, g.x0, g.x1, g.x2, g.x3, g.x4, g.x5, g.x6, g.x7, g.x8, g.x9, g.x10, g.x11, g.x12, g.x13, g.x14, g.x15, g.x16, .slice A' m c'] rfl rfl rfl H1c.out bsize ?_; clear _t tok1)
        cases hv : Rates.valid g.gc (r :: rs) with
        | false =>
          go_wp2
          go_ret
          exact ⟨rfl, hB7'.alloc hB7'.size _⟩
        | true =>
          have Hv := Lib.hid hv
          clear hv
          rcases Hfa.out with ⟨h1, _⟩ | ⟨h1, _, _, h4, h5⟩
          · go_wp2
            go_ret
            exact ⟨rfl, hB7'.alloc hB7'.size _⟩
          · have H4 := Lib.hid h4
            have H5 := Lib.hid h5
            clear h4 h5
            cases hin : Rates.inside r cur fa la with
            | true =>
              obtain ⟨n1, n2⟩ := Rates.inside_all r cur fa la hin
              clear hin
              rcases n2 with n2 | ⟨n2, n3, n4⟩
              all_goals
                go_wp2
                go_ret
                exact ⟨rfl, hB7'.alloc hB7'.size _⟩
            | false =>
              have hsame := Lib.hid (Rates.avg_cons g r rs cur p Hv.out (by rw [← H4.out, ← H5.out]; exact hin))
              have Hx' : Hid (Rates.avg g (r :: rs) cur p = (xn, xe)) := by show _ = _; rw [← hsame.out]; exact Hx.out
              have hrr : ∀ x ∈ r :: rs, x.wf := fun x hx => (List.mem_cons.1 hx).elim (fun e => e ▸ hr0) (hr x)
              have hsp := Rates.inside_split r cur fa la hin
              clear hin
              rcases hsp with n1 | ⟨n1, n2, n3⟩ | ⟨n1, n2, n3, n4⟩
              all_goals
                go_upto_region 21 with (fail)
                go_wp2_with (refine wpList_load_list rfl 29 _ rfl ⟨w7.heap.size, 0, none⟩ rfl _ _ hp8 Try.underlying29 rfl gsize ?_)
                refine (davg_any _ _ _ _ _ (r :: rs) _ _ (by simp [Hm.out]) (by omega) hg hcu hrr HM8.out).mono ?_
                rw [Hx'.out]
                rintro e w9 ⟨rfl, hB9⟩
                go_wp2
                go_ret
                exact ⟨rfl, (hB7'.alloc hB7'.size (.cells #[.string g.gc, .int .i64 g.Y, .int .i64 g.M, .int .i64 g.N, g.x0, g.x1, g.x2, g.x3, g.x4, g.x5, g.x6, g.x7, g.x8, g.x9, g.x10, g.x11, g.x12, g.x13, g.x14, g.x15, g.x16, .slice A' m c'] 32)).trans (hB9.mono (by simp; omega))⟩
end
end Go.Proofs.Ytbbbiioojgnpdaa
