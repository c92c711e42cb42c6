/- The walks of the reference's Days, Average and of its comparison of lists. -/
import Derived.Test.YtbbbiioojgnpdaaCollect
namespace Go.Proofs.Ytbbbiioojgnpdaa
open Go.RowKit Go.Shelf

theorem grown_of_below {a b : World} (h : Below a.heap.size a b) : a.grownBy b none := ⟨h.os, h.tape, h.output, h.size, fun i hi _ => h.block i hi⟩
theorem owns_below {a b : World} {base : Nat} {e : TypeId} {size n : Nat} {v : Value} {xs : List Value} (h : a.ownsRow base e size v n xs) (hb : Below a.heap.size a b) : b.ownsRow base e size v n xs :=
  h.kept (grown_of_below hb) (by cases v.ownBlock <;> simp)
theorem own_base {a : World} {base : Nat} {e : TypeId} {size n : Nat} {v : Value} {xs : List Value} (h : a.ownsRow base e size v n xs) : ∀ k, v.ownBlock = some k → base ≤ k := by
  intro k hk
  rcases h.2 with ⟨rfl, _⟩ | ⟨g, cap, cur, rfl, hb, _⟩
  · simp [Value.ownBlock] at hk
  · simp [Value.ownBlock] at hk; omega
theorem errR_errP (g : Grp) (rs : List Rt) (cur : ByteArray) (p : Int) :
    (Rates.errR g.gc rs cur = 1 ∧ Rates.errP g rs cur p = 1) ∨ (Rates.errR g.gc rs cur = 0 ∧ Cal.ok g.Y g.M g.N = false ∧ Rates.errP g rs cur p = 1) ∨
    (Rates.errR g.gc rs cur = 0 ∧ Cal.ok g.Y g.M g.N = true ∧ Cal.err g.Y g.M g.N p = 2 ∧ Rates.errP g rs cur p = 2) ∨ (Rates.errR g.gc rs cur = 0 ∧ Cal.ok g.Y g.M g.N = true ∧ Cal.err g.Y g.M g.N p = 0 ∧ Rates.errP g rs cur p = 0) := by
  unfold Rates.errR
  rcases Rates.errP_cases g rs cur p with ⟨h1, e⟩ | ⟨h1, h2, e⟩ | ⟨h1, h2, h3, e⟩ | ⟨h1, h2, h3, h4, e⟩ | ⟨h1, h2, h3, h4, e⟩ <;> simp [*]

section
variable (w : World)
set_option maxRecDepth 100000 in
set_option maxHeartbeats 4000000 in
theorem rdaysq_any (g : Grp) (A : Option Addr) (n c : Nat) (rs : List Rt) (cur : ByteArray) (p : Int) (hl : rs.length = n) (hn : n ≤ 1000) (hg : g.gc.size ≤ maxLen) (hcu : cur.size ≤ maxLen) (hr : ∀ r ∈ rs, r.wf) (h : RatesAt w w.heap.size A rs) :
    Calls Try.prog 17 #[.agg #[.string g.gc, .int .i64 g.Y, .int .i64 g.M, .int .i64 g.N, g.x0, g.x1, g.x2, g.x3, g.x4, g.x5, g.x6, g.x7, g.x8, g.x9, g.x10, g.x11, g.x12, g.x13, g.x14, g.x15, g.x16], .slice A n c, .string cur, .int .i64 p] w fun e w' => Below w.heap.size w w' ∧
      ((Rates.errP g rs cur p ≠ 0 ∧ e = .returned (.tuple #[.slice none 0 0, .int .i64 (Rates.errP g rs cur p)])) ∨
       (Rates.errP g rs cur p = 0 ∧ ∃ v, e = .returned (.tuple #[v, .int .i64 0]) ∧ w'.ownsRow w.heap.size 39 4 v (Rates.days rs cur (Cal.first g.Y g.M p) (Cal.last g.Y g.M p)).length (rowOf (Rates.days rs cur (Cal.first g.Y g.M p) (Cal.last g.Y g.M p))))) := by
  obtain ⟨i0, hi, hz0, hz1, hz2⟩ := info_parts info39
  have HR := Lib.hid (h.start (.cells #[.string g.gc, .int .i64 g.Y, .int .i64 g.M, .int .i64 g.N, g.x0, g.x1, g.x2, g.x3, g.x4, g.x5, g.x6, g.x7, g.x8, g.x9, g.x10, g.x11, g.x12, g.x13, g.x14, g.x15, g.x16] 29))
  have H := Lib.hid h
  clear h
  have hB0 := (Below.refl w.heap.size w).alloc (Nat.le_refl _) (.cells #[.string g.gc, .int .i64 g.Y, .int .i64 g.M, .int .i64 g.N, g.x0, g.x1, g.x2, g.x3, g.x4, g.x5, g.x6, g.x7, g.x8, g.x9, g.x10, g.x11, g.x12, g.x13, g.x14, g.x15, g.x16] 29)
  have hG := heap_alloc_new w (.cells #[.string g.gc, .int .i64 g.Y, .int .i64 g.M, .int .i64 g.N, g.x0, g.x1, g.x2, g.x3, g.x4, g.x5, g.x6, g.x7, g.x8, g.x9, g.x10, g.x11, g.x12, g.x13, g.x14, g.x15, g.x16] 29)
  rcases errR_errP g rs cur p with ⟨h1, e⟩ | ⟨h1, h3, e⟩ | ⟨h1, h3, h4, e⟩ | ⟨h1, h3, h4, e⟩
  all_goals
    have E := Lib.hid e
    clear e
    go_enter Try.func17, Try.ntmps17
    go_wp2_with (refine wpList_load_row rfl 29 _ rfl _ rfl _ _ _ _ hG Try.underlying29 rfl gsize ?_)
    refine (rqcheck_any _ _ _ _ _ rs _ hl (by omega) hg hcu hr HR.out).mono ?_
    rw [h1]
    rintro e w4 ⟨rfl, hB⟩
    have hB1 := hB0.trans (hB.mono (by simp))
    have hz4 := hB.size
    simp at hz4
    have hG4 := gbox hG hB (by simp)
    have hc4 := fun j => cell_of_row _ _ j _ _ _ hG4
    have g1 := hc4 1
    have g2 := hc4 2
    have g3 := hc4 3
    have hq4 : w.heap.size < w4.heap.size := by omega
    simp at g1 g2 g3
    clear hG hc4
  · go_wp2
    go_ret2
    exact ⟨hB1, .inl ⟨by rw [E.out]; decide, by rw [E.out]; rfl⟩⟩
  · go_wp2_with (fail)
    refine (rcvalid_any _ _ _ _).mono ?_
    rw [h3]
    rintro e w5 ⟨rfl, hB5⟩
    go_wp2
    go_ret2
    exact ⟨hB1.trans (hB5.mono hB1.size), .inl ⟨by rw [E.out]; decide, by rw [E.out]; rfl⟩⟩
  all_goals
    have H4 := Lib.hid h4
    go_wp2_with (fail)
    refine (rcvalid_any _ _ _ _).mono ?_
    rw [h3]
    rintro e w5 ⟨rfl, hB5⟩
    have hB2 := hB1.trans (hB5.mono hB1.size)
    have hq5 : w.heap.size < w5.heap.size := Nat.lt_of_lt_of_le hq4 hB5.size
    obtain ⟨hc5, hf5⟩ := bcell hB5
    clear h4
    go_wp2_with (fail)
    first | refine (rFirst_bad _ _ _ _ _ (by rw [H4.out]; decide)).mono ?_ | refine (rFirst_any _ _ _ _ _ H4.out).mono ?_
    rintro e w6 ⟨rfl, hB6⟩
    have hB3 := hB2.trans (hB6.mono hB2.size)
    have hq6 : w.heap.size < w6.heap.size := Nat.lt_of_lt_of_le hq5 hB6.size
    obtain ⟨hc6, hf6⟩ := bcell hB6
    go_wp2_with (fail)
    first | refine (rLast_bad _ _ _ _ _ (by rw [H4.out]; decide)).mono ?_ | refine (rLast_any _ _ _ _ _ H4.out).mono ?_
    rintro e w7 ⟨rfl, hB7⟩
    have hB4 := hB3.trans (hB7.mono hB3.size)
    try rw [H4.out]
  · go_wp2
    go_ret2
    exact ⟨hB4, .inl ⟨by rw [E.out]; decide, by rw [E.out]; rfl⟩⟩
  · obtain ⟨k1, k2, k3⟩ := (Cal.err_zero g.Y g.M g.N p).1 H4.out
    have hbd := Cal.first_bd g.Y g.M g.N p k1 k2 k3
    clear k1 k2 k3 hc5 hf5 hc6 hf6 g1 g2 g3 hG4
    obtain ⟨fa, hfa⟩ : ∃ fa, Cal.first g.Y g.M p = fa := ⟨_, rfl⟩
    obtain ⟨la, hla⟩ : ∃ la, Cal.last g.Y g.M p = la := ⟨_, rfl⟩
    rw [hfa, hla] at hbd
    try rw [hfa, hla]
    have Hfa := Lib.hid hfa
    have Hla := Lib.hid hla
    clear hfa hla
    go_wp2
    go_loopw [15, 16] (fun v d wr => ∃ k : Nat, k ≤ (la - fa + 1).toNat ∧ d = .int .i64 (fa + k) ∧ wr.ownsRow w.heap.size 39 4 v (Rates.daily rs cur fa k).length (rowOf (Rates.daily rs cur fa k)) ∧ Below w.heap.size w wr) (fun _ d _ => (la + 1 - intOf d).toNat)
    case atStart => exact ⟨0, by omega, by simp, World.ownsRow_nil _ _ _ _, hB4⟩
    case round =>
      obtain ⟨k, hk, rfl, hown, hb⟩ := hrel
      have hdl := (Rates.daily_bd rs cur fa k).2
      by_cases hlt : fa + (k : Int) ≤ la
      · rcases Rates.find_getD (Rates.find rs cur 1 (fa + k)) with ⟨x, hx⟩ | hx
        · have hst : Hid (Rates.daily rs cur fa (k + 1) = Rates.daily rs cur fa k ++ [⟨cur, 1, fa + k, x⟩]) := by
            show _ = _; rw [Rates.daily, hx]
          have Hx := Lib.hid hx
          clear hx
          go_wp2_with (fail)
          refine (rfind_any _ _ _ _ rs _ _ _ hl hn (H.out.at_ hb (Nat.le_refl _))).mono ?_
          rw [Hx.out]
          rintro e w8 ⟨rfl, hB8⟩
          have hb2 := hb.trans (hB8.mono hb.size)
          have hown8 := owns_below hown hB8
          have hnew := cells_at _ _ _ ⟨cur, 1, fa + k, x⟩ (heap_alloc_new w8 (.cells #[.string cur, .int .i64 1, .int .i64 (fa + k), .int .i64 x] 39))
          have hz8 := hb2.size
          have hdl2 : (Rates.daily rs cur fa k).length + 1 ≤ 1000 := by omega
          go_wp2_with (at_builtin; refine wpList_append_own _ rfl _ _ 30 rfl w.heap.size 39 i0 Rt.zero.v 4 40 Try.underlying30 hi hz0 hz1 hz2 rfl (by decide) _ _ _ rfl (hown8.alloc _) ⟨w8.heap.size, 0, none⟩ 1 1 (Rt.cells ⟨cur, 1, fa + k, x⟩) rfl rfl hnew (by simp [Rt.cells, Value.oneCell']) (by unfold maxLen; omega) (by omega) (by simp; omega) ?_)
          intro v' w9 hown' hgrow _
          have hb9 := (hb2.alloc hz8 (.cells #[.string cur, .int .i64 1, .int .i64 (fa + k), .int .i64 x] 39)).grown hgrow (by simp; omega) (own_base hown8)
          go_wp2
          go_roundw
          case rel => exact ⟨k + 1, by omega, by go_num, by rw [hst.out, List.length_append, rowOf_snoc]; exact hown', hb9⟩
          case measure => simp [intOf]; omega
        · have hst : Hid (Rates.daily rs cur fa (k + 1) = Rates.daily rs cur fa k) := by
            show _ = _; rw [Rates.daily, hx]; simp
          have Hx := Lib.hid hx
          clear hx
          go_wp2_with (fail)
          refine (rfind_any _ _ _ _ rs _ _ _ hl hn (H.out.at_ hb (Nat.le_refl _))).mono ?_
          rw [Hx.out]
          rintro e w8 ⟨rfl, hB8⟩
          have hb2 := hb.trans (hB8.mono hb.size)
          go_wp2
          go_roundw
          case rel => exact ⟨k + 1, by omega, by go_num, by rw [hst.out]; exact owns_below hown hB8, hb2⟩
          case measure => simp [intOf]; omega
      · have hkk : Hid (Rates.days rs cur (Cal.first g.Y g.M p) (Cal.last g.Y g.M p) = Rates.daily rs cur fa k) := by show _ = _; rw [Hfa.out, Hla.out]; unfold Rates.days; rw [show (la - fa + 1).toNat = k by omega]
        go_wp2
        go_ret2
        exact ⟨hb, .inr ⟨E.out, _, rfl, by rw [hkk.out]; exact hown⟩⟩
end
end Go.Proofs.Ytbbbiioojgnpdaa
