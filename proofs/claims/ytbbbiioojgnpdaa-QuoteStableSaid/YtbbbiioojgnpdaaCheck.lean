/- The walks of quote's check and period, and of the reference's check and Few. -/
import Derived.Test.YtbbbiioojgnpdaaValid
namespace Go.Proofs.Ytbbbiioojgnpdaa
open Go.RowKit

/-- A group: its currency, its calendar, and what else it holds. -/
structure Grp where
  gc : ByteArray
  Y : Int
  M : Int
  N : Int
  x0 : Value
  x1 : Value
  x2 : Value
  x3 : Value
  x4 : Value
  x5 : Value
  x6 : Value
  x7 : Value
  x8 : Value
  x9 : Value
  x10 : Value
  x11 : Value
  x12 : Value
  x13 : Value
  x14 : Value
  x15 : Value
  x16 : Value

section
variable (w : World)
theorem notcur_any (s : ByteArray) (hs : s.size ≤ maxLen) : Calls Try.prog 43 #[.string s] w fun e w' => e = .returned (.bool (!Rates.isCur s)) ∧ Below w.heap.size w w' := by
  go_enter Try.func43, Try.ntmps43
  go_wp2_with (go_at_call 44; refine (cur_any _ _ hs).mono ?_; rintro e w4 ⟨rfl, hB⟩)
  go_ret
  exact ⟨rfl, hB⟩

/-- A slice of one or two strings. -/
theorem idxstr1_any (b c : Nat) (s : ByteArray) (hs : s.size ≤ maxLen) (hb : b < w.heap.size) (hc : w.cell? ⟨b, 0, none⟩ = some (.string s)) :
    Calls Try.prog 60 #[.slice (some ⟨b, 0, none⟩) 1 c, .func (.func 43) #[] #[]] w fun e w' => e = .returned (.int .i64 (if Rates.isCur s = true then -1 else 0)) ∧ Below w.heap.size w w' := by
  by_cases h : Rates.isCur s = true
  · rw [if_pos h]
    go_enter Try.func60, Try.ntmps60
    go_wp2
    go_loopw [8] (fun i wr => ∃ k : Nat, k ≤ 1 ∧ i = .int .i64 k ∧ Below w.heap.size w wr) (fun i _ => 1 - (intOf i).toNat)
    case atStart => exact ⟨0, Nat.zero_le _, rfl, Below.refl _ _⟩
    case round =>
      obtain ⟨k, hk, rfl, hb2⟩ := hrel
      rcases (show k = 0 ∨ k = 1 by omega) with rfl | rfl
      · have hc2 : wr.cell? ⟨b, 0, none⟩ = some (.string s) := (hb2.cell (p := ⟨b, 0, none⟩) hb).trans hc
        clear hc
        go_wp2_with (go_at_call 43; refine (notcur_any _ _ hs).mono ?_; rw [h]; rintro e w4 ⟨rfl, hB⟩)
        go_roundw
        case rel => exact ⟨1, by omega, by go_num, hb2.trans (hB.mono hb2.size)⟩
        case measure => simp [intOf]
      · go_wp2
        go_ret
        exact ⟨rfl, hb2⟩
  · rw [if_neg h]
    have h' : Rates.isCur s = false := by simpa using h
    clear h
    go_enter Try.func60, Try.ntmps60
    go_wp2
    go_loopw [8] (fun i wr => i = .int .i64 0 ∧ w = wr) (fun i _ => 1 - (intOf i).toNat)
    case atStart => exact ⟨rfl, rfl⟩
    case round =>
      obtain ⟨rfl, rfl⟩ := hrel
      go_wp2_with (go_at_call 43; refine (notcur_any _ _ hs).mono ?_; rw [h']; rintro e w4 ⟨rfl, hB⟩)
      go_ret
      exact ⟨rfl, hB⟩
theorem cntstr1_any (b c : Nat) (s : ByteArray) (hs : s.size ≤ maxLen) (hb : b < w.heap.size) (hc : w.cell? ⟨b, 0, none⟩ = some (.string s)) :
    Calls Try.prog 42 #[.slice (some ⟨b, 0, none⟩) 1 c, .func (.func 43) #[] #[]] w fun e w' => e = .returned (.bool (!Rates.isCur s)) ∧ Below w.heap.size w w' := by
  have H := idxstr1_any w b c s hs hb hc
  by_cases h : Rates.isCur s = true
  all_goals
    first | rw [if_pos h] at H | rw [if_neg h] at H
    have H' := Lib.hid H
    clear H hc
    go_enter Try.func42, Try.ntmps42
    go_wp2_with (go_at_call 60; refine H'.out.mono ?_; rintro e w4 ⟨rfl, hB⟩)
    go_ret
    exact ⟨ret_bool (by simp [h]), hB⟩

/-- The error of rates, a currency and a day. -/
def Rates.errQ (g : ByteArray) (rs : List Rt) (cur : ByteArray) (d : Int) : Int := if Rates.valid g rs = true ∧ Rates.isCur cur = true then (if Rates.dateB d = true then 0 else 2) else 1

set_option maxHeartbeats 400000 in
theorem check_any (g : Grp) (A : Option Addr) (n c c' b : Nat) (rs : List Rt) (cur : ByteArray) (d : Int) (hl : rs.length = n) (hn : n ≤ 100000) (hg : g.gc.size ≤ maxLen) (hcu : cur.size ≤ maxLen) (hr : ∀ r ∈ rs, r.wf) (h : RatesAt w w.heap.size A rs)
    (hb : b < w.heap.size) (hc : w.cell? ⟨b, 0, none⟩ = some (.string cur)) :
    Calls Try.prog 25 #[.agg #[.string g.gc, .int .i64 g.Y, .int .i64 g.M, .int .i64 g.N, g.x0, g.x1, g.x2, g.x3, g.x4, g.x5, g.x6, g.x7, g.x8, g.x9, g.x10, g.x11, g.x12, g.x13, g.x14, g.x15, g.x16], .slice A n c, .int .i64 d, .slice (some ⟨b, 0, none⟩) 1 c'] w fun e w' => e = .returned (.int .i64 (Rates.errQ g.gc rs cur d)) ∧ Below w.heap.size w w' := by
  unfold Rates.errQ
  have hc2 := fun W (hW : Below w.heap.size w W) => (hW.cell (p := ⟨b, 0, none⟩) hb).trans hc
  have Hc2 := Lib.hid hc2
  clear hc2 hc
  have H := Lib.hid h
  clear h
  have hR := (H.out.below ((Below.refl w.heap.size w).alloc (Nat.le_refl _) (.cells #[.string g.gc, .int .i64 g.Y, .int .i64 g.M, .int .i64 g.N, g.x0, g.x1, g.x2, g.x3, g.x4, g.x5, g.x6, g.x7, g.x8, g.x9, g.x10, g.x11, g.x12, g.x13, g.x14, g.x15, g.x16] 29)) (Nat.le_refl _)).more (C := (w.alloc (.cells #[.string g.gc, .int .i64 g.Y, .int .i64 g.M, .int .i64 g.N, g.x0, g.x1, g.x2, g.x3, g.x4, g.x5, g.x6, g.x7, g.x8, g.x9, g.x10, g.x11, g.x12, g.x13, g.x14, g.x15, g.x16] 29)).heap.size) (by simp)
  have HR := Lib.hid hR
  clear hR
  by_cases hv : Rates.valid g.gc rs = true
  · by_cases hq : Rates.isCur cur = true
    · have hpos : Rates.valid g.gc rs = true ∧ Rates.isCur cur = true := ⟨hv, hq⟩
      rcases (show decide (-25567 ≤ d ∧ d ≤ 84005) = true ∨ decide (-25567 ≤ d ∧ d ≤ 84005) = false by cases decide (-25567 ≤ d ∧ d ≤ 84005) <;> simp) with hd | hd
      all_goals
        have hd2 : Rates.dateB d = _ := hd
        rw [if_pos hpos, hd2]
        clear hpos hd2
        go_enter Try.func25, Try.ntmps25
        go_wp2_with (fail)
        refine (dvalidr_any _ _ _ _ rs _ hl hn hg hr HR.out).mono ?_
        rw [hv]
        rintro e w4 ⟨rfl, hB⟩
        have hB1 := ((Below.refl w.heap.size w).alloc (Nat.le_refl _) _).trans (hB.mono (by simp))
        have hz1 := hB1.size
        go_wp2_with (fail)
        refine (cntstr1_any _ _ _ _ hcu (by omega) (Hc2.out _ hB1)).mono ?_
        rw [hq]
        rintro e w5 ⟨rfl, hB5⟩
        have hB2 := hB1.trans (hB5.mono hz1)
        go_wp2_with (go_at_call 45; refine (dvalid_any _ _).mono ?_; rw [hd]; rintro e w6 ⟨rfl, rfl⟩)
        go_ret
        exact ⟨rfl, hB2⟩
    · have hq' : Rates.isCur cur = false := by simpa using hq
      rw [if_neg (fun hh => hq hh.2)]
      clear hq
      go_enter Try.func25, Try.ntmps25
      go_wp2_with (fail)
      refine (dvalidr_any _ _ _ _ rs _ hl hn hg hr HR.out).mono ?_
      rw [hv]
      rintro e w4 ⟨rfl, hB⟩
      have hB1 := ((Below.refl w.heap.size w).alloc (Nat.le_refl _) _).trans (hB.mono (by simp))
      have hz1 := hB1.size
      go_wp2_with (fail)
      refine (cntstr1_any _ _ _ _ hcu (by omega) (Hc2.out _ hB1)).mono ?_
      rw [hq']
      rintro e w5 ⟨rfl, hB5⟩
      have hB2 := hB1.trans (hB5.mono hz1)
      go_wp2
      go_ret
      exact ⟨rfl, hB2⟩
  · have hv' : Rates.valid g.gc rs = false := by simpa using hv
    rw [if_neg (fun hh => hv hh.1)]
    clear hv
    go_enter Try.func25, Try.ntmps25
    go_wp2_with (fail)
    refine (dvalidr_any _ _ _ _ rs _ hl hn hg hr HR.out).mono ?_
    rw [hv']
    rintro e w4 ⟨rfl, hB⟩
    have hB1 := ((Below.refl w.heap.size w).alloc (Nat.le_refl _) _).trans (hB.mono (by simp))
    go_wp2
    go_ret
    exact ⟨rfl, hB1⟩

/-- The error of rates, a currency and a period. -/
def Rates.errP (g : Grp) (rs : List Rt) (cur : ByteArray) (p : Int) : Int := if Rates.valid g.gc rs = true ∧ Rates.isCur cur = true ∧ Cal.ok g.Y g.M g.N = true then (if 0 ≤ p ∧ p < g.N then 0 else 2) else 1
theorem Rates.errP_zero (g : Grp) (rs : List Rt) (cur : ByteArray) (p : Int) : Rates.errP g rs cur p = 0 ↔ (Rates.valid g.gc rs = true ∧ Rates.isCur cur = true ∧ Cal.err g.Y g.M g.N p = 0) := by
  unfold Rates.errP
  rw [Cal.err_zero]
  by_cases h : Rates.valid g.gc rs = true ∧ Rates.isCur cur = true ∧ Cal.ok g.Y g.M g.N = true
  · rw [if_pos h]; obtain ⟨h1, h2, h3⟩ := h; by_cases h4 : 0 ≤ p ∧ p < g.N <;> simp [*]
  · rw [if_neg h]; constructor
    · intro h; cases h
    · rintro ⟨h1, h2, h3, _⟩; exact absurd ⟨h1, h2, h3⟩ h

/-- What the checks of a period have found, in the order of the text. -/
theorem Rates.errP_cases (g : Grp) (rs : List Rt) (cur : ByteArray) (p : Int) :
    (Rates.valid g.gc rs = false ∧ Rates.errP g rs cur p = 1) ∨ (Rates.valid g.gc rs = true ∧ Rates.isCur cur = false ∧ Rates.errP g rs cur p = 1) ∨
    (Rates.valid g.gc rs = true ∧ Rates.isCur cur = true ∧ Cal.ok g.Y g.M g.N = false ∧ Rates.errP g rs cur p = 1) ∨
    (Rates.valid g.gc rs = true ∧ Rates.isCur cur = true ∧ Cal.ok g.Y g.M g.N = true ∧ Cal.err g.Y g.M g.N p = 2 ∧ Rates.errP g rs cur p = 2) ∨
    (Rates.valid g.gc rs = true ∧ Rates.isCur cur = true ∧ Cal.ok g.Y g.M g.N = true ∧ Cal.err g.Y g.M g.N p = 0 ∧ Rates.errP g rs cur p = 0) := by
  unfold Rates.errP Cal.err
  by_cases h4 : 0 ≤ p ∧ p < g.N
  · have e1 : (if p < 0 ∨ g.N ≤ p then (2 : Int) else 0) = 0 := if_neg (by omega)
    rw [e1, if_pos h4]
    cases h1 : Rates.valid g.gc rs <;> cases h2 : Rates.isCur cur <;> cases h3 : Cal.ok g.Y g.M g.N <;> simp
  · have e1 : (if p < 0 ∨ g.N ≤ p then (2 : Int) else 0) = 2 := if_pos (by omega)
    rw [e1, if_neg h4]
    cases h1 : Rates.valid g.gc rs <;> cases h2 : Rates.isCur cur <;> cases h3 : Cal.ok g.Y g.M g.N <;> simp

set_option maxHeartbeats 1000000 in
theorem period_any (g : Grp) (A : Option Addr) (n c : Nat) (rs : List Rt) (cur : ByteArray) (p : Int) (hl : rs.length = n) (hn : n ≤ 100000) (hg : g.gc.size ≤ maxLen) (hcu : cur.size ≤ maxLen) (hr : ∀ r ∈ rs, r.wf) (h : RatesAt w w.heap.size A rs) :
    Calls Try.prog 30 #[.agg #[.string g.gc, .int .i64 g.Y, .int .i64 g.M, .int .i64 g.N, g.x0, g.x1, g.x2, g.x3, g.x4, g.x5, g.x6, g.x7, g.x8, g.x9, g.x10, g.x11, g.x12, g.x13, g.x14, g.x15, g.x16], .slice A n c, .string cur, .int .i64 p] w fun e w' =>
      e = .returned (if Rates.errP g rs cur p = 0 then .tuple #[.int .i64 (Cal.first g.Y g.M p), .int .i64 (Cal.last g.Y g.M p), .int .i64 0] else .tuple #[.int .i64 0, .int .i64 0, .int .i64 (Rates.errP g rs cur p)]) ∧ Below w.heap.size w w' := by
  have hR := (h.below ((Below.refl w.heap.size w).alloc (Nat.le_refl _) (.cells #[.string g.gc, .int .i64 g.Y, .int .i64 g.M, .int .i64 g.N, g.x0, g.x1, g.x2, g.x3, g.x4, g.x5, g.x6, g.x7, g.x8, g.x9, g.x10, g.x11, g.x12, g.x13, g.x14, g.x15, g.x16] 29)) (Nat.le_refl _)).more (C := (w.alloc (.cells #[.string g.gc, .int .i64 g.Y, .int .i64 g.M, .int .i64 g.N, g.x0, g.x1, g.x2, g.x3, g.x4, g.x5, g.x6, g.x7, g.x8, g.x9, g.x10, g.x11, g.x12, g.x13, g.x14, g.x15, g.x16] 29)).heap.size) (by simp)
  have HR := Lib.hid hR
  clear hR h
  rcases Rates.errP_cases g rs cur p with ⟨h1, e⟩ | ⟨h1, h2, e⟩ | ⟨h1, h2, h3, e⟩ | ⟨h1, h2, h3, h4, e⟩ | ⟨h1, h2, h3, h4, e⟩
  all_goals
    rw [e]
    clear e
    go_enter Try.func30, Try.ntmps30
    go_wp2_with (fail)
    refine (dvalidr_any _ _ _ _ rs _ hl hn hg hr HR.out).mono ?_
    rw [h1]
    rintro e w4 ⟨rfl, hB⟩
    have hB1 := ((Below.refl w.heap.size w).alloc (Nat.le_refl _) (.cells #[.string g.gc, .int .i64 g.Y, .int .i64 g.M, .int .i64 g.N, g.x0, g.x1, g.x2, g.x3, g.x4, g.x5, g.x6, g.x7, g.x8, g.x9, g.x10, g.x11, g.x12, g.x13, g.x14, g.x15, g.x16] 29)).trans (hB.mono (by simp))
    have hz1 := hB.size
    simp at hz1
    have hz1' : w.heap.size < w4.heap.size := by omega
    obtain ⟨hc, hf⟩ := bcell hB
  · go_wp2
    go_ret3
    exact ⟨rfl, hB1⟩
  · go_wp2_with (go_at_call 44; refine (cur_any _ _ hcu).mono ?_; rw [h2]; rintro e w5 ⟨rfl, hB5⟩)
    go_ret3
    exact ⟨rfl, hB1.trans (hB5.mono hB1.size)⟩
  · go_wp2_with (fail)
    refine (cur_any _ _ hcu).mono ?_
    rw [h2]
    rintro e w5 ⟨rfl, hB5⟩
    have hB2 := hB1.trans (hB5.mono hB1.size)
    obtain ⟨hc5, hf5⟩ := bcell hB5
    go_wp2_with (fail)
    refine (dcvalid_any _ _ _ _).mono ?_
    rw [h3]
    rintro e w6 ⟨rfl, hB6⟩
    go_wp2
    go_ret3
    exact ⟨rfl, hB2.trans (hB6.mono hB2.size)⟩
  all_goals
    go_wp2_with (fail)
    refine (cur_any _ _ hcu).mono ?_
    rw [h2]
    rintro e w5 ⟨rfl, hB5⟩
    have hB2 := hB1.trans (hB5.mono hB1.size)
    have hz5 : w.heap.size < w5.heap.size := Nat.lt_of_lt_of_le hz1' hB5.size
    obtain ⟨hc5, hf5⟩ := bcell hB5
    go_wp2_with (fail)
    refine (dcvalid_any _ _ _ _).mono ?_
    rw [h3]
    rintro e w6 ⟨rfl, hB6⟩
    have hB3 := hB2.trans (hB6.mono hB2.size)
    have hz6 : w.heap.size < w6.heap.size := Nat.lt_of_lt_of_le hz5 hB6.size
    obtain ⟨hc6, hf6⟩ := bcell hB6
    have h4' := Lib.hid h4
    clear h4
    go_wp2_with (fail)
    first | refine (dFirst_bad _ _ _ _ _ (by rw [h4'.out]; decide)).mono ?_ | refine (dFirst_any _ _ _ _ _ h4'.out).mono ?_
    rintro e w7 ⟨rfl, hB7⟩
    have hB4 := hB3.trans (hB7.mono hB3.size)
    have hz7 : w.heap.size < w7.heap.size := Nat.lt_of_lt_of_le hz6 hB7.size
    obtain ⟨hc7, hf7⟩ := bcell hB7
    go_wp2_with (fail)
    first | refine (dLast_bad _ _ _ _ _ (by rw [h4'.out]; decide)).mono ?_ | refine (dLast_any _ _ _ _ _ h4'.out).mono ?_
    rintro e w8 ⟨rfl, hB8⟩
    have hB5' := hB4.trans (hB8.mono hB4.size)
    try rw [h4'.out]
    go_wp2
    go_ret3
    exact ⟨rfl, hB5'⟩
end
end Go.Proofs.Ytbbbiioojgnpdaa
