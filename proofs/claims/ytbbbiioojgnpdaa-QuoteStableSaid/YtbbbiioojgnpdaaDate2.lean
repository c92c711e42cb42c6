/- The walks of the reference's Civil and Add, and of both calendars. -/
import Derived.Test.YtbbbiioojgnpdaaDate
namespace Go.Proofs.Ytbbbiioojgnpdaa
open Go.RowKit

section
variable (y m d : Int) (w : World)
set_option maxRecDepth 100000 in
set_option maxHeartbeats 1000000 in
theorem rcivil_any (h : -25567 ≤ d ∧ d ≤ 84005) : Calls Try.prog 39 #[.int .i64 d] w fun e w' => ∃ y m k : Int, e = .returned (.tuple #[.int .i64 y, .int .i64 m, .int .i64 k, .int .i64 0]) ∧ Cal.vld y m k ∧ Cal.num y m k = d ∧ w = w' := by
  have hd : decide (-25567 ≤ d ∧ d ≤ 84005) = true := decide_eq_true h
  obtain ⟨h1, h2⟩ := h
  go_enter Try.func39, Try.ntmps39
  go_wp2_with (go_at_call 19; refine (rvalid_any _ _).mono ?_; rw [hd]; rintro e w' ⟨rfl, rfl⟩)
  have Hy := Lib.hid (Cal.byear_lo)
  go_loop [6, 8] (fun y r => ∃ k : Nat, 1900 ≤ k ∧ (k : Int) ≤ 2199 ∧ y = .int .i64 k ∧ 0 ≤ d - Cal.byear k ∧ r = .int .i64 (d - Cal.byear k)) (fun y _ => (2200 - intOf y).toNat)
  case atStart => exact ⟨1900, by omega, by omega, rfl, by rw [show ((1900 : Nat) : Int) = 1900 from rfl, Hy.out]; omega, by rw [show ((1900 : Nat) : Int) = 1900 from rfl, Hy.out]; exact congrArg (Value.int .i64) (by omega)⟩
  case round =>
    obtain ⟨y, hy1, hy2, rfl, hy3, rfl⟩ := hrel
    have hs := Cal.byear_succ y
    have hb := Cal.byear_bd y (by omega) (by omega)
    have hyM : Hid (Cal.byear 2200 = 84006) := Cal.byear_hi
    rcases Cal.lp_cases y with ⟨hl, e⟩ | ⟨hl, e⟩
    all_goals
      by_cases hc : 365 + Cal.lp y ≤ d - Cal.byear y
      · have hc3 : (y : Int) < 2199 := by
          by_cases e' : (y : Int) = 2199
          · rw [e'] at hs hc; have := hyM.out; rw [show (2199 : Int) + 1 = 2200 from rfl] at hs; omega
          · omega
        have Hs := Lib.hid hs
        have He := Lib.hid e
        rw [e] at hc
        clear hs e
        go_wp2_with (go_at_call 58; refine (rleap_any _ _ (by omega)).mono ?_; rintro e w3 ⟨rfl, rfl⟩)
        go_round
        case rel => exact ⟨y + 1, by omega, by omega, by go_num, by rw [show ((y + 1 : Nat) : Int) = (y : Int) + 1 from rfl, Hs.out, He.out]; omega, by rw [show ((y + 1 : Nat) : Int) = (y : Int) + 1 from rfl, Hs.out, He.out]; go_num⟩
        case measure => simp [intOf]; omega
      · have hr : d - Cal.byear y < 365 + Cal.lp y := by omega
        have hr' := hr
        have hc' := hc
        rw [e] at hr' hc'
        clear hs e hc
        go_wp2_with (go_at_call 58; refine (rleap_any _ _ (by omega)).mono ?_; rintro e w3 ⟨rfl, rfl⟩)
        go_loop [7, 8] (fun m r => ∃ j : Nat, 1 ≤ j ∧ (j : Int) ≤ 12 ∧ m = .int .i64 j ∧ 0 ≤ d - Cal.byear y - Cal.cum y j ∧ r = .int .i64 (d - Cal.byear y - Cal.cum y j)) (fun m _ => (12 - intOf m).toNat)
        case atStart => exact ⟨1, by omega, by omega, rfl, by simp [Cal.cum_one]; omega, by simp [Cal.cum_one]⟩
        case round =>
          obtain ⟨m, hm1, hm2, rfl, hr0, rfl⟩ := hrel
          have cb := Cal.cum_bd y m (by omega) (by omega)
          have db := Cal.mlen_bd y m
          have cs := Lib.hid (cum_step m y hm1 (by omega))
          have ce := Lib.hid (Cal.cum_end y)
          by_cases hc : Cal.mlen y m ≤ d - Cal.byear y - Cal.cum y m
          · have hm : (m : Int) < 12 := by
              by_cases e : (m : Int) = 12
              · have := cs.out; rw [e] at this hc; have := ce.out; simp at *; omega
              · omega
            go_wp2_with (go_at_call 40; refine (rdays_in _ _ _ ⟨by omega, by omega, by omega, by omega⟩).mono ?_; rintro e w3 ⟨rfl, rfl⟩)
            go_round
            case rel => exact ⟨m + 1, by omega, by omega, by go_num, by rw [show ((m + 1 : Nat) : Int) = (m : Int) + 1 from rfl, cs.out]; omega, by rw [show ((m + 1 : Nat) : Int) = (m : Int) + 1 from rfl, cs.out]; go_num⟩
            case measure => simp [intOf]; omega
          · go_wp2_with (go_at_call 40; refine (rdays_in _ _ _ ⟨by omega, by omega, by omega, by omega⟩).mono ?_; rintro e w3 ⟨rfl, rfl⟩)
            refine bodyPost_ret (results_tmp4 rfl _ _ _) rfl ?_
            exact ⟨y, m, _, rfl, ⟨by omega, by omega, by omega, by omega, by omega, by omega⟩, by unfold Cal.num; omega, rfl⟩

/-- Add, at the first of a month. -/
theorem radd_bad (p : Int) (hv : Cal.vld y m 1) (hp : ¬ (1900 ≤ Cal.py y m p ∧ Cal.py y m p ≤ 2199 ∧ -3600 ≤ p ∧ p ≤ 3600)) : Calls Try.prog 57 #[.int .i64 (Cal.num y m 1), .int .i64 p] w fun e w' => e = .returned (.tuple #[.int .i64 0, .int .i64 2]) ∧ w = w' := by
  have hn := Cal.num_bd y m 1 hv
  have Hv := Lib.hid hv
  obtain ⟨a1, a2, a3, a4, a5, a6⟩ := hv
  unfold Cal.py at hp
  rcases (show p < -3600 ∨ (-3600 ≤ p ∧ 3600 < p) ∨ (-3600 ≤ p ∧ p ≤ 3600 ∧ (12 * y + m - 1 + p) / 12 < 1900) ∨ (-3600 ≤ p ∧ p ≤ 3600 ∧ 1900 ≤ (12 * y + m - 1 + p) / 12 ∧ 2199 < (12 * y + m - 1 + p) / 12) by omega) with h | ⟨h, h'⟩ | ⟨h, h', h''⟩ | ⟨h, h', h'', h3⟩
  all_goals
    clear hp
    go_enter Try.func57, Try.ntmps57
    go_wp2_with (go_at_call 39; refine (rcivil_any _ _ hn).mono ?_; rintro e w' ⟨y', m', k', rfl, hv', he, rfl⟩; obtain ⟨rfl, rfl, rfl⟩ := Cal.num_inj _ _ _ _ _ _ hv' Hv.out he; clear he hv')
    go_ret2
    exact ⟨rfl, rfl⟩
theorem radd_any (p : Int) (hv : Cal.vld y m 1) (hp : 1900 ≤ Cal.py y m p ∧ Cal.py y m p ≤ 2199 ∧ -3600 ≤ p ∧ p ≤ 3600) : Calls Try.prog 57 #[.int .i64 (Cal.num y m 1), .int .i64 p] w fun e w' => e = .returned (.tuple #[.int .i64 (Cal.first y m p), .int .i64 0]) ∧ w = w' := by
  have hn := Cal.num_bd y m 1 hv
  have Hv := Lib.hid hv
  obtain ⟨a1, a2, a3, a4, a5, a6⟩ := hv
  unfold Cal.first
  obtain ⟨h1, h2, h3, h4⟩ := hp
  have h5 : 1 ≤ Cal.pm y m p ∧ Cal.pm y m p ≤ 12 := by unfold Cal.pm; omega
  have h6 := Cal.mlen_bd (Cal.py y m p) (Cal.pm y m p)
  have h7 : Cal.vld (Cal.py y m p) (Cal.pm y m p) 1 := ⟨h1, h2, h5.1, h5.2, by omega, by omega⟩
  have H7 := Lib.hid h7
  clear h7
  unfold Cal.py Cal.pm at *
  go_enter Try.func57, Try.ntmps57
  go_wp2_with (first | (go_at_call 39; refine (rcivil_any _ _ hn).mono ?_; rintro e w' ⟨y', m', k', rfl, hv', he, rfl⟩; obtain ⟨rfl, rfl, rfl⟩ := Cal.num_inj _ _ _ _ _ _ hv' Hv.out he; clear he hv') | (go_at_call 40; refine (rdays_in _ _ _ ⟨by omega, by omega, by omega, by omega⟩).mono ?_; rintro e w3 ⟨rfl, rfl⟩) | (go_at_call 56; refine (rof_any _ _ _ _ H7.out).mono ?_; rintro e w4 ⟨rfl, rfl⟩))
  go_ret2
  exact ⟨rfl, rfl⟩
end
section
variable (Y M N p : Int) (w : World)

/-! ### The reference's calendar -/
theorem rfirst_bad (hv : ¬ Cal.vld Y M 1) : Calls Try.prog 38 #[.agg #[.int .i64 Y, .int .i64 M, .int .i64 N], .int .i64 p] w fun e w' => e = .returned (.tuple #[.int .i64 0, .int .i64 2]) ∧ Below w.heap.size w w' := by
  go_enter Try.func38, Try.ntmps38
  go_wp2_with (go_at_call 56; refine (rof_bad _ _ _ _ hv).mono ?_; rintro e w4 ⟨rfl, rfl⟩)
  go_ret2
  exact ⟨rfl, (Below.refl _ _).alloc (Nat.le_refl _) _⟩
theorem rfirst_bad2 (hv : Cal.vld Y M 1) (hp : ¬ (1900 ≤ Cal.py Y M p ∧ Cal.py Y M p ≤ 2199 ∧ -3600 ≤ p ∧ p ≤ 3600)) : Calls Try.prog 38 #[.agg #[.int .i64 Y, .int .i64 M, .int .i64 N], .int .i64 p] w fun e w' => e = .returned (.tuple #[.int .i64 0, .int .i64 2]) ∧ Below w.heap.size w w' := by
  have Hp := Lib.hid hp
  clear hp
  go_enter Try.func38, Try.ntmps38
  go_wp2_with (first | (go_at_call 56; refine (rof_any _ _ _ _ hv).mono ?_; rintro e w4 ⟨rfl, rfl⟩) | (go_at_call 57; refine (radd_bad _ _ _ _ hv Hp.out).mono ?_; rintro e w4 ⟨rfl, rfl⟩))
  go_ret2
  exact ⟨rfl, (Below.refl _ _).alloc (Nat.le_refl _) _⟩
theorem rfirst_any (hv : Cal.vld Y M 1) (hp : 1900 ≤ Cal.py Y M p ∧ Cal.py Y M p ≤ 2199 ∧ -3600 ≤ p ∧ p ≤ 3600) : Calls Try.prog 38 #[.agg #[.int .i64 Y, .int .i64 M, .int .i64 N], .int .i64 p] w fun e w' => e = .returned (.tuple #[.int .i64 (Cal.first Y M p), .int .i64 0]) ∧ Below w.heap.size w w' := by
  have Hp := Lib.hid hp
  clear hp
  go_enter Try.func38, Try.ntmps38
  go_wp2_with (first | (go_at_call 56; refine (rof_any _ _ _ _ hv).mono ?_; rintro e w4 ⟨rfl, rfl⟩) | (go_at_call 57; refine (radd_any _ _ _ _ hv Hp.out).mono ?_; rintro e w4 ⟨rfl, rfl⟩))
  go_ret2
  exact ⟨rfl, (Below.refl _ _).alloc (Nat.le_refl _) _⟩

theorem vld1 (h : 1900 ≤ Y ∧ Y ≤ 2199 ∧ 1 ≤ M ∧ M ≤ 12) : Cal.vld Y M 1 := by
  have := Cal.mlen_bd Y M
  exact ⟨h.1, h.2.1, h.2.2.1, h.2.2.2, by omega, by omega⟩

theorem rcvalid_any : Calls Try.prog 34 #[.agg #[.int .i64 Y, .int .i64 M, .int .i64 N]] w fun e w' => e = .returned (.bool (Cal.ok Y M N)) ∧ Below w.heap.size w w' := by
  rcases (show N < 1 ∨ (1 ≤ N ∧ 120 < N) ∨ (1 ≤ N ∧ N ≤ 120) by omega) with h | ⟨h, h'⟩ | ⟨h, h'⟩
  · have H : Hid (Cal.ok Y M N = false) := by show Cal.ok Y M N = false; simp [Cal.ok]; omega
    go_enter Try.func34, Try.ntmps34
    go_wp2
    go_ret
    exact ⟨ret_bool H.out.symm, (Below.refl _ _).alloc (Nat.le_refl _) _⟩
  · have H : Hid (Cal.ok Y M N = false) := by show Cal.ok Y M N = false; simp [Cal.ok]; omega
    go_enter Try.func34, Try.ntmps34
    go_wp2
    go_ret
    exact ⟨ret_bool H.out.symm, (Below.refl _ _).alloc (Nat.le_refl _) _⟩
  · by_cases hv : Cal.vld Y M 1
    · by_cases hp : Cal.py Y M (N - 1) ≤ 2199
      · have hq : 1900 ≤ Cal.py Y M (N - 1) ∧ Cal.py Y M (N - 1) ≤ 2199 ∧ -3600 ≤ N - 1 ∧ N - 1 ≤ 3600 := by obtain ⟨a, b, c, _⟩ := hv; refine ⟨?_, hp, by omega, by omega⟩; unfold Cal.py; omega
        have H : Hid (Cal.ok Y M N = true) := by show Cal.ok Y M N = true; obtain ⟨a, b, c, d, _⟩ := hv; rw [Cal.ok_iff]; exact ⟨c, d, h, h', a, b, hp⟩
        have Hq := Lib.hid hq
        clear hq hp
        go_enter Try.func34, Try.ntmps34
        go_wp2_with (go_at_call 38; refine (rfirst_any _ _ _ _ _ hv Hq.out).mono ?_; rintro e w4 ⟨rfl, hB⟩)
        go_ret
        exact ⟨ret_bool H.out.symm, ((Below.refl _ _).alloc (Nat.le_refl _) _).trans (hB.mono (by simp))⟩
      · have hq : ¬ (1900 ≤ Cal.py Y M (N - 1) ∧ Cal.py Y M (N - 1) ≤ 2199 ∧ -3600 ≤ N - 1 ∧ N - 1 ≤ 3600) := by omega
        have H : Hid (Cal.ok Y M N = false) := by show Cal.ok Y M N = false; simp [Cal.ok]; omega
        have Hq := Lib.hid hq
        clear hq hp
        go_enter Try.func34, Try.ntmps34
        go_wp2_with (go_at_call 38; refine (rfirst_bad2 _ _ _ _ _ hv Hq.out).mono ?_; rintro e w4 ⟨rfl, hB⟩)
        go_ret
        exact ⟨ret_bool H.out.symm, ((Below.refl _ _).alloc (Nat.le_refl _) _).trans (hB.mono (by simp))⟩
    · have H : Hid (Cal.ok Y M N = false) := by
        show Cal.ok Y M N = false
        rw [Bool.eq_false_iff]; intro hok; rw [Cal.ok_iff] at hok
        exact hv (vld1 Y M ⟨by omega, by omega, by omega, by omega⟩)
      go_enter Try.func34, Try.ntmps34
      go_wp2_with (go_at_call 38; refine (rfirst_bad _ _ _ _ _ hv).mono ?_; rintro e w4 ⟨rfl, hB⟩)
      go_ret
      exact ⟨ret_bool H.out.symm, ((Below.refl _ _).alloc (Nat.le_refl _) _).trans (hB.mono (by simp))⟩

theorem rcheck_any : Calls Try.prog 37 #[.agg #[.int .i64 Y, .int .i64 M, .int .i64 N], .int .i64 p] w fun e w' => e = .returned (.int .i64 (Cal.err Y M N p)) ∧ Below w.heap.size w w' := by
  by_cases hok : Cal.ok Y M N = true
  · rcases (show p < 0 ∨ (0 ≤ p ∧ N ≤ p) ∨ (0 ≤ p ∧ p < N) by omega) with h | ⟨h, h'⟩ | ⟨h, h'⟩
    all_goals
      have H : Hid (Cal.err Y M N p = if p < 0 ∨ N ≤ p then 2 else 0) := by show Cal.err Y M N p = _; simp [Cal.err, hok]
      go_enter Try.func37, Try.ntmps37
      go_wp2_with (go_at_call 34; refine (rcvalid_any _ _ _ _).mono ?_; rw [hok]; rintro e w4 ⟨rfl, hB⟩; obtain ⟨hc, hf⟩ := bcell hB)
      go_ret
      refine ⟨ret_int ?_, ((Below.refl _ _).alloc (Nat.le_refl _) _).trans (hB.mono (by simp))⟩
      rw [H.out]; split <;> omega
  · have hok' : Cal.ok Y M N = false := by simpa using hok
    have H : Hid (Cal.err Y M N p = 1) := by show Cal.err Y M N p = _; simp [Cal.err, hok']
    clear hok
    go_enter Try.func37, Try.ntmps37
    go_wp2_with (go_at_call 34; refine (rcvalid_any _ _ _ _).mono ?_; rw [hok']; rintro e w4 ⟨rfl, hB⟩)
    go_ret
    exact ⟨ret_int H.out.symm, ((Below.refl _ _).alloc (Nat.le_refl _) _).trans (hB.mono (by simp))⟩

theorem rFirst_bad (h : Cal.err Y M N p ≠ 0) : Calls Try.prog 22 #[.agg #[.int .i64 Y, .int .i64 M, .int .i64 N], .int .i64 p] w fun e w' => e = .returned (.tuple #[.int .i64 0, .int .i64 (Cal.err Y M N p)]) ∧ Below w.heap.size w w' := by
  have hn : (Cal.err Y M N p != 0) = true := by simpa using h
  go_enter Try.func22, Try.ntmps22
  go_wp2_with (go_at_call 37; refine (rcheck_any _ _ _ _ _).mono ?_; rintro e w4 ⟨rfl, hB⟩; obtain ⟨hc, hf⟩ := bcell hB)
  go_ret2
  exact ⟨rfl, ((Below.refl _ _).alloc (Nat.le_refl _) _).trans (hB.mono (by simp))⟩
theorem rFirst_any (h : Cal.err Y M N p = 0) : Calls Try.prog 22 #[.agg #[.int .i64 Y, .int .i64 M, .int .i64 N], .int .i64 p] w fun e w' => e = .returned (.tuple #[.int .i64 (Cal.first Y M p), .int .i64 0]) ∧ Below w.heap.size w w' := by
  have hok := (Cal.err_zero Y M N p).1 h
  have hv := Cal.pvld Y M N p hok.1 hok.2.1 hok.2.2
  have hi := (Cal.ok_iff Y M N).1 hok.1
  have HV : Hid (Cal.vld Y M 1) := vld1 Y M ⟨by omega, by omega, by omega, by omega⟩
  have HP : Hid (1900 ≤ Cal.py Y M p ∧ Cal.py Y M p ≤ 2199 ∧ -3600 ≤ p ∧ p ≤ 3600) := ⟨hv.1, hv.2.1, by omega, by omega⟩
  clear hok hv hi
  go_enter Try.func22, Try.ntmps22
  go_wp2_with (first | (go_at_call 37; refine (rcheck_any _ _ _ _ _).mono ?_; rw [h]; rintro e w4 ⟨rfl, hB⟩; obtain ⟨hc, hf⟩ := bcell hB) | (go_at_call 38; refine (rfirst_any _ _ _ _ _ HV.out HP.out).mono ?_; rintro e w5 ⟨rfl, hB5⟩))
  go_ret2
  exact ⟨rfl, (((Below.refl _ _).alloc (Nat.le_refl _) _).trans (hB.mono (by simp))).trans (hB5.mono (by have := hB.size; simp at this; omega))⟩
theorem rLast_bad (h : Cal.err Y M N p ≠ 0) : Calls Try.prog 23 #[.agg #[.int .i64 Y, .int .i64 M, .int .i64 N], .int .i64 p] w fun e w' => e = .returned (.tuple #[.int .i64 0, .int .i64 (Cal.err Y M N p)]) ∧ Below w.heap.size w w' := by
  have hn : (Cal.err Y M N p != 0) = true := by simpa using h
  go_enter Try.func23, Try.ntmps23
  go_wp2_with (go_at_call 22; refine (rFirst_bad _ _ _ _ _ h).mono ?_; rintro e w4 ⟨rfl, hB⟩; obtain ⟨hc, hf⟩ := bcell hB)
  go_ret2
  exact ⟨rfl, ((Below.refl _ _).alloc (Nat.le_refl _) _).trans (hB.mono (by simp))⟩
theorem rLast_any (h : Cal.err Y M N p = 0) : Calls Try.prog 23 #[.agg #[.int .i64 Y, .int .i64 M, .int .i64 N], .int .i64 p] w fun e w' => e = .returned (.tuple #[.int .i64 (Cal.last Y M p), .int .i64 0]) ∧ Below w.heap.size w w' := by
  have hok := (Cal.err_zero Y M N p).1 h
  have hv := Cal.pvld Y M N p hok.1 hok.2.1 hok.2.2
  have hf0 := Cal.first_bd Y M N p hok.1 hok.2.1 hok.2.2
  have HF := Lib.hid (Cal.first_vld Y M N p hok.1 hok.2.1 hok.2.2)
  have H : Hid (Cal.err Y M N p = 0) := h
  have HL : Hid (Cal.last Y M p = Cal.first Y M p + Cal.mlen (Cal.py Y M p) (Cal.pm Y M p) - 1) := rfl
  have hm := Cal.mlen_bd (Cal.py Y M p) (Cal.pm Y M p)
  clear hok h
  go_enter Try.func23, Try.ntmps23
  go_wp2_with (first | (go_at_call 22; refine (rFirst_any _ _ _ _ _ H.out).mono ?_; rintro e w4 ⟨rfl, hB⟩; obtain ⟨hc, hf⟩ := bcell hB) | (go_at_call 39; refine (rcivil_any _ _ (by omega)).mono ?_; rintro e w5 ⟨y', m', k', rfl, hv', he, rfl⟩; obtain ⟨rfl, rfl, rfl⟩ := Cal.num_inj _ _ _ _ _ _ hv' HF.out he; clear he hv') | (go_at_call 40; refine (rdays_in _ _ _ ⟨by omega, by omega, by omega, by omega⟩).mono ?_; rintro e w6 ⟨rfl, rfl⟩))
  go_ret2
  exact ⟨by rw [HL.out]; rfl, ((Below.refl _ _).alloc (Nat.le_refl _) _).trans (hB.mono (by simp))⟩

/-! ### The program's calendar -/
theorem dfirst_bad (h : 1 ≤ M ∧ M ≤ 12 ∧ 1900 ≤ Y ∧ Y ≤ 2199 ∧ 0 ≤ p ∧ p ≤ 120) (hp : 2199 < Cal.py Y M p) : Calls Try.prog 63 #[.agg #[.int .i64 Y, .int .i64 M, .int .i64 N], .int .i64 p] w fun e w' => e = .returned (.tuple #[.int .i64 0, .int .i64 2]) ∧ Below w.heap.size w w' := by
  obtain ⟨h1, h2, h3, h4, h5, h6⟩ := h
  have hv : Hid (¬ Cal.vld ((12 * Y + M - 1 + p) / 12) ((12 * Y + M - 1 + p) % 12 + 1) 1) := by
    show ¬ _
    rintro ⟨_, a, _⟩; unfold Cal.py at hp; omega
  clear hp
  go_enter Try.func63, Try.ntmps63
  go_wp2_with (go_at_call 71; refine (dof_bad _ _ _ _ hv.out).mono ?_; rintro e w4 ⟨rfl, hB⟩)
  go_ret2
  exact ⟨rfl, ((Below.refl _ _).alloc (Nat.le_refl _) _).trans (hB.mono (by simp))⟩
theorem dfirst_any (h : 1 ≤ M ∧ M ≤ 12 ∧ 1900 ≤ Y ∧ Y ≤ 2199 ∧ 0 ≤ p ∧ p ≤ 120) (hp : Cal.py Y M p ≤ 2199) : Calls Try.prog 63 #[.agg #[.int .i64 Y, .int .i64 M, .int .i64 N], .int .i64 p] w fun e w' => e = .returned (.tuple #[.int .i64 (Cal.first Y M p), .int .i64 0]) ∧ Below w.heap.size w w' := by
  obtain ⟨h1, h2, h3, h4, h5, h6⟩ := h
  have hv : Hid (Cal.vld ((12 * Y + M - 1 + p) / 12) ((12 * Y + M - 1 + p) % 12 + 1) 1) := by
    have := Cal.mlen_bd ((12 * Y + M - 1 + p) / 12) ((12 * Y + M - 1 + p) % 12 + 1)
    unfold Cal.py at hp
    exact ⟨by omega, by omega, by omega, by omega, by omega, by omega⟩
  clear hp
  unfold Cal.first Cal.py Cal.pm
  go_enter Try.func63, Try.ntmps63
  go_wp2_with (go_at_call 71; refine (dof_any _ _ _ _ hv.out).mono ?_; rintro e w4 ⟨rfl, hB⟩)
  go_ret2
  exact ⟨rfl, ((Below.refl _ _).alloc (Nat.le_refl _) _).trans (hB.mono (by simp))⟩

set_option maxHeartbeats 2000000 in
theorem dcvalid_any : Calls Try.prog 49 #[.agg #[.int .i64 Y, .int .i64 M, .int .i64 N]] w fun e w' => e = .returned (.bool (Cal.ok Y M N)) ∧ Below w.heap.size w w' := by
  rcases (show M < 1 ∨ (1 ≤ M ∧ 12 < M) ∨ (1 ≤ M ∧ M ≤ 12 ∧ N < 1) ∨ (1 ≤ M ∧ M ≤ 12 ∧ 1 ≤ N ∧ 120 < N) ∨ (1 ≤ M ∧ M ≤ 12 ∧ 1 ≤ N ∧ N ≤ 120 ∧ Y < 1900) ∨ (1 ≤ M ∧ M ≤ 12 ∧ 1 ≤ N ∧ N ≤ 120 ∧ 1900 ≤ Y ∧ 2199 < Y) ∨ (1 ≤ M ∧ M ≤ 12 ∧ 1 ≤ N ∧ N ≤ 120 ∧ 1900 ≤ Y ∧ Y ≤ 2199) by omega) with h | ⟨h1, h2⟩ | ⟨h1, h2, h3⟩ | ⟨h1, h2, h3, h4⟩ | ⟨h1, h2, h3, h4, h5⟩ | ⟨h1, h2, h3, h4, h5, h6⟩ | ⟨h1, h2, h3, h4, h5, h6⟩
  case inr.inr.inr.inr.inr.inr =>
    by_cases hp : Cal.py Y M (N - 1) ≤ 2199
    · have H : Hid (Cal.ok Y M N = true) := (Cal.ok_iff Y M N).2 ⟨h1, h2, h3, h4, h5, h6, hp⟩
      have Hp := Lib.hid hp
      clear hp
      go_enter Try.func49, Try.ntmps49
      go_wp2_with (go_at_call 63; refine (dfirst_any _ _ _ _ _ ⟨h1, h2, h5, h6, by omega, by omega⟩ Hp.out).mono ?_; rintro e w4 ⟨rfl, hB⟩)
      go_ret
      exact ⟨ret_bool H.out.symm, ((Below.refl _ _).alloc (Nat.le_refl _) _).trans (hB.mono (by simp))⟩
    · have H : Hid (Cal.ok Y M N = false) := by show Cal.ok Y M N = false; simp [Cal.ok]; omega
      have Hp : Hid (2199 < Cal.py Y M (N - 1)) := by show _ < _; omega
      clear hp
      go_enter Try.func49, Try.ntmps49
      go_wp2_with (go_at_call 63; refine (dfirst_bad _ _ _ _ _ ⟨h1, h2, h5, h6, by omega, by omega⟩ Hp.out).mono ?_; rintro e w4 ⟨rfl, hB⟩)
      go_ret
      exact ⟨ret_bool H.out.symm, ((Below.refl _ _).alloc (Nat.le_refl _) _).trans (hB.mono (by simp))⟩
  all_goals
    have H : Hid (Cal.ok Y M N = false) := by show Cal.ok Y M N = false; simp [Cal.ok]; omega
    go_enter Try.func49, Try.ntmps49
    go_wp2
    go_ret
    exact ⟨ret_bool H.out.symm, (Below.refl _ _).alloc (Nat.le_refl _) _⟩

theorem dcheck_any : Calls Try.prog 64 #[.agg #[.int .i64 Y, .int .i64 M, .int .i64 N], .int .i64 p] w fun e w' => e = .returned (.int .i64 (Cal.err Y M N p)) ∧ Below w.heap.size w w' := by
  by_cases hok : Cal.ok Y M N = true
  · rcases (show p < 0 ∨ (0 ≤ p ∧ N ≤ p) ∨ (0 ≤ p ∧ p < N) by omega) with h | ⟨h, h'⟩ | ⟨h, h'⟩
    all_goals
      have H : Hid (Cal.err Y M N p = if p < 0 ∨ N ≤ p then 2 else 0) := by show Cal.err Y M N p = _; simp [Cal.err, hok]
      go_enter Try.func64, Try.ntmps64
      go_wp2_with (go_at_call 49; refine (dcvalid_any _ _ _ _).mono ?_; rw [hok]; rintro e w4 ⟨rfl, hB⟩; obtain ⟨hc, hf⟩ := bcell hB)
      go_ret
      refine ⟨ret_int ?_, ((Below.refl _ _).alloc (Nat.le_refl _) _).trans (hB.mono (by simp))⟩
      rw [H.out]; split <;> omega
  · have hok' : Cal.ok Y M N = false := by simpa using hok
    have H : Hid (Cal.err Y M N p = 1) := by show Cal.err Y M N p = _; simp [Cal.err, hok']
    clear hok
    go_enter Try.func64, Try.ntmps64
    go_wp2_with (go_at_call 49; refine (dcvalid_any _ _ _ _).mono ?_; rw [hok']; rintro e w4 ⟨rfl, hB⟩)
    go_ret
    exact ⟨ret_int H.out.symm, ((Below.refl _ _).alloc (Nat.le_refl _) _).trans (hB.mono (by simp))⟩

theorem dFirst_bad (h : Cal.err Y M N p ≠ 0) : Calls Try.prog 50 #[.agg #[.int .i64 Y, .int .i64 M, .int .i64 N], .int .i64 p] w fun e w' => e = .returned (.tuple #[.int .i64 0, .int .i64 (Cal.err Y M N p)]) ∧ Below w.heap.size w w' := by
  have hn : (Cal.err Y M N p != 0) = true := by simpa using h
  go_enter Try.func50, Try.ntmps50
  go_wp2_with (go_at_call 64; refine (dcheck_any _ _ _ _ _).mono ?_; rintro e w4 ⟨rfl, hB⟩; obtain ⟨hc, hf⟩ := bcell hB)
  go_ret2
  exact ⟨rfl, ((Below.refl _ _).alloc (Nat.le_refl _) _).trans (hB.mono (by simp))⟩
theorem dFirst_any (h : Cal.err Y M N p = 0) : Calls Try.prog 50 #[.agg #[.int .i64 Y, .int .i64 M, .int .i64 N], .int .i64 p] w fun e w' => e = .returned (.tuple #[.int .i64 (Cal.first Y M p), .int .i64 0]) ∧ Below w.heap.size w w' := by
  have hok := (Cal.err_zero Y M N p).1 h
  have hv := Cal.pvld Y M N p hok.1 hok.2.1 hok.2.2
  have hi := (Cal.ok_iff Y M N).1 hok.1
  have HV : Hid (1 ≤ M ∧ M ≤ 12 ∧ 1900 ≤ Y ∧ Y ≤ 2199 ∧ 0 ≤ p ∧ p ≤ 120) := ⟨by omega, by omega, by omega, by omega, by omega, by omega⟩
  have HP : Hid (Cal.py Y M p ≤ 2199) := hv.2.1
  clear hok hv hi
  go_enter Try.func50, Try.ntmps50
  go_wp2_with (first | (go_at_call 64; refine (dcheck_any _ _ _ _ _).mono ?_; rw [h]; rintro e w4 ⟨rfl, hB⟩; obtain ⟨hc, hf⟩ := bcell hB) | (go_at_call 63; refine (dfirst_any _ _ _ _ _ HV.out HP.out).mono ?_; rintro e w5 ⟨rfl, hB5⟩))
  go_ret2
  exact ⟨rfl, (((Below.refl _ _).alloc (Nat.le_refl _) _).trans (hB.mono (by simp))).trans (hB5.mono (by have := hB.size; simp at this; omega))⟩
theorem dLast_bad (h : Cal.err Y M N p ≠ 0) : Calls Try.prog 51 #[.agg #[.int .i64 Y, .int .i64 M, .int .i64 N], .int .i64 p] w fun e w' => e = .returned (.tuple #[.int .i64 0, .int .i64 (Cal.err Y M N p)]) ∧ Below w.heap.size w w' := by
  have hn : (Cal.err Y M N p != 0) = true := by simpa using h
  go_enter Try.func51, Try.ntmps51
  go_wp2_with (go_at_call 50; refine (dFirst_bad _ _ _ _ _ h).mono ?_; rintro e w4 ⟨rfl, hB⟩; obtain ⟨hc, hf⟩ := bcell hB)
  go_ret2
  exact ⟨rfl, ((Below.refl _ _).alloc (Nat.le_refl _) _).trans (hB.mono (by simp))⟩
theorem dLast_any (h : Cal.err Y M N p = 0) : Calls Try.prog 51 #[.agg #[.int .i64 Y, .int .i64 M, .int .i64 N], .int .i64 p] w fun e w' => e = .returned (.tuple #[.int .i64 (Cal.last Y M p), .int .i64 0]) ∧ Below w.heap.size w w' := by
  have hok := (Cal.err_zero Y M N p).1 h
  have hv := Cal.pvld Y M N p hok.1 hok.2.1 hok.2.2
  have hf0 := Cal.first_bd Y M N p hok.1 hok.2.1 hok.2.2
  have HF := Lib.hid (Cal.first_vld Y M N p hok.1 hok.2.1 hok.2.2)
  have H : Hid (Cal.err Y M N p = 0) := h
  have HL : Hid (Cal.last Y M p = Cal.first Y M p + Cal.mlen (Cal.py Y M p) (Cal.pm Y M p) - 1) := rfl
  have hm := Cal.mlen_bd (Cal.py Y M p) (Cal.pm Y M p)
  clear hok h
  go_enter Try.func51, Try.ntmps51
  go_wp2_with (first | (go_at_call 50; refine (dFirst_any _ _ _ _ _ H.out).mono ?_; rintro e w4 ⟨rfl, hB⟩; obtain ⟨hc, hf⟩ := bcell hB) | (go_at_call 65; refine (dcivil_any _ _ (by omega)).mono ?_; rintro e w5 ⟨y', m', k', rfl, hv', he, hB5⟩; obtain ⟨rfl, rfl, rfl⟩ := Cal.num_inj _ _ _ _ _ _ hv' HF.out he; clear he hv') | (go_at_call 66; refine (ddays_in _ _ _ ⟨by omega, by omega, by omega, by omega⟩).mono ?_; rintro e w6 ⟨rfl, hB6⟩))
  go_ret2
  have s1 := hB.size
  have s5 := hB5.size
  simp at s1
  exact ⟨by rw [HL.out]; rfl, ((((Below.refl _ _).alloc (Nat.le_refl _) _).trans (hB.mono (by simp))).trans (hB5.mono (by omega))).trans (hB6.mono (by omega))⟩
end
end Go.Proofs.Ytbbbiioojgnpdaa
