/- The walks of the program's package date and of the reference of layer 6: each function returns what the plain calendar says. -/
import Derived.Test.YtbbbiioojgnpdaaBase
import Derived.Test.YtbbbiioojgnpdaaCal
namespace Go.Proofs.Ytbbbiioojgnpdaa
open Go.RowKit

section
variable (y m d : Int) (w : World)

theorem leapB_eq (y : Int) : Cal.leapB y = (y % 4 == 0 && (y % 100 != 0 || y % 400 == 0)) := by
  rw [Bool.eq_iff_iff, Cal.leap_iff]; simp

theorem leap_any (h0 : 0 ≤ y) : Calls Try.prog 73 #[.int .i64 y] w fun e w' => e = .returned (.bool (Cal.leapB y)) ∧ w = w' := by
  rw [leapB_eq]
  go_enter Try.func73, Try.ntmps73
  go_wp2
  all_goals (go_ret; exact ⟨ret_bool (by simp [*]), rfl⟩)

theorem rleap_any (h0 : 0 ≤ y) : Calls Try.prog 58 #[.int .i64 y] w fun e w' => e = .returned (.bool (Cal.leapB y)) ∧ w = w' := by
  rw [leapB_eq]
  go_enter Try.func58, Try.ntmps58
  go_wp2
  all_goals (go_ret; exact ⟨ret_bool (by simp [*]), rfl⟩)

theorem dvalid_any : Calls Try.prog 45 #[.int .i64 d] w fun e w' => e = .returned (.bool (decide (-25567 ≤ d ∧ d ≤ 84005))) ∧ w = w' := by
  go_enter Try.func45, Try.ntmps45
  go_wp2
  all_goals (go_ret; exact ⟨ret_bool (by simp; omega), rfl⟩)

theorem rvalid_any : Calls Try.prog 19 #[.int .i64 d] w fun e w' => e = .returned (.bool (decide (-25567 ≤ d ∧ d ≤ 84005))) ∧ w = w' := by
  go_enter Try.func19, Try.ntmps19
  go_wp2
  all_goals (go_ret; exact ⟨ret_bool (by simp; omega), rfl⟩)

theorem begin_any (h0 : 1 ≤ y) (h1 : y ≤ 100000) : Calls Try.prog 72 #[.int .i64 y] w fun e w' => e = .returned (.int .i64 (Cal.byear y)) ∧ w = w' := by
  go_enter Try.func72, Try.ntmps72
  go_wp2
  go_ret
  exact ⟨ret_int (by unfold Cal.byear; simp), rfl⟩

theorem tab_at (h1 : 1 ≤ m) (h2 : m ≤ 12) : ([Value.int .i64 31, Value.int .i64 28, Value.int .i64 31, Value.int .i64 30, Value.int .i64 31, Value.int .i64 30, Value.int .i64 31, Value.int .i64 31, Value.int .i64 30, Value.int .i64 31, Value.int .i64 30, Value.int .i64 31] : List Value)[m.toNat - 1]? = some (.int .i64 (Cal.tab m)) := by
  have hm : m = 1 ∨ m = 2 ∨ m = 3 ∨ m = 4 ∨ m = 5 ∨ m = 6 ∨ m = 7 ∨ m = 8 ∨ m = 9 ∨ m = 10 ∨ m = 11 ∨ m = 12 := by omega
  rcases hm with rfl | rfl | rfl | rfl | rfl | rfl | rfl | rfl | rfl | rfl | rfl | rfl <;> rfl
theorem run_tab0 (w : World) : (Instr.index 94 (.agg #[.int .i64 31, .int .i64 28, .int .i64 31, .int .i64 30, .int .i64 31, .int .i64 30, .int .i64 31, .int .i64 31, .int .i64 30, .int .i64 31, .int .i64 30, .int .i64 31]) (.int .i64 0)).run Try.prog w = .ok (.int .i64 31) w := by kernel_rfl
theorem run_tab1 (w : World) : (Instr.index 94 (.agg #[.int .i64 31, .int .i64 28, .int .i64 31, .int .i64 30, .int .i64 31, .int .i64 30, .int .i64 31, .int .i64 31, .int .i64 30, .int .i64 31, .int .i64 30, .int .i64 31]) (.int .i64 1)).run Try.prog w = .ok (.int .i64 28) w := by kernel_rfl
theorem run_tab2 (w : World) : (Instr.index 94 (.agg #[.int .i64 31, .int .i64 28, .int .i64 31, .int .i64 30, .int .i64 31, .int .i64 30, .int .i64 31, .int .i64 31, .int .i64 30, .int .i64 31, .int .i64 30, .int .i64 31]) (.int .i64 2)).run Try.prog w = .ok (.int .i64 31) w := by kernel_rfl
theorem run_tab3 (w : World) : (Instr.index 94 (.agg #[.int .i64 31, .int .i64 28, .int .i64 31, .int .i64 30, .int .i64 31, .int .i64 30, .int .i64 31, .int .i64 31, .int .i64 30, .int .i64 31, .int .i64 30, .int .i64 31]) (.int .i64 3)).run Try.prog w = .ok (.int .i64 30) w := by kernel_rfl
theorem run_tab4 (w : World) : (Instr.index 94 (.agg #[.int .i64 31, .int .i64 28, .int .i64 31, .int .i64 30, .int .i64 31, .int .i64 30, .int .i64 31, .int .i64 31, .int .i64 30, .int .i64 31, .int .i64 30, .int .i64 31]) (.int .i64 4)).run Try.prog w = .ok (.int .i64 31) w := by kernel_rfl
theorem run_tab5 (w : World) : (Instr.index 94 (.agg #[.int .i64 31, .int .i64 28, .int .i64 31, .int .i64 30, .int .i64 31, .int .i64 30, .int .i64 31, .int .i64 31, .int .i64 30, .int .i64 31, .int .i64 30, .int .i64 31]) (.int .i64 5)).run Try.prog w = .ok (.int .i64 30) w := by kernel_rfl
theorem run_tab6 (w : World) : (Instr.index 94 (.agg #[.int .i64 31, .int .i64 28, .int .i64 31, .int .i64 30, .int .i64 31, .int .i64 30, .int .i64 31, .int .i64 31, .int .i64 30, .int .i64 31, .int .i64 30, .int .i64 31]) (.int .i64 6)).run Try.prog w = .ok (.int .i64 31) w := by kernel_rfl
theorem run_tab7 (w : World) : (Instr.index 94 (.agg #[.int .i64 31, .int .i64 28, .int .i64 31, .int .i64 30, .int .i64 31, .int .i64 30, .int .i64 31, .int .i64 31, .int .i64 30, .int .i64 31, .int .i64 30, .int .i64 31]) (.int .i64 7)).run Try.prog w = .ok (.int .i64 31) w := by kernel_rfl
theorem run_tab8 (w : World) : (Instr.index 94 (.agg #[.int .i64 31, .int .i64 28, .int .i64 31, .int .i64 30, .int .i64 31, .int .i64 30, .int .i64 31, .int .i64 31, .int .i64 30, .int .i64 31, .int .i64 30, .int .i64 31]) (.int .i64 8)).run Try.prog w = .ok (.int .i64 30) w := by kernel_rfl
theorem run_tab9 (w : World) : (Instr.index 94 (.agg #[.int .i64 31, .int .i64 28, .int .i64 31, .int .i64 30, .int .i64 31, .int .i64 30, .int .i64 31, .int .i64 31, .int .i64 30, .int .i64 31, .int .i64 30, .int .i64 31]) (.int .i64 9)).run Try.prog w = .ok (.int .i64 31) w := by kernel_rfl
theorem run_tab10 (w : World) : (Instr.index 94 (.agg #[.int .i64 31, .int .i64 28, .int .i64 31, .int .i64 30, .int .i64 31, .int .i64 30, .int .i64 31, .int .i64 31, .int .i64 30, .int .i64 31, .int .i64 30, .int .i64 31]) (.int .i64 10)).run Try.prog w = .ok (.int .i64 30) w := by kernel_rfl
theorem run_tab11 (w : World) : (Instr.index 94 (.agg #[.int .i64 31, .int .i64 28, .int .i64 31, .int .i64 30, .int .i64 31, .int .i64 30, .int .i64 31, .int .i64 31, .int .i64 30, .int .i64 31, .int .i64 30, .int .i64 31]) (.int .i64 11)).run Try.prog w = .ok (.int .i64 31) w := by kernel_rfl
theorem run_tab (h1 : 1 ≤ m) (h2 : m ≤ 12) (w : World) : (Instr.index 94 (.agg #[.int .i64 31, .int .i64 28, .int .i64 31, .int .i64 30, .int .i64 31, .int .i64 30, .int .i64 31, .int .i64 31, .int .i64 30, .int .i64 31, .int .i64 30, .int .i64 31]) (.int .i64 (m - 1))).run Try.prog w = .ok (.int .i64 (Cal.tab m)) w := by
  have hm : m = 1 ∨ m = 2 ∨ m = 3 ∨ m = 4 ∨ m = 5 ∨ m = 6 ∨ m = 7 ∨ m = 8 ∨ m = 9 ∨ m = 10 ∨ m = 11 ∨ m = 12 := by omega
  rcases hm with rfl | rfl | rfl | rfl | rfl | rfl | rfl | rfl | rfl | rfl | rfl | rfl
  · exact run_tab0 w
  · exact run_tab1 w
  · exact run_tab2 w
  · exact run_tab3 w
  · exact run_tab4 w
  · exact run_tab5 w
  · exact run_tab6 w
  · exact run_tab7 w
  · exact run_tab8 w
  · exact run_tab9 w
  · exact run_tab10 w
  · exact run_tab11 w

theorem ddays_in (hv : 1900 ≤ y ∧ y ≤ 2199 ∧ 1 ≤ m ∧ m ≤ 12) : Calls Try.prog 66 #[.int .i64 y, .int .i64 m] w fun e w' => e = .returned (.int .i64 (Cal.mlen y m)) ∧ Below w.heap.size w w' := by
  obtain ⟨h1, h2, h3, h4⟩ := hv
  have hc := tab_at m h3 h4
  by_cases hm : m = 2
  · subst hm
    clear hc
    go_enter Try.func66, Try.ntmps66
    go_wp2_with (go_at_call 73; refine (leap_any _ _ (by omega)).mono ?_; rintro e w' ⟨rfl, rfl⟩)
    all_goals (go_ret; exact ⟨ret_int (by simp [Cal.mlen, Cal.tab, *]), (Below.refl _ _).alloc (Nat.le_refl _) _⟩)
  · have hm2 : (m == 2) = false := by simpa using hm
    have hr : Hid (Cal.mlen y m = Cal.tab m) := by show Cal.mlen y m = Cal.tab m; simp [Cal.mlen, hm]
    go_enter Try.func66, Try.ntmps66
    go_wp2
    go_ret
    exact ⟨ret_int hr.symm, (Below.refl _ _).alloc (Nat.le_refl _) _⟩

set_option maxRecDepth 100000 in
theorem rdays_in (hv : 1900 ≤ y ∧ y ≤ 2199 ∧ 1 ≤ m ∧ m ≤ 12) : Calls Try.prog 40 #[.int .i64 y, .int .i64 m] w fun e w' => e = .returned (.int .i64 (Cal.mlen y m)) ∧ w = w' := by
  obtain ⟨h1, h2, h3, h4⟩ := hv
  have hi := run_tab m h3 h4
  by_cases hm : m = 2
  · subst hm
    clear hi
    have hi := run_tab1 w
    go_enter Try.func40, Try.ntmps40
    go_wp2_with (go_at_call 58; refine (rleap_any _ _ (by omega)).mono ?_; rintro e w' ⟨rfl, rfl⟩)
    all_goals (go_ret; exact ⟨ret_int (by simp [Cal.mlen, Cal.tab, *]), rfl⟩)
  · have hm2 : (m == 2) = false := by simpa using hm
    have hr : Hid (Cal.mlen y m = Cal.tab m) := by show Cal.mlen y m = Cal.tab m; simp [Cal.mlen, hm]
    go_enter Try.func40, Try.ntmps40
    go_wp2
    go_ret
    exact ⟨ret_int hr.symm, rfl⟩

theorem ddays_out (hv : ¬ (1900 ≤ y ∧ y ≤ 2199 ∧ 1 ≤ m ∧ m ≤ 12)) : Calls Try.prog 66 #[.int .i64 y, .int .i64 m] w fun e w' => e = .returned (.int .i64 0) ∧ Below w.heap.size w w' := by
  rcases (show y < 1900 ∨ (1900 ≤ y ∧ 2199 < y) ∨ (1900 ≤ y ∧ y ≤ 2199 ∧ m < 1) ∨ (1900 ≤ y ∧ y ≤ 2199 ∧ 1 ≤ m ∧ 12 < m) by omega) with h | ⟨h1, h2⟩ | ⟨h1, h2, h3⟩ | ⟨h1, h2, h3, h4⟩
  all_goals
    clear hv
    go_enter Try.func66, Try.ntmps66
    go_wp2
    go_ret
    exact ⟨rfl, Below.refl _ _⟩

theorem rdays_out (hv : ¬ (1900 ≤ y ∧ y ≤ 2199 ∧ 1 ≤ m ∧ m ≤ 12)) : Calls Try.prog 40 #[.int .i64 y, .int .i64 m] w fun e w' => e = .returned (.int .i64 0) ∧ w = w' := by
  rcases (show m < 1 ∨ (1 ≤ m ∧ 12 < m) ∨ (1 ≤ m ∧ m ≤ 12 ∧ y < 1900) ∨ (1 ≤ m ∧ m ≤ 12 ∧ 1900 ≤ y ∧ 2199 < y) by omega) with h | ⟨h1, h2⟩ | ⟨h1, h2, h3⟩ | ⟨h1, h2, h3, h4⟩
  all_goals
    clear hv
    go_enter Try.func40, Try.ntmps40
    go_wp2
    go_ret
    exact ⟨rfl, rfl⟩

theorem ddays_any : Calls Try.prog 66 #[.int .i64 y, .int .i64 m] w fun e w' => e = .returned (.int .i64 (Cal.days y m)) ∧ Below w.heap.size w w' := by
  by_cases h : 1900 ≤ y ∧ y ≤ 2199 ∧ 1 ≤ m ∧ m ≤ 12
  · rw [Cal.days_in y m h]; exact ddays_in y m w h
  · rw [Cal.days_out y m h]; exact ddays_out y m w h
theorem rdays_any : Calls Try.prog 40 #[.int .i64 y, .int .i64 m] w fun e w' => e = .returned (.int .i64 (Cal.days y m)) ∧ w = w' := by
  by_cases h : 1900 ≤ y ∧ y ≤ 2199 ∧ 1 ≤ m ∧ m ≤ 12
  · rw [Cal.days_in y m h]; exact rdays_in y m w h
  · rw [Cal.days_out y m h]; exact rdays_out y m w h

/-! ### Of: the number of a day -/
theorem cum_step (k : Nat) (y : Int) (h1 : 1 ≤ k) (h2 : k ≤ 12) : Cal.cum y ((k : Int) + 1) = Cal.cum y k + Cal.mlen y k := Cal.cum_succ y k (by omega) (by omega)

theorem dof_bad (h : ¬ Cal.vld y m d) : Calls Try.prog 71 #[.int .i64 y, .int .i64 m, .int .i64 d] w fun e w' => e = .returned (.tuple #[.int .i64 0, .int .i64 2]) ∧ Below w.heap.size w w' := by
  have hb := Cal.days_bd y m
  rw [Cal.days_vld] at h
  by_cases h1 : d < 1
  · clear h
    go_enter Try.func71, Try.ntmps71
    go_wp2
    go_ret2
    exact ⟨rfl, Below.refl _ _⟩
  · have h2 : Cal.days y m < d := by omega
    clear h
    go_enter Try.func71, Try.ntmps71
    go_wp2_with (go_at_call 66; refine (ddays_any _ _ _).mono ?_; rintro e w' ⟨rfl, hB⟩)
    go_ret2
    exact ⟨rfl, hB⟩

set_option maxHeartbeats 400000 in
theorem dof_any (h : Cal.vld y m d) : Calls Try.prog 71 #[.int .i64 y, .int .i64 m, .int .i64 d] w fun e w' => e = .returned (.tuple #[.int .i64 (Cal.num y m d), .int .i64 0]) ∧ Below w.heap.size w w' := by
  have hb := Cal.days_bd y m
  have hn := Cal.num_bd y m d h
  have hn' := Cal.num_year y m d h
  obtain ⟨g1, g2⟩ := (Cal.days_vld y m d).1 h
  obtain ⟨h1, h2, h3, h4, h5, h6⟩ := h
  have hy := Cal.byear_bd y h1 (by omega)
  go_enter Try.func71, Try.ntmps71
  go_wp2_with (first | (go_at_call 66; refine (ddays_any _ _ _).mono ?_; rintro e w1 ⟨rfl, hB⟩) | (go_at_call 72; refine (begin_any _ _ (by omega) (by omega)).mono ?_; rintro e w2 ⟨rfl, rfl⟩))
  go_loopw [8, 9] (fun n i wr => ∃ k : Nat, 1 ≤ k ∧ (k : Int) ≤ m ∧ i = .int .i64 k ∧ n = .int .i64 (Cal.byear y + Cal.cum y k + d - 1) ∧ Below w.heap.size w wr) (fun _ i _ => (m - intOf i).toNat)
  case atStart => exact ⟨1, by omega, by omega, rfl, by simp [Cal.cum_one], hB⟩
  case round =>
    obtain ⟨k, hk1, hk2, rfl, rfl, hB2⟩ := hrel
    have hc := Cal.cum_bd y k (by omega) (by omega)
    by_cases hlt : (k : Int) < m
    · have hs := Lib.hid (cum_step k y hk1 (by omega))
      have hm := Cal.mlen_bd y k
      go_wp2_with (go_at_call 66; refine (ddays_in _ _ _ ⟨h1, h2, by omega, by omega⟩).mono ?_; rintro e w3 ⟨rfl, hB3⟩)
      go_roundw
      case rel => exact ⟨k + 1, by omega, by omega, by go_num, by have := hs.out; rw [show ((k + 1 : Nat) : Int) = (k : Int) + 1 from rfl, this]; go_num, hB2.trans (hB3.mono hB2.size)⟩
      case measure => simp [intOf]; omega
    · obtain rfl : m = k := by omega
      go_wp2
      go_ret2
      exact ⟨rfl, hB2⟩

theorem rof_bad (h : ¬ Cal.vld y m d) : Calls Try.prog 56 #[.int .i64 y, .int .i64 m, .int .i64 d] w fun e w' => e = .returned (.tuple #[.int .i64 0, .int .i64 2]) ∧ w = w' := by
  have hb := Cal.days_bd y m
  rw [Cal.days_vld] at h
  by_cases h1 : d < 1
  · clear h
    go_enter Try.func56, Try.ntmps56
    go_wp2
    go_ret2
    exact ⟨rfl, rfl⟩
  · have h2 : Cal.days y m < d := by omega
    clear h
    go_enter Try.func56, Try.ntmps56
    go_wp2_with (go_at_call 40; refine (rdays_any _ _ _).mono ?_; rintro e w' ⟨rfl, rfl⟩)
    go_ret2
    exact ⟨rfl, rfl⟩

set_option maxHeartbeats 400000 in
theorem rof_any (h : Cal.vld y m d) : Calls Try.prog 56 #[.int .i64 y, .int .i64 m, .int .i64 d] w fun e w' => e = .returned (.tuple #[.int .i64 (Cal.num y m d), .int .i64 0]) ∧ w = w' := by
  have hb := Cal.days_bd y m
  have hn := Cal.num_bd y m d h
  have hn' := Cal.num_year y m d h
  obtain ⟨g1, g2⟩ := (Cal.days_vld y m d).1 h
  obtain ⟨h1, h2, h3, h4, h5, h6⟩ := h
  have hy := Cal.byear_bd y h1 (by omega)
  go_enter Try.func56, Try.ntmps56
  go_wp2_with (first | (go_at_call 40; refine (rdays_any _ _ _).mono ?_; rintro e w1 ⟨rfl, rfl⟩))
  go_loop [8, 9] (fun n i => ∃ k : Nat, 1900 ≤ k ∧ (k : Int) ≤ y ∧ i = .int .i64 k ∧ n = .int .i64 (Cal.byear k)) (fun _ i => (y - intOf i).toNat)
  case atStart => exact ⟨1900, by omega, by omega, rfl, rfl⟩
  case round =>
    obtain ⟨k, hk1, hk2, rfl, rfl⟩ := hrel
    have hc := Cal.byear_bd k (by omega) (by omega)
    by_cases hlt : (k : Int) < y
    · rcases Cal.lp_cases k with ⟨hl, e⟩ | ⟨hl, e⟩
      all_goals
        have hs := Lib.hid (Cal.byear_succ k)
        have he := Lib.hid e
        clear e
        go_wp2_with (go_at_call 58; refine (rleap_any _ _ (by omega)).mono ?_; rintro e w3 ⟨rfl, rfl⟩)
        go_round
        case rel => exact ⟨k + 1, by omega, by omega, by go_num, by rw [show ((k + 1 : Nat) : Int) = (k : Int) + 1 from rfl, hs.out, he.out]; try go_num⟩
        case measure => simp [intOf]; omega
    · obtain rfl : y = k := by omega
      go_wp2
      go_loop [8, 10] (fun n i => ∃ j : Nat, 1 ≤ j ∧ (j : Int) ≤ m ∧ i = .int .i64 j ∧ n = .int .i64 (Cal.byear k + Cal.cum k j)) (fun _ i => (m - intOf i).toNat)
      case atStart => exact ⟨1, by omega, by omega, rfl, by simp [Cal.cum_one]⟩
      case round =>
        obtain ⟨j, hj1, hj2, rfl, rfl⟩ := hrel
        have hc' := Cal.cum_bd k j (by omega) (by omega)
        by_cases hlt' : (j : Int) < m
        · have hs := Lib.hid (cum_step j k hj1 (by omega))
          have hm := Cal.mlen_bd k j
          go_wp2_with (go_at_call 40; refine (rdays_in _ _ _ ⟨h1, h2, by omega, by omega⟩).mono ?_; rintro e w3 ⟨rfl, rfl⟩)
          go_round
          case rel => exact ⟨j + 1, by omega, by omega, by go_num, by rw [show ((j + 1 : Nat) : Int) = (j : Int) + 1 from rfl, hs.out]; go_num⟩
          case measure => simp [intOf]; omega
        · obtain rfl : m = j := by omega
          go_wp2
          go_ret2
          exact ⟨rfl, rfl⟩

/-! ### Civil: the day of a number -/
theorem dcivil_bad (h : ¬ (-25567 ≤ d ∧ d ≤ 84005)) : Calls Try.prog 65 #[.int .i64 d] w fun e w' => e = .returned (.tuple #[.int .i64 0, .int .i64 0, .int .i64 0, .int .i64 2]) ∧ w = w' := by
  have hd : decide (-25567 ≤ d ∧ d ≤ 84005) = false := decide_eq_false h
  go_enter Try.func65, Try.ntmps65
  go_wp2_with (go_at_call 45; refine (dvalid_any _ _).mono ?_; rw [hd]; rintro e w' ⟨rfl, rfl⟩)
  refine bodyPost_ret (results_tmp4 rfl _ _ _) rfl ?_
  exact ⟨rfl, rfl⟩

theorem rcivil_bad (h : ¬ (-25567 ≤ d ∧ d ≤ 84005)) : Calls Try.prog 39 #[.int .i64 d] w fun e w' => e = .returned (.tuple #[.int .i64 0, .int .i64 0, .int .i64 0, .int .i64 2]) ∧ w = w' := by
  have hd : decide (-25567 ≤ d ∧ d ≤ 84005) = false := decide_eq_false h
  go_enter Try.func39, Try.ntmps39
  go_wp2_with (go_at_call 19; refine (rvalid_any _ _).mono ?_; rw [hd]; rintro e w' ⟨rfl, rfl⟩)
  refine bodyPost_ret (results_tmp4 rfl _ _ _) rfl ?_
  exact ⟨rfl, rfl⟩

set_option maxHeartbeats 1000000 in
theorem dcivil_any (h : -25567 ≤ d ∧ d ≤ 84005) : Calls Try.prog 65 #[.int .i64 d] w fun e w' => ∃ y m k : Int, e = .returned (.tuple #[.int .i64 y, .int .i64 m, .int .i64 k, .int .i64 0]) ∧ Cal.vld y m k ∧ Cal.num y m k = d ∧ Below w.heap.size w w' := by
  have hd : decide (-25567 ≤ d ∧ d ≤ 84005) = true := decide_eq_true h
  obtain ⟨h1, h2⟩ := h
  have g0 : Cal.byear (1970 + d.tdiv 366 - 2) ≤ d ∨ 1970 + d.tdiv 366 - 2 < 1900 := by
    unfold Cal.byear
    rcases Int.lt_or_le d 0 with hn | hn
    · obtain ⟨k, rfl⟩ : ∃ k : Nat, d = -(k : Int) := ⟨d.natAbs, by omega⟩
      rw [Int.neg_tdiv, Int.tdiv_eq_ediv_of_nonneg (by omega)]; omega
    · rw [Int.tdiv_eq_ediv_of_nonneg hn]; omega
  have g1 : 1896 ≤ 1970 + d.tdiv 366 - 2 ∧ 1970 + d.tdiv 366 - 2 ≤ 2199 := by
    rcases Int.lt_or_le d 0 with hn | hn
    · obtain ⟨k, rfl⟩ : ∃ k : Nat, d = -(k : Int) := ⟨d.natAbs, by omega⟩
      rw [Int.neg_tdiv, Int.tdiv_eq_ediv_of_nonneg (by omega)]; omega
    · rw [Int.tdiv_eq_ediv_of_nonneg hn]; omega
  obtain ⟨q, hq⟩ : ∃ q, d.tdiv 366 = q := ⟨_, rfl⟩
  rw [hq] at g0 g1
  have Hq := Lib.hid hq
  clear hq
  go_enter Try.func65, Try.ntmps65
  go_wp2_with (go_at_call 45; refine (dvalid_any _ _).mono ?_; rw [hd]; rintro e w' ⟨rfl, rfl⟩)
  rw [Hq.out, IntWalk.wrap64_in (1970 + q) (by omega), IntWalk.wrap64_in (1970 + q - 2) (by omega)]
  have Hy := Lib.hid (Cal.byear_lo)
  go_loopw [2] (fun y wr => ∃ k : Nat, 1896 ≤ k ∧ (k : Int) ≤ 2199 ∧ y = .int .i64 k ∧ (Cal.byear k ≤ d ∨ (k : Int) < 1900) ∧ w = wr) (fun y _ => (2200 - intOf y).toNat)
  case atStart => exact ⟨(1970 + q - 2).toNat, by omega, by omega, by congr 1; omega, by rw [Int.toNat_of_nonneg (by omega)]; exact g0, rfl⟩
  case round =>
    obtain ⟨y, hy1, hy2, rfl, hy3, rfl⟩ := hrel
    have b1 := Cal.byear_bd (y + 1)
    by_cases hc : (y : Int) < 1900
    · go_wp2_with (go_at_call 72; refine (begin_any _ _ (by omega) (by omega)).mono ?_; rintro e w' ⟨rfl, rfl⟩)
      go_roundw
      case rel =>
        refine ⟨y + 1, by omega, by omega, by go_num, ?_, trivial⟩
        by_cases h9 : (y : Int) = 1899
        · left; rw [show ((y + 1 : Nat) : Int) = 1900 by omega, Hy.out]; omega
        · right; omega
      case measure => simp [intOf]; omega
    · by_cases hc2 : Cal.byear (y + 1) ≤ d
      · have hc3 : (y : Int) < 2199 := by
          by_cases e : (y : Int) = 2199
          · rw [e] at hc2; have := Cal.byear_hi; simp at hc2; omega
          · omega
        go_wp2_with (go_at_call 72; refine (begin_any _ _ (by omega) (by omega)).mono ?_; rintro e w' ⟨rfl, rfl⟩)
        go_roundw
        case rel => exact ⟨y + 1, by omega, by omega, by go_num, .inl hc2, trivial⟩
        case measure => simp [intOf]; omega
      · have hz : Cal.byear y ≤ d := by omega
        have hl := Cal.lp_01 y
        have hs := Cal.byear_succ y
        have hb := Cal.byear_bd y (by omega) (by omega)
        have hr : d - Cal.byear y < 365 + Cal.lp y := by omega
        clear hs hy3 b1 g0
        go_wp2_with (go_at_call 72; refine (begin_any _ _ (by omega) (by omega)).mono ?_; rintro e w' ⟨rfl, rfl⟩)
        go_loopw [3, 4] (fun m r wr => ∃ j : Nat, 1 ≤ j ∧ (j : Int) ≤ 12 ∧ m = .int .i64 j ∧ 0 ≤ d - Cal.byear y - Cal.cum y j ∧ r = .int .i64 (d - Cal.byear y - Cal.cum y j) ∧ Below w.heap.size w wr) (fun m _ _ => (12 - intOf m).toNat)
        case atStart => exact ⟨1, by omega, by omega, rfl, by simp [Cal.cum_one]; omega, by simp [Cal.cum_one], Below.refl _ _⟩
        case round =>
          obtain ⟨m, hm1, hm2, rfl, hr0, rfl, hB⟩ := hrel
          have cb := Cal.cum_bd y m (by omega) (by omega)
          have db := Cal.mlen_bd y m
          have cs := Lib.hid (cum_step m y hm1 (by omega))
          have ce := Lib.hid (Cal.cum_end y)
          by_cases hc : Cal.mlen y m ≤ d - Cal.byear y - Cal.cum y m
          · have hm : (m : Int) < 12 := by
              by_cases e : (m : Int) = 12
              · have := cs.out; rw [e] at this hc; have := ce.out; simp at *; omega
              · omega
            go_wp2_with (go_at_call 66; refine (ddays_in _ _ _ ⟨by omega, by omega, by omega, by omega⟩).mono ?_; rintro e w3 ⟨rfl, hB3⟩; replace hB := hB.trans (hB3.mono hB.size); clear hB3)
            go_roundw
            case rel => exact ⟨m + 1, by omega, by omega, by go_num, by rw [show ((m + 1 : Nat) : Int) = (m : Int) + 1 from rfl, cs.out]; omega, by rw [show ((m + 1 : Nat) : Int) = (m : Int) + 1 from rfl, cs.out]; go_num, hB⟩
            case measure => simp [intOf]; omega
          · go_wp2_with (go_at_call 66; refine (ddays_in _ _ _ ⟨by omega, by omega, by omega, by omega⟩).mono ?_; rintro e w3 ⟨rfl, hB3⟩)
            refine bodyPost_ret (results_tmp4 rfl _ _ _) rfl ?_
            exact ⟨y, m, _, rfl, ⟨by omega, by omega, by omega, by omega, by omega, by omega⟩, by unfold Cal.num; omega, hB.trans (hB3.mono hB.size)⟩
end
end Go.Proofs.Ytbbbiioojgnpdaa
