/- My texts Cal, Date, Date2, Date3. -/
import Derived.Test.YtalfikdjclineaaGreatDoorG00
set_option linter.unusedVariables false
set_option linter.unusedSimpArgs false
set_option maxRecDepth 100000
set_option maxHeartbeats 8000000
namespace Go.Proofs.YtalfikdjclineaaGreatDoor
namespace Cal

def leapB (y : Int) : Bool := decide (y % 4 = 0 /\ (y % 100 ≠ 0 ∨ y % 400 = 0))
def tab (m : Int) : Int := if m = 2 then 28 else if m = 4 ∨ m = 6 ∨ m = 9 ∨ m = 11 then 30 else 31
def mlen (y m : Int) : Int := if m = 2 /\ leapB y = true then 29 else tab m
def days (y m : Int) : Int := if 1900 <= y /\ y <= 2199 /\ 1 <= m /\ m <= 12 then mlen y m else 0
def byear (y : Int) : Int := 365 * (y - 1) + (y - 1) / 4 - (y - 1) / 100 + (y - 1) / 400 - 719162
def lp (y : Int) : Int := if leapB y = true then 1 else 0
def cum (y m : Int) : Int :=
  (if m <= 1 then 0 else if m = 2 then 31 else if m = 3 then 59 else if m = 4 then 90 else if m = 5 then 120 else if m = 6 then 151 else if m = 7 then 181
   else if m = 8 then 212 else if m = 9 then 243 else if m = 10 then 273 else if m = 11 then 304 else if m = 12 then 334 else 365) + (if 3 <= m then lp y else 0)
def num (y m d : Int) : Int := byear y + cum y m + d - 1
def vld (y m d : Int) : Prop := 1900 <= y /\ y <= 2199 /\ 1 <= m /\ m <= 12 /\ 1 <= d /\ d <= mlen y m

theorem lp_01 (y : Int) : 0 <= lp y /\ lp y <= 1 := by unfold lp; split <;> omega
theorem lp_cases (y : Int) : (leapB y = true /\ lp y = 1) ∨ (leapB y = false /\ lp y = 0) := by
  unfold lp; by_cases h : leapB y = true <;> simp [h]
theorem leap_iff (y : Int) : leapB y = true ↔ (y % 4 = 0 /\ (y % 100 ≠ 0 ∨ y % 400 = 0)) := by unfold leapB; simp
theorem byear_succ (y : Int) : byear (y + 1) = byear y + 365 + lp y := by
  have h := leap_iff y
  unfold byear lp
  by_cases hl : leapB y = true
  · rw [if_pos hl]; rw [hl] at h; simp at h; omega
  · rw [if_neg hl]; have : ¬ (y % 4 = 0 /\ (y % 100 ≠ 0 ∨ y % 400 = 0)) := fun hh => hl (h.2 hh); omega
theorem byear_lo : byear 1900 = -25567 := by decide
theorem byear_hi : byear 2200 = 84006 := by decide
theorem byear_mono (a b : Int) (_h0 : 1 <= a) (h : a <= b) : byear a <= byear b := by unfold byear; omega
theorem byear_bd (y : Int) (h0 : 1900 <= y) (h : y <= 2200) : -25567 <= byear y /\ byear y <= 84006 := by unfold byear; omega
theorem tab_bd (m : Int) : 28 <= tab m /\ tab m <= 31 := by unfold tab; split <;> (try split) <;> omega
theorem mlen_bd (y m : Int) : 28 <= mlen y m /\ mlen y m <= 31 := by unfold mlen; have := tab_bd m; split <;> omega
theorem mlen_eq (y m : Int) : mlen y m = tab m + (if m = 2 then lp y else 0) := by
  rcases lp_cases y with ⟨h, e⟩ | ⟨h, e⟩ <;> by_cases hm : m = 2 <;> simp [mlen, h, e, hm, tab]
theorem cum_succ (y m : Int) (h1 : 1 <= m) (h2 : m <= 12) : cum y (m + 1) = cum y m + mlen y m := by
  have hm : m = 1 ∨ m = 2 ∨ m = 3 ∨ m = 4 ∨ m = 5 ∨ m = 6 ∨ m = 7 ∨ m = 8 ∨ m = 9 ∨ m = 10 ∨ m = 11 ∨ m = 12 := by omega
  rw [mlen_eq]
  rcases hm with rfl | rfl | rfl | rfl | rfl | rfl | rfl | rfl | rfl | rfl | rfl | rfl <;> simp [cum, tab] <;> omega
theorem cum_one (y : Int) : cum y 1 = 0 := by simp [cum]
theorem cum_end (y : Int) : cum y 13 = 365 + lp y := by simp [cum]
theorem cum_bd (y m : Int) (h1 : 1 <= m) (h2 : m <= 13) : 0 <= cum y m /\ cum y m <= 366 := by
  have := lp_01 y
  have hm : m = 1 ∨ m = 2 ∨ m = 3 ∨ m = 4 ∨ m = 5 ∨ m = 6 ∨ m = 7 ∨ m = 8 ∨ m = 9 ∨ m = 10 ∨ m = 11 ∨ m = 12 ∨ m = 13 := by omega
  rcases hm with rfl | rfl | rfl | rfl | rfl | rfl | rfl | rfl | rfl | rfl | rfl | rfl | rfl <;> simp [cum] <;> omega
theorem cum_le (y m k : Int) (h1 : 1 <= m) (h : m < k) (h2 : k <= 13) : cum y m + mlen y m <= cum y k := by
  have := lp_01 y
  rw [mlen_eq]
  have hm : m = 1 ∨ m = 2 ∨ m = 3 ∨ m = 4 ∨ m = 5 ∨ m = 6 ∨ m = 7 ∨ m = 8 ∨ m = 9 ∨ m = 10 ∨ m = 11 ∨ m = 12 := by omega
  have hk : k = 1 ∨ k = 2 ∨ k = 3 ∨ k = 4 ∨ k = 5 ∨ k = 6 ∨ k = 7 ∨ k = 8 ∨ k = 9 ∨ k = 10 ∨ k = 11 ∨ k = 12 ∨ k = 13 := by omega
  rcases hm with rfl | rfl | rfl | rfl | rfl | rfl | rfl | rfl | rfl | rfl | rfl | rfl <;>
    rcases hk with rfl | rfl | rfl | rfl | rfl | rfl | rfl | rfl | rfl | rfl | rfl | rfl | rfl <;> simp [cum, tab] <;> omega
theorem days_in (y m : Int) (h : 1900 <= y /\ y <= 2199 /\ 1 <= m /\ m <= 12) : days y m = mlen y m := by unfold days; rw [if_pos h]
theorem days_out (y m : Int) (h : ¬ (1900 <= y /\ y <= 2199 /\ 1 <= m /\ m <= 12)) : days y m = 0 := by unfold days; rw [if_neg h]
theorem days_bd (y m : Int) : 0 <= days y m /\ days y m <= 31 := by unfold days; have := mlen_bd y m; split <;> omega
theorem days_vld (y m d : Int) : vld y m d ↔ (1 <= d /\ d <= days y m) := by
  unfold vld days
  by_cases h : 1900 <= y /\ y <= 2199 /\ 1 <= m /\ m <= 12
  · rw [if_pos h]; omega
  · rw [if_neg h]; omega
theorem num_year (y m d : Int) (h : vld y m d) : byear y <= num y m d /\ num y m d < byear (y + 1) := by
  obtain ⟨_, _, h1, h2, _, _⟩ := h
  have c1 := cum_le y m 13 h1 (by omega) (by omega)
  have c0 := cum_bd y m h1 (by omega)
  rw [cum_end] at c1
  rw [byear_succ]; unfold num; omega
theorem num_bd (y m d : Int) (h : vld y m d) : -25567 <= num y m d /\ num y m d <= 84005 := by
  have h' := num_year y m d h
  obtain ⟨a, b, _⟩ := h
  have := byear_bd y a (by omega)
  have := byear_bd (y + 1) (by omega) (by omega)
  omega
theorem num_inj (y m d y' m' d' : Int) (h : vld y m d) (h' : vld y' m' d') (e : num y m d = num y' m' d') : y = y' /\ m = m' /\ d = d' := by
  have a := num_year _ _ _ h
  have b := num_year _ _ _ h'
  obtain ⟨p1, p2, p3, p4, p5, p6⟩ := h
  obtain ⟨q1, q2, q3, q4, q5, q6⟩ := h'
  have hy : y = y' := by
    rcases Int.lt_trichotomy y y' with hl | he | hl
    · have := byear_mono (y + 1) y' (by omega) (by omega); omega
    · exact he
    · have := byear_mono (y' + 1) y (by omega) (by omega); omega
  subst hy
  unfold num at e
  have hm : m = m' := by
    rcases Int.lt_trichotomy m m' with hl | he | hl
    · have := cum_le y m m' p3 hl (by omega); omega
    · exact he
    · have := cum_le y m' m q3 hl (by omega); omega
  subst hm
  exact ⟨rfl, rfl, by omega⟩

def py (Y M p : Int) : Int := (12 * Y + M - 1 + p) / 12
def pm (Y M p : Int) : Int := (12 * Y + M - 1 + p) % 12 + 1
def first (Y M p : Int) : Int := num (py Y M p) (pm Y M p) 1
def last (Y M p : Int) : Int := first Y M p + mlen (py Y M p) (pm Y M p) - 1
def ok (Y M N : Int) : Bool := decide (1 <= M /\ M <= 12 /\ 1 <= N /\ N <= 120 /\ 1900 <= Y /\ Y <= 2199 /\ py Y M (N - 1) <= 2199)
def err (Y M N p : Int) : Int := if ok Y M N = true then (if p < 0 ∨ N <= p then 2 else 0) else 1
theorem ok_iff (Y M N : Int) : ok Y M N = true ↔ (1 <= M /\ M <= 12 /\ 1 <= N /\ N <= 120 /\ 1900 <= Y /\ Y <= 2199 /\ py Y M (N - 1) <= 2199) := by unfold ok; simp
theorem err_zero (Y M N p : Int) : err Y M N p = 0 ↔ (ok Y M N = true /\ 0 <= p /\ p < N) := by
  unfold err
  by_cases h : ok Y M N = true
  · rw [if_pos h]; by_cases h2 : p < 0 ∨ N <= p
    · rw [if_pos h2]; simp; omega
    · rw [if_neg h2]; simp [h]; omega
  · rw [if_neg h]; simp [h]
theorem pvld (Y M N p : Int) (h : ok Y M N = true) (h1 : 0 <= p) (h2 : p < N) : 1900 <= py Y M p /\ py Y M p <= 2199 /\ 1 <= pm Y M p /\ pm Y M p <= 12 := by
  rw [ok_iff] at h; unfold py pm at *; omega
theorem first_vld (Y M N p : Int) (h : ok Y M N = true) (h1 : 0 <= p) (h2 : p < N) : vld (py Y M p) (pm Y M p) 1 := by
  have := pvld Y M N p h h1 h2
  have := mlen_bd (py Y M p) (pm Y M p)
  exact ⟨by omega, by omega, by omega, by omega, by omega, by omega⟩
theorem last_vld (Y M N p : Int) (h : ok Y M N = true) (h1 : 0 <= p) (h2 : p < N) : vld (py Y M p) (pm Y M p) (mlen (py Y M p) (pm Y M p)) := by
  have := pvld Y M N p h h1 h2
  have := mlen_bd (py Y M p) (pm Y M p)
  exact ⟨by omega, by omega, by omega, by omega, by omega, by omega⟩
theorem last_eq (Y M p : Int) : last Y M p = num (py Y M p) (pm Y M p) (mlen (py Y M p) (pm Y M p)) := by unfold last first num; omega
theorem first_bd (Y M N p : Int) (h : ok Y M N = true) (h1 : 0 <= p) (h2 : p < N) : -25567 <= first Y M p /\ first Y M p <= last Y M p /\ last Y M p <= 84005 /\ last Y M p <= first Y M p + 30 := by
  have a := num_bd _ _ _ (first_vld Y M N p h h1 h2)
  have b := num_bd _ _ _ (last_vld Y M N p h h1 h2)
  have c := mlen_bd (py Y M p) (pm Y M p)
  rw [<- last_eq] at b
  refine ⟨a.1, ?_, b.2, ?_⟩ <;> unfold last <;> omega
end Cal
end Go.Proofs.YtalfikdjclineaaGreatDoor
namespace Go.Proofs.YtalfikdjclineaaGreatDoor
open Go.RowKit

section
variable (y m d : Int) (w : World)

theorem leapB_eq (y : Int) : Cal.leapB y = (y % 4 == 0 && (y % 100 != 0 || y % 400 == 0)) := by
  rw [Bool.eq_iff_iff, Cal.leap_iff]; simp

theorem leap_any (h0 : 0 <= y) : Calls Tryz.prog 118 #[.int .i64 y] w fun e w' => e = .returned (.bool (Cal.leapB y)) /\ w = w' := by
  rw [leapB_eq]
  go_enter Tryz.func118, Tryz.ntmps118
  go_wp2
  all_goals (go_ret; exact ⟨ret_bool (by simp [*]), rfl⟩)

theorem dvalid_any : Calls Tryz.prog 36 #[.int .i64 d] w fun e w' => e = .returned (.bool (decide (-25567 <= d /\ d <= 84005))) /\ w = w' := by
  go_enter Tryz.func36, Tryz.ntmps36
  go_wp2
  all_goals (go_ret; exact ⟨ret_bool (by simp; omega), rfl⟩)

theorem rvalid_any : Calls Tryz.prog 69 #[.int .i64 d] w fun e w' => e = .returned (.bool (decide (-25567 <= d /\ d <= 84005))) /\ w = w' := by
  go_enter Tryz.func69, Tryz.ntmps69
  go_wp2
  all_goals (go_ret; exact ⟨ret_bool (by simp; omega), rfl⟩)

theorem begin_any (h0 : 1 <= y) (h1 : y <= 100000) : Calls Tryz.prog 117 #[.int .i64 y] w fun e w' => e = .returned (.int .i64 (Cal.byear y)) /\ w = w' := by
  go_enter Tryz.func117, Tryz.ntmps117
  go_wp2
  go_ret
  exact ⟨ret_int (by unfold Cal.byear; simp), rfl⟩

theorem tab_at (h1 : 1 <= m) (h2 : m <= 12) : ([Value.int .i64 31, Value.int .i64 28, Value.int .i64 31, Value.int .i64 30, Value.int .i64 31, Value.int .i64 30, Value.int .i64 31, Value.int .i64 31, Value.int .i64 30, Value.int .i64 31, Value.int .i64 30, Value.int .i64 31] : List Value)[m.toNat - 1]? = some (.int .i64 (Cal.tab m)) := by
  have hm : m = 1 ∨ m = 2 ∨ m = 3 ∨ m = 4 ∨ m = 5 ∨ m = 6 ∨ m = 7 ∨ m = 8 ∨ m = 9 ∨ m = 10 ∨ m = 11 ∨ m = 12 := by omega
  rcases hm with rfl | rfl | rfl | rfl | rfl | rfl | rfl | rfl | rfl | rfl | rfl | rfl <;> rfl
theorem run_tab0 (w : World) : (Instr.index 183 (.agg #[.int .i64 31, .int .i64 28, .int .i64 31, .int .i64 30, .int .i64 31, .int .i64 30, .int .i64 31, .int .i64 31, .int .i64 30, .int .i64 31, .int .i64 30, .int .i64 31]) (.int .i64 0)).run Tryz.prog w = .ok (.int .i64 31) w := by kernel_rfl
theorem run_tab1 (w : World) : (Instr.index 183 (.agg #[.int .i64 31, .int .i64 28, .int .i64 31, .int .i64 30, .int .i64 31, .int .i64 30, .int .i64 31, .int .i64 31, .int .i64 30, .int .i64 31, .int .i64 30, .int .i64 31]) (.int .i64 1)).run Tryz.prog w = .ok (.int .i64 28) w := by kernel_rfl
theorem run_tab2 (w : World) : (Instr.index 183 (.agg #[.int .i64 31, .int .i64 28, .int .i64 31, .int .i64 30, .int .i64 31, .int .i64 30, .int .i64 31, .int .i64 31, .int .i64 30, .int .i64 31, .int .i64 30, .int .i64 31]) (.int .i64 2)).run Tryz.prog w = .ok (.int .i64 31) w := by kernel_rfl
theorem run_tab3 (w : World) : (Instr.index 183 (.agg #[.int .i64 31, .int .i64 28, .int .i64 31, .int .i64 30, .int .i64 31, .int .i64 30, .int .i64 31, .int .i64 31, .int .i64 30, .int .i64 31, .int .i64 30, .int .i64 31]) (.int .i64 3)).run Tryz.prog w = .ok (.int .i64 30) w := by kernel_rfl
theorem run_tab4 (w : World) : (Instr.index 183 (.agg #[.int .i64 31, .int .i64 28, .int .i64 31, .int .i64 30, .int .i64 31, .int .i64 30, .int .i64 31, .int .i64 31, .int .i64 30, .int .i64 31, .int .i64 30, .int .i64 31]) (.int .i64 4)).run Tryz.prog w = .ok (.int .i64 31) w := by kernel_rfl
theorem run_tab5 (w : World) : (Instr.index 183 (.agg #[.int .i64 31, .int .i64 28, .int .i64 31, .int .i64 30, .int .i64 31, .int .i64 30, .int .i64 31, .int .i64 31, .int .i64 30, .int .i64 31, .int .i64 30, .int .i64 31]) (.int .i64 5)).run Tryz.prog w = .ok (.int .i64 30) w := by kernel_rfl
theorem run_tab6 (w : World) : (Instr.index 183 (.agg #[.int .i64 31, .int .i64 28, .int .i64 31, .int .i64 30, .int .i64 31, .int .i64 30, .int .i64 31, .int .i64 31, .int .i64 30, .int .i64 31, .int .i64 30, .int .i64 31]) (.int .i64 6)).run Tryz.prog w = .ok (.int .i64 31) w := by kernel_rfl
theorem run_tab7 (w : World) : (Instr.index 183 (.agg #[.int .i64 31, .int .i64 28, .int .i64 31, .int .i64 30, .int .i64 31, .int .i64 30, .int .i64 31, .int .i64 31, .int .i64 30, .int .i64 31, .int .i64 30, .int .i64 31]) (.int .i64 7)).run Tryz.prog w = .ok (.int .i64 31) w := by kernel_rfl
theorem run_tab8 (w : World) : (Instr.index 183 (.agg #[.int .i64 31, .int .i64 28, .int .i64 31, .int .i64 30, .int .i64 31, .int .i64 30, .int .i64 31, .int .i64 31, .int .i64 30, .int .i64 31, .int .i64 30, .int .i64 31]) (.int .i64 8)).run Tryz.prog w = .ok (.int .i64 30) w := by kernel_rfl
theorem run_tab9 (w : World) : (Instr.index 183 (.agg #[.int .i64 31, .int .i64 28, .int .i64 31, .int .i64 30, .int .i64 31, .int .i64 30, .int .i64 31, .int .i64 31, .int .i64 30, .int .i64 31, .int .i64 30, .int .i64 31]) (.int .i64 9)).run Tryz.prog w = .ok (.int .i64 31) w := by kernel_rfl
theorem run_tab10 (w : World) : (Instr.index 183 (.agg #[.int .i64 31, .int .i64 28, .int .i64 31, .int .i64 30, .int .i64 31, .int .i64 30, .int .i64 31, .int .i64 31, .int .i64 30, .int .i64 31, .int .i64 30, .int .i64 31]) (.int .i64 10)).run Tryz.prog w = .ok (.int .i64 30) w := by kernel_rfl
theorem run_tab11 (w : World) : (Instr.index 183 (.agg #[.int .i64 31, .int .i64 28, .int .i64 31, .int .i64 30, .int .i64 31, .int .i64 30, .int .i64 31, .int .i64 31, .int .i64 30, .int .i64 31, .int .i64 30, .int .i64 31]) (.int .i64 11)).run Tryz.prog w = .ok (.int .i64 31) w := by kernel_rfl
theorem run_tab (h1 : 1 <= m) (h2 : m <= 12) (w : World) : (Instr.index 183 (.agg #[.int .i64 31, .int .i64 28, .int .i64 31, .int .i64 30, .int .i64 31, .int .i64 30, .int .i64 31, .int .i64 31, .int .i64 30, .int .i64 31, .int .i64 30, .int .i64 31]) (.int .i64 (m - 1))).run Tryz.prog w = .ok (.int .i64 (Cal.tab m)) w := by
  have hm : m = 1 ∨ m = 2 ∨ m = 3 ∨ m = 4 ∨ m = 5 ∨ m = 6 ∨ m = 7 ∨ m = 8 ∨ m = 9 ∨ m = 10 ∨ m = 11 ∨ m = 12 := by omega
  rcases hm with rfl | rfl | rfl | rfl | rfl | rfl | rfl | rfl | rfl | rfl | rfl | rfl
  · exact run_tab0 w
  · exact run_tab1 w
  · exact run_tab2 w
  · exact run_tab3 w
  · exact run_tab4 w
  · exact run_tab5 w
  · exact run_tab6 w
  · exact run_tab7 w
  · exact run_tab8 w
  · exact run_tab9 w
  · exact run_tab10 w
  · exact run_tab11 w

theorem ddays_in (hv : 1900 <= y /\ y <= 2199 /\ 1 <= m /\ m <= 12) : Calls Tryz.prog 104 #[.int .i64 y, .int .i64 m] w fun e w' => e = .returned (.int .i64 (Cal.mlen y m)) /\ Below w.heap.size w w' := by
  obtain ⟨h1, h2, h3, h4⟩ := hv
  have hc := tab_at m h3 h4
  by_cases hm : m = 2
  · subst hm
    clear hc
    go_enter Tryz.func104, Tryz.ntmps104
    go_wp2_with (go_at_call 118; refine (leap_any _ _ (by omega)).mono ?_; rintro e w' ⟨rfl, rfl⟩)
    all_goals (go_ret; exact ⟨ret_int (by simp [Cal.mlen, Cal.tab, *]), (Below.refl _ _).alloc (Nat.le_refl _) _⟩)
  · have hm2 : (m == 2) = false := by simpa using hm
    have hr : Hid (Cal.mlen y m = Cal.tab m) := by show Cal.mlen y m = Cal.tab m; simp [Cal.mlen, hm]
    go_enter Tryz.func104, Tryz.ntmps104
    go_wp2
    go_ret
    exact ⟨ret_int hr.symm, (Below.refl _ _).alloc (Nat.le_refl _) _⟩

theorem ddays_out (hv : ¬ (1900 <= y /\ y <= 2199 /\ 1 <= m /\ m <= 12)) : Calls Tryz.prog 104 #[.int .i64 y, .int .i64 m] w fun e w' => e = .returned (.int .i64 0) /\ Below w.heap.size w w' := by
  rcases (show y < 1900 ∨ (1900 <= y /\ 2199 < y) ∨ (1900 <= y /\ y <= 2199 /\ m < 1) ∨ (1900 <= y /\ y <= 2199 /\ 1 <= m /\ 12 < m) by omega) with h | ⟨h1, h2⟩ | ⟨h1, h2, h3⟩ | ⟨h1, h2, h3, h4⟩
  all_goals
    clear hv
    go_enter Tryz.func104, Tryz.ntmps104
    go_wp2
    go_ret
    exact ⟨rfl, Below.refl _ _⟩

theorem ddays_any : Calls Tryz.prog 104 #[.int .i64 y, .int .i64 m] w fun e w' => e = .returned (.int .i64 (Cal.days y m)) /\ Below w.heap.size w w' := by
  by_cases h : 1900 <= y /\ y <= 2199 /\ 1 <= m /\ m <= 12
  · rw [Cal.days_in y m h]; exact ddays_in y m w h
  · rw [Cal.days_out y m h]; exact ddays_out y m w h
theorem cum_step (k : Nat) (y : Int) (h1 : 1 <= k) (h2 : k <= 12) : Cal.cum y ((k : Int) + 1) = Cal.cum y k + Cal.mlen y k := Cal.cum_succ y k (by omega) (by omega)

theorem dof_bad (h : ¬ Cal.vld y m d) : Calls Tryz.prog 116 #[.int .i64 y, .int .i64 m, .int .i64 d] w fun e w' => e = .returned (.tuple #[.int .i64 0, .int .i64 2]) /\ Below w.heap.size w w' := by
  have hb := Cal.days_bd y m
  rw [Cal.days_vld] at h
  by_cases h1 : d < 1
  · clear h
    go_enter Tryz.func116, Tryz.ntmps116
    go_wp2
    go_ret2
    exact ⟨rfl, Below.refl _ _⟩
  · have h2 : Cal.days y m < d := by omega
    clear h
    go_enter Tryz.func116, Tryz.ntmps116
    go_wp2_with (go_at_call 104; refine (ddays_any _ _ _).mono ?_; rintro e w' ⟨rfl, hB⟩)
    go_ret2
    exact ⟨rfl, hB⟩

theorem dof_any (h : Cal.vld y m d) : Calls Tryz.prog 116 #[.int .i64 y, .int .i64 m, .int .i64 d] w fun e w' => e = .returned (.tuple #[.int .i64 (Cal.num y m d), .int .i64 0]) /\ Below w.heap.size w w' := by
  have hb := Cal.days_bd y m
  have hn := Cal.num_bd y m d h
  have hn' := Cal.num_year y m d h
  obtain ⟨g1, g2⟩ := (Cal.days_vld y m d).1 h
  obtain ⟨h1, h2, h3, h4, h5, h6⟩ := h
  have hy := Cal.byear_bd y h1 (by omega)
  go_enter Tryz.func116, Tryz.ntmps116
  go_wp2_with (first | (go_at_call 104; refine (ddays_any _ _ _).mono ?_; rintro e w1 ⟨rfl, hB⟩) | (go_at_call 117; refine (begin_any _ _ (by omega) (by omega)).mono ?_; rintro e w2 ⟨rfl, rfl⟩))
  go_loopw [8, 9] (fun n i wr => ∃ k : Nat, 1 <= k /\ (k : Int) <= m /\ i = .int .i64 k /\ n = .int .i64 (Cal.byear y + Cal.cum y k + d - 1) /\ Below w.heap.size w wr) (fun _ i _ => (m - intOf i).toNat)
  case atStart => exact ⟨1, by omega, by omega, rfl, by simp [Cal.cum_one], hB⟩
  case round =>
    obtain ⟨k, hk1, hk2, rfl, rfl, hB2⟩ := hrel
    have hc := Cal.cum_bd y k (by omega) (by omega)
    by_cases hlt : (k : Int) < m
    · have hs := Lib.hid (cum_step k y hk1 (by omega))
      have hm := Cal.mlen_bd y k
      go_wp2_with (go_at_call 104; refine (ddays_in _ _ _ ⟨h1, h2, by omega, by omega⟩).mono ?_; rintro e w3 ⟨rfl, hB3⟩)
      go_roundw
      case rel => exact ⟨k + 1, by omega, by omega, by go_num, by have := hs.out; rw [show ((k + 1 : Nat) : Int) = (k : Int) + 1 from rfl, this]; go_num, hB2.trans (hB3.mono hB2.size)⟩
      case measure => simp [intOf]; omega
    · obtain rfl : m = k := by omega
      go_wp2
      go_ret2
      exact ⟨rfl, hB2⟩

end
end Go.Proofs.YtalfikdjclineaaGreatDoor
namespace Go.Proofs.YtalfikdjclineaaGreatDoor
open Go.RowKit

section
variable (y m d : Int) (w : World)
end
section
variable (Y M N p : Int) (w : World)

theorem vld1 (h : 1900 <= Y /\ Y <= 2199 /\ 1 <= M /\ M <= 12) : Cal.vld Y M 1 := by
  have := Cal.mlen_bd Y M
  exact ⟨h.1, h.2.1, h.2.2.1, h.2.2.2, by omega, by omega⟩

theorem dfirst_bad (h : 1 <= M /\ M <= 12 /\ 1900 <= Y /\ Y <= 2199 /\ 0 <= p /\ p <= 120) (hp : 2199 < Cal.py Y M p) : Calls Tryz.prog 101 #[.agg #[.int .i64 Y, .int .i64 M, .int .i64 N], .int .i64 p] w fun e w' => e = .returned (.tuple #[.int .i64 0, .int .i64 2]) /\ Below w.heap.size w w' := by
  obtain ⟨h1, h2, h3, h4, h5, h6⟩ := h
  have hv : Hid (¬ Cal.vld ((12 * Y + M - 1 + p) / 12) ((12 * Y + M - 1 + p) % 12 + 1) 1) := by
    show ¬ _
    rintro ⟨_, a, _⟩; unfold Cal.py at hp; omega
  clear hp
  go_enter Tryz.func101, Tryz.ntmps101
  go_wp2_with (go_at_call 116; refine (dof_bad _ _ _ _ hv.out).mono ?_; rintro e w4 ⟨rfl, hB⟩)
  go_ret2
  exact ⟨rfl, ((Below.refl _ _).alloc (Nat.le_refl _) _).trans (hB.mono (by simp))⟩
theorem dfirst_any (h : 1 <= M /\ M <= 12 /\ 1900 <= Y /\ Y <= 2199 /\ 0 <= p /\ p <= 120) (hp : Cal.py Y M p <= 2199) : Calls Tryz.prog 101 #[.agg #[.int .i64 Y, .int .i64 M, .int .i64 N], .int .i64 p] w fun e w' => e = .returned (.tuple #[.int .i64 (Cal.first Y M p), .int .i64 0]) /\ Below w.heap.size w w' := by
  obtain ⟨h1, h2, h3, h4, h5, h6⟩ := h
  have hv : Hid (Cal.vld ((12 * Y + M - 1 + p) / 12) ((12 * Y + M - 1 + p) % 12 + 1) 1) := by
    have := Cal.mlen_bd ((12 * Y + M - 1 + p) / 12) ((12 * Y + M - 1 + p) % 12 + 1)
    unfold Cal.py at hp
    exact ⟨by omega, by omega, by omega, by omega, by omega, by omega⟩
  clear hp
  unfold Cal.first Cal.py Cal.pm
  go_enter Tryz.func101, Tryz.ntmps101
  go_wp2_with (go_at_call 116; refine (dof_any _ _ _ _ hv.out).mono ?_; rintro e w4 ⟨rfl, hB⟩)
  go_ret2
  exact ⟨rfl, ((Below.refl _ _).alloc (Nat.le_refl _) _).trans (hB.mono (by simp))⟩

theorem dcvalid_any : Calls Tryz.prog 84 #[.agg #[.int .i64 Y, .int .i64 M, .int .i64 N]] w fun e w' => e = .returned (.bool (Cal.ok Y M N)) /\ Below w.heap.size w w' := by
  rcases (show M < 1 ∨ (1 <= M /\ 12 < M) ∨ (1 <= M /\ M <= 12 /\ N < 1) ∨ (1 <= M /\ M <= 12 /\ 1 <= N /\ 120 < N) ∨ (1 <= M /\ M <= 12 /\ 1 <= N /\ N <= 120 /\ Y < 1900) ∨ (1 <= M /\ M <= 12 /\ 1 <= N /\ N <= 120 /\ 1900 <= Y /\ 2199 < Y) ∨ (1 <= M /\ M <= 12 /\ 1 <= N /\ N <= 120 /\ 1900 <= Y /\ Y <= 2199) by omega) with h | ⟨h1, h2⟩ | ⟨h1, h2, h3⟩ | ⟨h1, h2, h3, h4⟩ | ⟨h1, h2, h3, h4, h5⟩ | ⟨h1, h2, h3, h4, h5, h6⟩ | ⟨h1, h2, h3, h4, h5, h6⟩
  case inr.inr.inr.inr.inr.inr =>
    by_cases hp : Cal.py Y M (N - 1) <= 2199
    · have H : Hid (Cal.ok Y M N = true) := (Cal.ok_iff Y M N).2 ⟨h1, h2, h3, h4, h5, h6, hp⟩
      have Hp := Lib.hid hp
      clear hp
      go_enter Tryz.func84, Tryz.ntmps84
      go_wp2_with (go_at_call 101; refine (dfirst_any _ _ _ _ _ ⟨h1, h2, h5, h6, by omega, by omega⟩ Hp.out).mono ?_; rintro e w4 ⟨rfl, hB⟩)
      go_ret
      exact ⟨ret_bool H.out.symm, ((Below.refl _ _).alloc (Nat.le_refl _) _).trans (hB.mono (by simp))⟩
    · have H : Hid (Cal.ok Y M N = false) := by show Cal.ok Y M N = false; simp [Cal.ok]; omega
      have Hp : Hid (2199 < Cal.py Y M (N - 1)) := by show _ < _; omega
      clear hp
      go_enter Tryz.func84, Tryz.ntmps84
      go_wp2_with (go_at_call 101; refine (dfirst_bad _ _ _ _ _ ⟨h1, h2, h5, h6, by omega, by omega⟩ Hp.out).mono ?_; rintro e w4 ⟨rfl, hB⟩)
      go_ret
      exact ⟨ret_bool H.out.symm, ((Below.refl _ _).alloc (Nat.le_refl _) _).trans (hB.mono (by simp))⟩
  all_goals
    have H : Hid (Cal.ok Y M N = false) := by show Cal.ok Y M N = false; simp [Cal.ok]; omega
    go_enter Tryz.func84, Tryz.ntmps84
    go_wp2
    go_ret
    exact ⟨ret_bool H.out.symm, (Below.refl _ _).alloc (Nat.le_refl _) _⟩

end
end Go.Proofs.YtalfikdjclineaaGreatDoor
namespace Go.Proofs.YtalfikdjclineaaGreatDoor
open Go.RowKit

section
variable (y m d : Int) (w : World)
theorem dcivil_bad (h : ¬ (-25567 <= d /\ d <= 84005)) : Calls Tryz.prog 103 #[.int .i64 d] w fun e w' => e = .returned (.tuple #[.int .i64 0, .int .i64 0, .int .i64 0, .int .i64 2]) /\ w = w' := by
  have hd : decide (-25567 <= d /\ d <= 84005) = false := decide_eq_false h
  go_enter Tryz.func103, Tryz.ntmps103
  go_wp2_with (go_at_call 36; refine (dvalid_any _ _).mono ?_; rw [hd]; rintro e w' ⟨rfl, rfl⟩)
  refine bodyPost_ret (results_tmp4 rfl _ _ _) rfl ?_
  exact ⟨rfl, rfl⟩

theorem dcivil_any (h : -25567 <= d /\ d <= 84005) : Calls Tryz.prog 103 #[.int .i64 d] w fun e w' => ∃ y m k : Int, e = .returned (.tuple #[.int .i64 y, .int .i64 m, .int .i64 k, .int .i64 0]) /\ Cal.vld y m k /\ Cal.num y m k = d /\ Below w.heap.size w w' := by
  have hd : decide (-25567 <= d /\ d <= 84005) = true := decide_eq_true h
  obtain ⟨h1, h2⟩ := h
  have g0 : Cal.byear (1970 + d.tdiv 366 - 2) <= d ∨ 1970 + d.tdiv 366 - 2 < 1900 := by
    unfold Cal.byear
    rcases Int.lt_or_le d 0 with hn | hn
    · obtain ⟨k, rfl⟩ : ∃ k : Nat, d = -(k : Int) := ⟨d.natAbs, by omega⟩
      rw [Int.neg_tdiv, Int.tdiv_eq_ediv_of_nonneg (by omega)]; omega
    · rw [Int.tdiv_eq_ediv_of_nonneg hn]; omega
  have g1 : 1896 <= 1970 + d.tdiv 366 - 2 /\ 1970 + d.tdiv 366 - 2 <= 2199 := by
    rcases Int.lt_or_le d 0 with hn | hn
    · obtain ⟨k, rfl⟩ : ∃ k : Nat, d = -(k : Int) := ⟨d.natAbs, by omega⟩
      rw [Int.neg_tdiv, Int.tdiv_eq_ediv_of_nonneg (by omega)]; omega
    · rw [Int.tdiv_eq_ediv_of_nonneg hn]; omega
  obtain ⟨q, hq⟩ : ∃ q, d.tdiv 366 = q := ⟨_, rfl⟩
  rw [hq] at g0 g1
  have Hq := Lib.hid hq
  clear hq
  go_enter Tryz.func103, Tryz.ntmps103
  go_wp2_with (go_at_call 36; refine (dvalid_any _ _).mono ?_; rw [hd]; rintro e w' ⟨rfl, rfl⟩)
  rw [Hq.out, IntWalk.wrap64_in (1970 + q) (by omega), IntWalk.wrap64_in (1970 + q - 2) (by omega)]
  have Hy := Lib.hid (Cal.byear_lo)
  go_loopw [2] (fun y wr => ∃ k : Nat, 1896 <= k /\ (k : Int) <= 2199 /\ y = .int .i64 k /\ (Cal.byear k <= d ∨ (k : Int) < 1900) /\ w = wr) (fun y _ => (2200 - intOf y).toNat)
  case atStart => exact ⟨(1970 + q - 2).toNat, by omega, by omega, by congr 1; omega, by rw [Int.toNat_of_nonneg (by omega)]; exact g0, rfl⟩
  case round =>
    obtain ⟨y, hy1, hy2, rfl, hy3, rfl⟩ := hrel
    have b1 := Cal.byear_bd (y + 1)
    by_cases hc : (y : Int) < 1900
    · go_wp2_with (go_at_call 117; refine (begin_any _ _ (by omega) (by omega)).mono ?_; rintro e w' ⟨rfl, rfl⟩)
      go_roundw
      case rel =>
        refine ⟨y + 1, by omega, by omega, by go_num, ?_, trivial⟩
        by_cases h9 : (y : Int) = 1899
        · left; rw [show ((y + 1 : Nat) : Int) = 1900 by omega, Hy.out]; omega
        · right; omega
      case measure => simp [intOf]; omega
    · by_cases hc2 : Cal.byear (y + 1) <= d
      · have hc3 : (y : Int) < 2199 := by
          by_cases e : (y : Int) = 2199
          · rw [e] at hc2; have := Cal.byear_hi; simp at hc2; omega
          · omega
        go_wp2_with (go_at_call 117; refine (begin_any _ _ (by omega) (by omega)).mono ?_; rintro e w' ⟨rfl, rfl⟩)
        go_roundw
        case rel => exact ⟨y + 1, by omega, by omega, by go_num, .inl hc2, trivial⟩
        case measure => simp [intOf]; omega
      · have hz : Cal.byear y <= d := by omega
        have hl := Cal.lp_01 y
        have hs := Cal.byear_succ y
        have hb := Cal.byear_bd y (by omega) (by omega)
        have hr : d - Cal.byear y < 365 + Cal.lp y := by omega
        clear hs hy3 b1 g0
        go_wp2_with (go_at_call 117; refine (begin_any _ _ (by omega) (by omega)).mono ?_; rintro e w' ⟨rfl, rfl⟩)
        go_loopw [3, 4] (fun m r wr => ∃ j : Nat, 1 <= j /\ (j : Int) <= 12 /\ m = .int .i64 j /\ 0 <= d - Cal.byear y - Cal.cum y j /\ r = .int .i64 (d - Cal.byear y - Cal.cum y j) /\ Below w.heap.size w wr) (fun m _ _ => (12 - intOf m).toNat)
        case atStart => exact ⟨1, by omega, by omega, rfl, by simp [Cal.cum_one]; omega, by simp [Cal.cum_one], Below.refl _ _⟩
        case round =>
          obtain ⟨m, hm1, hm2, rfl, hr0, rfl, hB⟩ := hrel
          have cb := Cal.cum_bd y m (by omega) (by omega)
          have db := Cal.mlen_bd y m
          have cs := Lib.hid (cum_step m y hm1 (by omega))
          have ce := Lib.hid (Cal.cum_end y)
          by_cases hc : Cal.mlen y m <= d - Cal.byear y - Cal.cum y m
          · have hm : (m : Int) < 12 := by
              by_cases e : (m : Int) = 12
              · have := cs.out; rw [e] at this hc; have := ce.out; simp at *; omega
              · omega
            go_wp2_with (go_at_call 104; refine (ddays_in _ _ _ ⟨by omega, by omega, by omega, by omega⟩).mono ?_; rintro e w3 ⟨rfl, hB3⟩; replace hB := hB.trans (hB3.mono hB.size); clear hB3)
            go_roundw
            case rel => exact ⟨m + 1, by omega, by omega, by go_num, by rw [show ((m + 1 : Nat) : Int) = (m : Int) + 1 from rfl, cs.out]; omega, by rw [show ((m + 1 : Nat) : Int) = (m : Int) + 1 from rfl, cs.out]; go_num, hB⟩
            case measure => simp [intOf]; omega
          · go_wp2_with (go_at_call 104; refine (ddays_in _ _ _ ⟨by omega, by omega, by omega, by omega⟩).mono ?_; rintro e w3 ⟨rfl, hB3⟩)
            refine bodyPost_ret (results_tmp4 rfl _ _ _) rfl ?_
            exact ⟨y, m, _, rfl, ⟨by omega, by omega, by omega, by omega, by omega, by omega⟩, by unfold Cal.num; omega, hB.trans (hB3.mono hB.size)⟩
end
section
variable (Y M N p : Int) (w : World)
theorem dcheck_any : Calls Tryz.prog 102 #[.agg #[.int .i64 Y, .int .i64 M, .int .i64 N], .int .i64 p] w fun e w' => e = .returned (.int .i64 (Cal.err Y M N p)) /\ Below w.heap.size w w' := by
  by_cases hok : Cal.ok Y M N = true
  · rcases (show p < 0 ∨ (0 <= p /\ N <= p) ∨ (0 <= p /\ p < N) by omega) with h | ⟨h, h'⟩ | ⟨h, h'⟩
    all_goals
      have H : Hid (Cal.err Y M N p = if p < 0 ∨ N <= p then 2 else 0) := by show Cal.err Y M N p = _; simp [Cal.err, hok]
      go_enter Tryz.func102, Tryz.ntmps102
      go_wp2_with (go_at_call 84; refine (dcvalid_any _ _ _ _).mono ?_; rw [hok]; rintro e w4 ⟨rfl, hB⟩; obtain ⟨hc, hf⟩ := bcell hB)
      go_ret
      refine ⟨ret_int ?_, ((Below.refl _ _).alloc (Nat.le_refl _) _).trans (hB.mono (by simp))⟩
      rw [H.out]; split <;> omega
  · have hok' : Cal.ok Y M N = false := by simpa using hok
    have H : Hid (Cal.err Y M N p = 1) := by show Cal.err Y M N p = _; simp [Cal.err, hok']
    clear hok
    go_enter Tryz.func102, Tryz.ntmps102
    go_wp2_with (go_at_call 84; refine (dcvalid_any _ _ _ _).mono ?_; rw [hok']; rintro e w4 ⟨rfl, hB⟩)
    go_ret
    exact ⟨ret_int H.out.symm, ((Below.refl _ _).alloc (Nat.le_refl _) _).trans (hB.mono (by simp))⟩

theorem dFirst_bad (h : Cal.err Y M N p ≠ 0) : Calls Tryz.prog 85 #[.agg #[.int .i64 Y, .int .i64 M, .int .i64 N], .int .i64 p] w fun e w' => e = .returned (.tuple #[.int .i64 0, .int .i64 (Cal.err Y M N p)]) /\ Below w.heap.size w w' := by
  have hn : (Cal.err Y M N p != 0) = true := by simpa using h
  go_enter Tryz.func85, Tryz.ntmps85
  go_wp2_with (go_at_call 102; refine (dcheck_any _ _ _ _ _).mono ?_; rintro e w4 ⟨rfl, hB⟩; obtain ⟨hc, hf⟩ := bcell hB)
  go_ret2
  exact ⟨rfl, ((Below.refl _ _).alloc (Nat.le_refl _) _).trans (hB.mono (by simp))⟩
theorem dFirst_any (h : Cal.err Y M N p = 0) : Calls Tryz.prog 85 #[.agg #[.int .i64 Y, .int .i64 M, .int .i64 N], .int .i64 p] w fun e w' => e = .returned (.tuple #[.int .i64 (Cal.first Y M p), .int .i64 0]) /\ Below w.heap.size w w' := by
  have hok := (Cal.err_zero Y M N p).1 h
  have hv := Cal.pvld Y M N p hok.1 hok.2.1 hok.2.2
  have hi := (Cal.ok_iff Y M N).1 hok.1
  have HV : Hid (1 <= M /\ M <= 12 /\ 1900 <= Y /\ Y <= 2199 /\ 0 <= p /\ p <= 120) := ⟨by omega, by omega, by omega, by omega, by omega, by omega⟩
  have HP : Hid (Cal.py Y M p <= 2199) := hv.2.1
  clear hok hv hi
  go_enter Tryz.func85, Tryz.ntmps85
  go_wp2_with (first | (go_at_call 102; refine (dcheck_any _ _ _ _ _).mono ?_; rw [h]; rintro e w4 ⟨rfl, hB⟩; obtain ⟨hc, hf⟩ := bcell hB) | (go_at_call 101; refine (dfirst_any _ _ _ _ _ HV.out HP.out).mono ?_; rintro e w5 ⟨rfl, hB5⟩))
  go_ret2
  exact ⟨rfl, (((Below.refl _ _).alloc (Nat.le_refl _) _).trans (hB.mono (by simp))).trans (hB5.mono (by have := hB.size; simp at this; omega))⟩
theorem dLast_bad (h : Cal.err Y M N p ≠ 0) : Calls Tryz.prog 86 #[.agg #[.int .i64 Y, .int .i64 M, .int .i64 N], .int .i64 p] w fun e w' => e = .returned (.tuple #[.int .i64 0, .int .i64 (Cal.err Y M N p)]) /\ Below w.heap.size w w' := by
  have hn : (Cal.err Y M N p != 0) = true := by simpa using h
  go_enter Tryz.func86, Tryz.ntmps86
  go_wp2_with (go_at_call 85; refine (dFirst_bad _ _ _ _ _ h).mono ?_; rintro e w4 ⟨rfl, hB⟩; obtain ⟨hc, hf⟩ := bcell hB)
  go_ret2
  exact ⟨rfl, ((Below.refl _ _).alloc (Nat.le_refl _) _).trans (hB.mono (by simp))⟩
theorem dLast_any (h : Cal.err Y M N p = 0) : Calls Tryz.prog 86 #[.agg #[.int .i64 Y, .int .i64 M, .int .i64 N], .int .i64 p] w fun e w' => e = .returned (.tuple #[.int .i64 (Cal.last Y M p), .int .i64 0]) /\ Below w.heap.size w w' := by
  have hok := (Cal.err_zero Y M N p).1 h
  have hv := Cal.pvld Y M N p hok.1 hok.2.1 hok.2.2
  have hf0 := Cal.first_bd Y M N p hok.1 hok.2.1 hok.2.2
  have HF := Lib.hid (Cal.first_vld Y M N p hok.1 hok.2.1 hok.2.2)
  have H : Hid (Cal.err Y M N p = 0) := h
  have HL : Hid (Cal.last Y M p = Cal.first Y M p + Cal.mlen (Cal.py Y M p) (Cal.pm Y M p) - 1) := rfl
  have hm := Cal.mlen_bd (Cal.py Y M p) (Cal.pm Y M p)
  clear hok h
  go_enter Tryz.func86, Tryz.ntmps86
  go_wp2_with (first | (go_at_call 85; refine (dFirst_any _ _ _ _ _ H.out).mono ?_; rintro e w4 ⟨rfl, hB⟩; obtain ⟨hc, hf⟩ := bcell hB) | (go_at_call 103; refine (dcivil_any _ _ (by omega)).mono ?_; rintro e w5 ⟨y', m', k', rfl, hv', he, hB5⟩; obtain ⟨rfl, rfl, rfl⟩ := Cal.num_inj _ _ _ _ _ _ hv' HF.out he; clear he hv') | (go_at_call 104; refine (ddays_in _ _ _ ⟨by omega, by omega, by omega, by omega⟩).mono ?_; rintro e w6 ⟨rfl, hB6⟩))
  go_ret2
  have s1 := hB.size
  have s5 := hB5.size
  simp at s1
  exact ⟨by rw [HL.out]; rfl, ((((Below.refl _ _).alloc (Nat.le_refl _) _).trans (hB.mono (by simp))).trans (hB5.mono (by omega))).trans (hB6.mono (by omega))⟩
end
end Go.Proofs.YtalfikdjclineaaGreatDoor
