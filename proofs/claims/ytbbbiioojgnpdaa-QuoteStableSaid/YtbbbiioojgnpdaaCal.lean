/- The calendar in plain numbers: nothing of the program is imported here. -/
namespace Go.Proofs.Ytbbbiioojgnpdaa
namespace Cal

def leapB (y : Int) : Bool := decide (y % 4 = 0 ∧ (y % 100 ≠ 0 ∨ y % 400 = 0))
/-- The days of the months of a year that is no leap year. -/
def tab (m : Int) : Int := if m = 2 then 28 else if m = 4 ∨ m = 6 ∨ m = 9 ∨ m = 11 then 30 else 31
def mlen (y m : Int) : Int := if m = 2 ∧ leapB y = true then 29 else tab m
def days (y m : Int) : Int := if 1900 ≤ y ∧ y ≤ 2199 ∧ 1 ≤ m ∧ m ≤ 12 then mlen y m else 0
def byear (y : Int) : Int := 365 * (y - 1) + (y - 1) / 4 - (y - 1) / 100 + (y - 1) / 400 - 719162
def lp (y : Int) : Int := if leapB y = true then 1 else 0
/-- The days of a year ahead of a month. -/
def cum (y m : Int) : Int :=
  (if m ≤ 1 then 0 else if m = 2 then 31 else if m = 3 then 59 else if m = 4 then 90 else if m = 5 then 120 else if m = 6 then 151 else if m = 7 then 181
   else if m = 8 then 212 else if m = 9 then 243 else if m = 10 then 273 else if m = 11 then 304 else if m = 12 then 334 else 365) + (if 3 ≤ m then lp y else 0)
def num (y m d : Int) : Int := byear y + cum y m + d - 1
def vld (y m d : Int) : Prop := 1900 ≤ y ∧ y ≤ 2199 ∧ 1 ≤ m ∧ m ≤ 12 ∧ 1 ≤ d ∧ d ≤ mlen y m

theorem lp_01 (y : Int) : 0 ≤ lp y ∧ lp y ≤ 1 := by unfold lp; split <;> omega
theorem lp_cases (y : Int) : (leapB y = true ∧ lp y = 1) ∨ (leapB y = false ∧ lp y = 0) := by
  unfold lp; by_cases h : leapB y = true <;> simp [h]
theorem leap_iff (y : Int) : leapB y = true ↔ (y % 4 = 0 ∧ (y % 100 ≠ 0 ∨ y % 400 = 0)) := by unfold leapB; simp
theorem byear_succ (y : Int) : byear (y + 1) = byear y + 365 + lp y := by
  have h := leap_iff y
  unfold byear lp
  by_cases hl : leapB y = true
  · rw [if_pos hl]; rw [hl] at h; simp at h; omega
  · rw [if_neg hl]; have : ¬ (y % 4 = 0 ∧ (y % 100 ≠ 0 ∨ y % 400 = 0)) := fun hh => hl (h.2 hh); omega
theorem byear_lo : byear 1900 = -25567 := by decide
theorem byear_hi : byear 2200 = 84006 := by decide
theorem byear_mono (a b : Int) (_h0 : 1 ≤ a) (h : a ≤ b) : byear a ≤ byear b := by unfold byear; omega
theorem byear_bd (y : Int) (h0 : 1900 ≤ y) (h : y ≤ 2200) : -25567 ≤ byear y ∧ byear y ≤ 84006 := by unfold byear; omega
theorem tab_bd (m : Int) : 28 ≤ tab m ∧ tab m ≤ 31 := by unfold tab; split <;> (try split) <;> omega
theorem mlen_bd (y m : Int) : 28 ≤ mlen y m ∧ mlen y m ≤ 31 := by unfold mlen; have := tab_bd m; split <;> omega
theorem mlen_eq (y m : Int) : mlen y m = tab m + (if m = 2 then lp y else 0) := by
  rcases lp_cases y with ⟨h, e⟩ | ⟨h, e⟩ <;> by_cases hm : m = 2 <;> simp [mlen, h, e, hm, tab]
theorem cum_succ (y m : Int) (h1 : 1 ≤ m) (h2 : m ≤ 12) : cum y (m + 1) = cum y m + mlen y m := by
  have hm : m = 1 ∨ m = 2 ∨ m = 3 ∨ m = 4 ∨ m = 5 ∨ m = 6 ∨ m = 7 ∨ m = 8 ∨ m = 9 ∨ m = 10 ∨ m = 11 ∨ m = 12 := by omega
  rw [mlen_eq]
  rcases hm with rfl | rfl | rfl | rfl | rfl | rfl | rfl | rfl | rfl | rfl | rfl | rfl <;> simp [cum, tab] <;> omega
theorem cum_one (y : Int) : cum y 1 = 0 := by simp [cum]
theorem cum_end (y : Int) : cum y 13 = 365 + lp y := by simp [cum]
theorem cum_bd (y m : Int) (h1 : 1 ≤ m) (h2 : m ≤ 13) : 0 ≤ cum y m ∧ cum y m ≤ 366 := by
  have := lp_01 y
  have hm : m = 1 ∨ m = 2 ∨ m = 3 ∨ m = 4 ∨ m = 5 ∨ m = 6 ∨ m = 7 ∨ m = 8 ∨ m = 9 ∨ m = 10 ∨ m = 11 ∨ m = 12 ∨ m = 13 := by omega
  rcases hm with rfl | rfl | rfl | rfl | rfl | rfl | rfl | rfl | rfl | rfl | rfl | rfl | rfl <;> simp [cum] <;> omega
theorem cum_le (y m k : Int) (h1 : 1 ≤ m) (h : m < k) (h2 : k ≤ 13) : cum y m + mlen y m ≤ cum y k := by
  have := lp_01 y
  rw [mlen_eq]
  have hm : m = 1 ∨ m = 2 ∨ m = 3 ∨ m = 4 ∨ m = 5 ∨ m = 6 ∨ m = 7 ∨ m = 8 ∨ m = 9 ∨ m = 10 ∨ m = 11 ∨ m = 12 := by omega
  have hk : k = 1 ∨ k = 2 ∨ k = 3 ∨ k = 4 ∨ k = 5 ∨ k = 6 ∨ k = 7 ∨ k = 8 ∨ k = 9 ∨ k = 10 ∨ k = 11 ∨ k = 12 ∨ k = 13 := by omega
  rcases hm with rfl | rfl | rfl | rfl | rfl | rfl | rfl | rfl | rfl | rfl | rfl | rfl <;>
    rcases hk with rfl | rfl | rfl | rfl | rfl | rfl | rfl | rfl | rfl | rfl | rfl | rfl | rfl <;> simp [cum, tab] <;> omega
theorem days_in (y m : Int) (h : 1900 ≤ y ∧ y ≤ 2199 ∧ 1 ≤ m ∧ m ≤ 12) : days y m = mlen y m := by unfold days; rw [if_pos h]
theorem days_out (y m : Int) (h : ¬ (1900 ≤ y ∧ y ≤ 2199 ∧ 1 ≤ m ∧ m ≤ 12)) : days y m = 0 := by unfold days; rw [if_neg h]
theorem days_bd (y m : Int) : 0 ≤ days y m ∧ days y m ≤ 31 := by unfold days; have := mlen_bd y m; split <;> omega
theorem days_vld (y m d : Int) : vld y m d ↔ (1 ≤ d ∧ d ≤ days y m) := by
  unfold vld days
  by_cases h : 1900 ≤ y ∧ y ≤ 2199 ∧ 1 ≤ m ∧ m ≤ 12
  · rw [if_pos h]; omega
  · rw [if_neg h]; omega
/-- A date's number lies in its year. -/
theorem num_year (y m d : Int) (h : vld y m d) : byear y ≤ num y m d ∧ num y m d < byear (y + 1) := by
  obtain ⟨_, _, h1, h2, _, _⟩ := h
  have c1 := cum_le y m 13 h1 (by omega) (by omega)
  have c0 := cum_bd y m h1 (by omega)
  rw [cum_end] at c1
  rw [byear_succ]; unfold num; omega
theorem num_bd (y m d : Int) (h : vld y m d) : -25567 ≤ num y m d ∧ num y m d ≤ 84005 := by
  have h' := num_year y m d h
  obtain ⟨a, b, _⟩ := h
  have := byear_bd y a (by omega)
  have := byear_bd (y + 1) (by omega) (by omega)
  omega
theorem num_inj (y m d y' m' d' : Int) (h : vld y m d) (h' : vld y' m' d') (e : num y m d = num y' m' d') : y = y' ∧ m = m' ∧ d = d' := by
  have a := num_year _ _ _ h
  have b := num_year _ _ _ h'
  obtain ⟨p1, p2, p3, p4, p5, p6⟩ := h
  obtain ⟨q1, q2, q3, q4, q5, q6⟩ := h'
  have hy : y = y' := by
    rcases Int.lt_trichotomy y y' with hl | he | hl
    · have := byear_mono (y + 1) y' (by omega) (by omega); omega
    · exact he
    · have := byear_mono (y' + 1) y (by omega) (by omega); omega
  subst hy
  unfold num at e
  have hm : m = m' := by
    rcases Int.lt_trichotomy m m' with hl | he | hl
    · have := cum_le y m m' p3 hl (by omega); omega
    · exact he
    · have := cum_le y m' m q3 hl (by omega); omega
  subst hm
  exact ⟨rfl, rfl, by omega⟩

/-! ### Calendars: the periods from a month on -/
def py (Y M p : Int) : Int := (12 * Y + M - 1 + p) / 12
def pm (Y M p : Int) : Int := (12 * Y + M - 1 + p) % 12 + 1
def first (Y M p : Int) : Int := num (py Y M p) (pm Y M p) 1
def last (Y M p : Int) : Int := first Y M p + mlen (py Y M p) (pm Y M p) - 1
def ok (Y M N : Int) : Bool := decide (1 ≤ M ∧ M ≤ 12 ∧ 1 ≤ N ∧ N ≤ 120 ∧ 1900 ≤ Y ∧ Y ≤ 2199 ∧ py Y M (N - 1) ≤ 2199)
def err (Y M N p : Int) : Int := if ok Y M N = true then (if p < 0 ∨ N ≤ p then 2 else 0) else 1
theorem ok_iff (Y M N : Int) : ok Y M N = true ↔ (1 ≤ M ∧ M ≤ 12 ∧ 1 ≤ N ∧ N ≤ 120 ∧ 1900 ≤ Y ∧ Y ≤ 2199 ∧ py Y M (N - 1) ≤ 2199) := by unfold ok; simp
theorem err_zero (Y M N p : Int) : err Y M N p = 0 ↔ (ok Y M N = true ∧ 0 ≤ p ∧ p < N) := by
  unfold err
  by_cases h : ok Y M N = true
  · rw [if_pos h]; by_cases h2 : p < 0 ∨ N ≤ p
    · rw [if_pos h2]; simp; omega
    · rw [if_neg h2]; simp [h]; omega
  · rw [if_neg h]; simp [h]
theorem pvld (Y M N p : Int) (h : ok Y M N = true) (h1 : 0 ≤ p) (h2 : p < N) : 1900 ≤ py Y M p ∧ py Y M p ≤ 2199 ∧ 1 ≤ pm Y M p ∧ pm Y M p ≤ 12 := by
  rw [ok_iff] at h; unfold py pm at *; omega
theorem first_vld (Y M N p : Int) (h : ok Y M N = true) (h1 : 0 ≤ p) (h2 : p < N) : vld (py Y M p) (pm Y M p) 1 := by
  have := pvld Y M N p h h1 h2
  have := mlen_bd (py Y M p) (pm Y M p)
  exact ⟨by omega, by omega, by omega, by omega, by omega, by omega⟩
theorem last_vld (Y M N p : Int) (h : ok Y M N = true) (h1 : 0 ≤ p) (h2 : p < N) : vld (py Y M p) (pm Y M p) (mlen (py Y M p) (pm Y M p)) := by
  have := pvld Y M N p h h1 h2
  have := mlen_bd (py Y M p) (pm Y M p)
  exact ⟨by omega, by omega, by omega, by omega, by omega, by omega⟩
theorem last_eq (Y M p : Int) : last Y M p = num (py Y M p) (pm Y M p) (mlen (py Y M p) (pm Y M p)) := by unfold last first num; omega
theorem first_bd (Y M N p : Int) (h : ok Y M N = true) (h1 : 0 ≤ p) (h2 : p < N) : -25567 ≤ first Y M p ∧ first Y M p ≤ last Y M p ∧ last Y M p ≤ 84005 ∧ last Y M p ≤ first Y M p + 30 := by
  have a := num_bd _ _ _ (first_vld Y M N p h h1 h2)
  have b := num_bd _ _ _ (last_vld Y M N p h h1 h2)
  have c := mlen_bd (py Y M p) (pm Y M p)
  rw [← last_eq] at b
  refine ⟨a.1, ?_, b.2, ?_⟩ <;> unfold last <;> omega
end Cal
end Go.Proofs.Ytbbbiioojgnpdaa
