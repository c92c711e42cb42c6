/- What QuoteStable, QuoteMeans and QuoteLasts say, in plain lists: no program. -/
import Derived.Test.YtbbbiioojgnpdaaCongr
namespace Go.Proofs.Ytbbbiioojgnpdaa
namespace Rates
theorem valid_cons {g : ByteArray} {r : Rt} {l : List Rt} (h : valid g (r :: l) = true) : valid g l = true := by
  obtain ⟨h1, h2, h3, h4⟩ := (valid_iff _ _).1 h
  refine (valid_iff _ _).2 ⟨fun x hx => h1 x (List.mem_cons_of_mem _ hx), (List.pairwise_cons.1 h2).2, h3, by simp at h4; omega⟩

/-! ### QuoteStable -/
def near (r : Rt) (c : ByteArray) (d : Int) : Bool := r.cur.toList == c.toList && r.kind == 1 && decide (r.when_ ≤ d) && decide (d - 40 ≤ r.when_)
theorem whichR_cons (g : ByteArray) (r : Rt) (l : List Rt) (c : ByteArray) (d : Int) (hv : valid g (r :: l) = true) (hn : near r c d = false) : whichR g l c d = whichR g (r :: l) c d :=
  whichR_congr g _ _ c d ((valid_cons hv).trans hv.symm) fun _ x h1 h2 => find_cons r l c 1 x (by
    rw [Bool.eq_false_iff]; intro h
    obtain ⟨p, q, s⟩ := (Rt.at_iff _ _ _ _).1 h
    simp [near, p, q, s] at hn; omega)

/-! ### QuoteMeans -/
def inside (r : Rt) (c : ByteArray) (a b : Int) : Bool := r.cur.toList == c.toList && (r.kind == 2 || (decide (a ≤ r.when_) && decide (r.when_ ≤ b)))
theorem avg_cons (g : Grp) (r : Rt) (l : List Rt) (c : ByteArray) (p : Int) (hv : valid g.gc (r :: l) = true) (hn : inside r c (Cal.first g.Y g.M p) (Cal.last g.Y g.M p) = false) : avg g l c p = avg g (r :: l) c p := by
  refine avg_congr g _ _ c p ((valid_cons hv).trans hv.symm) (fun _ => find_cons r l c 2 p ?_) fun _ x h1 h2 => find_cons r l c 1 x ?_
  · rw [Bool.eq_false_iff]; intro h
    obtain ⟨p, q, s⟩ := (Rt.at_iff _ _ _ _).1 h
    simp [inside, p, q] at hn
  · rw [Bool.eq_false_iff]; intro h
    obtain ⟨p, q, s⟩ := (Rt.at_iff _ _ _ _).1 h
    simp [inside, p, q, s] at hn; omega
theorem sum_lo (a : Int) : ∀ l : List Rt, (∀ r ∈ l, a ≤ r.val) → a * l.length ≤ sumV l
  | [], _ => by simp [sumV]
  | r :: l, h => by
    have h1 := h r (by simp)
    have h2 := sum_lo a l fun x hx => h x (List.mem_cons_of_mem _ hx)
    have e : a * ((r :: l).length : Int) = a * l.length + a := by simp [Int.mul_add]
    have e2 : sumV (r :: l) = r.val + sumV l := by simp [sumV]
    omega
theorem sum_hi (b : Int) : ∀ l : List Rt, (∀ r ∈ l, r.val ≤ b) → sumV l ≤ b * l.length
  | [], _ => by simp [sumV]
  | r :: l, h => by
    have h1 := h r (by simp)
    have h2 := sum_hi b l fun x hx => h x (List.mem_cons_of_mem _ hx)
    have e : b * ((r :: l).length : Int) = b * l.length + b := by simp [Int.mul_add]
    have e2 : sumV (r :: l) = r.val + sumV l := by simp [sumV]
    omega
theorem mean_lo (a : Int) (l : List Rt) (h0 : 0 < l.length) (h : ∀ r ∈ l, a ≤ r.val) : a ≤ mean l := by
  have h1 := sum_lo a l h
  unfold mean
  apply Int.le_ediv_of_mul_le (by omega)
  have e : a * (2 * (l.length : Int)) = 2 * (a * l.length) := by rw [Int.mul_left_comm]
  omega
theorem mean_hi (b : Int) (l : List Rt) (h0 : 0 < l.length) (h : ∀ r ∈ l, r.val ≤ b) : mean l ≤ b := by
  have h1 := sum_hi b l h
  unfold mean
  have : (2 * sumV l + l.length) / (2 * (l.length : Int)) < b + 1 := by
    apply Int.ediv_lt_of_lt_mul (by omega)
    have e : (b + 1) * (2 * (l.length : Int)) = 2 * (b * l.length) + 2 * l.length := by rw [Int.add_mul, Int.mul_left_comm, Int.one_mul]
    omega
  omega
/-- The group's currency has no rates. -/
theorem days_own (g : ByteArray) (l : List Rt) (c : ByteArray) (a b : Int) (hv : valid g l = true) (hc : c.toList = g.toList) : days l c a b = [] := by
  cases h : days l c a b with
  | nil => rfl
  | cons x t =>
    obtain ⟨h1, h2, h3, h4⟩ := (valid_iff _ _).1 hv
    have hx : x ∈ days l c a b := by rw [h]; simp
    rw [days_mem l h2, List.mem_filter, sel_iff] at hx
    have hp := h1 x hx.1
    have hk := (Rt.at_iff _ _ _ _).1 hx.2.1
    simp [proper, hk.1, hc] at hp
/-- Without a rate of its own, and with spot rates, the average is the mean. -/
theorem avg_mean (g : Grp) (l : List Rt) (c : ByteArray) (p : Int) (h0 : errP g l c p = 0) (hf : find l c 2 p = none) (hl : 0 < (daysP g l c p).length) : avg g l c p = (mean (daysP g l c p), 0) := by
  have hv := ((errP_zero g l c p).1 h0).1
  unfold avg
  rw [if_pos h0, hf]
  by_cases hc : (c.toList == g.gc.toList) = true
  · have := days_own g.gc l c (Cal.first g.Y g.M p) (Cal.last g.Y g.M p) hv (by simpa using hc)
    unfold daysP at hl; rw [this] at hl; simp at hl
  · rw [if_neg hc]
    simp only
    rw [if_neg (by omega)]

/-! ### QuoteLasts -/
theorem errQ_zero (g : ByteArray) (l : List Rt) (c : ByteArray) (d : Int) : errQ g l c d = 0 ↔ (valid g l = true ∧ isCur c = true ∧ -25567 ≤ d ∧ d ≤ 84005) := by
  unfold errQ dateB
  by_cases h1 : valid g l = true ∧ isCur c = true
  · rw [if_pos h1]
    by_cases h2 : -25567 ≤ d ∧ d ≤ 84005
    · simp [h1, h2]
    · simp [h1] <;> omega
  · rw [if_neg h1]
    simp only [Int.one_ne_zero, false_iff]
    exact fun h => h1 ⟨h.1, h.2.1⟩
theorem whichR_err (g : ByteArray) (l : List Rt) (c : ByteArray) (d : Int) (h : (whichR g l c d).2 ≠ 0) : (whichR g l c d).1 = Rt.zero := by
  rcases whichR_cases g l c d with ⟨_, _, e⟩ | ⟨_, _, _, e⟩ | ⟨_, _, _, _, e⟩ | ⟨_, _, _, _, e⟩
  all_goals rw [e] at h
  · rw [e]
  · rw [e]
  · simp at h
  · rw [e]
    cases hw : which l c d <;> rw [hw] at h <;> simp at h ⊢
theorem whichR_own (g : ByteArray) (l : List Rt) (c : ByteArray) (d : Int) (h : (whichR g l c d).2 = 0) (hc : (c.toList == g.toList) = true) : whichR g l c d = (⟨c, 1, d, 1000000⟩, 0) := by
  rcases whichR_cases g l c d with ⟨_, _, e⟩ | ⟨_, _, _, e⟩ | ⟨_, _, _, _, e⟩ | ⟨_, _, _, hx, e⟩
  · rw [e] at h; simp at h
  · rw [e] at h; simp at h
  · exact e
  · rw [hc] at hx; cases hx
/-- The rate that is found lies in the list, is at most 40 days old, and is that of each date between. -/
theorem whichR_lasts (g : ByteArray) (l : List Rt) (c : ByteArray) (d : Int) (h : (whichR g l c d).2 = 0) (hc : (c.toList == g.toList) = false) :
    find l c 1 (whichR g l c d).1.when_ = some (whichR g l c d).1.val ∧ (whichR g l c d).1.when_ ≤ d ∧ d - 40 ≤ (whichR g l c d).1.when_ ∧ -25567 ≤ (whichR g l c d).1.when_ ∧
    ∀ x, (whichR g l c d).1.when_ ≤ x → x ≤ d → whichR g l c x = whichR g l c d := by
  rcases whichR_cases g l c d with ⟨_, _, e⟩ | ⟨_, _, _, e⟩ | ⟨_, _, _, hx, e⟩ | ⟨_, _, h0, hx, e⟩
  · rw [e] at h; simp at h
  · rw [e] at h; simp at h
  · rw [hc] at hx; cases hx
  · cases hw : which l c d with
    | none => rw [e, hw] at h; simp at h
    | some r =>
      rw [hw] at e
      simp only at e
      rw [e]
      rw [which_eq_back] at hw
      obtain ⟨j, hj, hno, hf, er⟩ := (back_some l c r 41 d).1 hw
      obtain ⟨v1, v2, v3, v4⟩ := (errQ_zero g l c d).1 h0
      have hwh : r.when_ = d - j := by rw [er]
      obtain ⟨y, hy, hat, _⟩ := find_some _ _ _ _ _ hf
      have hp := ((valid_iff _ _).1 v1).1 y hy
      have hyk := (Rt.at_iff _ _ _ _).1 hat
      have hlo : -25567 ≤ r.when_ := by
        simp [proper, hyk.2.1, hyk.2.2, dateB] at hp
        omega
      refine ⟨by rw [hwh]; exact hf, by simp only; omega, by simp only; omega, hlo, fun x h1 h2 => ?_⟩
      simp only at h1
      have hx0 : errQ g l c x = 0 := (errQ_zero g l c x).2 ⟨v1, v2, by omega, by omega⟩
      unfold whichR
      rw [if_pos hx0, if_neg (by rw [hc]; decide), which_eq_back]
      have : back l c x 41 = some r := by
        rw [back_some]
        refine ⟨(x - r.when_).toNat, by omega, fun i hi => ?_, ?_, ?_⟩
        · have := hno (i + (d - x).toNat) (by omega)
          rwa [show d - ((i + (d - x).toNat : Nat) : Int) = x - i by omega] at this
        · rw [show x - ((x - r.when_).toNat : Int) = d - j by omega]; exact hf
        · rw [show x - ((x - r.when_).toNat : Int) = d - j by omega]; exact er
      rw [this]
theorem lasts_cases (g : ByteArray) (l : List Rt) (c : ByteArray) (d : Int) :
    (∃ e : Int, (e != 0) = true ∧ whichR g l c d = (Rt.zero, e)) ∨ ((c.toList == g.toList) = true ∧ whichR g l c d = (⟨c, 1, d, 1000000⟩, 0)) ∨
    ((c.toList == g.toList) = false ∧ ∃ r : Rt, whichR g l c d = (r, 0) ∧ find l c 1 r.when_ = some r.val ∧ r.when_ ≤ d ∧ d - 40 ≤ r.when_ ∧ -25567 ≤ r.when_ ∧ d ≤ 84005 ∧ ∀ x, r.when_ ≤ x → x ≤ d → whichR g l c x = (r, 0)) := by
  by_cases h : (whichR g l c d).2 = 0
  · cases hc : (c.toList == g.toList) with
    | true => exact .inr (.inl ⟨rfl, whichR_own g l c d h hc⟩)
    | false =>
      obtain ⟨h1, h2, h3, h4, h5⟩ := whichR_lasts g l c d h hc
      have hd : d ≤ 84005 := by
        rcases whichR_cases g l c d with ⟨_, _, e⟩ | ⟨_, _, _, e⟩ | ⟨_, _, h0, _⟩ | ⟨_, _, h0, _⟩
        · rw [e] at h; simp at h
        · rw [e] at h; simp at h
        · exact ((errQ_zero g l c d).1 h0).2.2.2
        · exact ((errQ_zero g l c d).1 h0).2.2.2
      have he : whichR g l c d = ((whichR g l c d).1, 0) := Prod.ext rfl h
      exact .inr (.inr ⟨rfl, (whichR g l c d).1, he, h1, h2, h3, h4, hd, fun x a b => (h5 x a b).trans he⟩)
  · exact .inl ⟨(whichR g l c d).2, by simpa using h, Prod.ext (whichR_err g l c d h) rfl⟩
end Rates
end Go.Proofs.Ytbbbiioojgnpdaa
