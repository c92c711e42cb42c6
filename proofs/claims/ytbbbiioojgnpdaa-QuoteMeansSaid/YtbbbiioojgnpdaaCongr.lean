/- Two lists of rates that find the same answer alike: plain lists, no program. -/
import Derived.Test.YtbbbiioojgnpdaaAverage
namespace Go.Proofs.Ytbbbiioojgnpdaa
namespace Rates
theorem back_congr (l m : List Rt) (c : ByteArray) : ∀ (k : Nat) (d : Int), (∀ j : Nat, j < k → find l c 1 (d - j) = find m c 1 (d - j)) → back l c d k = back m c d k
  | 0, _, _ => rfl
  | k + 1, d, h => by
    have h0 := h 0 (by omega)
    simp only [Int.natCast_zero, Int.sub_zero] at h0
    unfold back
    rw [h0, back_congr l m c k (d - 1) (fun j hj => by
      have := h (j + 1) (by omega)
      rwa [show d - 1 - (j : Int) = d - ((j + 1 : Nat) : Int) by omega])]
theorem which_congr (l m : List Rt) (c : ByteArray) (d : Int) (h : ∀ x, d - 40 ≤ x → x ≤ d → find l c 1 x = find m c 1 x) : which l c d = which m c d := by
  rw [which_eq_back, which_eq_back]
  exact back_congr l m c 41 d fun j hj => h _ (by omega) (by omega)
theorem daily_congr (l m : List Rt) (c : ByteArray) (a : Int) : ∀ (k : Nat), (∀ j : Nat, j < k → find l c 1 (a + j) = find m c 1 (a + j)) → daily l c a k = daily m c a k
  | 0, _ => rfl
  | k + 1, h => by
    unfold daily
    rw [h k (by omega), daily_congr l m c a k (fun j hj => h j (by omega))]
theorem days_congr (l m : List Rt) (c : ByteArray) (a b : Int) (h : ∀ x, a ≤ x → x ≤ b → find l c 1 x = find m c 1 x) : days l c a b = days m c a b :=
  daily_congr l m c a _ fun j hj => h _ (by omega) (by omega)
theorem whichR_congr (g : ByteArray) (l m : List Rt) (cur : ByteArray) (d : Int) (hv : valid g l = valid g m) (h : valid g l = true → ∀ x, d - 40 ≤ x → x ≤ d → find l cur 1 x = find m cur 1 x) : whichR g l cur d = whichR g m cur d := by
  unfold whichR errQ
  rw [hv]
  by_cases hg : valid g m = true
  · rw [which_congr l m cur d (h (hv.trans hg))]
  · simp [hg]
theorem avg_congr (g : Grp) (l m : List Rt) (cur : ByteArray) (p : Int) (hv : valid g.gc l = valid g.gc m) (h2 : valid g.gc l = true → find l cur 2 p = find m cur 2 p)
    (h : valid g.gc l = true → ∀ x, Cal.first g.Y g.M p ≤ x → x ≤ Cal.last g.Y g.M p → find l cur 1 x = find m cur 1 x) : avg g l cur p = avg g m cur p := by
  unfold avg errP daysP
  rw [hv]
  by_cases hg : valid g.gc m = true
  · rw [days_congr l m cur _ _ (h (hv.trans hg)), h2 (hv.trans hg)]
  · simp [hg]

/-! ### A list and its turned list -/
theorem find_perm (l m : List Rt) (hp : l.Perm m) (hm : Fresh m) (c : ByteArray) (k d : Int) : find l c k d = find m c k d := by
  cases h : find l c k d with
  | none =>
    symm
    rw [find_none] at h ⊢
    exact fun r hr => h r (hp.mem_iff.2 hr)
  | some v =>
    obtain ⟨r, hr, ha, rfl⟩ := find_some _ _ _ _ _ h
    exact (find_fresh m hm r c k d (hp.mem_iff.1 hr) ha).symm
theorem fresh_reverse (l : List Rt) (h : Fresh l) : Fresh l.reverse := by
  unfold Fresh at h ⊢
  rw [List.pairwise_reverse]
  refine h.imp fun {a b} hab => ?_
  rw [Bool.eq_false_iff] at hab ⊢
  intro hba
  obtain ⟨h1, h2, h3⟩ := (Rt.at_iff _ _ _ _).1 hba
  exact hab ((Rt.at_iff _ _ _ _).2 ⟨h1.symm, h2.symm, h3.symm⟩)
theorem valid_reverse (g : ByteArray) (l : List Rt) : valid g l.reverse = valid g l := by
  rw [Bool.eq_iff_iff, valid_iff, valid_iff]
  constructor
  · rintro ⟨h1, h2, h3, h4⟩
    exact ⟨fun r hr => h1 r (by simpa using hr), by simpa using fresh_reverse _ h2, h3, by simpa using h4⟩
  · rintro ⟨h1, h2, h3, h4⟩
    exact ⟨fun r hr => h1 r (by simpa using hr), fresh_reverse _ h2, h3, by simpa using h4⟩
theorem find_reverse (g : ByteArray) (l : List Rt) (hv : valid g l = true) (c : ByteArray) (k d : Int) : find l c k d = find l.reverse c k d := by
  obtain ⟨_, h, _⟩ := (valid_iff _ _).1 hv
  exact find_perm l l.reverse l.reverse_perm.symm (fresh_reverse l h) c k d
theorem whichR_reverse (g : ByteArray) (l : List Rt) (cur : ByteArray) (d : Int) : whichR g l cur d = whichR g l.reverse cur d :=
  whichR_congr g _ _ cur d (valid_reverse g l).symm fun hv x _ _ => find_reverse g l hv cur 1 x
theorem avg_reverse (g : Grp) (l : List Rt) (cur : ByteArray) (p : Int) : avg g l cur p = avg g l.reverse cur p :=
  avg_congr g _ _ cur p (valid_reverse g.gc l).symm (fun hv => find_reverse g.gc l hv cur 2 p) fun hv x _ _ => find_reverse g.gc l hv cur 1 x

/-! ### A list and one rate ahead of it -/
theorem find_cons (r : Rt) (l : List Rt) (c : ByteArray) (k d : Int) (h : r.at_ c k d = false) : find l c k d = find (r :: l) c k d := by
  unfold find
  rw [List.find?_cons, h]
end Rates
end Go.Proofs.Ytbbbiioojgnpdaa
