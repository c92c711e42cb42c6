/- The spot rate at a date and the spot rates of a time, in plain lists: the program's way and the reference's way come to one. -/
import Derived.Test.YtbbbiioojgnpdaaRatePlain
namespace Go.Proofs.Ytbbbiioojgnpdaa
namespace Rates

/-- A spot rate of a currency in a time. -/
def sel (c : ByteArray) (a b : Int) (r : Rt) : Bool := r.cur.toList == c.toList && r.kind == 1 && decide (a ≤ r.when_) && decide (r.when_ ≤ b)
theorem sel_iff (c : ByteArray) (a b : Int) (r : Rt) : sel c a b r = true ↔ (r.at_ c 1 r.when_ = true ∧ a ≤ r.when_ ∧ r.when_ ≤ b) := by
  unfold sel Rt.at_; simp [and_assoc]
theorem at_when {c : ByteArray} {k d : Int} {r : Rt} (h : r.at_ c k d = true) : r.when_ = d := ((Rt.at_iff r c k d).1 h).2.2
theorem at_eq {c : ByteArray} {k d : Int} {r : Rt} (h : r.at_ c k d = true) : r = ⟨c, k, d, r.val⟩ := by
  obtain ⟨h1, h2, h3⟩ := (Rt.at_iff r c k d).1 h
  obtain ⟨a, b, e, f⟩ := r
  simp only at h1 h2 h3
  rw [Rt.toList_inj h1, h2, h3]

/-- Keeps the later one. -/
def see (acc : Option Rt) (r : Rt) : Option Rt :=
  match acc with
  | none => some r
  | some x => if x.when_ < r.when_ then some r else some x
def which (l : List Rt) (c : ByteArray) (d : Int) : Option Rt := (l.filter (sel c (d - 40) d)).foldl see none
/-- The reference's way: from a date backwards. -/
def back (l : List Rt) (c : ByteArray) (d : Int) : Nat → Option Rt
  | 0 => none
  | k + 1 => match find l c 1 d with
    | some v => some ⟨c, 1, d, v⟩
    | none => back l c (d - 1) k

theorem back_none (l : List Rt) (c : ByteArray) : ∀ (k : Nat) (d : Int), back l c d k = none ↔ ∀ j : Nat, j < k → find l c 1 (d - j) = none
  | 0, d => by simp [back]
  | k + 1, d => by
    unfold back
    cases hf : find l c 1 d with
    | some v =>
      simp only [reduceCtorEq, false_iff]
      intro h; have := h 0 (by omega); simp [hf] at this
    | none =>
      simp only
      rw [back_none l c k (d - 1)]
      constructor
      · intro h j hj
        cases j with
        | zero => simpa using hf
        | succ j => have := h j (by omega); rwa [show d - 1 - (j : Int) = d - ((j + 1 : Nat) : Int) by omega] at this
      · intro h j hj
        have := h (j + 1) (by omega)
        rwa [show d - 1 - (j : Int) = d - ((j + 1 : Nat) : Int) by omega]
theorem back_some (l : List Rt) (c : ByteArray) (r : Rt) : ∀ (k : Nat) (d : Int), back l c d k = some r ↔ ∃ j : Nat, j < k ∧ (∀ i : Nat, i < j → find l c 1 (d - i) = none) ∧ find l c 1 (d - j) = some r.val ∧ r = ⟨c, 1, d - j, r.val⟩
  | 0, d => by simp [back]
  | k + 1, d => by
    unfold back
    cases hf : find l c 1 d with
    | some v =>
      simp only [Option.some.injEq]
      constructor
      · rintro rfl; exact ⟨0, by omega, by simp, by simpa using hf, by simp⟩
      · rintro ⟨j, hj, hno, hv, e⟩
        cases j with
        | zero =>
          simp only [Int.natCast_zero, Int.sub_zero] at hv e
          rw [hf] at hv
          simp only [Option.some.injEq] at hv
          rw [e, hv]
        | succ j => have := hno 0 (by omega); simp [hf] at this
    | none =>
      simp only
      rw [back_some l c r k (d - 1)]
      constructor
      · rintro ⟨j, hj, hno, hv, e⟩
        refine ⟨j + 1, by omega, fun i hi => ?_, ?_, ?_⟩
        · cases i with
          | zero => simpa using hf
          | succ i => have := hno i (by omega); rwa [show d - 1 - (i : Int) = d - ((i + 1 : Nat) : Int) by omega] at this
        · rwa [show d - 1 - (j : Int) = d - ((j + 1 : Nat) : Int) by omega] at hv
        · rwa [show d - 1 - (j : Int) = d - ((j + 1 : Nat) : Int) by omega] at e
      · rintro ⟨j, hj, hno, hv, e⟩
        cases j with
        | zero => simp [hf] at hv
        | succ j =>
          refine ⟨j, by omega, fun i hi => ?_, ?_, ?_⟩
          · have := hno (i + 1) (by omega); rwa [show d - 1 - (i : Int) = d - ((i + 1 : Nat) : Int) by omega]
          · rwa [show d - 1 - (j : Int) = d - ((j + 1 : Nat) : Int) by omega]
          · rwa [show d - 1 - (j : Int) = d - ((j + 1 : Nat) : Int) by omega]

theorem find_none (l : List Rt) (c : ByteArray) (k d : Int) : find l c k d = none ↔ ∀ r ∈ l, r.at_ c k d = false := by
  unfold find; simp
theorem find_some (l : List Rt) (c : ByteArray) (k d v : Int) (h : find l c k d = some v) : ∃ r ∈ l, r.at_ c k d = true ∧ r.val = v := by
  unfold find at h
  rw [Option.map_eq_some_iff] at h
  obtain ⟨r, hr, e⟩ := h
  exact ⟨r, List.mem_of_find?_eq_some hr, List.find?_some (p := fun r : Rt => r.at_ c k d) hr, e⟩

theorem snoc_ind {P : List Rt → Prop} (h0 : P []) (hs : ∀ l r, P l → P (l ++ [r])) (l : List Rt) : P l := by
  rw [← List.reverse_reverse l]
  induction l.reverse with
  | nil => exact h0
  | cons a t ih => rw [List.reverse_cons]; exact hs _ _ ih

/-- What the fold has kept of the rates that it saw. -/
theorem which_spec (c : ByteArray) (a b : Int) : ∀ (l : List Rt),
    ((l.filter (sel c a b)).foldl see none = none ∧ ∀ r ∈ l, sel c a b r = false) ∨
    ∃ x, (l.filter (sel c a b)).foldl see none = some x ∧ sel c a b x = true ∧ (∀ r ∈ l, sel c a b r = true → r.when_ ≤ x.when_) ∧ find l c 1 x.when_ = some x.val := by
  refine snoc_ind ?_ ?_
  · left; simp
  · intro l r ih
    rw [List.filter_append, List.foldl_append]
    by_cases hr : sel c a b r = true
    · rw [List.filter_cons_of_pos hr, List.filter_nil]
      obtain ⟨hat, ha, hb⟩ := (sel_iff c a b r).1 hr
      right
      rcases ih with ⟨h0, hn⟩ | ⟨x, h0, hx, hm, hf⟩
      · refine ⟨r, by rw [h0]; rfl, hr, ?_, ?_⟩
        · intro y hy hys
          rw [List.mem_append, List.mem_singleton] at hy
          rcases hy with hy | rfl
          · rw [hn y hy] at hys; cases hys
          · exact Int.le_refl _
        · unfold find
          rw [List.find?_append, List.find?_eq_none.2 (fun y hy => ?_)]
          · simp [hat]
          · intro h
            have := hn y hy
            rw [Bool.eq_false_iff] at this
            exact this ((sel_iff c a b y).2 (by rw [at_when h]; exact ⟨h, ha, hb⟩))
      · rw [h0]
        show ∃ y, see (some x) r = some y ∧ _
        by_cases hlt : x.when_ < r.when_
        · refine ⟨r, by simp [see, hlt], hr, ?_, ?_⟩
          · intro y hy hys
            rw [List.mem_append, List.mem_singleton] at hy
            rcases hy with hy | rfl
            · have := hm y hy hys; omega
            · exact Int.le_refl _
          · unfold find
            rw [List.find?_append, List.find?_eq_none.2 (fun y hy => ?_)]
            · simp [hat]
            · intro h
              have := hm y hy ((sel_iff c a b y).2 (by rw [at_when h]; exact ⟨h, ha, hb⟩))
              rw [at_when h] at this; omega
        · refine ⟨x, by simp [see, hlt], hx, ?_, ?_⟩
          · intro y hy hys
            rw [List.mem_append, List.mem_singleton] at hy
            rcases hy with hy | rfl
            · exact hm y hy hys
            · omega
          · unfold find at hf ⊢
            rw [List.find?_append]
            cases hq : List.find? (fun r => r.at_ c 1 x.when_) l with
            | none => rw [hq] at hf; cases hf
            | some z => rw [hq] at hf; simpa using hf
    · have hr' : sel c a b r = false := by simpa using hr
      rw [List.filter_cons_of_neg hr, List.filter_nil, List.foldl_nil]
      rcases ih with ⟨h0, hn⟩ | ⟨x, h0, hx, hm, hf⟩
      · left; refine ⟨h0, fun y hy => ?_⟩
        rw [List.mem_append, List.mem_singleton] at hy
        rcases hy with hy | rfl
        · exact hn y hy
        · exact hr'
      · right; refine ⟨x, h0, hx, fun y hy hys => ?_, ?_⟩
        · rw [List.mem_append, List.mem_singleton] at hy
          rcases hy with hy | rfl
          · exact hm y hy hys
          · rw [hr'] at hys; cases hys
        · unfold find at hf ⊢
          rw [List.find?_append]
          cases hq : List.find? (fun r => r.at_ c 1 x.when_) l with
          | none => rw [hq] at hf; cases hf
          | some z => rw [hq] at hf; simpa using hf

theorem which_eq_back (l : List Rt) (c : ByteArray) (d : Int) : which l c d = back l c d 41 := by
  unfold which
  rcases which_spec c (d - 40) d l with ⟨h0, hn⟩ | ⟨x, h0, hx, hm, hf⟩
  · rw [h0]; symm
    rw [back_none]
    intro j hj
    rw [find_none]
    intro r hr
    rw [Bool.eq_false_iff]; intro h
    have := hn r hr
    rw [Bool.eq_false_iff] at this
    exact this ((sel_iff _ _ _ _).2 (by rw [at_when h]; exact ⟨h, by omega, by omega⟩))
  · rw [h0]; symm
    obtain ⟨hat, ha, hb⟩ := (sel_iff _ _ _ _).1 hx
    rw [back_some]
    refine ⟨(d - x.when_).toNat, by omega, fun i hi => ?_, ?_, ?_⟩
    · rw [find_none]
      intro r hr
      rw [Bool.eq_false_iff]; intro h
      have h1 := at_when h
      have := hm r hr ((sel_iff _ _ _ _).2 (by rw [h1]; exact ⟨h, by omega, by omega⟩))
      omega
    · rw [show d - ((d - x.when_).toNat : Int) = x.when_ by omega]; exact hf
    · rw [show d - ((d - x.when_).toNat : Int) = x.when_ by omega]; exact at_eq hat

/-- The spot rates of a time, day by day: the reference's way. -/
def daily (l : List Rt) (c : ByteArray) (a : Int) : Nat → List Rt
  | 0 => []
  | k + 1 => daily l c a k ++ (match find l c 1 (a + k) with | some v => [⟨c, 1, a + k, v⟩] | none => [])
def days (l : List Rt) (c : ByteArray) (a b : Int) : List Rt := daily l c a (b - a + 1).toNat

theorem daily_bd (l : List Rt) (c : ByteArray) (a : Int) : ∀ k, (∀ r ∈ daily l c a k, a ≤ r.when_ ∧ r.when_ < a + k) ∧ (daily l c a k).length ≤ k
  | 0 => by simp [daily]
  | k + 1 => by
    obtain ⟨h, hl⟩ := daily_bd l c a k
    unfold daily
    refine ⟨fun r hr => ?_, ?_⟩
    · rw [List.mem_append] at hr
      rcases hr with hr | hr
      · have := h r hr; omega
      · cases hf : find l c 1 (a + k) with
        | none => rw [hf] at hr; simp at hr
        | some v => rw [hf] at hr; simp at hr; subst hr; simp; omega
    · rw [List.length_append]
      cases hf : find l c 1 (a + k) <;> simp <;> omega
theorem daily_rising (l : List Rt) (c : ByteArray) (a : Int) : ∀ k, (daily l c a k).Pairwise (fun x y => x.when_ < y.when_)
  | 0 => List.Pairwise.nil
  | k + 1 => by
    unfold daily
    rw [List.pairwise_append]
    refine ⟨daily_rising l c a k, ?_, fun x hx y hy => ?_⟩
    · cases find l c 1 (a + k) <;> simp
    · have := (daily_bd l c a k).1 x hx
      cases hf : find l c 1 (a + k) with
      | none => rw [hf] at hy; simp at hy
      | some v => rw [hf] at hy; simp at hy; subst hy; simp; omega
theorem daily_mem (l : List Rt) (c : ByteArray) (a : Int) (r : Rt) : ∀ k, r ∈ daily l c a k ↔ ∃ j : Nat, j < k ∧ find l c 1 (a + j) = some r.val ∧ r = ⟨c, 1, a + j, r.val⟩
  | 0 => by simp [daily]
  | k + 1 => by
    unfold daily
    rw [List.mem_append, daily_mem l c a r k]
    constructor
    · rintro (⟨j, hj, h⟩ | h)
      · exact ⟨j, by omega, h⟩
      · cases hf : find l c 1 (a + k) with
        | none => rw [hf] at h; simp at h
        | some v => rw [hf] at h; simp at h; subst h; exact ⟨k, by omega, hf, rfl⟩
    · rintro ⟨j, hj, h1, h2⟩
      rcases Nat.lt_or_ge j k with hlt | hge
      · exact .inl ⟨j, hlt, h1, h2⟩
      · obtain rfl : j = k := by omega
        right; rw [h1]; simp only [List.mem_singleton]; exact h2
/-- In a list without two of one key, the rate that is found is the only one. -/
theorem find_fresh (l : List Rt) (hf : Fresh l) (r : Rt) (c : ByteArray) (k d : Int) (hr : r ∈ l) (h : r.at_ c k d = true) : find l c k d = some r.val := by
  induction l with
  | nil => cases hr
  | cons x l ih =>
    unfold Fresh at hf
    rw [List.pairwise_cons] at hf
    unfold find
    rw [List.find?_cons]
    cases hx : x.at_ c k d with
    | true =>
      simp only [Option.map_some, Option.some.injEq]
      rcases List.mem_cons.1 hr with rfl | hr
      · rfl
      · have := hf.1 r hr
        obtain ⟨a1, a2, a3⟩ := (Rt.at_iff _ _ _ _).1 hx
        obtain ⟨b1, b2, b3⟩ := (Rt.at_iff _ _ _ _).1 h
        rw [Bool.eq_false_iff] at this
        exact absurd ((Rt.at_iff x r.cur r.kind r.when_).2 ⟨a1.trans b1.symm, a2.trans b2.symm, a3.trans b3.symm⟩) this
    | false =>
      rcases List.mem_cons.1 hr with rfl | hr
      · rw [h] at hx; cases hx
      · exact ih hf.2 hr
/-- The members of the days are the selected rates. -/
theorem days_mem (l : List Rt) (hf : Fresh l) (c : ByteArray) (a b : Int) (r : Rt) : r ∈ days l c a b ↔ r ∈ l.filter (sel c a b) := by
  unfold days
  rw [daily_mem, List.mem_filter, sel_iff]
  constructor
  · rintro ⟨j, hj, h1, h2⟩
    obtain ⟨x, hx, hat, hv⟩ := find_some _ _ _ _ _ h1
    have e : x = r := by rw [at_eq hat, h2, hv]
    subst e
    have hw := at_when hat
    exact ⟨hx, by rw [hw]; exact hat, by omega, by omega⟩
  · rintro ⟨hr, hat, ha, hb⟩
    refine ⟨(r.when_ - a).toNat, by omega, ?_, ?_⟩
    · rw [show a + ((r.when_ - a).toNat : Int) = r.when_ by omega]; exact find_fresh l hf r c 1 r.when_ hr hat
    · rw [show a + ((r.when_ - a).toNat : Int) = r.when_ by omega]; exact at_eq hat
theorem filter_nodup (l : List Rt) (hf : Fresh l) (p : Rt → Bool) : (l.filter p).Nodup := by
  have h2 : (l.filter p).Pairwise (fun a b => a.same b = false) := List.Pairwise.filter p hf
  exact h2.imp fun {a b} h e => by subst e; rw [Bool.eq_false_iff] at h; exact h ((Rt.at_iff _ _ _ _).2 ⟨rfl, rfl, rfl⟩)
/-- Two lists of the same rates, both rising, are one. -/
theorem rising_unique : ∀ (a b : List Rt), a.Pairwise (fun x y => x.when_ < y.when_) → b.Pairwise (fun x y => x.when_ < y.when_) → (∀ r, r ∈ a ↔ r ∈ b) → a = b
  | [], [], _, _, _ => rfl
  | [], y :: b, _, _, h => by have := (h y).2 (by simp); cases this
  | x :: a, [], _, _, h => by have := (h x).1 (by simp); cases this
  | x :: a, y :: b, ha, hb, h => by
    rw [List.pairwise_cons] at ha hb
    have e : x = y := by
      have h1 := (h x).1 (by simp)
      have h2 := (h y).2 (by simp)
      rcases List.mem_cons.1 h1 with e | h1
      · exact e
      · rcases List.mem_cons.1 h2 with e | h2
        · exact e.symm
        · have := ha.1 y h2; have := hb.1 x h1; omega
    subst e
    rw [rising_unique a b ha.2 hb.2 (fun r => ?_)]
    constructor
    · intro hr
      rcases List.mem_cons.1 ((h r).1 (List.mem_cons_of_mem _ hr)) with e | hr'
      · subst e; have := ha.1 r hr; omega
      · exact hr'
    · intro hr
      rcases List.mem_cons.1 ((h r).2 (List.mem_cons_of_mem _ hr)) with e | hr'
      · subst e; have := hb.1 r hr; omega
      · exact hr'
/-- Sorted by date, the selected rates are the days. -/
theorem sorted_days (l : List Rt) (hf : Fresh l) (c : ByteArray) (a b : Int) (s : List Rt) (hp : s.Perm (l.filter (sel c a b))) (hs : s.Pairwise (fun x y => x.when_ ≤ y.when_)) : s = days l c a b := by
  refine rising_unique _ _ ?_ (daily_rising _ _ _ _) (fun r => by rw [hp.mem_iff, days_mem l hf])
  have hn : s.Nodup := hp.nodup_iff.2 (filter_nodup l hf _)
  have hboth := hs.and hn
  refine List.Pairwise.imp_of_mem (fun {x y} hx hy h => ?_) hboth
  obtain ⟨hle, hne⟩ := h
  rcases Int.lt_or_eq_of_le hle with hlt | he
  · exact hlt
  · exfalso
    have hx' := hp.mem_iff.1 hx
    have hy' := hp.mem_iff.1 hy
    rw [List.mem_filter, sel_iff] at hx' hy'
    have f1 := find_fresh l hf x c 1 x.when_ hx'.1 hx'.2.1
    have f2 := find_fresh l hf y c 1 y.when_ hy'.1 hy'.2.1
    rw [he, f2] at f1
    apply hne
    rw [at_eq hx'.2.1, at_eq hy'.2.1, he]
    simp at f1; rw [f1]
theorem days_len (l : List Rt) (c : ByteArray) (a b : Int) : ((days l c a b).length : Int) ≤ max 0 (b - a + 1) := by
  have := (daily_bd l c a (b - a + 1).toNat).2
  unfold days; omega
end Rates
end Go.Proofs.Ytbbbiioojgnpdaa
