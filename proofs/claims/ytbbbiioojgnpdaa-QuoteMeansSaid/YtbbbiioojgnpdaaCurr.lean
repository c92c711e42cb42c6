/- The walks of both packages' Currency, and of both tests of one rate. -/
import Derived.Test.YtbbbiioojgnpdaaRates
import Derived.Laws.IdiomStrings
namespace Go.Proofs.Ytbbbiioojgnpdaa
open Go.RowKit

theorem allTake (l : List UInt8) (p : UInt8 → Bool) (k : Nat) (h : k < l.length) : (l.take (k + 1)).all p = ((l.take k).all p && p l[k]) := by
  rw [List.take_succ_eq_append_getElem h, List.all_append]; simp
theorem allMiss (l : List UInt8) (p : UInt8 → Bool) (k : Nat) (h : k < l.length) (hp : p l[k] = false) : l.all p = false := by
  rw [List.all_eq_false]; exact ⟨l[k], List.getElem_mem h, by simp [hp]⟩

section
variable (w : World)
set_option maxHeartbeats 400000 in
theorem rcur_any (s : ByteArray) (hs : s.size ≤ maxLen) : Calls Try.prog 47 #[.string s] w fun e w' => e = .returned (.bool (Rates.isCur s)) ∧ w = w' := by
  unfold maxLen at hs
  have hsz : s.data.toList.length = s.size := by simp
  go_enter Try.func47, Try.ntmps47
  go_wp2
  go_loop [3] (fun i => ∃ k : Nat, k ≤ s.size ∧ i = .int .i64 k ∧ (s.data.toList.take k).all Rates.upper = true) (fun i => s.size - (intOf i).toNat)
  case atStart => exact ⟨0, Nat.zero_le _, rfl, rfl⟩
  case round =>
    obtain ⟨k, hk, rfl, ha⟩ := hrel
    have Ha := Lib.hid ha
    clear ha
    by_cases hlt : k < s.size
    · have hg : s.data.toList[k]'(by omega) = s[k] := rfl
      by_cases h1 : (s[k].toNat : Int) < 65
      · have hf : Hid (Rates.isCur s = false) := by
          show Rates.isCur s = false
          unfold Rates.isCur Rates.allUp
          rw [allMiss _ _ k (by omega) (by rw [hg]; unfold Rates.upper; simp only [decide_eq_false_iff_not]; omega)]; rfl
        clear hg
        go_wp2
        go_ret
        exact ⟨ret_bool hf.out.symm, rfl⟩
      · by_cases h2 : 90 < (s[k].toNat : Int)
        · have hf : Hid (Rates.isCur s = false) := by
            show Rates.isCur s = false
            unfold Rates.isCur Rates.allUp
            rw [allMiss _ _ k (by omega) (by rw [hg]; unfold Rates.upper; simp only [decide_eq_false_iff_not]; omega)]; rfl
          clear hg
          go_wp2
          go_ret
          exact ⟨ret_bool hf.out.symm, rfl⟩
        · have hf : Hid ((s.data.toList.take (k + 1)).all Rates.upper = true) := by
            show _ = true
            rw [allTake _ _ k (by omega), Ha.out, hg]
            unfold Rates.upper
            simp; omega
          clear hg
          go_wp2
          go_round
          case rel => exact ⟨k + 1, by omega, by go_num, hf.out⟩
          case measure => simp [intOf]; omega
    · obtain rfl : k = s.size := by omega
      have hf : Hid (Rates.isCur s = (s.size == 3)) := by
        show _ = _
        have h := Ha.out
        rw [List.take_of_length_le (by omega)] at h
        have h2 : Rates.allUp s = true := h
        unfold Rates.isCur
        simp only [h2, Bool.true_and]
      clear hsz
      go_wp2
      go_ret
      refine ⟨ret_bool ?_, rfl⟩
      rw [hf.out, Bool.eq_iff_iff]; simp; omega

theorem low_any (x : Int) : Calls Try.prog 62 #[.int .u8 x] w fun e w' => e = .returned (.bool (!decide (65 ≤ x ∧ x ≤ 90))) ∧ w = w' := by
  go_enter Try.func62, Try.ntmps62
  go_wp2
  all_goals (go_ret; exact ⟨ret_bool (by rw [Bool.eq_iff_iff]; simp <;> omega), rfl⟩)

set_option maxHeartbeats 400000 in
theorem idxbytes_any (b n c : Nat) (s : ByteArray) (hn : s.size = n) (hs : n ≤ 100) (hc : ∀ j (h : j < s.size), w.cell? ⟨b, j, none⟩ = some (.int .u8 (s[j].toNat : Int))) :
    Calls Try.prog 70 #[.slice (some ⟨b, 0, none⟩) n c, .func (.func 62) #[] #[]] w fun e w' => ∃ i : Int, e = .returned (.int .i64 i) ∧ (0 ≤ i ↔ Rates.allUp s = false) ∧ w = w' := by
  subst hn
  have hsz : s.data.toList.length = s.size := by simp
  go_enter Try.func70, Try.ntmps70
  go_wp2
  go_loop [8] (fun i => ∃ k : Nat, k ≤ s.size ∧ i = .int .i64 k ∧ (s.data.toList.take k).all Rates.upper = true) (fun i => s.size - (intOf i).toNat)
  case atStart => exact ⟨0, Nat.zero_le _, rfl, rfl⟩
  case round =>
    obtain ⟨k, hk, rfl, ha⟩ := hrel
    have Ha := Lib.hid ha
    clear ha
    by_cases hlt : k < s.size
    · have hg : s.data.toList[k]'(by omega) = s[k] := rfl
      have hck := hc k hlt
      by_cases h1 : Rates.upper s[k] = true
      · have hd : decide (65 ≤ (s[k].toNat : Int) ∧ (s[k].toNat : Int) ≤ 90) = true := h1
        have hf : Hid ((s.data.toList.take (k + 1)).all Rates.upper = true) := by
          show _ = true
          rw [allTake _ _ k (by omega), Ha.out, hg, h1]; rfl
        clear hg h1
        go_wp2_with (go_at_call 62; refine (low_any _ _).mono ?_; rw [hd]; rintro e w4 ⟨rfl, rfl⟩)
        go_round
        case rel => exact ⟨k + 1, by omega, by go_num, hf.out⟩
        case measure => simp [intOf]; omega
      · have h1' : Rates.upper s[k] = false := by simpa using h1
        have hd : decide (65 ≤ (s[k].toNat : Int) ∧ (s[k].toNat : Int) ≤ 90) = false := h1'
        have hf : Hid (Rates.allUp s = false) := allMiss _ _ k (by omega) (by rw [hg]; exact h1')
        clear hg h1 h1'
        go_wp2_with (go_at_call 62; refine (low_any _ _).mono ?_; rw [hd]; rintro e w4 ⟨rfl, rfl⟩)
        go_ret
        exact ⟨_, rfl, ⟨fun _ => hf.out, fun _ => by omega⟩, rfl⟩
    · obtain rfl : k = s.size := by omega
      clear hc
      go_wp2
      go_ret
      refine ⟨_, rfl, ⟨fun h => by omega, fun h => ?_⟩, rfl⟩
      have h' := Ha.out
      rw [List.take_of_length_le (by omega)] at h'
      exact absurd h (by unfold Rates.allUp; rw [h']; simp)

theorem cntbytes_any (b n c : Nat) (s : ByteArray) (hn : s.size = n) (hs : n ≤ 100) (hc : ∀ j (h : j < s.size), w.cell? ⟨b, j, none⟩ = some (.int .u8 (s[j].toNat : Int))) :
    Calls Try.prog 61 #[.slice (some ⟨b, 0, none⟩) n c, .func (.func 62) #[] #[]] w fun e w' => e = .returned (.bool (!Rates.allUp s)) ∧ w = w' := by
  have H := Lib.hid (idxbytes_any w b n c s hn hs hc)
  clear hc
  go_enter Try.func61, Try.ntmps61
  go_wp2_with (go_at_call 70; refine H.out.mono ?_; rintro e w4 ⟨i, rfl, hi, rfl⟩)
  go_ret
  refine ⟨ret_bool ?_, rfl⟩
  rw [Bool.eq_iff_iff]
  try simp only [decide_eq_true_eq, Bool.not_eq_true', hi]

theorem cur_any (s : ByteArray) (_hs : s.size ≤ maxLen) : Calls Try.prog 44 #[.string s] w fun e w' => e = .returned (.bool (Rates.isCur s)) ∧ Below w.heap.size w w' := by
  by_cases h3 : s.size = 3
  · have hconv := fun W => run_bytes_of_string (P := Try.prog) W 9 98 5 s Try.underlying9 Try.underlying98 Try.underlying5
    have hr : Hid (Rates.isCur s = Rates.allUp s) := by show _ = _; unfold Rates.isCur; simp [h3]
    have h3' : ((s.size : Int) == 3) = true := by rw [h3]; rfl
    have h4 : s.size ≤ 100 := by omega
    clear h3
    go_enter Try.func44, Try.ntmps44
    go_wp2_with (fail)
    refine (cntbytes_any _ _ _ _ s rfl h4 ?_).mono ?_
    · intro j hj
      show (w.alloc _).cell? _ = _
      rw [cell_of_row _ _ _ _ _ _ (heap_alloc_new w _)]
      exact bytesRow_at s _ j hj
    rintro e w4 ⟨rfl, rfl⟩
    go_wp2
    go_ret
    exact ⟨ret_bool (by rw [hr.out]; try simp), ((Below.refl _ _).alloc (Nat.le_refl _) _).drew⟩
  · have hr : Hid (Rates.isCur s = false) := by show _ = _; unfold Rates.isCur; simp [h3]
    have h3' : ((s.size : Int) == 3) = false := by simp; omega
    clear h3
    go_enter Try.func44, Try.ntmps44
    go_wp2
    go_ret
    exact ⟨ret_bool hr.out.symm, Below.refl _ _⟩

theorem proper_split (g a1 : ByteArray) (a4 : Int) (hq : ¬ (Rates.isCur a1 = true ∧ ¬ a1.toList = g.toList ∧ 1 ≤ a4 ∧ a4 ≤ 1000000000000)) :
    Rates.isCur a1 = false ∨ (Rates.isCur a1 = true ∧ (a1.toList == g.toList) = true) ∨ (Rates.isCur a1 = true ∧ (a1.toList == g.toList) = false ∧ a4 < 1) ∨ (Rates.isCur a1 = true ∧ (a1.toList == g.toList) = false ∧ 1 ≤ a4 ∧ 1000000000000 < a4) := by
  by_cases h1 : Rates.isCur a1 = true
  · by_cases h2 : a1.toList = g.toList
    · simp [h1, h2]
    · simp [h1, h2]; by_cases h3 : a4 < 1
      · exact .inl h3
      · refine .inr ⟨by omega, ?_⟩
        rcases Int.lt_or_le 1000000000000 a4 with h | h
        · exact h
        · exact absurd ⟨h1, h2, by omega, h⟩ hq
  · simp [h1]
theorem proper_no (g a1 : ByteArray) (a2 a3 a4 : Int) (hq : ¬ (Rates.isCur a1 = true ∧ ¬ a1.toList = g.toList ∧ 1 ≤ a4 ∧ a4 ≤ 1000000000000)) : Rates.proper g ⟨a1, a2, a3, a4⟩ = false := by
  unfold Rates.proper
  rw [Bool.and_eq_false_iff]; left
  rw [Bool.and_eq_false_iff, Bool.and_eq_false_iff]
  simp only [Bool.not_eq_false', beq_iff_eq, decide_eq_false_iff_not]
  by_cases h1 : Rates.isCur a1 = true <;> by_cases h2 : a1.toList = g.toList <;> simp_all
theorem proper_yes (g a1 : ByteArray) (a4 : Int) (h1 : Rates.isCur a1 = true) (he : (a1.toList == g.toList) = false) (h3 : 1 ≤ a4) (h4 : a4 ≤ 1000000000000) (x2 x3 : Int) :
    Rates.proper g ⟨a1, x2, x3, a4⟩ = ((x2 == 1 && Rates.dateB x3) || (x2 == 2 && decide (0 ≤ x3 ∧ x3 < 120))) := by
  simp [Rates.proper, h1, he, h3, h4]

set_option maxHeartbeats 1000000 in
theorem rproper_any (g a1 : ByteArray) (a2 a3 a4 : Int) (ha : a1.size ≤ maxLen) :
    Calls Try.prog 55 #[.string g, .agg #[.string a1, .int .i64 a2, .int .i64 a3, .int .i64 a4]] w fun e w' => e = .returned (.bool (Rates.proper g ⟨a1, a2, a3, a4⟩)) ∧ Below w.heap.size w w' := by
  by_cases hq : Rates.isCur a1 = true ∧ ¬ a1.toList = g.toList ∧ 1 ≤ a4 ∧ a4 ≤ 1000000000000
  · obtain ⟨h1, h2, h3, h4⟩ := hq
    have he : (a1.toList == g.toList) = false := by simpa using h2
    have hr := Lib.hid (proper_yes g a1 a4 h1 he h3 h4)
    clear h2
    go_enter Try.func55, Try.ntmps55
    go_wp2_with (first | (go_at_call 47; refine (rcur_any _ _ ha).mono ?_; rw [h1]; rintro e w4 ⟨rfl, rfl⟩) | (go_at_call 19; refine (rvalid_any _ _).mono ?_; rintro e w5 ⟨rfl, rfl⟩))
    all_goals (go_ret; exact ⟨ret_bool (by rw [hr.out]; unfold Rates.dateB; simp [*] <;> omega), (Below.refl _ _).alloc (Nat.le_refl _) _⟩)
  · have hr := Lib.hid (proper_no g a1 a2 a3 a4 hq)
    rcases proper_split g a1 a4 hq with h1 | ⟨h1, h2⟩ | ⟨h1, h2, h3⟩ | ⟨h1, h2, h3, h4⟩
    all_goals
      clear hq
      go_enter Try.func55, Try.ntmps55
      go_wp2_with (first | (go_at_call 47; refine (rcur_any _ _ ha).mono ?_; rw [h1]; rintro e w4 ⟨rfl, rfl⟩))
      go_ret
      exact ⟨ret_bool hr.out.symm, (Below.refl _ _).alloc (Nat.le_refl _) _⟩

set_option maxHeartbeats 1000000 in
theorem dproper_any (g a1 : ByteArray) (a2 a3 a4 : Int) (ha : a1.size ≤ maxLen) :
    Calls Try.prog 59 #[.string g, .agg #[.string a1, .int .i64 a2, .int .i64 a3, .int .i64 a4]] w fun e w' => e = .returned (.bool (Rates.proper g ⟨a1, a2, a3, a4⟩)) ∧ Below w.heap.size w w' := by
  by_cases hq : Rates.isCur a1 = true ∧ ¬ a1.toList = g.toList ∧ 1 ≤ a4 ∧ a4 ≤ 1000000000000
  · obtain ⟨h1, h2, h3, h4⟩ := hq
    have he : (a1.toList == g.toList) = false := by simpa using h2
    have hr := Lib.hid (proper_yes g a1 a4 h1 he h3 h4)
    clear h2
    go_enter Try.func59, Try.ntmps59
    go_wp2_with (first | (go_at_call 44; refine (cur_any _ _ ha).mono ?_; rw [h1]; rintro e w4 ⟨rfl, hB⟩; obtain ⟨hc, hf⟩ := bcell hB) | (go_at_call 45; refine (dvalid_any _ _).mono ?_; rintro e w5 ⟨rfl, rfl⟩))
    all_goals (go_ret; exact ⟨ret_bool (by rw [hr.out]; unfold Rates.dateB; simp [*] <;> omega), ((Below.refl _ _).alloc (Nat.le_refl _) _).trans (hB.mono (by simp))⟩)
  · have hr := Lib.hid (proper_no g a1 a2 a3 a4 hq)
    rcases proper_split g a1 a4 hq with h1 | ⟨h1, h2⟩ | ⟨h1, h2, h3⟩ | ⟨h1, h2, h3, h4⟩
    all_goals
      clear hq
      go_enter Try.func59, Try.ntmps59
      go_wp2_with (first | (go_at_call 44; refine (cur_any _ _ ha).mono ?_; rw [h1]; rintro e w4 ⟨rfl, hB⟩; obtain ⟨hc, hf⟩ := bcell hB))
      go_ret
      exact ⟨ret_bool hr.out.symm, ((Below.refl _ _).alloc (Nat.le_refl _) _).trans (hB.mono (by simp))⟩
end
end Go.Proofs.Ytbbbiioojgnpdaa
