/- My texts RefOf. -/
import Derived.Test.YtalfikdjclineaaGreatDoorG29
set_option linter.unusedVariables false
set_option linter.unusedSimpArgs false
set_option maxRecDepth 100000
set_option maxHeartbeats 8000000
namespace Go.Proofs.YtalfikdjclineaaGreatDoor
namespace R1
open Go.RowKit

theorem of_less {x : Int} {k : Nat} (h : x < 10000 ^ (5 - k)) (h0 : 0 < x) : k < 5 /\ x / 10000 < 10000 ^ (5 - (k + 1)) := by
  have hk : k < 5 := by
    rcases Nat.lt_or_ge k 5 with h3 | h3
    · exact h3
    · rw [show 5 - k = 0 by omega, Int.pow_zero] at h; omega
  refine ⟨hk, Int.ediv_lt_of_lt_mul (by omega) ?_⟩
  rw [<- Int.pow_succ, show (5 - (k + 1)).succ = 5 - k by omega]; exact h
theorem of_step {P : List Int} {k : Nat} {x a : Int} (hv : Big.val 10000 P + 10000 ^ k * x = a) (hP : P.length = k) : Big.val 10000 (P ++ [x % 10000]) + 10000 ^ (k + 1) * (x / 10000) = a := by
  rw [Big.val_snoc, hP, Int.pow_succ, Int.mul_assoc]
  have h1 : (10000 : Int) ^ k * (x % 10000) + 10000 ^ k * (10000 * (x / 10000)) = 10000 ^ k * x := by rw [<- Int.mul_add, Int.emod_add_mul_ediv]
  omega
theorem neg_tmod (x : Int) (h : 0 <= x) : (-x).tmod 10000 = -(x % 10000) := by rw [Int.neg_tmod, Int.tmod_eq_emod_of_nonneg h]
theorem neg_tdiv (x : Int) (h : 0 <= x) : (-x).tdiv 10000 = -(x / 10000) := by rw [Int.neg_tdiv, Int.tdiv_eq_ediv_of_nonneg h]
section
variable (w : World)
theorem of_neg (n : Int) (h0 : n < 0) (h1 : -9223372036854775808 <= n) :
    Calls Tryz.prog 42 #[.int .i64 n] w fun e w' => (∃ r, e = .returned r /\ PI w' w'.heap.size 5 r n) /\ Below w.heap.size w w' := by
  obtain ⟨i0, hi, hz0, hz1, hz2⟩ := info_parts iinfo
  have hdn : decide (n < 0) = true := decide_eq_true h0
  have hB0 := (Below.refl w.heap.size w).alloc (Nat.le_refl _) (.cells #[.bool false, .slice none 0 0] 47)
  have hZ0 := heap_alloc_new w (.cells #[.bool false, .slice none 0 0] 47)
  go_enter Tryz.func42, Tryz.ntmps42
  go_wp2
  go_loopw [3, 4] (fun v u wr => ∃ (k : Nat) (P : List Int) (x : Int), k <= 5 /\ u = .int .i64 (-x) /\ 0 <= x /\ x <= 9223372036854775808 /\ x < 10000 ^ (5 - k) /\ P.length = k /\ Big.Lim 10000 P /\ Big.val 10000 P + 10000 ^ k * x = -n /\
    wr.ownsRow (w.heap.size + 1) 3 1 v k (P.map (Value.int .i64)) /\ Below w.heap.size w wr /\ wr.heap[w.heap.size]? = some (.cells #[.bool false, .slice none 0 0] 47 (0, 0))) (fun _ u _ => (intOf u).natAbs)
  case atStart => exact ⟨0, [], -n, by omega, by rw [Int.neg_neg], by omega, by omega, by omega, rfl, Big.Lim.nil, by simp [Big.val], World.ownsRow_nil _ _ _ _, hB0, hZ0⟩
  case round =>
    obtain ⟨k, P, x, hk, rfl, hx0, hxm, hx1, hPl, hPL, hv, hown, hb, hZ⟩ := hrel
    have HPl := Lib.hid hPl
    have HPL := Lib.hid hPL
    have Hv := Lib.hid hv
    have HZ := Lib.hid hZ
    have Hx1 := Lib.hid hx1
    have hgr : w.heap.size < wr.heap.size := (Array.getElem?_eq_some_iff.1 hZ).1
    clear hPl hPL hv hZ hZ0 hx1
    by_cases hx : 0 < x
    · obtain ⟨h3, hd⟩ := of_less Hx1.out hx
      have Hd := Lib.hid hd
      have hne : ((-x) != 0) = true := by simp; omega
      have hX0 : 0 <= x % 10000 := by omega
      have hX1 : x % 10000 < 10000 := by omega
      have e1 := neg_tmod x hx0
      have e2 := neg_tdiv x hx0
      have Hnew := Lib.hid (one_cell (heap_alloc_new wr (.cells #[.int .i64 (x % 10000)] 3)))
      have Hown := Lib.hid (hown.alloc (.cells #[.int .i64 (x % 10000)] 3))
      have Hone : Hid (∀ u ∈ ([Value.int .i64 (x % 10000)] : List Value), u.oneCell' = true) := by show ∀ u ∈ _, _; simp [Value.oneCell']
      clear hd
      by_cases hl0 : x % 10000 = 0
      · have hlt : ¬ -(x % 10000) < 0 := by omega
        rw [hl0] at e1 Hnew Hown Hone
        go_wp2_with (at_builtin; refine wpList_append_own _ rfl _ _ 45 rfl (w.heap.size + 1) 3 i0 (.int .i64 0) 1 8 Tryz.underlying45 hi hz0 hz1 hz2 rfl (by decide) _ _ _ rfl Hown.out ⟨wr.heap.size, 0, none⟩ 1 1 [.int .i64 0] rfl rfl Hnew.out Hone.out (by unfold maxLen; omega) (by omega) (by simp; omega) ?_)
        intro v' w9 hown' hgrow _
        have hb9 := (hb.alloc hb.size (.cells #[.int .i64 0] 3)).grown hgrow (by simp; omega) (fun q hq => by have := own_base hown q hq; omega)
        have HZ9 := Lib.hid ((hgrow.block w.heap.size (by simp; omega) (fun e => by have := own_base hown w.heap.size e.symm; omega)).trans ((Below.heap_alloc wr (.cells #[.int .i64 0] 3) _ hgr).trans HZ.out))
        go_wp2
        go_roundw
        case rel =>
          refine ⟨k + 1, P ++ [(x % 10000)], x / 10000, by omega, by go_num, by omega, by omega, Hd.out, by have := HPl.out; simp; omega, Big.Lim.append.2 ⟨HPL.out, fun a ha => ?_⟩, of_step Hv.out HPl.out, by rw [List.map_append]; rw [hl0]; exact hown', hb9, HZ9.out⟩
          rw [List.mem_singleton] at ha; subst ha; omega
        case measure => simp [intOf]; omega
      · have hlt : -(x % 10000) < 0 := by omega
        go_wp2_with (at_builtin; refine wpList_append_own _ rfl _ _ 45 rfl (w.heap.size + 1) 3 i0 (.int .i64 0) 1 8 Tryz.underlying45 hi hz0 hz1 hz2 rfl (by decide) _ _ _ rfl Hown.out ⟨wr.heap.size, 0, none⟩ 1 1 [.int .i64 (x % 10000)] rfl rfl Hnew.out Hone.out (by unfold maxLen; omega) (by omega) (by simp; omega) ?_)
        intro v' w9 hown' hgrow _
        have hb9 := (hb.alloc hb.size (.cells #[.int .i64 (x % 10000)] 3)).grown hgrow (by simp; omega) (fun q hq => by have := own_base hown q hq; omega)
        have HZ9 := Lib.hid ((hgrow.block w.heap.size (by simp; omega) (fun e => by have := own_base hown w.heap.size e.symm; omega)).trans ((Below.heap_alloc wr (.cells #[.int .i64 (x % 10000)] 3) _ hgr).trans HZ.out))
        go_wp2
        go_roundw
        case rel =>
          refine ⟨k + 1, P ++ [(x % 10000)], x / 10000, by omega, by go_num, by omega, by omega, Hd.out, by have := HPl.out; simp; omega, Big.Lim.append.2 ⟨HPL.out, fun a ha => ?_⟩, of_step Hv.out HPl.out, by rw [List.map_append]; exact hown', hb9, HZ9.out⟩
          rw [List.mem_singleton] at ha; subst ha; omega
        case measure => simp [intOf]; omega
    · obtain rfl : x = 0 := by omega
      have hval : Hid (Big.val 10000 P = -n) := by show _ = _; have := Hv.out; rwa [Int.mul_zero, Int.add_zero] at this
      obtain ⟨A, c, rfl, hkc, hlim⟩ := limbs_own hown HPl.out.symm
      have hAb := Lib.hid (fun b o (e : A = some ⟨b, o, none⟩) => own_base hown b (by rw [e]; rfl))
      have Hlim := Lib.hid hlim
      clear hlim hown
      go_wp2_with (fail)
      refine (signed_any wr true A k c P HPl.out (by omega) hkc Hlim.out).mono ?_
      rintro e w5 ⟨rfl, hB5⟩
      have hb5 := hb.trans (hB5.mono hb.size)
      have hZ5 := (hB5.block _ hgr).trans HZ.out
      have hq5 := hB5.size
      have hg5 : w.heap.size < w5.heap.size := by omega
      have z0 : w5.cell? ⟨w.heap.size, 0, none⟩ = some (.bool false) := by rw [cell_of_row _ _ _ _ _ _ hZ5]; rfl
      have z1 : w5.cell? ⟨w.heap.size, 1, none⟩ = some (.slice none 0 0) := by rw [cell_of_row _ _ _ _ _ _ hZ5]; rfl
      have zf : ∀ j, w5.frozen? ⟨w.heap.size, j, none⟩ = false := fun j => frozen_of_row _ _ _ _ _ hZ5
      have hBf := (hb5.setCell (p := ⟨w.heap.size, 0, none⟩) (by simp) (.bool (true && decide (0 < (Big.trim P).length)))).setCell (p := ⟨w.heap.size, 1, none⟩) (by simp) (.slice A (Big.trim P).length c)
      have HL2 := Lib.hid (((Hlim.out.at_ hB5 (Nat.le_refl _)).other (w' := (w5.setCell ⟨w.heap.size, 0, none⟩ (.bool (true && decide (0 < (Big.trim P).length)))).setCell ⟨w.heap.size, 1, none⟩ (.slice A (Big.trim P).length c)) (fun b o e => by
        have := hAb.out b o e
        exact (Below.heap_setCell _ _ _ b (fun e => by simp at e; omega)).trans (Below.heap_setCell _ _ _ b (fun e => by simp at e; omega)))).more (C := ((w5.setCell ⟨w.heap.size, 0, none⟩ (.bool (true && decide (0 < (Big.trim P).length)))).setCell ⟨w.heap.size, 1, none⟩ (.slice A (Big.trim P).length c)).heap.size) (by simp))
      have HP := Lib.hid (PI.mk (neg := true) HPl.out hk hkc HPL.out HL2.out)
      rw [hval.out] at HP
      clear hZ5
      simp only [Bool.true_and, Bool.false_and] at HP hBf ⊢
      go_wp2
      refine bodyPost_ret (v := .agg #[.bool (decide (0 < (Big.trim P).length)), .slice A (Big.trim P).length c]) (by simp [results, Tryz.results42, go_sem, z0, z1]) rfl ⟨⟨_, rfl, ?_⟩, hBf⟩
      have := HP.out
      simpa [Big.sgn] using this
theorem of_pos (n : Int) (h0 : 0 <= n) (h1 : n <= 9223372036854775807) :
    Calls Tryz.prog 42 #[.int .i64 n] w fun e w' => (∃ r, e = .returned r /\ PI w' w'.heap.size 5 r n) /\ Below w.heap.size w w' := by
  obtain ⟨i0, hi, hz0, hz1, hz2⟩ := info_parts iinfo
  have hdn : decide (n < 0) = false := decide_eq_false (by omega)
  have hB0 := (Below.refl w.heap.size w).alloc (Nat.le_refl _) (.cells #[.bool false, .slice none 0 0] 47)
  have hZ0 := heap_alloc_new w (.cells #[.bool false, .slice none 0 0] 47)
  go_enter Tryz.func42, Tryz.ntmps42
  go_wp2
  go_loopw [3, 4] (fun v u wr => ∃ (k : Nat) (P : List Int) (x : Int), k <= 5 /\ u = .int .i64 x /\ 0 <= x /\ x <= 9223372036854775807 /\ x < 10000 ^ (5 - k) /\ P.length = k /\ Big.Lim 10000 P /\ Big.val 10000 P + 10000 ^ k * x = n /\
    wr.ownsRow (w.heap.size + 1) 3 1 v k (P.map (Value.int .i64)) /\ Below w.heap.size w wr /\ wr.heap[w.heap.size]? = some (.cells #[.bool false, .slice none 0 0] 47 (0, 0))) (fun _ u _ => (intOf u).natAbs)
  case atStart => exact ⟨0, [], n, by omega, rfl, by omega, by omega, by omega, rfl, Big.Lim.nil, by simp [Big.val], World.ownsRow_nil _ _ _ _, hB0, hZ0⟩
  case round =>
    obtain ⟨k, P, x, hk, rfl, hx0, hxm, hx1, hPl, hPL, hv, hown, hb, hZ⟩ := hrel
    have HPl := Lib.hid hPl
    have HPL := Lib.hid hPL
    have Hv := Lib.hid hv
    have HZ := Lib.hid hZ
    have Hx1 := Lib.hid hx1
    have hgr : w.heap.size < wr.heap.size := (Array.getElem?_eq_some_iff.1 hZ).1
    clear hPl hPL hv hZ hZ0 hx1
    by_cases hx : 0 < x
    · obtain ⟨h3, hd⟩ := of_less Hx1.out hx
      have Hd := Lib.hid hd
      have hne : (x != 0) = true := by simp; omega
      have hX0 : 0 <= x % 10000 := by omega
      have hX1 : x % 10000 < 10000 := by omega
      have Hnew := Lib.hid (one_cell (heap_alloc_new wr (.cells #[.int .i64 (x % 10000)] 3)))
      have Hown := Lib.hid (hown.alloc (.cells #[.int .i64 (x % 10000)] 3))
      have Hone : Hid (∀ u ∈ ([Value.int .i64 (x % 10000)] : List Value), u.oneCell' = true) := by show ∀ u ∈ _, _; simp [Value.oneCell']
      clear hd
      have hlt : ¬ x % 10000 < 0 := by omega
      go_wp2_with (at_builtin; refine wpList_append_own _ rfl _ _ 45 rfl (w.heap.size + 1) 3 i0 (.int .i64 0) 1 8 Tryz.underlying45 hi hz0 hz1 hz2 rfl (by decide) _ _ _ rfl Hown.out ⟨wr.heap.size, 0, none⟩ 1 1 [.int .i64 (x % 10000)] rfl rfl Hnew.out Hone.out (by unfold maxLen; omega) (by omega) (by simp; omega) ?_)
      intro v' w9 hown' hgrow _
      have hb9 := (hb.alloc hb.size (.cells #[.int .i64 (x % 10000)] 3)).grown hgrow (by simp; omega) (fun q hq => by have := own_base hown q hq; omega)
      have HZ9 := Lib.hid ((hgrow.block w.heap.size (by simp; omega) (fun e => by have := own_base hown w.heap.size e.symm; omega)).trans ((Below.heap_alloc wr (.cells #[.int .i64 (x % 10000)] 3) _ hgr).trans HZ.out))
      go_wp2
      go_roundw
      case rel =>
        refine ⟨k + 1, P ++ [(x % 10000)], x / 10000, by omega, by go_num, by omega, by omega, Hd.out, by have := HPl.out; simp; omega, Big.Lim.append.2 ⟨HPL.out, fun a ha => ?_⟩, of_step Hv.out HPl.out, by rw [List.map_append]; exact hown', hb9, HZ9.out⟩
        rw [List.mem_singleton] at ha; subst ha; omega
      case measure => simp [intOf]; omega
    · obtain rfl : x = 0 := by omega
      have hval : Hid (Big.val 10000 P = n) := by show _ = _; have := Hv.out; rwa [Int.mul_zero, Int.add_zero] at this
      obtain ⟨A, c, rfl, hkc, hlim⟩ := limbs_own hown HPl.out.symm
      have hAb := Lib.hid (fun b o (e : A = some ⟨b, o, none⟩) => own_base hown b (by rw [e]; rfl))
      have Hlim := Lib.hid hlim
      clear hlim hown
      go_wp2_with (fail)
      refine (signed_any wr false A k c P HPl.out (by omega) hkc Hlim.out).mono ?_
      rintro e w5 ⟨rfl, hB5⟩
      have hb5 := hb.trans (hB5.mono hb.size)
      have hZ5 := (hB5.block _ hgr).trans HZ.out
      have hq5 := hB5.size
      have hg5 : w.heap.size < w5.heap.size := by omega
      have z0 : w5.cell? ⟨w.heap.size, 0, none⟩ = some (.bool false) := by rw [cell_of_row _ _ _ _ _ _ hZ5]; rfl
      have z1 : w5.cell? ⟨w.heap.size, 1, none⟩ = some (.slice none 0 0) := by rw [cell_of_row _ _ _ _ _ _ hZ5]; rfl
      have zf : ∀ j, w5.frozen? ⟨w.heap.size, j, none⟩ = false := fun j => frozen_of_row _ _ _ _ _ hZ5
      have hBf := (hb5.setCell (p := ⟨w.heap.size, 0, none⟩) (by simp) (.bool (false && decide (0 < (Big.trim P).length)))).setCell (p := ⟨w.heap.size, 1, none⟩) (by simp) (.slice A (Big.trim P).length c)
      have HL2 := Lib.hid (((Hlim.out.at_ hB5 (Nat.le_refl _)).other (w' := (w5.setCell ⟨w.heap.size, 0, none⟩ (.bool (false && decide (0 < (Big.trim P).length)))).setCell ⟨w.heap.size, 1, none⟩ (.slice A (Big.trim P).length c)) (fun b o e => by
        have := hAb.out b o e
        exact (Below.heap_setCell _ _ _ b (fun e => by simp at e; omega)).trans (Below.heap_setCell _ _ _ b (fun e => by simp at e; omega)))).more (C := ((w5.setCell ⟨w.heap.size, 0, none⟩ (.bool (false && decide (0 < (Big.trim P).length)))).setCell ⟨w.heap.size, 1, none⟩ (.slice A (Big.trim P).length c)).heap.size) (by simp))
      have HP := Lib.hid (PI.mk (neg := false) HPl.out hk hkc HPL.out HL2.out)
      rw [hval.out] at HP
      clear hZ5
      simp only [Bool.true_and, Bool.false_and] at HP hBf ⊢
      go_wp2
      refine bodyPost_ret (v := .agg #[.bool (false), .slice A (Big.trim P).length c]) (by simp [results, Tryz.results42, go_sem, z0, z1]) rfl ⟨⟨_, rfl, ?_⟩, hBf⟩
      have := HP.out
      simpa [Big.sgn] using this
theorem of_int (n : Int) (h1 : -9223372036854775808 <= n) (h2 : n <= 9223372036854775807) :
    Calls Tryz.prog 42 #[.int .i64 n] w fun e w' => (∃ r, e = .returned r /\ PI w' w'.heap.size 5 r n) /\ Below w.heap.size w w' := by
  by_cases h : n < 0
  · exact of_neg w n h h1
  · exact of_pos w n (by omega) h2
end
end R1
end Go.Proofs.YtalfikdjclineaaGreatDoor
