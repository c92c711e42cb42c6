/- My texts IntGcd. -/
import Derived.Deep.LoopGhost
import Derived.Test.YtalfikdjclineaaGreatDoorG07
set_option linter.unusedVariables false
set_option linter.unusedSimpArgs false
set_option maxRecDepth 100000
set_option maxHeartbeats 8000000
namespace Go.Proofs.YtalfikdjclineaaGreatDoor
open Go.RowKit

theorem gcd_step (a b Q R : Int) (e : a = b * Q + R) : Int.gcd b R = Int.gcd a b := by
  rw [e, Int.add_comm, Int.gcd_comm _ b]
  simp
theorem RegS.drewN {w W : World} {X Y : Array Value} (h : RegS w X Y W) (q : Nat) : RegS w X Y (W.drewN q) := ⟨below_drawn h.1 q, h.2⟩
def GcdRel (w : World) (X Y : Array Value) (k : Nat) (G : Nat) (t : Nat) (s5 s6 : Value) (wr : World) : Prop :=
  ∃ (A : Option Addr) (n c : Nat) (p : List Int) (B : Option Addr) (m d : Nat) (q : List Int), s5 = .slice A n c /\ s6 = .slice B m d /\ p.length = n /\ q.length = m /\ n <= k + 1 /\ m <= 1 /\ n <= c /\ m <= d /\ Big.Lim 1000000000 p /\ Big.Lim 1000000000 q /\ Big.Norm p /\ Big.Norm q /\
    LimbsAt .u32 wr wr.heap.size A p /\ LimbsAt .u32 wr wr.heap.size B q /\ Away w.heap.size (w.heap.size + 3) A p /\ Away w.heap.size (w.heap.size + 3) B q /\ Int.gcd (Big.val 1000000000 p) (Big.val 1000000000 q) = G /\ RegS w X Y wr /\ t = (Big.val 1000000000 q).toNat
def GcdRelG (w : World) (X Y : Array Value) (k : Nat) (G : Nat) (t : Nat) (s5 s6 : Value) (wr : World) : Prop :=
  ∃ (A : Option Addr) (n c : Nat) (p : List Int) (B : Option Addr) (m d : Nat) (q : List Int), s5 = .slice A n c /\ s6 = .slice B m d /\ p.length = n /\ q.length = m /\ n <= k /\ m <= k /\ n <= c /\ m <= d /\ Big.Lim 1000000000 p /\ Big.Lim 1000000000 q /\ Big.Norm p /\ Big.Norm q /\
    LimbsAt .u32 wr wr.heap.size A p /\ LimbsAt .u32 wr wr.heap.size B q /\ Away w.heap.size (w.heap.size + 3) A p /\ Away w.heap.size (w.heap.size + 3) B q /\ Int.gcd (Big.val 1000000000 p) (Big.val 1000000000 q) = G /\ RegS w X Y wr /\ t = (Big.val 1000000000 q).toNat
section
variable (w : World)
theorem gcd_any (k j : Nat) (u v : Value) (x y : Int) (hk : k <= 1000000 - 1) (hj : j <= 1) (hu : PI w w.heap.size k u x) (hv : PI w w.heap.size j v y) :
    Calls Tryz.prog 53 #[u, v] w fun e w' => (∃ r, e = .returned r /\ PI w' w'.heap.size (k + 1) r (Int.gcd x y)) /\ Below w.heap.size w w' := by
  obtain ⟨g, A, n, c, l, rfl, hl, hn, hc, hL, hN, hx, hA, _⟩ := hu.parts
  obtain ⟨h, B, m, d, q, rfl, hq, hm, hd, hQ, hM, hy, hB, _⟩ := hv.parts
  have hg : Int.gcd x y = Int.gcd (Big.val 1000000000 l) (Big.val 1000000000 q) := by
    rw [hx, hy]; cases g <;> cases h <;> simp [Big.sgn]
  have hS0 := RegS.start w #[.bool g, .slice A n c] #[.bool h, .slice B m d]
  obtain ⟨W1, hW1⟩ : ∃ W1, W1 = (((w.alloc (.cells #[.bool g, .slice A n c] 39)).alloc (.cells #[.bool h, .slice B m d] 39)).alloc (.cells #[.bool false, .slice none 0 0] 39)) := ⟨_, rfl⟩
  rw [<- hW1] at hS0
  have HW := Lib.hid hW1
  have Hg := Lib.hid hg
  have hq1 := hS0.lt
  have a1 := cell_of_row _ _ 1 _ _ _ hS0.2.1
  have d1 := cell_of_row _ _ 1 _ _ _ hS0.2.2.1
  simp at a1 d1
  have HAw : Hid (Away w.heap.size (w.heap.size + 3) A l) := by
    show Away _ _ _ _
    rcases hA with h | ⟨b, o, e, hb, _⟩
    · exact .inl h
    · exact .inr fun b' o' e' => by rw [e] at e'; cases e'; exact .inl hb
  have HBw : Hid (Away w.heap.size (w.heap.size + 3) B q) := by
    show Away _ _ _ _
    rcases hB with h | ⟨b, o, e, hb, _⟩
    · exact .inl h
    · exact .inr fun b' o' e' => by rw [e] at e'; cases e'; exact .inl hb
  clear hW1 hg hx hy
  go_enter Tryz.func53, Tryz.ntmps53
  go_upto_region 1 with (fail)
  rw [<- HW.out]
  go_quiet (fail)
  go_wp2
  go_loopg [5, 6] (Big.val 1000000000 q).toNat (fun t s5 s6 wr => GcdRel w #[.bool g, .slice A n c] #[.bool h, .slice B m d] k (Int.gcd x y) t s5 s6 wr)
  case atStart => exact ⟨A, n, c, l, B, m, d, q, rfl, rfl, hl, hq, by omega, by omega, hc, hd, hL, hQ, hN, hM, (hA.at_ (hS0.drewN nq).1 (Nat.le_refl _)), (hB.at_ (hS0.drewN nq).1 (Nat.le_refl _)), HAw.out, HBw.out, Hg.out.symm, hS0.drewN _, rfl⟩
  case round =>
    obtain ⟨A', n', c', p', B', m', d', q', rfl, rfl, hl', hq', hn', hm', hc', hd', hL', hQ', hN', hM', hA', hB', hAw', hBw', hG', hS', ht'⟩ := hrel
    have HG := Lib.hid hG'
    have HT := Lib.hid ht'
    clear hG' ht' a1 d1 hA hB
    rcases Nat.eq_zero_or_pos m' with h0 | h0
    · have hq0 : q' = [] := List.length_eq_zero_iff.1 (by omega)
      have hz : Hid (Big.sgn false (Big.val 1000000000 p') = (Int.gcd x y : Int)) := by
        show _ = _
        rw [<- HG.out, hq0]
        have := Big.val_nonneg (B := 1000000000) (by omega) hL'
        simp [Big.sgn, Big.val]; omega
      obtain ⟨cs, hcs, hcs2⟩ := hS'.2.2.2
      subst h0
      have hlt := hS'.lt
      clear hq' hq0
      go_wp2_with (fail)
      refine (signed_any wr false A' n' c' p' hl' (by omega) hc' hA').mono ?_
      rintro e w5 ⟨rfl, hB5⟩
      have hS5 := hS'.step hB5
      have hq5 := hB5.size
      obtain ⟨cs5, hcs5, hcs52⟩ := hS5.2.2.2
      obtain ⟨e0, e1, rfl⟩ : ∃ e0 e1, cs5 = #[e0, e1] := by
        obtain ⟨l5⟩ := cs5
        match l5, hcs52 with
        | [a, b], _ => exact ⟨a, b, rfl⟩
      have z0 : w5.cell? ⟨w.heap.size + 1 + 1, 0, none⟩ = some e0 := by rw [cell_of_row w5 (w.heap.size + 1 + 1) _ _ _ _ hcs5]; rfl
      have z1 : w5.cell? ⟨w.heap.size + 1 + 1, 1, none⟩ = some e1 := by rw [cell_of_row w5 (w.heap.size + 1 + 1) _ _ _ _ hcs5]; rfl
      have zf : ∀ j, w5.frozen? ⟨w.heap.size + 1 + 1, j, none⟩ = false := fun j => frozen_of_row w5 (w.heap.size + 1 + 1) _ _ _ hcs5
      have hP := Lib.hid ((PI.mk (neg := false) hl' hn' hc' hL' ((hA'.at_ hB5 (Nat.le_refl _)).away (w' := (w5.setCell ⟨w.heap.size + 1 + 1, 0, none⟩ (.bool (false && decide (0 < (Big.trim p').length)))).setCell ⟨w.heap.size + 1 + 1, 1, none⟩ (.slice A' (Big.trim p').length c')) hAw' (fun b hb => (Below.heap_setCell _ _ _ b (fun e => by simp at e; omega)).trans (Below.heap_setCell _ _ _ b (fun e => by simp at e; omega))))).more (C := ((w5.setCell ⟨w.heap.size + 1 + 1, 0, none⟩ (.bool (false && decide (0 < (Big.trim p').length)))).setCell ⟨w.heap.size + 1 + 1, 1, none⟩ (.slice A' (Big.trim p').length c')).heap.size) (j := k + 1) (by simp) (Nat.le_refl _))
      rw [hz.out] at hP
      have hBf := (hS5.1.setCell (p := ⟨w.heap.size + 1 + 1, 0, none⟩) (by simp; omega) (.bool (false && decide (0 < (Big.trim p').length)))).setCell (p := ⟨w.heap.size + 1 + 1, 1, none⟩) (by simp; omega) (.slice A' (Big.trim p').length c')
      simp only [Bool.false_and] at hP hBf ⊢
      clear hcs5 hcs hcs52 hcs2
      have hw5 : w.heap.size + 1 + 1 < w5.heap.size := by omega
      go_wp2
      refine bodyPost_ret (v := .agg #[.bool false, .slice A' (Big.trim p').length c']) (by simp [results, Tryz.results53, go_sem, z0, z1]) rfl ⟨⟨_, rfl, hP.out⟩, hBf⟩
    · have hlt := hS'.lt
      obtain rfl : m' = 1 := by omega
      go_wp2_with (fail)
      refine (divide_any wr A' B' n' 1 c' d' p' q' hl' hq' (by omega) (by omega) hc' (by omega) hL' hQ' hN' hM' (.inl rfl) hA' hB').mono ?_
      rintro e w4 ⟨hB4, A1, n1, c1, Q, A2, n2, c2, R, rfl, hQl, hRl, hn1, hn2, hc1, hc2, hQL, hRL, hQR, hR0, hR1, hAQ, hAR, hfQ, hfR⟩
      have HRl := Lib.hid hRl
      have HQR := Lib.hid hQR
      clear hQl hRl hQR
      go_wp2_with (go_at_call 81; refine (trim_any w4 A2 n2 c2 R HRl.out (by omega) hc2 hAR).mono ?_; rintro e w5 ⟨rfl, rfl⟩)
      obtain ⟨t1, t2, t3, t4⟩ := Big.trim_spec 1000000000 R
      have hR0' := hR0
      go_roundg (Big.val 1000000000 (Big.trim R)).toNat
      case measure =>
        rw [HT.out, t1]; omega
      case rel =>
        have hrl := HRl.out
        refine ⟨B', 1, d', q', A2, _, c2, Big.trim R, rfl, rfl, hq', rfl, by omega, by omega, hd', by omega, hQ', Big.trim_lim hRL, hM', t2, hB'.at_ hB4 (Nat.le_refl _), by rw [t4]; exact hAR.take _, hBw', ?_, ?_, hS'.step hB4, rfl⟩
        · rcases hfR with ⟨rfl, rfl⟩ | hf
          · rcases hAw' with h | h
            · left; rw [h]; rfl
            · exact .inr h
          · exact .inr fun b o e => .inr (by have := hf b o e; omega)
        · rw [t1, <- HG.out]; exact gcd_step _ _ _ _ HQR.out

theorem gcdg_any (k j : Nat) (u v : Value) (x y : Int) (hk : k <= 400000) (hj : j <= 400000) (hu : PI w w.heap.size k u x) (hv : PI w w.heap.size j v y) :
    Calls Tryz.prog 53 #[u, v] w fun e w' => (∃ r, e = .returned r /\ PI w' w'.heap.size (k + j) r (Int.gcd x y)) /\ Below w.heap.size w w' := by
  obtain ⟨g, A, n, c, l, rfl, hl, hn, hc, hL, hN, hx, hA, _⟩ := hu.parts
  obtain ⟨h, B, m, d, q, rfl, hq, hm, hd, hQ, hM, hy, hB, _⟩ := hv.parts
  have hg : Int.gcd x y = Int.gcd (Big.val 1000000000 l) (Big.val 1000000000 q) := by
    rw [hx, hy]; cases g <;> cases h <;> simp [Big.sgn]
  have hS0 := RegS.start w #[.bool g, .slice A n c] #[.bool h, .slice B m d]
  obtain ⟨W1, hW1⟩ : ∃ W1, W1 = (((w.alloc (.cells #[.bool g, .slice A n c] 39)).alloc (.cells #[.bool h, .slice B m d] 39)).alloc (.cells #[.bool false, .slice none 0 0] 39)) := ⟨_, rfl⟩
  rw [<- hW1] at hS0
  have HW := Lib.hid hW1
  have Hg := Lib.hid hg
  have hq1 := hS0.lt
  have a1 := cell_of_row _ _ 1 _ _ _ hS0.2.1
  have d1 := cell_of_row _ _ 1 _ _ _ hS0.2.2.1
  simp at a1 d1
  have HAw : Hid (Away w.heap.size (w.heap.size + 3) A l) := by
    show Away _ _ _ _
    rcases hA with h | ⟨b, o, e, hb, _⟩
    · exact .inl h
    · exact .inr fun b' o' e' => by rw [e] at e'; cases e'; exact .inl hb
  have HBw : Hid (Away w.heap.size (w.heap.size + 3) B q) := by
    show Away _ _ _ _
    rcases hB with h | ⟨b, o, e, hb, _⟩
    · exact .inl h
    · exact .inr fun b' o' e' => by rw [e] at e'; cases e'; exact .inl hb
  clear hW1 hg hx hy
  go_enter Tryz.func53, Tryz.ntmps53
  go_upto_region 1 with (fail)
  rw [<- HW.out]
  go_quiet (fail)
  go_wp2
  go_loopg [5, 6] (Big.val 1000000000 q).toNat (fun t s5 s6 wr => GcdRelG w #[.bool g, .slice A n c] #[.bool h, .slice B m d] (k + j) (Int.gcd x y) t s5 s6 wr)
  case atStart => exact ⟨A, n, c, l, B, m, d, q, rfl, rfl, hl, hq, by omega, by omega, hc, hd, hL, hQ, hN, hM, (hA.at_ (hS0.drewN nq).1 (Nat.le_refl _)), (hB.at_ (hS0.drewN nq).1 (Nat.le_refl _)), HAw.out, HBw.out, Hg.out.symm, hS0.drewN _, rfl⟩
  case round =>
    obtain ⟨A', n', c', p', B', m', d', q', rfl, rfl, hl', hq', hn', hm', hc', hd', hL', hQ', hN', hM', hA', hB', hAw', hBw', hG', hS', ht'⟩ := hrel
    have HG := Lib.hid hG'
    have HT := Lib.hid ht'
    clear hG' ht' a1 d1 hA hB
    rcases Nat.eq_zero_or_pos m' with h0 | h0
    · have hq0 : q' = [] := List.length_eq_zero_iff.1 (by omega)
      have hz : Hid (Big.sgn false (Big.val 1000000000 p') = (Int.gcd x y : Int)) := by
        show _ = _
        rw [<- HG.out, hq0]
        have := Big.val_nonneg (B := 1000000000) (by omega) hL'
        simp [Big.sgn, Big.val]; omega
      obtain ⟨cs, hcs, hcs2⟩ := hS'.2.2.2
      subst h0
      have hlt := hS'.lt
      clear hq' hq0
      go_wp2_with (fail)
      refine (signed_any wr false A' n' c' p' hl' (by omega) hc' hA').mono ?_
      rintro e w5 ⟨rfl, hB5⟩
      have hS5 := hS'.step hB5
      have hq5 := hB5.size
      obtain ⟨cs5, hcs5, hcs52⟩ := hS5.2.2.2
      obtain ⟨e0, e1, rfl⟩ : ∃ e0 e1, cs5 = #[e0, e1] := by
        obtain ⟨l5⟩ := cs5
        match l5, hcs52 with
        | [a, b], _ => exact ⟨a, b, rfl⟩
      have z0 : w5.cell? ⟨w.heap.size + 1 + 1, 0, none⟩ = some e0 := by rw [cell_of_row w5 (w.heap.size + 1 + 1) _ _ _ _ hcs5]; rfl
      have z1 : w5.cell? ⟨w.heap.size + 1 + 1, 1, none⟩ = some e1 := by rw [cell_of_row w5 (w.heap.size + 1 + 1) _ _ _ _ hcs5]; rfl
      have zf : ∀ j, w5.frozen? ⟨w.heap.size + 1 + 1, j, none⟩ = false := fun j => frozen_of_row w5 (w.heap.size + 1 + 1) _ _ _ hcs5
      have hP := Lib.hid ((PI.mk (neg := false) hl' hn' hc' hL' ((hA'.at_ hB5 (Nat.le_refl _)).away (w' := (w5.setCell ⟨w.heap.size + 1 + 1, 0, none⟩ (.bool (false && decide (0 < (Big.trim p').length)))).setCell ⟨w.heap.size + 1 + 1, 1, none⟩ (.slice A' (Big.trim p').length c')) hAw' (fun b hb => (Below.heap_setCell _ _ _ b (fun e => by simp at e; omega)).trans (Below.heap_setCell _ _ _ b (fun e => by simp at e; omega))))).more (C := ((w5.setCell ⟨w.heap.size + 1 + 1, 0, none⟩ (.bool (false && decide (0 < (Big.trim p').length)))).setCell ⟨w.heap.size + 1 + 1, 1, none⟩ (.slice A' (Big.trim p').length c')).heap.size) (j := k + j) (by simp) (Nat.le_refl _))
      rw [hz.out] at hP
      have hBf := (hS5.1.setCell (p := ⟨w.heap.size + 1 + 1, 0, none⟩) (by simp; omega) (.bool (false && decide (0 < (Big.trim p').length)))).setCell (p := ⟨w.heap.size + 1 + 1, 1, none⟩) (by simp; omega) (.slice A' (Big.trim p').length c')
      simp only [Bool.false_and] at hP hBf ⊢
      clear hcs5 hcs hcs52 hcs2
      have hw5 : w.heap.size + 1 + 1 < w5.heap.size := by omega
      go_wp2
      refine bodyPost_ret (v := .agg #[.bool false, .slice A' (Big.trim p').length c']) (by simp [results, Tryz.results53, go_sem, z0, z1]) rfl ⟨⟨_, rfl, hP.out⟩, hBf⟩
    · have hlt := hS'.lt
      go_wp2_with (fail)
      refine (divideg_any wr A' B' n' m' c' d' p' q' hl' hq' (by omega) (by omega) hc' (by omega) hL' hQ' hN' hM' hA' hB').mono ?_
      rintro e w4 ⟨hB4, A1, n1, c1, Q, A2, n2, c2, R, rfl, hQl, hRl, hn1, hn2, hc1, hc2, hQL, hRL, hQR, hR0, hR1, hAQ, hAR, hfQ, hfR⟩
      have HRl := Lib.hid hRl
      have HQR := Lib.hid hQR
      clear hQl hRl hQR
      go_wp2_with (go_at_call 81; refine (trim_any w4 A2 n2 c2 R HRl.out (by omega) hc2 hAR).mono ?_; rintro e w5 ⟨rfl, rfl⟩)
      obtain ⟨t1, t2, t3, t4⟩ := Big.trim_spec 1000000000 R
      have hR0' := hR0
      go_roundg (Big.val 1000000000 (Big.trim R)).toNat
      case measure =>
        rw [HT.out, t1]; omega
      case rel =>
        have hrl := HRl.out
        refine ⟨B', m', d', q', A2, _, c2, Big.trim R, rfl, rfl, hq', rfl, by omega, by omega, hd', by omega, hQ', Big.trim_lim hRL, hM', t2, hB'.at_ hB4 (Nat.le_refl _), by rw [t4]; exact hAR.take _, hBw', ?_, ?_, hS'.step hB4, rfl⟩
        · rcases hfR with ⟨rfl, rfl⟩ | hf
          · rcases hAw' with h | h
            · left; rw [h]; rfl
            · exact .inr h
          · exact .inr fun b o e => .inr (by have := hf b o e; omega)
        · rw [t1, <- HG.out]; exact gcd_step _ _ _ _ HQR.out
end
end Go.Proofs.YtalfikdjclineaaGreatDoor
