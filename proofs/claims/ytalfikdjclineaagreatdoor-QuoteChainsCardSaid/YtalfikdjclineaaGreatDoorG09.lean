/- My texts IntOf, IntSmall. -/
import Derived.Test.YtalfikdjclineaaGreatDoorG08
set_option linter.unusedVariables false
set_option linter.unusedSimpArgs false
set_option maxRecDepth 100000
set_option maxHeartbeats 8000000
namespace Go.Proofs.YtalfikdjclineaaGreatDoor
open Go.RowKit

def twoTo64 : Int := 18446744073709551616
theorem wrap_neg (n : Int) (h0 : n < 0) (h1 : -9223372036854775808 <= n) : IntKind.u64.wrap n = n + twoTo64 := by
  unfold IntKind.wrap twoTo64
  simp [IntKind.signed, IntKind.bits]
  omega
theorem wrap_back (n : Int) (h0 : n < 0) (h1 : -9223372036854775808 <= n) : IntKind.u64.wrap (-(n + twoTo64)) = -n := by
  unfold IntKind.wrap twoTo64
  simp [IntKind.signed, IntKind.bits]
  omega
theorem of_less {x : Int} {k : Nat} (h : x < 1000000000 ^ (3 - k)) (h0 : 0 < x) : k < 3 /\ x / 1000000000 < 1000000000 ^ (3 - (k + 1)) := by
  have hk : k < 3 := by
    rcases Nat.lt_or_ge k 3 with h3 | h3
    · exact h3
    · rw [show 3 - k = 0 by omega, Int.pow_zero] at h; omega
  refine ⟨hk, Int.ediv_lt_of_lt_mul (by omega) ?_⟩
  rw [<- Int.pow_succ, show (3 - (k + 1)).succ = 3 - k by omega]; exact h
theorem of_step {P : List Int} {k : Nat} {x a : Int} (hv : Big.val 1000000000 P + 1000000000 ^ k * x = a) (hP : P.length = k) : Big.val 1000000000 (P ++ [x % 1000000000]) + 1000000000 ^ (k + 1) * (x / 1000000000) = a := by
  rw [Big.val_snoc, hP, Int.pow_succ, Int.mul_assoc]
  have h1 : (1000000000 : Int) ^ k * (x % 1000000000) + 1000000000 ^ k * (1000000000 * (x / 1000000000)) = 1000000000 ^ k * x := by rw [<- Int.mul_add, Int.emod_add_mul_ediv]
  omega

section
variable (w : World)
theorem of_neg (n : Int) (h0 : n < 0) (h1 : -9223372036854775808 <= n) :
    Calls Tryz.prog 23 #[.int .i64 n] w fun e w' => (∃ r, e = .returned r /\ PI w' w'.heap.size 3 r n) /\ Below w.heap.size w w' := by
  obtain ⟨i0, hi, hz0, hz1, hz2⟩ := info_parts uinfo
  have w1 := wrap_neg n h0 h1
  have w2 := wrap_back n h0 h1
  have hB0 := (Below.refl w.heap.size w).alloc (Nat.le_refl _) (.cells #[.bool false, .slice none 0 0] 39)
  have hZ0 := heap_alloc_new w (.cells #[.bool false, .slice none 0 0] 39)
  go_enter Tryz.func23, Tryz.ntmps23
  go_wp2
  clear w1 w2
  go_loopw [3, 4] (fun u v wr => ∃ (k : Nat) (P : List Int) (x : Int), k <= 3 /\ u = .int .u64 x /\ 0 <= x /\ x <= 9223372036854775808 /\ x < 1000000000 ^ (3 - k) /\ P.length = k /\ Big.Lim 1000000000 P /\ (x = 0 -> Big.Norm P) /\ Big.val 1000000000 P + 1000000000 ^ k * x = -n /\
    wr.ownsRow (w.heap.size + 1) 94 1 v k (P.map (Value.int .u32)) /\ Below w.heap.size w wr /\ wr.heap[w.heap.size]? = some (.cells #[.bool false, .slice none 0 0] 39 (0, 0))) (fun u _ _ => (intOf u).toNat)
  case atStart => exact ⟨0, [], -n, by omega, rfl, by omega, by omega, by omega, rfl, Big.Lim.nil, fun _ => Big.Norm.nil, by simp [Big.val], World.ownsRow_nil _ _ _ _, hB0, hZ0⟩
  case round =>
    obtain ⟨k, P, x, hk, rfl, hx0, hxm, hx1, hPl, hPL, hPN, hv, hown, hb, hZ⟩ := hrel
    have HPl := Lib.hid hPl
    have HPL := Lib.hid hPL
    have HPN := Lib.hid hPN
    have Hv := Lib.hid hv
    have HZ := Lib.hid hZ
    have Hx1 := Lib.hid hx1
    have hgr : w.heap.size < wr.heap.size := (Array.getElem?_eq_some_iff.1 hZ).1
    clear hPl hPL hPN hv hZ hZ0 hx1
    by_cases hx : 0 < x
    · obtain ⟨h3, hd⟩ := of_less Hx1.out hx
      have Hd := Lib.hid hd
      have Hnew := Lib.hid (one_cell (heap_alloc_new wr (.cells #[.int .u32 (x % 1000000000)] 94)))
      have Hown := Lib.hid (hown.alloc (.cells #[.int .u32 (x % 1000000000)] 94))
      have Hone : Hid (∀ u ∈ ([Value.int .u32 (x % 1000000000)] : List Value), u.oneCell' = true) := by show ∀ u ∈ _, _; simp [Value.oneCell']
      clear hd
      go_wp2_with (at_builtin; refine wpList_append_own _ rfl _ _ 37 rfl (w.heap.size + 1) 94 i0 (.int .u32 0) 1 4 Tryz.underlying37 hi hz0 hz1 hz2 rfl (by decide) _ _ _ rfl Hown.out ⟨wr.heap.size, 0, none⟩ 1 1 [.int .u32 (x % 1000000000)] rfl rfl Hnew.out Hone.out (by unfold maxLen; omega) (by omega) (by simp; omega) ?_)
      intro v' w9 hown' hgrow _
      have hb9 := (hb.alloc hb.size (.cells #[.int .u32 (x % 1000000000)] 94)).grown hgrow (by simp; omega) (fun q hq => by have := own_base hown q hq; omega)
      have hZ9 := (hgrow.block w.heap.size (by simp; omega) (fun e => by have := own_base hown w.heap.size e.symm; omega)).trans ((Below.heap_alloc wr (.cells #[.int .u32 (x % 1000000000)] 94) _ hgr).trans HZ.out)
      have HZ9 := Lib.hid hZ9
      clear hZ9
      go_wp2
      go_roundw
      case rel =>
        refine ⟨k + 1, P ++ [x % 1000000000], x / 1000000000, by omega, rfl, by omega, by omega, Hd.out, by have := HPl.out; simp; omega, Big.Lim.append.2 ⟨HPL.out, fun a ha => ?_⟩, fun h0 => Big.norm_snoc (by omega), of_step Hv.out HPl.out, by rw [List.map_append]; exact hown', hb9, HZ9.out⟩
        rw [List.mem_singleton] at ha; subst ha; omega
      case measure => simp [intOf]; omega
    · obtain rfl : x = 0 := by omega
      have hN := HPN.out rfl
      have hval : Hid (Big.val 1000000000 P = -n) := by show _ = _; have := Hv.out; rwa [Int.mul_zero, Int.add_zero] at this
      obtain ⟨A, c, rfl, hkc, hlim⟩ := limbs_own hown HPl.out.symm
      have hAb := Lib.hid (fun b o (e : A = some ⟨b, o, none⟩) => own_base hown b (by rw [e]; rfl))
      have Hlim := Lib.hid hlim
      have z0 : wr.cell? ⟨w.heap.size, 0, none⟩ = some (.bool false) := by rw [cell_of_row _ _ _ _ _ _ HZ.out]; rfl
      have z1 : wr.cell? ⟨w.heap.size, 1, none⟩ = some (.slice none 0 0) := by rw [cell_of_row _ _ _ _ _ _ HZ.out]; rfl
      have zf : ∀ j, wr.frozen? ⟨w.heap.size, j, none⟩ = false := fun j => frozen_of_row _ _ _ _ _ HZ.out
      have hBf := (hb.setCell (p := ⟨w.heap.size, 0, none⟩) (by simp) (.bool true)).setCell (p := ⟨w.heap.size, 1, none⟩) (by simp) (.slice A k c)
      have HL2 := Lib.hid ((hlim.other (w' := (wr.setCell ⟨w.heap.size, 0, none⟩ (.bool true)).setCell ⟨w.heap.size, 1, none⟩ (.slice A k c)) (fun b o e => by
        have := hAb.out b o e
        exact (Below.heap_setCell _ _ _ b (fun e => by simp at e; omega)).trans (Below.heap_setCell _ _ _ b (fun e => by simp at e; omega)))).more (C := ((wr.setCell ⟨w.heap.size, 0, none⟩ (.bool true)).setCell ⟨w.heap.size, 1, none⟩ (.slice A k c)).heap.size) (by simp))
      clear hlim hown
      go_wp2
      refine bodyPost_ret (v := .agg #[.bool true, .slice A k c]) (by simp [results, Tryz.results23, go_sem, z0, z1]) rfl ⟨⟨_, rfl, true, A, k, c, P, rfl, HPl.out, hk, hkc, HPL.out, hN, ?_, ?_, HL2.out⟩, hBf⟩
      · intro _
        rcases Nat.eq_zero_or_pos k with h | h
        · exfalso
          have h2 := HPl.out
          rw [h] at h2
          have h3 := hval.out
          rw [List.length_eq_zero_iff.1 h2] at h3
          simp [Big.val] at h3; omega
        · exact h
      · rw [hval.out]; simp [Big.sgn]
theorem of_pos (n : Int) (h0 : 0 <= n) (h1 : n <= 9223372036854775807) :
    Calls Tryz.prog 23 #[.int .i64 n] w fun e w' => (∃ r, e = .returned r /\ PI w' w'.heap.size 3 r n) /\ Below w.heap.size w w' := by
  obtain ⟨i0, hi, hz0, hz1, hz2⟩ := info_parts uinfo
  have hdn : decide (n < 0) = false := decide_eq_false (by omega)
  have hB0 := (Below.refl w.heap.size w).alloc (Nat.le_refl _) (.cells #[.bool false, .slice none 0 0] 39)
  have hZ0 := heap_alloc_new w (.cells #[.bool false, .slice none 0 0] 39)
  go_enter Tryz.func23, Tryz.ntmps23
  go_wp2
  go_loopw [3, 4] (fun u v wr => ∃ (k : Nat) (P : List Int) (x : Int), k <= 3 /\ u = .int .u64 x /\ 0 <= x /\ x <= 9223372036854775808 /\ x < 1000000000 ^ (3 - k) /\ P.length = k /\ Big.Lim 1000000000 P /\ (x = 0 -> Big.Norm P) /\ Big.val 1000000000 P + 1000000000 ^ k * x = n /\
    wr.ownsRow (w.heap.size + 1) 94 1 v k (P.map (Value.int .u32)) /\ Below w.heap.size w wr /\ wr.heap[w.heap.size]? = some (.cells #[.bool false, .slice none 0 0] 39 (0, 0))) (fun u _ _ => (intOf u).toNat)
  case atStart => exact ⟨0, [], n, by omega, rfl, by omega, by omega, by omega, rfl, Big.Lim.nil, fun _ => Big.Norm.nil, by simp [Big.val], World.ownsRow_nil _ _ _ _, hB0, hZ0⟩
  case round =>
    obtain ⟨k, P, x, hk, rfl, hx0, hxm, hx1, hPl, hPL, hPN, hv, hown, hb, hZ⟩ := hrel
    have HPl := Lib.hid hPl
    have HPL := Lib.hid hPL
    have HPN := Lib.hid hPN
    have Hv := Lib.hid hv
    have HZ := Lib.hid hZ
    have Hx1 := Lib.hid hx1
    have hgr : w.heap.size < wr.heap.size := (Array.getElem?_eq_some_iff.1 hZ).1
    clear hPl hPL hPN hv hZ hZ0 hx1
    by_cases hx : 0 < x
    · obtain ⟨h3, hd⟩ := of_less Hx1.out hx
      have Hd := Lib.hid hd
      have Hnew := Lib.hid (one_cell (heap_alloc_new wr (.cells #[.int .u32 (x % 1000000000)] 94)))
      have Hown := Lib.hid (hown.alloc (.cells #[.int .u32 (x % 1000000000)] 94))
      have Hone : Hid (∀ u ∈ ([Value.int .u32 (x % 1000000000)] : List Value), u.oneCell' = true) := by show ∀ u ∈ _, _; simp [Value.oneCell']
      clear hd
      go_wp2_with (at_builtin; refine wpList_append_own _ rfl _ _ 37 rfl (w.heap.size + 1) 94 i0 (.int .u32 0) 1 4 Tryz.underlying37 hi hz0 hz1 hz2 rfl (by decide) _ _ _ rfl Hown.out ⟨wr.heap.size, 0, none⟩ 1 1 [.int .u32 (x % 1000000000)] rfl rfl Hnew.out Hone.out (by unfold maxLen; omega) (by omega) (by simp; omega) ?_)
      intro v' w9 hown' hgrow _
      have hb9 := (hb.alloc hb.size (.cells #[.int .u32 (x % 1000000000)] 94)).grown hgrow (by simp; omega) (fun q hq => by have := own_base hown q hq; omega)
      have hZ9 := (hgrow.block w.heap.size (by simp; omega) (fun e => by have := own_base hown w.heap.size e.symm; omega)).trans ((Below.heap_alloc wr (.cells #[.int .u32 (x % 1000000000)] 94) _ hgr).trans HZ.out)
      have HZ9 := Lib.hid hZ9
      clear hZ9
      go_wp2
      go_roundw
      case rel =>
        refine ⟨k + 1, P ++ [x % 1000000000], x / 1000000000, by omega, rfl, by omega, by omega, Hd.out, by have := HPl.out; simp; omega, Big.Lim.append.2 ⟨HPL.out, fun a ha => ?_⟩, fun h0 => Big.norm_snoc (by omega), of_step Hv.out HPl.out, by rw [List.map_append]; exact hown', hb9, HZ9.out⟩
        rw [List.mem_singleton] at ha; subst ha; omega
      case measure => simp [intOf]; omega
    · obtain rfl : x = 0 := by omega
      have hN := HPN.out rfl
      have hval : Hid (Big.val 1000000000 P = n) := by show _ = _; have := Hv.out; rwa [Int.mul_zero, Int.add_zero] at this
      obtain ⟨A, c, rfl, hkc, hlim⟩ := limbs_own hown HPl.out.symm
      have hAb := Lib.hid (fun b o (e : A = some ⟨b, o, none⟩) => own_base hown b (by rw [e]; rfl))
      have Hlim := Lib.hid hlim
      have z0 : wr.cell? ⟨w.heap.size, 0, none⟩ = some (.bool false) := by rw [cell_of_row _ _ _ _ _ _ HZ.out]; rfl
      have z1 : wr.cell? ⟨w.heap.size, 1, none⟩ = some (.slice none 0 0) := by rw [cell_of_row _ _ _ _ _ _ HZ.out]; rfl
      have zf : ∀ j, wr.frozen? ⟨w.heap.size, j, none⟩ = false := fun j => frozen_of_row _ _ _ _ _ HZ.out
      have hBf := (hb.setCell (p := ⟨w.heap.size, 0, none⟩) (by simp) (.bool false)).setCell (p := ⟨w.heap.size, 1, none⟩) (by simp) (.slice A k c)
      have HL2 := Lib.hid ((hlim.other (w' := (wr.setCell ⟨w.heap.size, 0, none⟩ (.bool false)).setCell ⟨w.heap.size, 1, none⟩ (.slice A k c)) (fun b o e => by
        have := hAb.out b o e
        exact (Below.heap_setCell _ _ _ b (fun e => by simp at e; omega)).trans (Below.heap_setCell _ _ _ b (fun e => by simp at e; omega)))).more (C := ((wr.setCell ⟨w.heap.size, 0, none⟩ (.bool false)).setCell ⟨w.heap.size, 1, none⟩ (.slice A k c)).heap.size) (by simp))
      clear hlim hown
      go_wp2
      refine bodyPost_ret (v := .agg #[.bool false, .slice A k c]) (by simp [results, Tryz.results23, go_sem, z0, z1]) rfl ⟨⟨_, rfl, false, A, k, c, P, rfl, HPl.out, hk, hkc, HPL.out, hN, ?_, ?_, HL2.out⟩, hBf⟩
      · intro h; cases h
      · rw [hval.out]; simp [Big.sgn]
theorem of_int (n : Int) (h1 : -9223372036854775808 <= n) (h2 : n <= 9223372036854775807) :
    Calls Tryz.prog 23 #[.int .i64 n] w fun e w' => (∃ r, e = .returned r /\ PI w' w'.heap.size 3 r n) /\ Below w.heap.size w w' := by
  by_cases h : n < 0
  · exact of_neg w n h h1
  · exact of_pos w n (by omega) h2
end

def RegU (w : World) (X : Array Value) (W' : World) : Prop := Below w.heap.size w W' /\ W'.heap[w.heap.size]? = some (.cells X 39 (0, 0))
theorem RegU.lt {w W : World} {X : Array Value} (h : RegU w X W) : w.heap.size < W.heap.size := (Array.getElem?_eq_some_iff.1 h.2).1
theorem RegU.step {w W W' : World} {X : Array Value} (h : RegU w X W) (hb : Below W.heap.size W W') : RegU w X W' := ⟨h.1.trans (hb.mono h.1.size), (hb.block _ h.lt).trans h.2⟩
theorem RegU.drew {w W : World} {X : Array Value} (h : RegU w X W) : RegU w X W.drew := ⟨below_drawn h.1 1, h.2⟩
theorem RegU.start (w : World) (X : Array Value) : RegU w X (w.alloc (.cells X 39)) := ⟨(Below.refl _ _).alloc (Nat.le_refl _) _, heap_alloc_new w _⟩
theorem drop_le {l : List Int} (hL : Big.Lim 1000000000 l) (k : Nat) (hk : k <= l.length) : Big.val 1000000000 (l.drop k) <= Big.val 1000000000 l /\ 0 <= Big.val 1000000000 (l.drop k) := by
  have h0 := Big.val_nonneg (B := 1000000000) (by omega) (hL.drop k)
  have h1 := Big.val_nonneg (B := 1000000000) (by omega) (hL.take k)
  have h2 := Big.val_split 1000000000 l k hk
  have h3 : 1 * Big.val 1000000000 (l.drop k) <= 1000000000 ^ k * Big.val 1000000000 (l.drop k) := Int.mul_le_mul_of_nonneg_right (by have := Big.pow_pos (B := 1000000000) (by omega) k; omega) h0
  omega
theorem wrap_u (v : Int) (h0 : 0 < v) (h1 : v <= 9223372036854775808) : IntKind.u64.wrap (-v) = twoTo64 - v := by
  unfold IntKind.wrap twoTo64
  simp [IntKind.signed, IntKind.bits]
  omega
theorem wrap_i (v : Int) (h0 : 0 < v) (h1 : v <= 9223372036854775808) : IntKind.i64.wrap (twoTo64 - v) = -v := by
  rw [IntKind.wrap_i64]; unfold twoTo64; omega

section
variable (w : World)
end
end Go.Proofs.YtalfikdjclineaaGreatDoor
