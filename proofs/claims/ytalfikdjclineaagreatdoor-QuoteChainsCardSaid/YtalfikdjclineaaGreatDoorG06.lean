/- My texts DivL, DivW. -/
import Derived.Test.YtalfikdjclineaaGreatDoorG01
import Derived.Test.YtalfikdjclineaaGreatDoorG04
import Derived.Test.YtalfikdjclineaaGreatDoorG05
set_option linter.unusedVariables false
set_option linter.unusedSimpArgs false
set_option maxRecDepth 100000
set_option maxHeartbeats 8000000
namespace Go.Proofs.YtalfikdjclineaaGreatDoor
namespace Big
theorem scale_spec {top : Int} (h0 : 1 <= top) (h1 : top < 1000000000) : 1 <= 1000000000 / (top + 1) /\ 1000000000 / (top + 1) <= 500000000 /\ 1000000000 / (top + 1) * (top + 1) <= 1000000000 := by
  refine ⟨?_, ?_, Int.ediv_mul_le _ (by omega)⟩
  · exact (Int.le_ediv_iff_mul_le (by omega)).2 (by omega)
  · have h2 : 1000000000 / (top + 1) < 500000001 := Int.ediv_lt_of_lt_mul (by omega) (by omega)
    omega
theorem scaled_len {q V : List Int} {k : Nat} {s : Int} (hq : q.length = k + 2) (hL : Lim 1000000000 q) (hN : Norm q) (s0 : 1 <= s) (s1 : s * (q[k + 1] + 1) <= 1000000000) (hV : Lim 1000000000 V) (hVN : Norm V) (hv : val 1000000000 V = val 1000000000 q * s) : V.length = k + 2 := by
  have hB : (0 : Int) < 1000000000 := by omega
  have hP := pow_pos hB (k + 1)
  have u1 : val 1000000000 q < 1000000000 ^ (k + 1) * (q[k + 1] + 1) := by
    rw [val_split 1000000000 q (k + 1) (by omega), val_drop 1000000000 q (k + 1) (by omega)]
    have h4 : List.drop (k + 1 + 1) q = [] := List.drop_of_length_le (by omega)
    rw [h4, val_nil, Int.mul_zero, Int.add_zero]
    have := (low_bd hB hL (k := k + 1) (by omega)).2
    rw [Int.mul_add, Int.mul_one]; omega
  have u2 : val 1000000000 q * s < 1000000000 ^ (k + 1) * (q[k + 1] + 1) * s := Int.mul_lt_mul_of_pos_right u1 (by omega)
  have u3 : 1000000000 ^ (k + 1) * (q[k + 1] + 1) * s <= 1000000000 ^ (k + 1) * 1000000000 := by
    rw [Int.mul_assoc, Int.mul_comm (q[k + 1] + 1) s]
    exact Int.mul_le_mul_of_nonneg_left s1 (by omega)
  have u4 : V.length <= k + 2 := length_le (by omega) hV hVN (k + 2) (by rw [hv, Int.pow_succ]; omega)
  have u5 := norm_ge hB hL hN (by omega)
  rw [hq, show k + 2 - 1 = k + 1 by omega] at u5
  rcases Nat.lt_or_ge V.length (k + 2) with h | h
  · exfalso
    have h1 := val_lt hB hV
    have h2 := pow_le (B := 1000000000) (by omega) (show V.length <= k + 1 by omega)
    have h3 : val 1000000000 q * 1 <= val 1000000000 q * s := Int.mul_le_mul_of_nonneg_left s0 (by omega)
    omega
  · omega
theorem first_lt {p q U : List Int} {k e : Nat} {s : Int} (hp : p.length = k + 2 + e) (hq : q.length = k + 2) (hL : Lim 1000000000 p) (hQ : Lim 1000000000 q) (hN : Norm q) (s0 : 1 <= s) (hU : U.length = k + 3 + e) (hUL : Lim 1000000000 U) (hv : val 1000000000 U = val 1000000000 p * s) :
    val 1000000000 (U.drop (e + 1)) < val 1000000000 q * s := by
  have hB : (0 : Int) < 1000000000 := by omega
  have h1 := val_lt hB hL
  rw [hp, show k + 2 + e = (e + 1) + (k + 1) by omega, Int.pow_add] at h1
  have h2 := norm_ge hB hQ hN (by omega)
  rw [hq, show k + 2 - 1 = k + 1 by omega] at h2
  have h3 := val_split 1000000000 U (e + 1) (by omega)
  have h4 := (low_bd hB hUL (k := e + 1) (by omega)).1
  have hP := pow_pos hB (e + 1)
  have h5 : val 1000000000 p * s < 1000000000 ^ (e + 1) * 1000000000 ^ (k + 1) * s := Int.mul_lt_mul_of_pos_right h1 (by omega)
  have h6 : 1000000000 ^ (e + 1) * 1000000000 ^ (k + 1) * s <= 1000000000 ^ (e + 1) * (val 1000000000 q * s) := by
    rw [Int.mul_assoc]
    exact Int.mul_le_mul_of_nonneg_left (Int.mul_le_mul_of_nonneg_right h2 (by omega)) (by omega)
  have h7 : 1000000000 ^ (e + 1) * val 1000000000 (U.drop (e + 1)) < 1000000000 ^ (e + 1) * (val 1000000000 q * s) := by omega
  exact Int.lt_of_mul_lt_mul_left h7 (Int.le_of_lt hP)
theorem div_round {L W W' Qs : List Int} {t : Nat} {x dq V U : Int} (hL : L.length = t) (h : val 1000000000 (L ++ [x] ++ W) + 1000000000 ^ (t + 1) * (val 1000000000 Qs * V) = U)
    (hd : val 1000000000 (x :: W) = dq * V + val 1000000000 (W' ++ [0])) : val 1000000000 (L ++ W') + 1000000000 ^ t * (val 1000000000 (dq :: Qs) * V) = U := by
  rw [List.append_assoc, List.singleton_append, val_append, hL, hd, val_snoc, Int.mul_zero, Int.add_zero, Int.mul_add] at h
  rw [val_append, hL, val_cons, Int.add_mul, Int.mul_add]
  have e : 1000000000 ^ (t + 1) * (val 1000000000 Qs * V) = 1000000000 ^ t * (1000000000 * val 1000000000 Qs * V) := by
    rw [Int.pow_succ, Int.mul_assoc, Int.mul_assoc]
  rw [e] at h
  omega
theorem mul_small {s k r : Int} (h : s * k = r) (h0 : 0 <= r) (h1 : r < s) : k = 0 := by
  rcases Int.lt_trichotomy k 0 with hk | hk | hk
  · have : s * k <= s * (-1) := Int.mul_le_mul_of_nonneg_left (by omega) (by omega)
    omega
  · exact hk
  · have : s * 1 <= s * k := Int.mul_le_mul_of_nonneg_left (by omega) (by omega)
    omega
theorem div_end {a b Q X R r s : Int} (h : X + Q * (b * s) = a * s) (hX : X < b * s) (hR : X = s * R + r) (r0 : 0 <= r) (r1 : r < s) : a = b * Q + R /\ R < b := by
  have e1 : s * (a - b * Q - R) = r := by
    rw [Int.mul_sub, Int.mul_sub]
    have e2 : Q * (b * s) = s * (b * Q) := by rw [Int.mul_left_comm Q b s, Int.mul_left_comm s b Q, Int.mul_comm Q s]
    have e3 : a * s = s * a := Int.mul_comm _ _
    omega
  have e4 := mul_small e1 r0 r1
  refine ⟨by omega, ?_⟩
  have e5 : s * R < s * b := by rw [Int.mul_comm s b]; omega
  exact Int.lt_of_mul_lt_mul_left e5 (by omega)
end Big
end Go.Proofs.YtalfikdjclineaaGreatDoor
namespace Go.Proofs.YtalfikdjclineaaGreatDoor
open Go.RowKit
theorem Arr.away {K : IntKind} {e : TypeId} {w w' : World} {g X : Nat} {F : List Int} (h : Arr K e w g F) (hg : w.grownBy w' (some X)) (hne : g ≠ X) : Arr K e w' g F :=
  (hg.block g h.lt (fun e => hne (Option.some.inj e))).trans h
theorem LimbsAt.awayG {K : IntKind} {w w' : World} {A : Option Addr} {l : List Int} {X : Nat} (h : LimbsAt K w w.heap.size A l) (hg : w.grownBy w' (some X)) (hne : ∀ b o, A = some ⟨b, o, none⟩ -> b ≠ X) : LimbsAt K w' w'.heap.size A l := by
  rcases h with h | ⟨b, o, e, hl, hc, ht⟩
  · exact .inl h
  · have hb := hg.block b hl (fun e' => hne b o e (Option.some.inj e'))
    exact .inr ⟨b, o, e, Nat.lt_of_lt_of_le hl hg.size, fun k hk => (World.cell?_of_block (w := w) (a := ⟨b, o + k, none⟩) hb).trans (hc k hk), ht.of_block hb⟩
theorem row_nw (w : World) (X : Array Value) (t : TypeId) : Below w.heap.size w (w.alloc (.cells X t)) /\ (w.alloc (.cells X t)).heap[w.heap.size]? = some (.cells X t (0, 0)) /\ (w.alloc (.cells X t)).heap.size = w.heap.size + 1 :=
  ⟨(Below.refl _ _).alloc (Nat.le_refl _) _, heap_alloc_new w _, by simp⟩
section
variable (w : World)
theorem divideg_any (A B : Option Addr) (n m c d : Nat) (p q : List Int) (hl : p.length = n) (hq : q.length = m) (hn : n <= 900000) (hm : m <= 900000) (hc : n <= c) (hm0 : 0 < m) (hL : Big.Lim 1000000000 p) (hQ : Big.Lim 1000000000 q) (hNp : Big.Norm p) (hNq : Big.Norm q)
    (hA' : LimbsAt .u32 w w.heap.size A p) (hB' : LimbsAt .u32 w w.heap.size B q) :
    Calls Tryz.prog 82 #[.slice A n c, .slice B m d] w (DivPost A p n m (Big.val 1000000000 p) (Big.val 1000000000 q) w) := by
  by_cases hone : m = 1 ∨ Big.val 1000000000 p < Big.val 1000000000 q
  · exact divide_any w A B n m c d p q hl hq (by omega) (by omega) hc hm0 hL hQ hNp hNq hone hA' hB'
  have hge : Big.val 1000000000 q <= Big.val 1000000000 p := by omega
  obtain ⟨k, rfl⟩ : ∃ k, m = k + 2 := ⟨m - 2, by omega⟩
  have hnm : k + 2 <= n := by
    rcases Nat.lt_or_ge n (k + 2) with h | h
    · have := Big.longer_lt (B := 1000000000) (by omega) hL hQ hNq (by omega); omega
    · exact h
  obtain ⟨e, rfl⟩ : ∃ e, n = k + 2 + e := ⟨n - (k + 2), by omega⟩
  have hcm : 0 <= cm (Big.val 1000000000 p) (Big.val 1000000000 q) := by unfold cm; rw [if_neg (by omega)]; split <;> omega
  obtain ⟨z, hz⟩ : ∃ z, cm (Big.val 1000000000 p) (Big.val 1000000000 q) = z := ⟨_, rfl⟩
  rw [hz] at hcm
  have Hz := Lib.hid hz
  obtain ⟨b, o, rfl, hbB, hqc⟩ := hB'.look (k := k + 1) (by omega)
  obtain ⟨top, htop⟩ : ∃ x, x = q[k + 1] := ⟨_, rfl⟩
  rw [<- htop] at hqc
  have tq := hQ.get (k + 1) (by omega)
  have tl := hNq.last (by omega)
  have tl' : q[k + 1] ≠ 0 := by have e : q.length - 1 = k + 1 := by omega
                                simpa only [e] using tl
  rw [<- htop] at tq tl'
  have tp : 1 <= top := by omega
  obtain ⟨s, hs⟩ : ∃ s, s = 1000000000 / (top + 1) := ⟨_, rfl⟩
  have sp := Big.scale_spec tp tq.2
  rw [<- hs] at sp
  have sp3 := sp.2.2
  rw [htop] at sp3
  have Sp := Lib.hid sp3
  have Hs := Lib.hid hs
  have sp1 := sp.1
  have sp2 := sp.2.1
  have tq2 := tq.2
  have HL := Lib.hid hL
  have HQ := Lib.hid hQ
  have HNq := Lib.hid hNq
  have Hl := Lib.hid hl
  have Hq := Lib.hid hq
  clear hz hone htop tl tl' hs sp sp3 tq
  go_enter Tryz.func82, Tryz.ntmps82
  go_wp2_with (fail)
  refine (compare_any w A _ (k + 2 + e) (k + 2) c d p q hl hq (by omega) (by omega) hL hQ hNp hNq hA' hB').mono ?_
  rw [Hz.out]
  rintro e1 w1 ⟨rfl, hB1⟩
  have hq1 := hB1.size
  have hbw1 : b < w1.heap.size := by omega
  have x1 := (hB1.cell (p := ⟨b, o + (k + 1), none⟩) hbB).trans hqc
  have HA1 := Lib.hid (hA'.at_ hB1 (Nat.le_refl _))
  have HQ1 := Lib.hid (hB'.at_ hB1 (Nat.le_refl _))
  clear hL hQ hNp hNq hA' hB' hqc
  obtain ⟨hB2', hb2, hz2⟩ := row_nw w1 #[.int .u32 (1000000000 / (top + 1))] 94
  obtain ⟨W2, hW2⟩ : ∃ W2, W2 = w1.alloc (.cells #[.int .u32 (1000000000 / (top + 1))] 94) := ⟨_, rfl⟩
  rw [<- hW2] at hB2' hb2 hz2
  rw [<- Hs.out] at hb2
  have HW2 := Lib.hid hW2
  have hB2 := hB1.trans (hB2'.mono hB1.size)
  have HA2 := Lib.hid (HA1.out.at_ hB2' (Nat.le_refl _))
  have HQ2 := Lib.hid (HQ1.out.at_ hB2' (Nat.le_refl _))
  have hs2 : Arr .u32 94 W2 w1.heap.size [s] := hb2
  have Hs2 := Lib.hid hs2
  have sz2 : w1.heap.size < W2.heap.size := by omega
  have HS2 := Lib.hid (hs2.limbs (B := W2.heap.size) (by omega))
  have hSL : Big.Lim 1000000000 [s] := Big.Lim.cons.2 ⟨⟨by omega, by omega⟩, Big.Lim.nil⟩
  have HSL := Lib.hid hSL
  clear hW2 hb2 hz2 hs2 hSL
  go_upto_region 6 with (fail)
  rw [<- HW2.out]
  go_wp2_with (fail)
  refine (times_arr W2 A _ (k + 2 + e) 1 c 1 p [s] hl rfl (by omega) (by omega) HL.out HSL.out HA2.out HS2.out).mono ?_
  rintro e3 W3 ⟨hB3, U0, rfl, hUl, hUL, hUv, hUa⟩
  rw [Big.val_one] at hUv
  have HUl := Lib.hid hUl
  have HUL := Lib.hid hUL
  have HUv := Lib.hid hUv
  have HUa := Lib.hid hUa
  have sz3 : W2.heap.size < W3.heap.size := hUa.lt
  have HQ3 := Lib.hid (HQ2.out.at_ hB3 (Nat.le_refl _))
  have HS3 := Lib.hid (HS2.out.at_ hB3 (Nat.le_refl _))
  have hB03 := hB2.trans (hB3.mono hB2.size)
  clear hUl hUL hUv hUa
  go_wp2_with (fail)
  refine (times_arr W3 _ _ (k + 2) 1 d 1 q [s] hq rfl (by omega) (by omega) HQ.out HSL.out HQ3.out HS3.out).mono ?_
  rintro e4 W4 ⟨hB4, V0, rfl, hVl, hVL, hVv, hVa⟩
  rw [Big.val_one] at hVv
  have sz4 : W3.heap.size < W4.heap.size := hVa.lt
  have hB04 := hB03.trans (hB4.mono hB03.size)
  have HUa4 := Lib.hid (HUa.out.below hB4 sz3)
  have hVA := hVa.limbs (B := W4.heap.size) sz4
  have HVA := Lib.hid hVA
  have HVL := Lib.hid hVL
  have HVl := Lib.hid hVl
  obtain ⟨t1, t2, t3, t4⟩ := Big.trim_spec 1000000000 V0
  obtain ⟨V, hV⟩ : ∃ V, V = Big.trim V0 := ⟨_, rfl⟩
  have htl := Big.trim_lim hVL
  rw [<- hV] at t1 t2 t3 t4 htl
  rw [hVv] at t1
  have hVk := Big.scaled_len hq HQ.out HNq.out sp1 Sp.out htl t2 t1
  have HV := Lib.hid hV
  have HVv := Lib.hid t1
  have HVN := Lib.hid t2
  have HVLt := Lib.hid htl
  have HVk := Lib.hid hVk
  have HVt : Hid (LimbsAt .u32 W4 W4.heap.size (some ⟨W3.heap.size, 0, none⟩) V) := Lib.hid (by rw [t4]; exact hVA.take _)
  have HS4 := Lib.hid (Hs2.out.below (hB3.trans (hB4.mono hB3.size)) sz2)
  clear t1 t2 t3 t4 htl hVk hVl hVL hVv hVa hVA hV
  go_wp2_with (fail)
  refine (trim_any W4 _ (k + 2 + 1) (k + 2 + 1) V0 HVl.out (by omega) (by omega) HVA.out).mono ?_
  rintro e5 w5 ⟨rfl, rfl⟩
  rw [<- HV.out, HVk.out]
  go_upto_region 7 with (fail)
  have tlast := HVN.out.last (by have := HVk.out; omega)
  have tl1 : 1 <= V[k + 1]'(by have := HVk.out; omega) := by
    have e9 : V.length - 1 = k + 1 := by have := HVk.out; omega
    have h9 := HVLt.out.get (k + 1) (by have := HVk.out; omega)
    have h8 : V[k + 1]'(by have := HVk.out; omega) ≠ 0 := by simpa only [e9] using tlast
    omega
  have Ht1 := Lib.hid tl1
  clear tlast tl1
  go_wp2
  go_loopw [7] (fun uv wr => uv = .slice (some ⟨W2.heap.size, 0, none⟩) (k + 2 + e + 1) (k + 2 + e + 1) /\ W4 = wr) (fun _ _ => 0)
  case atStart => exact ⟨rfl, rfl⟩
  case round =>
    obtain ⟨rfl, rfl⟩ := hrel
    obtain ⟨i0, hi, hz0, hz1, hz2⟩ := info_parts uinfo
    have he1 : e + 1 <= 10000000 := by omega
    go_upto_region 11 with (refine wpList_make_arr rfl _ _ 37 rfl .u32 94 i0 4 Tryz.underlying37 hi hz0 hz1 hz2 _ _ _ _ (e + 1) (e + 1) rfl rfl (by omega) (by omega) (Nat.le_refl _) (by decide) he1 ?_; intro W5 hW5)
    have hq5 : Arr .u32 94 W5 W4.heap.size (List.replicate (e + 1) 0) := by unfold Arr; rw [hW5.out]; exact heap_alloc_new W4 _
    have hB5 : Below W4.heap.size W4 W5 := by rw [hW5.out]; exact (Below.refl _ _).alloc (Nat.le_refl _) _
    have HQ5 := Lib.hid hq5
    have HU5 := Lib.hid (HUa4.out.below hB5 (by omega))
    have HV5 := Lib.hid (HVt.out.at_ hB5 (Nat.le_refl _))
    have HS5 := Lib.hid (HS4.out.below hB5 (by omega))
    have hB05 := hB04.trans (hB5.mono hB04.size)
    have hw2 : w.heap.size <= W2.heap.size := hB2.size
    have hw4 : w.heap.size <= W4.heap.size := hB04.size
    have hU1 : U0.length = k + 3 + e := by rw [HUl.out]; omega
    have hUd : (U0.drop (e + 1)).length = k + 2 := by rw [List.length_drop, hU1]; omega
    have hUt : (U0.take (e + 1)).length = e + 1 := by rw [List.length_take, hU1]; omega
    have hfirst : Big.val 1000000000 (U0.drop (e + 1)) < Big.val 1000000000 V := by rw [HVv.out]; exact Big.first_lt hl hq HL.out HQ.out HNq.out sp1 hU1 HUL.out HUv.out
    have Hst : Hid (∃ (L W Qs : List Int), L.length = e + 1 /\ W.length = k + 2 /\ Big.Lim 1000000000 L /\ Big.Lim 1000000000 W /\ Big.val 1000000000 W < Big.val 1000000000 V /\ Qs.length + (e + 1) = e + 1 /\ Big.Lim 1000000000 Qs /\ Arr .u32 94 W5 W2.heap.size (L ++ W ++ List.replicate (e + 1 - (e + 1)) 0) /\ Arr .u32 94 W5 W4.heap.size (List.replicate (e + 1) 0 ++ Qs) /\ Big.val 1000000000 (L ++ W) + 1000000000 ^ (e + 1) * (Big.val 1000000000 Qs * Big.val 1000000000 V) = Big.val 1000000000 U0) := Lib.hid ⟨U0.take (e + 1), U0.drop (e + 1), [], hUt, hUd, HUL.out.take _, HUL.out.drop _, hfirst, by simp, Big.Lim.nil, by rw [List.take_append_drop, Nat.sub_self, List.replicate_zero, List.append_nil]; exact HU5.out, by rw [List.append_nil]; exact HQ5.out, by rw [List.take_append_drop]; simp [Big.val]⟩
    clear hq5 hW5 hU1 hUd hUt hfirst
    go_wp2
    go_loopw [11] (fun jv wr => ∃ (t : Nat) (L W Qs : List Int), t <= e + 1 /\ jv = .int .i64 ((t : Int) - 1) /\ L.length = t /\ W.length = k + 2 /\ Big.Lim 1000000000 L /\ Big.Lim 1000000000 W /\ Big.val 1000000000 W < Big.val 1000000000 V /\ Qs.length + t = e + 1 /\ Big.Lim 1000000000 Qs /\ Arr .u32 94 wr W2.heap.size (L ++ W ++ List.replicate (e + 1 - t) 0) /\ Arr .u32 94 wr W4.heap.size (List.replicate t 0 ++ Qs) /\ Big.val 1000000000 (L ++ W) + 1000000000 ^ t * (Big.val 1000000000 Qs * Big.val 1000000000 V) = Big.val 1000000000 U0 /\ LimbsAt .u32 wr wr.heap.size (some ⟨W3.heap.size, 0, none⟩) V /\ Arr .u32 94 wr w1.heap.size [s] /\ Below w.heap.size w wr) (fun jv _ => (intOf jv + 1).toNat)
    case atStart =>
      obtain ⟨L, W, Qs, h1, h2, h3, h4, h5, h6, h7, h8, h9, h10⟩ := Hst.out
      exact ⟨e + 1, L, W, Qs, Nat.le_refl _, by first | rfl | (congr 1; omega), h1, h2, h3, h4, h5, h6, h7, h8, h9, h10, HV5.out, HS5.out, hB05⟩
    case round =>
      obtain ⟨t, L, W, Qs, ht, rfl, hLl, hWl, hLL, hWL, hWV, hQl, hQL, hUA, hQA, hval, hVA, hSA, hbr⟩ := hrel
      have HLl := Lib.hid hLl
      have HWl := Lib.hid hWl
      have HLL := Lib.hid hLL
      have HWL := Lib.hid hWL
      have HWV := Lib.hid hWV
      have HQl := Lib.hid hQl
      have HQL := Lib.hid hQL
      have HUA := Lib.hid hUA
      have HQA := Lib.hid hQA
      have Hval := Lib.hid hval
      have HVA2 := Lib.hid hVA
      have HSA := Lib.hid hSA
      have Hbr := Lib.hid hbr
      have hgq := hQA.lt
      have hgu := hUA.lt
      have hgs := hSA.lt
      clear hLl hWl hLL hWL hWV hQl hQL hUA hQA hval hVA hSA hbr HU5 HQ5 HV5 HS5 Hst
      match t, ht with
      | t + 1, ht =>
        rw [show ((t + 1 : Nat) : Int) - 1 = (t : Int) by omega]
        have htl : t < L.length := by rw [HLl.out]; omega
        obtain ⟨L2, x, hLx⟩ : ∃ (L2 : List Int) (x : Int), L = L2 ++ [x] := ⟨L.take t, L[t], by have h := List.take_succ_eq_append_getElem htl; rwa [List.take_of_length_le (by have := HLl.out; omega)] at h⟩
        have hl2 : L2.length = t := by have h := HLl.out; rw [hLx, List.length_append] at h; simpa using h
        have hLL := HLL.out
        rw [hLx, Big.Lim.append] at hLL
        have hx := (Big.Lim.cons.1 hLL.2).1
        have hOL : Big.Lim 1000000000 (x :: W) := Big.Lim.cons.2 ⟨hx, HWL.out⟩
        have hOl : (x :: W).length = k + 3 := by rw [List.length_cons, HWl.out]
        have hlt : Big.val 1000000000 (x :: W) < 1000000000 * Big.val 1000000000 V := by rw [Big.val_cons]; have := HWV.out; omega
        have hUA2 : Arr .u32 94 wr W2.heap.size (L2 ++ (x :: W) ++ List.replicate (e + 1 - (t + 1)) 0) := by have h := HUA.out; rwa [hLx, List.append_assoc L2, List.singleton_append] at h
        have Hl2 := Lib.hid hl2
        have HL2 := Lib.hid hLL.1
        have Hx := Lib.hid hx
        have HOL := Lib.hid hOL
        have HOl := Lib.hid hOl
        have Hlt := Lib.hid hlt
        have HUA2 := Lib.hid hUA2
        have hval := Hval.out
        rw [hLx] at hval
        have Hval2 := Lib.hid hval
        have ht0 : (0 : Int) <= (t : Int) := by omega
        have hte : t <= e := by omega
        clear hl2 hLL hx hOL hOl hlt hUA2 hval hLx htl
        go_wp2_with (fail)
        rw [show t + (k + 2) + 1 - t = k + 3 by omega]
        refine (digit_any wr W2.heap.size t k _ _ L2 (x :: W) (List.replicate (e + 1 - (t + 1)) 0) V (some ⟨W3.heap.size, 0, none⟩) Hl2.out (by omega) (by omega) HOl.out HVk.out HOL.out HVLt.out Ht1.out Hlt.out HUA2.out HVA2.out (fun b o h => by cases h; omega)).mono ?_
        rintro e6 W6 ⟨hG6, dq, G, rfl, hdq, hGl, hGL, hGe, hGV, hGA⟩
        have hsz6 := hG6.size
        have hGlt : Big.val 1000000000 G < 1000000000 ^ (k + 2) := by
          have h1 := Big.val_lt (B := 1000000000) (by omega) HVLt.out
          rw [HVk.out] at h1
          omega
        obtain ⟨Wn, rfl, hWn⟩ := Big.top_zero (by omega) hGL (n := k + 2) hGl hGlt
        have hWnL := (Big.Lim.append.1 hGL).1
        have hWv : Big.val 1000000000 Wn < Big.val 1000000000 V := by rw [Big.val_snoc, Int.mul_zero, Int.add_zero] at hGV; exact hGV
        have hQ6 := HQA.out.away hG6 (by omega)
        have hV6 := HVA2.out.awayG hG6 (fun b o h => by cases h; omega)
        have hS6 := HSA.out.away hG6 (by omega)
        have hb6 := Hbr.out.grown hG6 Hbr.out.size (fun g hg => by cases hg; exact hw2)
        have hround := Big.div_round Hl2.out Hval2.out hGe
        have hUA6 : Arr .u32 94 W6 W2.heap.size (L2 ++ Wn ++ List.replicate (e + 1 - t) 0) := by
          have h : e + 1 - t = (e + 1 - (t + 1)) + 1 := by omega
          rw [h, List.replicate_succ]
          simpa using hGA
        have hlq : t < (List.replicate (t + 1) (0 : Int) ++ Qs).length := by simp; omega
        have hc6 : W6.cell? ⟨W4.heap.size, t, none⟩ = some (.int .u32 0) := by
          rw [hQ6.cell hlq]
          congr 2
          rw [List.getElem_append_left (by simp)]; simp
        have hf6 := hQ6.free t
        have hg6 := hQ6.lt
        have hset : Arr .u32 94 (W6.setCell ⟨W4.heap.size, t, none⟩ (.int .u32 dq)) W4.heap.size (List.replicate t 0 ++ dq :: Qs) := by
          have h := hQ6.set t dq
          rwa [show (List.replicate (t + 1) (0 : Int) ++ Qs).set t dq = List.replicate t 0 ++ dq :: Qs by
            rw [List.replicate_succ', List.append_assoc, List.set_append_right _ _ (by simp)]; simp] at h
        have hg7 := win_grown W6 W4.heap.size t (.int .u32 dq)
        have HREL := Lib.hid (And.intro hset (And.intro (hUA6.away hg7 (by omega)) (And.intro (hV6.awayG hg7 (fun b o h => by cases h; omega)) (And.intro (hS6.away hg7 (by omega)) (hb6.setCell (p := ⟨W4.heap.size, t, none⟩) hw4 (.int .u32 dq))))))
        have Hround := Lib.hid hround
        have HWn := Lib.hid hWn
        have HWnL := Lib.hid hWnL
        have HWv := Lib.hid hWv
        have Hdq := Lib.hid hdq
        have hdq0 := hdq.1
        have hdq1 := hdq.2
        clear hQ6 hV6 hS6 hb6 hround hUA6 hlq hset hg7 hG6 hGl hGL hGe hGV hGA hGlt hWn hWnL hWv hdq
        go_wp2
        go_roundw
        case rel => exact ⟨t, L2, Wn, dq :: Qs, by omega, by go_num, Hl2.out, HWn.out, HL2.out, HWnL.out, HWv.out, by rw [List.length_cons]; have := HQl.out; omega, Big.Lim.cons.2 ⟨Hdq.out, HQL.out⟩, HREL.out.2.1, HREL.out.1, Hround.out, HREL.out.2.2.1, HREL.out.2.2.2.1, HREL.out.2.2.2.2⟩
        case measure => simp [intOf]
      | 0, ht =>
        have hl0 : L = [] := List.length_eq_zero_iff.1 HLl.out
        have hv := Hval.out
        have hUA := HUA.out
        have hQA := HQA.out
        rw [hl0, List.nil_append] at hUA hv
        rw [List.replicate_zero, List.nil_append] at hQA
        rw [Int.pow_zero, Int.one_mul, HVv.out, HUv.out] at hv
        have hwl := HWV.out
        rw [HVv.out] at hwl
        have hlimb := hUA.limbs (B := wr.heap.size) hgu
        have hW : LimbsAt .u32 wr wr.heap.size (some ⟨W2.heap.size, 0, none⟩) W := by have h := hlimb.take (k + 2); rwa [List.take_append_of_le_length (by rw [HWl.out]; exact Nat.le_refl _), List.take_of_length_le (by rw [HWl.out]; exact Nat.le_refl _)] at h
        have Hv := Lib.hid hv
        have Hwl := Lib.hid hwl
        have HW := Lib.hid hW
        have HQA0 := Lib.hid hQA
        have hsc := HSA.out.cell (k := 0) (by simp)
        simp at hsc
        have Hsc := Lib.hid hsc
        have HQl0 : Hid (Qs.length = e + 1) := Lib.hid (by have := HQl.out; omega)
        obtain ⟨u1, u2, u3, u4⟩ := Big.trim_spec 1000000000 W
        obtain ⟨X, hX⟩ : ∃ X, X = Big.trim W := ⟨_, rfl⟩
        have uL := Big.trim_lim HWL.out
        rw [<- hX] at u1 u2 u3 u4 uL
        rw [HWl.out] at u3
        have HX := Lib.hid hX
        have Hu1 := Lib.hid u1
        have HuL := Lib.hid uL
        have hXA : LimbsAt .u32 wr wr.heap.size (some ⟨W2.heap.size, 0, none⟩) X := by rw [u4]; exact hW.take _
        have HXA := Lib.hid hXA
        obtain ⟨xl, hxl⟩ : ∃ xl, xl = X.length := ⟨_, rfl⟩
        rw [<- hxl] at u3
        have Hxl := Lib.hid hxl
        clear hv hwl hW hlimb hUA hQA hl0 hsc hX u1 u2 u4 uL hXA hxl
        have hS : Below wr.heap.size wr wr.drew := below_drawn (Below.refl _ _) 1
        go_upto_region 15 with (fail)
        refine wp_region_held (S := Below wr.heap.size wr) (by kernel_rfl) ?_
        change wpAnyH _ _ _ _ _ _ _ _ (World.drew wr)
        obtain ⟨WC, hWd⟩ : ∃ W0, W0 = wr.drew := ⟨_, rfl⟩
        have hzc : WC.heap.size = wr.heap.size := by rw [hWd]; rfl
        have hHW := Lib.hid (HW.out.at_ (w' := WC) (by rw [hWd]; exact hS) (Nat.le_refl _))
        rw [<- hWd] at hS ⊢
        have hHX := Lib.hid (HXA.out.at_ hS (Nat.le_refl _))
        clear hWd
        refine wpAnyH_take (i := 0) (v := .slice (some ⟨W2.heap.size, 0, none⟩) (k + 2 + e + 1) (k + 2 + e + 1)) rfl (by kernel_rfl) (by kernel_rfl) (by kernel_rfl) (fun _ _ _ h => h) (.inl ⟨by rfl, fun W' hS' => by go_simp⟩) hS ?_
        try simp only [Act.put, z]
        refine wpAnyH_take (i := 1) (v := .int .i64 ((k : Int) + 2)) rfl (by kernel_rfl) (by kernel_rfl) (by kernel_rfl) (fun _ _ _ h => h) (.inl ⟨by rfl, fun W' hS' => by go_simp⟩) hS ?_
        try simp only [Act.put, z]
        refine wpAnyH_take (i := 2) (v := .slice (some ⟨W2.heap.size, 0, none⟩) (k + 2) (k + 2 + e + 1)) rfl (by kernel_rfl) (by kernel_rfl) (by kernel_rfl) (fun _ _ _ h => h) (.inl ⟨by rfl, fun W' hS' => by (go_simp; rw [if_pos (by omega), show ((k : Int) + 2).toNat = k + 2 by omega])⟩) hS ?_
        try simp only [Act.put, z]
        refine wpAnyH_take (i := 4) (v := .slice (some ⟨w1.heap.size, 0, none⟩) 1 1) rfl (by kernel_rfl) (by kernel_rfl) (by kernel_rfl) (fun _ _ _ h => h) (.inl ⟨by rfl, fun W' hS' => by go_simp⟩) hS ?_
        try simp only [Act.put, z]
        refine wpAnyH_take (i := 5) (v := .pointer (some ⟨w1.heap.size, 0, none⟩)) rfl (by kernel_rfl) (by kernel_rfl) (by kernel_rfl) (fun _ _ _ h => h) (.inl ⟨by rfl, fun W' hS' => by go_simp⟩) hS ?_
        try simp only [Act.put, z]
        refine wpAnyH_take (i := 6) (v := .int .u32 s) rfl (by kernel_rfl) (by kernel_rfl) (by kernel_rfl) (fun _ _ _ h => h) (.inl ⟨by rfl, fun W' hS' => by have hc := (hS'.cell (p := ⟨w1.heap.size, 0, none⟩) hgs).trans Hsc.out; have hl9 := Nat.lt_of_lt_of_le hgs hS'.size; go_simp⟩) hS ?_
        try simp only [Act.put, z]
        refine wpAnyH_ready (rs := [3]) (by kernel_rfl) (by simp) (AllReadyH.cons rfl (fun K hK => ?_) AllReadyH.nil)
        go_simp
        refine (trim_any WC _ (k + 2) (k + 2 + e + 1) W HWl.out (by omega) (by omega) hHW.out).mono ?_
        rintro e7 W7 ⟨rfl, hW7⟩
        obtain rfl := hW7
        rw [<- HX.out, <- Hxl.out]
        refine hK.out _ _ hS (fun _ => ?_)
        clear hK K
        try simp only [Act.put, z]
        refine wpAnyH_ready (rs := [7]) (by kernel_rfl) (by simp) (AllReadyH.cons rfl (fun K hK => ?_) AllReadyH.nil)
        go_simp
        refine (short_any WC _ xl (k + 2 + e + 1) X s Hxl.out.symm (by omega) sp1 (by omega) HuL.out hHX.out).mono ?_
        rintro e8 W8 ⟨hB8, g, g', R, r, rfl, hRl, hRL, hRe, r0, r1, hRA, hrA, hg, hg'⟩
        have hS8 := hS.trans (hB8.mono hS.size)
        refine hK.out _ _ hS8 (fun _ => ?_)
        clear hK K
        try simp only [Act.put, z]
        refine wpAnyH_take (i := 8) (v := .tuple #[.slice (some ⟨g, 0, none⟩) xl xl, .slice (some ⟨g', 0, none⟩) 1 1]) rfl (by kernel_rfl) (by kernel_rfl) (by kernel_rfl) (fun _ _ _ h => h) (.inl ⟨by rfl, fun W' hS' => by go_simp⟩) hS8 ?_
        try simp only [Act.put, z]
        refine wpAnyH_take (i := 9) (v := .slice (some ⟨g, 0, none⟩) xl xl) rfl (by kernel_rfl) (by kernel_rfl) (by kernel_rfl) (fun _ _ _ h => h) (.inl ⟨by rfl, fun W' hS' => by go_simp⟩) hS8 ?_
        try simp only [Act.put, z]
        refine wpAnyH_take (i := 10) (v := .slice (some ⟨g', 0, none⟩) 1 1) rfl (by kernel_rfl) (by kernel_rfl) (by kernel_rfl) (fun _ _ _ h => h) (.inl ⟨by rfl, fun W' hS' => by go_simp⟩) hS8 ?_
        try simp only [Act.put, z]
        refine wpAnyH_ready (rs := [11]) (by kernel_rfl) (by simp) (AllReadyH.cons rfl (fun K hK => ?_) AllReadyH.nil)
        go_simp
        refine hK.out _ _ hS8 (fun _ => ?_)
        clear hK K
        try simp only [Act.put, z]
        refine wpAnyH_ready (rs := [12]) (by kernel_rfl) (by simp) (AllReadyH.cons rfl (fun K hK => ?_) AllReadyH.nil)
        go_simp
        refine hK.out _ _ hS8 (fun _ => ?_)
        clear hK K
        try simp only [Act.put, z]
        refine wpAnyH_done (by kernel_rfl) ?_ _
        try simp only [Act.put, z]
        have hdv := Big.div_end Hv.out Hwl.out (by rw [<- Hu1.out]; exact hRe) r0 r1
        have hb8 := Hbr.out.trans (hS8.mono Hbr.out.size)
        have hq8 := HQA0.out.below hS8 hgq
        have hrv := Big.val_nonneg (B := 1000000000) (by omega) hRL
        have HFIN := Lib.hid (And.intro hdv (And.intro hb8 (And.intro (hq8.limbs hq8.lt) (And.intro hrv (And.intro hRl (And.intro hRL hRA))))))
        have hgw : w.heap.size <= g := by have := Hbr.out.size; omega
        have Hgw := Lib.hid hgw
        clear hdv hb8 hq8 hrv hRl hRL hRe hRA hrA hS8 hS hB8 hg hg' hgw
        go_wp2
        go_ret2
        exact ⟨HFIN.out.2.1, some ⟨W4.heap.size, 0, none⟩, e + 1, e + 1, Qs, some ⟨g, 0, none⟩, xl, xl, R, rfl, HQl0.out, HFIN.out.2.2.2.2.1, by omega, u3, Nat.le_refl _, Nat.le_refl _, HQL.out, HFIN.out.2.2.2.2.2.1, HFIN.out.1.1, HFIN.out.2.2.2.1, HFIN.out.1.2, HFIN.out.2.2.1, HFIN.out.2.2.2.2.2.2, fun b o h => (by cases h; exact hw4), .inr fun b o h => (by cases h; exact Hgw.out)⟩
end
end Go.Proofs.YtalfikdjclineaaGreatDoor
