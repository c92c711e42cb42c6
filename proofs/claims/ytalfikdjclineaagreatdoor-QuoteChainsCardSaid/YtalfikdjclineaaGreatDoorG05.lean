/- My texts DigW. -/
import Derived.Test.YtalfikdjclineaaGreatDoorG01
import Derived.Test.YtalfikdjclineaaGreatDoorG03
set_option linter.unusedVariables false
set_option linter.unusedSimpArgs false
set_option maxRecDepth 100000
set_option maxHeartbeats 8000000
namespace Go.Proofs.YtalfikdjclineaaGreatDoor
open Go.RowKit
theorem win_grown (w : World) (X j : Nat) (v : Value) : w.grownBy (w.setCell ⟨X, j, none⟩ v) (some X) :=
  ⟨rfl, rfl, rfl, by simp [World.setCell], fun k hk hne => heap_setCell_other w _ _ _ (fun e => hne (by rw [e]))⟩
theorem win_drewN {w w' : World} {r : Option Nat} (h : w.grownBy w' r) (q : Nat) : w.grownBy (w'.drewN q) r := ⟨h.os, h.tape, h.output, h.size, h.block⟩
theorem grown_step {w w' w'' : World} {X : Nat} (h : w.grownBy w' (some X)) (h2 : w'.grownBy w'' (some X)) : w.grownBy w'' (some X) :=
  ⟨h2.os.trans h.os, h2.tape.trans h.tape, h2.output.trans h.output, Nat.le_trans h.size h2.size, fun k hk hne => (h2.block k (Nat.lt_of_lt_of_le hk h.size) hne).trans (h.block k hk hne)⟩
theorem win_cell {w : World} {g j k : Nat} {L F Z : List Int} (h : Arr .u32 94 w g (L ++ F ++ Z)) (hj : L.length = j) (hk : k < F.length) : w.cell? ⟨g, j + k, none⟩ = some (.int .u32 F[k]) := by
  subst hj
  rw [h.cell (k := L.length + k) (by simp; omega)]
  congr 2
  have e : (L ++ F ++ Z)[L.length + k]? = some F[k] := by
    rw [List.append_assoc, List.getElem?_append_right (by omega), Nat.add_sub_cancel_left, List.getElem?_append_left hk, List.getElem?_eq_getElem hk]
  rw [List.getElem?_eq_getElem (by simp; omega)] at e
  exact Option.some.inj e
theorem win_set {w : World} {g j k : Nat} {L F Z : List Int} (h : Arr .u32 94 w g (L ++ F ++ Z)) (hj : L.length = j) (hk : k < F.length) (x : Int) : Arr .u32 94 (w.setCell ⟨g, j + k, none⟩ (.int .u32 x)) g (L ++ F.set k x ++ Z) := by
  subst hj
  have := h.set (L.length + k) x
  rwa [List.append_assoc, List.set_append_right _ _ (by omega), Nat.add_sub_cancel_left, List.set_append_left _ _ hk, <- List.append_assoc] at this
theorem sub_round {F O v : List Int} {i : Nat} {gq bo cy Y p x bo' : Int} (hF : i < F.length) (hO : i < O.length) (hY : gq * Big.val 1000000000 (v.take (i + 1)) = gq * Big.val 1000000000 (v.take i) + 1000000000 ^ i * Y)
    (h : Big.val 1000000000 (F.take i) + gq * Big.val 1000000000 (v.take i) = Big.val 1000000000 (O.take i) + 1000000000 ^ i * (bo + cy)) (hp : p = cy + Y) (hx : x = O[i] - p % 1000000000 - bo + bo' * 1000000000) :
    Big.val 1000000000 ((F.set i x).take (i + 1)) + gq * Big.val 1000000000 (v.take (i + 1)) = Big.val 1000000000 (O.take (i + 1)) + 1000000000 ^ (i + 1) * (bo' + p / 1000000000) := by
  rw [hY, Big.val_take_succ _ _ _ hO]
  exact Big.away_step (Z := 0) hF h hp hx
theorem back_round {G F v : List Int} {i : Nat} {c y x : Int} (hG : i < G.length) (hF : i < F.length) (hy : Big.val 1000000000 (v.take (i + 1)) = Big.val 1000000000 (v.take i) + 1000000000 ^ i * y)
    (h : Big.val 1000000000 (G.take i) + 1000000000 ^ i * c = Big.val 1000000000 (F.take i) + Big.val 1000000000 (v.take i)) (hx : x = F[i] + c + y) :
    Big.val 1000000000 ((G.set i (x % 1000000000)).take (i + 1)) + 1000000000 ^ (i + 1) * (x / 1000000000) = Big.val 1000000000 (F.take (i + 1)) + Big.val 1000000000 (v.take (i + 1)) := by
  rw [hy, Big.val_take_succ _ _ _ hF]
  exact Big.back_step hG h hx
theorem prod_take {v : List Int} {i : Nat} (g : Int) (hi : i < v.length) : g * Big.val 1000000000 (v.take (i + 1)) = g * Big.val 1000000000 (v.take i) + 1000000000 ^ i * (g * v[i]) := by
  rw [Big.val_take_succ _ _ _ hi, Int.mul_add, Int.mul_left_comm]
theorem prod_all {v : List Int} {i : Nat} (g : Int) (hi : v.length <= i) : g * Big.val 1000000000 (v.take (i + 1)) = g * Big.val 1000000000 (v.take i) + 1000000000 ^ i * 0 := by
  rw [List.take_of_length_le hi, List.take_of_length_le (by omega), Int.mul_zero, Int.add_zero]
def DigPost (g m : Nat) (L Z : List Int) (U V : Int) (w : World) (e : Ending) (w' : World) : Prop :=
  w.grownBy w' (some g) /\ ∃ (q : Int) (G : List Int), e = .returned (.int .u32 q) /\ (0 <= q /\ q < 1000000000) /\ G.length = m + 3 /\ Big.Lim 1000000000 G /\ U = q * V + Big.val 1000000000 G /\ Big.val 1000000000 G < V /\ Arr .u32 94 w' g (L ++ G ++ Z)
section
variable (w : World)
theorem digit_any (g j m c d : Nat) (L O Z v : List Int) (Bv : Option Addr) (hj : L.length = j) (hm : m <= 1000000) (hj1 : j <= 1000000) (hO : O.length = m + 3) (hv : v.length = m + 2) (hOL : Big.Lim 1000000000 O) (hVL : Big.Lim 1000000000 v) (h1 : 1 <= v[m + 1])
    (hlt : Big.val 1000000000 O < 1000000000 * Big.val 1000000000 v) (hA : Arr .u32 94 w g (L ++ O ++ Z)) (hB : LimbsAt .u32 w w.heap.size Bv v) (hne : ∀ b o, Bv = some ⟨b, o, none⟩ -> b ≠ g) :
    Calls Tryz.prog 100 #[.slice (some ⟨g, j, none⟩) (m + 3) c, .slice Bv (m + 2) d] w (DigPost g m L Z (Big.val 1000000000 O) (Big.val 1000000000 v) w) := by
  have hD := Big.Dig.of hv hO hVL hOL h1 hlt
  rcases hB with h | ⟨b, o, rfl, hbB, hvc, hvt⟩
  · rw [h] at hv; simp at hv
  have hbg := hne b o rfl
  have hgB := hA.lt
  have x1 := hvc (m + 1) (by omega)
  have x2 := hvc m (by omega)
  have y1 := win_cell hA hj (k := m + 2) (by omega)
  have y2 := win_cell hA hj (k := m + 1) (by omega)
  have y3 := win_cell hA hj (k := m) (by omega)
  obtain ⟨v1, hv1⟩ : ∃ x, x = v[m + 1] := ⟨_, rfl⟩
  obtain ⟨v2, hv2⟩ : ∃ x, x = v[m] := ⟨_, rfl⟩
  obtain ⟨a1, ha1⟩ : ∃ x, x = O[m + 2] := ⟨_, rfl⟩
  obtain ⟨a2, ha2⟩ : ∃ x, x = O[m + 1] := ⟨_, rfl⟩
  obtain ⟨a3, ha3⟩ : ∃ x, x = O[m] := ⟨_, rfl⟩
  obtain ⟨U, hU⟩ : ∃ U, U = Big.val 1000000000 O := ⟨_, rfl⟩
  obtain ⟨V, hV⟩ : ∃ V, V = Big.val 1000000000 v := ⟨_, rfl⟩
  rw [<- hv1, <- hv2, <- ha1, <- ha2, <- ha3, <- hU, <- hV] at hD
  rw [<- hv1] at x1
  rw [<- hv2] at x2
  rw [<- ha1] at y1
  rw [<- ha2] at y2
  rw [<- ha3] at y3
  have HU := Lib.hid hU
  have HV := Lib.hid hV
  have HD := Lib.hid hD
  have HO := Lib.hid hO
  have Hv := Lib.hid hv
  have HOL := Lib.hid hOL
  have HVL := Lib.hid hVL
  have HA := Lib.hid hA
  have Hvc := Lib.hid hvc
  have Hvt := Lib.hid hvt
  have Hj := Lib.hid hj
  have p1 := hD.p1
  have p2 := hD.p2
  have q1 := hD.q1
  have q2 := hD.q2
  have q3 := hD.q3
  have hst := hD.start
  obtain ⟨h0, hh0⟩ : ∃ h, h = a1 * 1000000000 + a2 := ⟨_, rfl⟩
  rw [<- hh0] at hst
  have Hst := Lib.hid hst
  have Hh := Lib.hid hh0
  clear hv1 hv2 ha1 ha2 ha3 hU hV hD hO hv hOL hVL hA hvc hvt hne hlt h1 hst hj
  go_enter Tryz.func100, Tryz.ntmps100
  go_upto_region 2 with (fail)
  go_quiet (fail)
  go_upto_region 3 with (fail)
  go_quiet (fail)
  rw [<- Hh.out]
  go_upto_region 4 with (fail)
  rename_i K1 hK1
  have key : ∀ (gq : Int) (wr : World) (z6 z8 t17 t18 t19 t20 t21 t22 t23 t24 t25 t26 t27 t28 t29 t30 t31 t32 t33 t34 t35 t36 t37 t38 t39 t40 t41 t42 t43 t44 t45 t46 t47 t48 t49 t50 t51 t52 t53 t54 t55 t56 t57 t58 t59 t60 t61 t62 t63 t64 t65 t66 t67 t68 t69 t70 t71 t72 t73 t74 t75 t76 t77 t78 t79 t80 t81 : Value), Big.Gd U V gq -> Below w.heap.size w wr -> K1 ⟨#[.slice (some ⟨g, j, none⟩) (m + 3) c, .slice (some ⟨b, o, none⟩) (m + 2) d, undef, undef, .int .u32 0, .int .i64 ((m : Int) + 2), z6, .int .u64 gq, z8, undef, undef, undef, undef, undef, undef, undef, undef, t17, t18, t19, t20, t21, t22, t23, t24, t25, t26, t27, t28, t29, t30, t31, t32, t33, t34, t35, t36, t37, t38, t39, t40, t41, t42, t43, t44, t45, t46, t47, t48, t49, t50, t51, t52, t53, t54, t55, t56, t57, t58, t59, t60, t61, t62, t63, t64, t65, t66, t67, t68, t69, t70, t71, t72, t73, t74, t75, t76, t77, t78, t79, t80, t81, undef, undef, undef, undef, undef, undef, undef, undef, undef, undef, undef, undef, undef, undef, undef, undef, undef, undef, undef, undef, undef, undef, undef, undef, undef, undef, undef, undef, undef, undef, undef, undef, undef, undef, undef, undef, undef, undef, undef, undef, undef, undef, undef, undef, undef, undef, undef, undef, undef, undef, undef, undef, undef, undef, undef, undef, undef, undef, undef, undef, undef, undef, undef, undef, undef, undef, undef, undef, undef, undef, undef, undef, undef, undef, undef], []⟩ wr := by
    intro gq wr z6 z8 t17 t18 t19 t20 t21 t22 t23 t24 t25 t26 t27 t28 t29 t30 t31 t32 t33 t34 t35 t36 t37 t38 t39 t40 t41 t42 t43 t44 t45 t46 t47 t48 t49 t50 t51 t52 t53 t54 t55 t56 t57 t58 t59 t60 t61 t62 t63 t64 t65 t66 t67 t68 t69 t70 t71 t72 t73 t74 t75 t76 t77 t78 t79 t80 t81 hgd hbr
    refine hK1 _ _ ?_
    clear hK1 x1 x2 y1 y2 y3
    have Hgd := Lib.hid hgd
    have gq0 := hgd.1.1
    have gq1 := hgd.1.2
    have hgr : w.grownBy wr (some g) := ⟨hbr.os, hbr.tape, hbr.output, hbr.size, fun k hk _ => hbr.block k hk⟩
    have HG0 := Lib.hid hgr
    have HA0 := Lib.hid (HA.out.below hbr hgB)
    clear hgd hbr hgr
    go_wp2
    go_loopw [9, 10, 84] (fun bv cv iv wq => ∃ (i : Nat) (F : List Int) (bo cy : Int), i <= m + 3 /\ iv = .int .i64 i /\ bv = .int .i64 bo /\ cv = .int .u64 cy /\ (bo = 0 ∨ bo = 1) /\ (0 <= cy /\ cy < 1000000000) /\ (i = m + 3 -> cy = 0) /\ F.length = m + 3 /\ Big.Lim 1000000000 F /\ F.drop i = O.drop i /\
      Big.val 1000000000 (F.take i) + gq * Big.val 1000000000 (v.take i) = Big.val 1000000000 (O.take i) + 1000000000 ^ i * (bo + cy) /\ Arr .u32 94 wq g (L ++ F ++ Z) /\ w.grownBy wq (some g)) (fun _ _ iv _ => m + 3 - (intOf iv).toNat)
    case atStart => exact ⟨0, O, 0, 0, Nat.zero_le _, rfl, rfl, rfl, .inl rfl, ⟨by omega, by omega⟩, fun h => by omega, HO.out, HOL.out, rfl, by simp [Big.val], HA0.out, HG0.out⟩
    case round =>
      obtain ⟨i, F, bo, cy, hi, rfl, rfl, rfl, hbo, ⟨cy0, cy1⟩, hcz, hFl, hFL, hFd, hFv, hFa, hFg⟩ := hrel
      have Hcz := Lib.hid hcz
      have HFl := Lib.hid hFl
      have HFL := Lib.hid hFL
      have HFd := Lib.hid hFd
      have HFv := Lib.hid hFv
      have HFa := Lib.hid hFa
      have HFg := Lib.hid hFg
      have hgq := hFa.lt
      have bo0 : 0 <= bo /\ bo <= 1 := by omega
      have Hbo := Lib.hid hbo
      clear hcz hFl hFL hFd hFv hFa hFg hbo HA0 HG0
      by_cases hlt : i < m + 3
      · have hiF : i < F.length := by rw [HFl.out]; exact hlt
        have hiO : i < O.length := by rw [HO.out]; exact hlt
        have yc := win_cell HFa.out Hj.out hiF
        rw [Big.get_of_drop HFd.out hiF hiO] at yc
        obtain ⟨ov, hov⟩ : ∃ x, x = O[i] := ⟨_, rfl⟩
        rw [<- hov] at yc
        have Hov := Lib.hid hov
        have o0 := HOL.out.get i hiO
        rw [<- hov] at o0
        have yf := HFa.out.free (j + i)
        have HF2 : Hid (∀ x, (F.set i x).drop (i + 1) = O.drop (i + 1)) := Lib.hid fun x => Big.drop_set_succ x HFd.out
        have hi0 : (0 : Int) <= (i : Int) := by omega
        have hin : (i : Int) < (m : Int) + 3 := by omega
        clear hov
        by_cases hiv : i < m + 2
        · have hivl : i < v.length := by rw [Hv.out]; exact hiv
          have vc := (World.cell?_of_block (w := w) (a := ⟨b, o + i, none⟩) (HFg.out.block b hbB (fun e => hbg (Option.some.inj e)))).trans (Hvc.out i hivl)
          have hY := prod_take gq hivl
          obtain ⟨vi, hvi⟩ : ∃ x, x = v[i] := ⟨_, rfl⟩
          rw [<- hvi] at vc hY
          have v0 := HVL.out.get i hivl
          rw [<- hvi] at v0
          have m0 : 0 <= gq * vi := Int.mul_nonneg gq0 v0.1
          have m1 : gq * vi <= 999999999 * 999999999 := Int.mul_le_mul (by omega) (by omega) v0.1 (by omega)
          have hivz : (i : Int) < (m : Int) + 2 := by omega
          clear hvi
          have b0 := Int.emod_nonneg (cy + gq * vi) (show (1000000000 : Int) ≠ 0 by omega)
          have b1 := Int.emod_lt_of_pos (cy + gq * vi) (show (0 : Int) < 1000000000 by omega)
          have b2 : 0 <= (cy + gq * vi) / 1000000000 := Int.ediv_nonneg (by omega) (by omega)
          have b3 : (cy + gq * vi) / 1000000000 < 1000000000 := Int.ediv_lt_of_lt_mul (by omega) (by omega)
          have HY := Lib.hid (hY)
          by_cases hx : ov - (cy + gq * vi) % 1000000000 - bo < 0
          · go_wp2
            go_roundw
            case rel =>
              refine ⟨i + 1, F.set i (ov - (cy + gq * vi) % 1000000000 - bo + 1000000000), 1, (cy + gq * vi) / 1000000000, by omega, by go_num, rfl, rfl, .inr rfl, ⟨b2, b3⟩, fun h => by omega, by rw [List.length_set]; exact HFl.out, lim_set HFL.out (by omega) (by omega), HF2.out _, ?_, win_set HFa.out Hj.out hiF _, grown_step HFg.out (win_grown _ _ _ _)⟩
              exact sub_round hiF hiO HY.out HFv.out rfl (by rw [<- Hov.out]; omega)
            case measure => simp [intOf]; omega
          · go_wp2
            go_roundw
            case rel =>
              refine ⟨i + 1, F.set i (ov - (cy + gq * vi) % 1000000000 - bo), 0, (cy + gq * vi) / 1000000000, by omega, by go_num, rfl, rfl, .inl rfl, ⟨b2, b3⟩, fun h => by omega, by rw [List.length_set]; exact HFl.out, lim_set HFL.out (by omega) (by omega), HF2.out _, ?_, win_set HFa.out Hj.out hiF _, grown_step HFg.out (win_grown _ _ _ _)⟩
              exact sub_round hiF hiO HY.out HFv.out rfl (by rw [<- Hov.out]; omega)
            case measure => simp [intOf]; omega
        · have hY := prod_all (v := v) (i := i) gq (by have := Hv.out; omega)
          have hivz : ¬ (i : Int) < (m : Int) + 2 := by omega
          have b0 := Int.emod_nonneg (cy) (show (1000000000 : Int) ≠ 0 by omega)
          have b1 := Int.emod_lt_of_pos (cy) (show (0 : Int) < 1000000000 by omega)
          have b2 : 0 <= (cy) / 1000000000 := Int.ediv_nonneg (by omega) (by omega)
          have b3 : (cy) / 1000000000 < 1000000000 := Int.ediv_lt_of_lt_mul (by omega) (by omega)
          have HY := Lib.hid (hY)
          by_cases hx : ov - (cy) % 1000000000 - bo < 0
          · go_wp2
            go_roundw
            case rel =>
              refine ⟨i + 1, F.set i (ov - (cy) % 1000000000 - bo + 1000000000), 1, (cy) / 1000000000, by omega, by go_num, rfl, rfl, .inr rfl, ⟨b2, b3⟩, fun h => by omega, by rw [List.length_set]; exact HFl.out, lim_set HFL.out (by omega) (by omega), HF2.out _, ?_, win_set HFa.out Hj.out hiF _, grown_step HFg.out (win_grown _ _ _ _)⟩
              exact sub_round hiF hiO HY.out HFv.out (Int.add_zero _).symm (by rw [<- Hov.out]; omega)
            case measure => simp [intOf]; omega
          · go_wp2
            go_roundw
            case rel =>
              refine ⟨i + 1, F.set i (ov - (cy) % 1000000000 - bo), 0, (cy) / 1000000000, by omega, by go_num, rfl, rfl, .inl rfl, ⟨b2, b3⟩, fun h => by omega, by rw [List.length_set]; exact HFl.out, lim_set HFL.out (by omega) (by omega), HF2.out _, ?_, win_set HFa.out Hj.out hiF _, grown_step HFg.out (win_grown _ _ _ _)⟩
              exact sub_round hiF hiO HY.out HFv.out (Int.add_zero _).symm (by rw [<- Hov.out]; omega)
            case measure => simp [intOf]; omega
      · obtain rfl : i = m + 3 := by omega
        have hcy := Hcz.out rfl
        subst hcy
        have hv := HFv.out
        rw [List.take_of_length_le (by rw [HFl.out]; exact Nat.le_refl _), List.take_of_length_le (by rw [Hv.out]; omega), List.take_of_length_le (by rw [HO.out]; exact Nat.le_refl _), <- HU.out, <- HV.out, Int.add_zero] at hv
        have hf0 := Big.val_nonneg (B := 1000000000) (by omega) HFL.out
        have hf1 := Big.val_lt (B := 1000000000) (by omega) HFL.out
        rw [HFl.out] at hf1
        rcases Hbo.out with rfl | rfl
        · rw [Int.mul_zero, Int.add_zero] at hv
          have hfin := Big.left_same (T := 0) hv hf0 Hgd.out.2.2
          have Hfin := Lib.hid hfin
          clear hv hf0 hf1 hfin
          go_wp2
          go_ret
          exact ⟨HFg.out, gq, F, rfl, ⟨gq0, gq1⟩, HFl.out, HFL.out, by rw [<- HU.out, <- HV.out]; exact Hfin.out.1, by rw [<- HV.out]; exact Hfin.out.2, HFa.out⟩
        · rw [Int.mul_one] at hv
          obtain ⟨R, hR1, hR2, hR3, hR4⟩ := Big.left_less hv hf1 Hgd.out.2.1
          have hu0 := HD.out.u0
          have hg1 : 1 <= gq := by
            rcases Int.lt_or_le 0 gq with h | h
            · omega
            · exfalso
              have : gq = 0 := by omega
              subst this
              rw [Int.zero_mul] at hv
              omega
          have HR1 := Lib.hid hR1
          have HR2 := Lib.hid hR2
          have hR5 : R < 1000000000 ^ (m + 3) := by
            have k1 := Big.val_lt (B := 1000000000) (by omega) HVL.out
            rw [Hv.out, <- HV.out] at k1
            have k2 := Big.pow_le (B := 1000000000) (by omega) (show m + 2 <= m + 3 by omega)
            omega
          have HR := Lib.hid (And.intro hR3 (And.intro hR4 hR5))
          clear hv hf0 hf1 hR1 hR2 hR3 hR4 hR5
          go_wp2
          go_loopw [14, 129] (fun cv iv wq => ∃ (i : Nat) (G : List Int) (c : Int), i <= m + 3 /\ iv = .int .i64 i /\ cv = .int .u32 c /\ (c = 0 ∨ c = 1) /\ G.length = m + 3 /\ Big.Lim 1000000000 G /\ G.drop i = F.drop i /\
            Big.val 1000000000 (G.take i) + 1000000000 ^ i * c = Big.val 1000000000 (F.take i) + Big.val 1000000000 (v.take i) /\ Arr .u32 94 wq g (L ++ G ++ Z) /\ w.grownBy wq (some g)) (fun _ iv _ => m + 3 - (intOf iv).toNat)
          case atStart => exact ⟨0, F, 0, Nat.zero_le _, rfl, rfl, .inl rfl, HFl.out, HFL.out, rfl, by simp [Big.val], HFa.out, HFg.out⟩
          case round =>
            obtain ⟨i, G, c, hi, rfl, rfl, hc, hGl, hGL, hGd, hGv, hGa, hGg⟩ := hrel
            have HGl := Lib.hid hGl
            have HGL := Lib.hid hGL
            have HGd := Lib.hid hGd
            have HGv := Lib.hid hGv
            have HGa := Lib.hid hGa
            have HGg := Lib.hid hGg
            have hgq := hGa.lt
            have c0 : 0 <= c /\ c <= 1 := by omega
            have Hc := Lib.hid hc
            clear hGl hGL hGd hGv hGa hGg hc
            by_cases hlt : i < m + 3
            · have hiG : i < G.length := by rw [HGl.out]; exact hlt
              have hiF : i < F.length := by rw [HFl.out]; exact hlt
              have yc := win_cell HGa.out Hj.out hiG
              rw [Big.get_of_drop HGd.out hiG hiF] at yc
              obtain ⟨fv, hfv⟩ : ∃ x, x = F[i] := ⟨_, rfl⟩
              rw [<- hfv] at yc
              have Hfv := Lib.hid hfv
              have o0 := HFL.out.get i hiF
              rw [<- hfv] at o0
              have yf := HGa.out.free (j + i)
              have HG2 : Hid (∀ x, (G.set i x).drop (i + 1) = F.drop (i + 1)) := Lib.hid fun x => Big.drop_set_succ x HGd.out
              have hi0 : (0 : Int) <= (i : Int) := by omega
              have hin : (i : Int) < (m : Int) + 3 := by omega
              clear hfv
              by_cases hiv : i < m + 2
              · have hivl : i < v.length := by rw [Hv.out]; exact hiv
                have vc := (World.cell?_of_block (w := w) (a := ⟨b, o + i, none⟩) (HGg.out.block b hbB (fun e => hbg (Option.some.inj e)))).trans (Hvc.out i hivl)
                have hY := Big.val_take_succ 1000000000 v i hivl
                obtain ⟨vi, hvi⟩ : ∃ x, x = v[i] := ⟨_, rfl⟩
                rw [<- hvi] at vc hY
                have v0 := HVL.out.get i hivl
                rw [<- hvi] at v0
                have hivz : (i : Int) < (m : Int) + 2 := by omega
                clear hvi
                have b0 := Int.emod_nonneg (fv + c + vi) (show (1000000000 : Int) ≠ 0 by omega)
                have b1 := Int.emod_lt_of_pos (fv + c + vi) (show (0 : Int) < 1000000000 by omega)
                have b2 : (fv + c + vi) / 1000000000 = 0 ∨ (fv + c + vi) / 1000000000 = 1 := by omega
                have HY := Lib.hid hY
                go_wp2
                go_roundw
                case rel =>
                  refine ⟨i + 1, G.set i ((fv + c + vi) % 1000000000), (fv + c + vi) / 1000000000, by omega, by go_num, rfl, b2, by rw [List.length_set]; exact HGl.out, lim_set HGL.out (by omega) (by omega), HG2.out _, ?_, win_set HGa.out Hj.out hiG _, grown_step HGg.out (win_grown _ _ _ _)⟩
                  exact back_round hiG hiF HY.out HGv.out (by rw [<- Hfv.out])
                case measure => simp [intOf]; omega
              · have hY : Big.val 1000000000 (v.take (i + 1)) = Big.val 1000000000 (v.take i) + 1000000000 ^ i * 0 := by
                  rw [List.take_of_length_le (by rw [Hv.out]; omega), List.take_of_length_le (by rw [Hv.out]; omega), Int.mul_zero, Int.add_zero]
                have hivz : ¬ (i : Int) < (m : Int) + 2 := by omega
                have b0 := Int.emod_nonneg (fv + c) (show (1000000000 : Int) ≠ 0 by omega)
                have b1 := Int.emod_lt_of_pos (fv + c) (show (0 : Int) < 1000000000 by omega)
                have b2 : (fv + c) / 1000000000 = 0 ∨ (fv + c) / 1000000000 = 1 := by omega
                have HY := Lib.hid hY
                go_wp2
                go_roundw
                case rel =>
                  refine ⟨i + 1, G.set i ((fv + c) % 1000000000), (fv + c) / 1000000000, by omega, by go_num, rfl, b2, by rw [List.length_set]; exact HGl.out, lim_set HGL.out (by omega) (by omega), HG2.out _, ?_, win_set HGa.out Hj.out hiG _, grown_step HGg.out (win_grown _ _ _ _)⟩
                  exact back_round hiG hiF HY.out HGv.out (by rw [<- Hfv.out]; omega)
                case measure => simp [intOf]; omega
            · obtain rfl : i = m + 3 := by omega
              have hv := HGv.out
              rw [List.take_of_length_le (by rw [HGl.out]; exact Nat.le_refl _), List.take_of_length_le (by rw [HFl.out]; exact Nat.le_refl _), List.take_of_length_le (by rw [Hv.out]; omega), <- HV.out] at hv
              have hf0 := Big.val_nonneg (B := 1000000000) (by omega) HGL.out
              have hf1 := Big.val_lt (B := 1000000000) (by omega) HGL.out
              rw [HGl.out] at hf1
              have hfin : Big.val 1000000000 G = R := Big.left_back hv HR1.out hf1 HR.out.1 HR.out.2.2 (Big.pow_pos (by omega) _) Hc.out
              have Hfin := Lib.hid hfin
              clear hv hf0 hf1 hfin
              go_wp2
              go_ret
              exact ⟨HGg.out, gq - 1, G, rfl, ⟨by omega, by omega⟩, HGl.out, HGL.out, by rw [<- HU.out, <- HV.out, Hfin.out]; exact HR2.out, by rw [<- HV.out, Hfin.out]; exact HR.out.2.1, HGa.out⟩
  have KEY := Lib.hid key
  clear key hK1
  go_loopw [7, 8] (fun gv rv wr => ∃ gq r : Int, gv = .int .u64 gq /\ rv = .int .u64 r /\ r < 1000000000 /\ Big.Gs U V v1 h0 gq r /\ Below w.heap.size w wr) (fun gv _ _ => (intOf gv).toNat)
  case atStart => exact ⟨_, _, rfl, rfl, Hst.out.2, Hst.out.1, below_drawn (below_drawn (Below.refl _ _) _) _⟩
  case round =>
    obtain ⟨gq, r, rfl, rfl, hr1, hgs, hbr⟩ := hrel
    have hgs' := hgs
    rw [Hh.out] at hgs'
    have g0 := hgs.1.1
    have r0 := hgs.1.2
    have gm := HD.out.most hgs'
    have m0 : 0 <= gq * v2 := Int.mul_nonneg g0 p2.1
    have m1 : gq * v2 <= 2000000000 * 999999999 := Int.mul_le_mul gm (by omega) p2.1 (by omega)
    have x1r := (hbr.cell (p := ⟨b, o + (m + 1), none⟩) hbB).trans x1
    have x2r := (hbr.cell (p := ⟨b, o + m, none⟩) hbB).trans x2
    have y3r := (hbr.cell (p := ⟨g, j + m, none⟩) hgB).trans y3
    have hbw : b < wr.heap.size := Nat.lt_of_lt_of_le hbB hbr.size
    have hgw : g < wr.heap.size := Nat.lt_of_lt_of_le hgB hbr.size
    have Hgs := Lib.hid hgs'
    have Hbr := Lib.hid hbr
    have HX := Lib.hid (And.intro x1 (And.intro x2 y3))
    clear hgs hgs' x1 x2 y1 y2 y3 hbr
    by_cases c1 : 1000000000 <= gq
    · obtain ⟨k1, hgs2⟩ := HD.out.step Hgs.out (.inl c1)
      have Hgs2 := Lib.hid hgs2
      clear hgs2
      go_upto_region 4 with (fail)
      go_quiet (fail)
      
      by_cases c3 : 1000000000 <= r + v1
      · go_wp2
        exact KEY.out (gq - 1) _ _ _ _ _ _ _ _ _ _ _ _ _ _ _ _ _ _ _ _ _ _ _ _ _ _ _ _ _ _ _ _ _ _ _ _ _ _ _ _ _ _ _ _ _ _ _ _ _ _ _ _ _ _ _ _ _ _ _ _ _ _ _ _ _ _ _ _ (HD.out.large Hgs2.out c3) (below_drawn Hbr.out _)
      · go_wp2
        go_roundw
        case rel => exact ⟨gq - 1, r + v1, by go_num, by go_num, by omega, by rw [Hh.out]; exact Hgs2.out, (below_drawn Hbr.out _)⟩
        case measure => simp [intOf]; omega
    · by_cases c2 : r * 1000000000 + a3 < gq * v2
      · obtain ⟨k1, hgs2⟩ := HD.out.step Hgs.out (.inr c2)
        have Hgs2 := Lib.hid hgs2
        clear hgs2
        go_upto_region 4 with (fail)
        go_quiet (fail)
        
        by_cases c3 : 1000000000 <= r + v1
        · go_wp2
          exact KEY.out (gq - 1) _ _ _ _ _ _ _ _ _ _ _ _ _ _ _ _ _ _ _ _ _ _ _ _ _ _ _ _ _ _ _ _ _ _ _ _ _ _ _ _ _ _ _ _ _ _ _ _ _ _ _ _ _ _ _ _ _ _ _ _ _ _ _ _ _ _ _ _ (HD.out.large Hgs2.out c3) (below_drawn Hbr.out _)
        · go_wp2
          go_roundw
          case rel => exact ⟨gq - 1, r + v1, by go_num, by go_num, by omega, by rw [Hh.out]; exact Hgs2.out, (below_drawn Hbr.out _)⟩
          case measure => simp [intOf]; omega
      · have hgd := HD.out.good Hgs.out (by omega) (by omega)
        have Hgd := Lib.hid hgd
        clear hgd
        go_upto_region 4 with (fail)
        go_quiet (fail)
        go_wp2
        exact KEY.out gq _ _ _ _ _ _ _ _ _ _ _ _ _ _ _ _ _ _ _ _ _ _ _ _ _ _ _ _ _ _ _ _ _ _ _ _ _ _ _ _ _ _ _ _ _ _ _ _ _ _ _ _ _ _ _ _ _ _ _ _ _ _ _ _ _ _ _ _ Hgd.out (below_drawn Hbr.out _)
end
end Go.Proofs.YtalfikdjclineaaGreatDoor
