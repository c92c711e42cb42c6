/- My texts SumS, TimesS. -/
import Derived.Test.YtccapfbblnnfjaaGreatG26
import Derived.Test.YtccapfbblnnfjaaGreatG33
import Derived.Test.YtccapfbblnnfjaaGreatC46
set_option linter.unusedVariables false
set_option linter.unusedSimpArgs false
set_option maxRecDepth 100000
set_option maxHeartbeats 8000000
namespace Go.Proofs.YtccapfbblnnfjaaGreat
open Go.RowKit
theorem itmSizeS : (Tryz.prog.info? 82).map (·.size) = some 7 := by kernel_rfl
section
variable (w : World)
theorem stepc4_any (z : Itm) (pg : Nat) (r : Int) (hp : pg < w.heap.size) (hg : w.cell? ⟨pg, 12, none⟩ = some (.int .i64 r)) :
  Calls Tryz.prog 70 #[.agg #[.int .i64 z.ent0, .int .i64 z.lin, .int .i64 z.ent, .int .i64 z.acct, .int .i64 z.partner, .int .i64 z.date, .int .i64 z.amt], .pointer (some ⟨pg, 0, none⟩)] w fun e w' => e = .returned (.bool (decide (z.acct = r))) /\ Below w.heap.size w w' := by
 obtain ⟨W1, hW1, hB0, hb0, hz⟩ := nw1 w #[.int .i64 z.ent0, .int .i64 z.lin, .int .i64 z.ent, .int .i64 z.acct, .int .i64 z.partner, .int .i64 z.date, .int .i64 z.amt] 82
 have HW := Lib.hid hW1
 have g12 := (hB0.cell (p := ⟨pg, 12, none⟩) hp).trans hg
 have y3 := cell_of_row _ _ 3 _ _ _ hb0
 simp at y3
 have s1 : w.heap.size < W1.heap.size := by omega
 have sp : pg < W1.heap.size := by omega
 obtain ⟨ac, hac⟩ : ∃ ac, ac = z.acct := ⟨_, rfl⟩
 rw [<- hac] at y3
 have Hac := Lib.hid hac
 clear hW1 hb0 hz hg hac
 go_enter Tryz.func70, Tryz.ntmps70
 go_upto_region 1 with (fail)
 rw [<- HW.out]
 by_cases h : ac = r
 ·have hb : (ac == r) = true := by simp [h]
  have HD : Hid (decide (z.acct = r) = true) := by show _ = _; rw [<- Hac.out]; simp [h]
  clear h
  go_wp2
  go_ret
  exact ⟨by rw [HD.out]; rfl, hB0⟩
 ·have hb : (ac == r) = false := by simp [h]
  have HD : Hid (decide (z.acct = r) = false) := by show _ = _; rw [<- Hac.out]; simp [h]
  clear h
  go_wp2
  go_ret
  exact ⟨by rw [HD.out]; rfl, hB0⟩
theorem stepc1_any (g : Grp) (z : Itm) (pg pe po : Nat) (x d : Int) (hp : pg < w.heap.size) (hpe : pe < w.heap.size) (hpo : po < w.heap.size) (hg : w.cell? ⟨pg, 5, none⟩ = some (.int .i64 g.r0)) (he : w.cell? ⟨pe, 0, none⟩ = some (.int .i64 x)) (ho : w.cell? ⟨po, 2, none⟩ = some (.int .i64 d)) :
  Calls Tryz.prog 64 #[.agg #[.int .i64 z.ent0, .int .i64 z.lin, .int .i64 z.ent, .int .i64 z.acct, .int .i64 z.partner, .int .i64 z.date, .int .i64 z.amt], .pointer (some ⟨pg, 0, none⟩), .pointer (some ⟨pe, 0, none⟩), .pointer (some ⟨po, 0, none⟩)] w fun e w' => e = .returned (.bool (Gr.invest1 g x d true z)) /\ Below w.heap.size w w' := by
 obtain ⟨W1, hW1, hB0, hb0, hz⟩ := nw1 w #[.int .i64 z.ent0, .int .i64 z.lin, .int .i64 z.ent, .int .i64 z.acct, .int .i64 z.partner, .int .i64 z.date, .int .i64 z.amt] 82
 have HW := Lib.hid hW1
 have g5 := (hB0.cell (p := ⟨pg, 5, none⟩) hp).trans hg
 have e0 := (hB0.cell (p := ⟨pe, 0, none⟩) hpe).trans he
 have o2 := (hB0.cell (p := ⟨po, 2, none⟩) hpo).trans ho
 have y3 := cell_of_row _ _ 3 _ _ _ hb0
 have y4 := cell_of_row _ _ 4 _ _ _ hb0
 have y5 := cell_of_row _ _ 5 _ _ _ hb0
 simp at y3 y4 y5
 have s1 : w.heap.size < W1.heap.size := by omega
 have sp : pg < W1.heap.size := by omega
 have spe : pe < W1.heap.size := by omega
 have spo : po < W1.heap.size := by omega
 obtain ⟨ac, hac⟩ : ∃ ac, ac = z.acct := ⟨_, rfl⟩
 obtain ⟨pa, hpa⟩ : ∃ pa, pa = z.partner := ⟨_, rfl⟩
 obtain ⟨da, hda⟩ : ∃ da, da = z.date := ⟨_, rfl⟩
 rw [<- hac] at y3
 rw [<- hpa] at y4
 rw [<- hda] at y5
 have HP : Hid (Gr.invest1 g x d true z = (decide (ac = g.r0) && decide (pa = x) && (decide (d < da) == true))) := by show _ = _; rw [Gr.invest1, <- hac, <- hpa, <- hda]
 clear hW1 hb0 hz hg he ho hac hpa hda
 go_enter Tryz.func64, Tryz.ntmps64
 go_upto_region 1 with (fail)
 rw [<- HW.out]
 by_cases h1 : ac = g.r0
 case neg =>
  have h1b : (ac == g.r0) = false := by simp [h1]
  have HB : Hid (Gr.invest1 g x d true z = false) := by show _ = _; rw [HP.out]; simp [h1]
  clear h1
  go_wp2
  go_ret
  exact ⟨by rw [HB.out]; rfl, hB0⟩
 have h1b : (ac == g.r0) = true := by simp [h1]
 by_cases h2 : pa = x
 case neg =>
  have h2b : (pa == x) = false := by simp [h2]
  have HB : Hid (Gr.invest1 g x d true z = false) := by show _ = _; rw [HP.out]; simp [h2]
  clear h1 h2
  go_wp2
  go_ret
  exact ⟨by rw [HB.out]; rfl, hB0⟩
 have h2b : (pa == x) = true := by simp [h2]
 by_cases h3 : d < da
 ·have HB : Hid (Gr.invest1 g x d true z = true) := by show _ = _; rw [HP.out]; simp [h1, h2]; omega
  clear h1 h2
  go_wp2
  go_ret
  exact ⟨by rw [HB.out]; rfl, hB0⟩
 ·have HB : Hid (Gr.invest1 g x d true z = false) := by show _ = _; rw [HP.out]; simp [h1, h2]; omega
  clear h1 h2
  go_wp2
  go_ret
  exact ⟨by rw [HB.out]; rfl, hB0⟩
theorem stepamt_any (z : Itm) :
  Calls Tryz.prog 68 #[.agg #[.int .i64 z.ent0, .int .i64 z.lin, .int .i64 z.ent, .int .i64 z.acct, .int .i64 z.partner, .int .i64 z.date, .int .i64 z.amt]] w fun e w' => e = .returned (.int .i64 z.amt) /\ Below w.heap.size w w' := by
 obtain ⟨W1, hW1, hB0, hb0, hz⟩ := nw1 w #[.int .i64 z.ent0, .int .i64 z.lin, .int .i64 z.ent, .int .i64 z.acct, .int .i64 z.partner, .int .i64 z.date, .int .i64 z.amt] 82
 have HW := Lib.hid hW1
 have y6 := cell_of_row _ _ 6 _ _ _ hb0
 simp at y6
 have s1 : w.heap.size < W1.heap.size := by omega
 clear hW1 hb0 hz
 go_enter Tryz.func68, Tryz.ntmps68
 go_upto_region 1 with (fail)
 rw [<- HW.out]
 go_wp2
 go_ret
 exact ⟨rfl, hB0⟩
theorem stepsum4_any (A : Option Addr) (n c : Nat) (l : List Itm) (hl : l.length = n) (hn : n <= 40) (hx : ∀ x ∈ l, x.small) (hA : ItmsAt w w.heap.size A l) (pg : Nat) (r : Int) (hp : pg < w.heap.size) (hg : w.cell? ⟨pg, 12, none⟩ = some (.int .i64 r)) :
  Calls Tryz.prog 67 #[.slice A n c, .func (.func 68) #[] #[], .func (.func 70) #[] #[.pointer (some ⟨pg, 0, none⟩)]] w fun e w' => e = .returned (.int .i64 (Gr.sumIf (fun z => decide (z.acct = r)) l)) /\ Below w.heap.size w w' := by
 have HA := Lib.hid hA
 have HX := Lib.hid hx
 have Hl := Lib.hid hl
 have HG := Lib.hid hg
 clear hg
 clear hA hx hl
 go_enter Tryz.func67, Tryz.ntmps67
 go_wp2
 go_loopw [7, 12] (fun s i wr => ∃ k : Nat, k <= n /\ i = .int .i64 k /\ s = .int .i64 (Gr.sumIf (fun z => decide (z.acct = r)) (l.take k)) /\ Below w.heap.size w wr) (fun _ i _ => n - (intOf i).toNat)
 case atStart => exact ⟨0, Nat.zero_le _, rfl, rfl, Below.refl _ _⟩
 case round =>
  obtain ⟨k, hk, rfl, rfl, hbr⟩ := hrel
  obtain ⟨s, hs⟩ : ∃ s, s = Gr.sumIf (fun z => decide (z.acct = r)) (l.take k) := ⟨_, rfl⟩
  obtain ⟨lo, hi⟩ := Gr.sumIf_take_small (P := (fun z => decide (z.acct = r))) k Hl.out hn HX.out
  rw [<- hs] at lo hi ⊢
  have Hs := Lib.hid hs
  have hq := hbr.size
  clear hs
  by_cases hlt : k < n
  ·have hkl : k < l.length := by have := Hl.out; omega
   obtain ⟨b, o, hAe, hbB, hr⟩ := RowsAt.look (RowsAt.below HA.out hbr (Nat.le_refl _)) hkl
   cases hAe
   obtain ⟨zi, hzi⟩ : ∃ zi, zi = l[k] := ⟨_, rfl⟩
   have HN : Hid (Gr.sumIf (fun z => decide (z.acct = r)) (l.take (k + 1)) = s + (if decide (zi.acct = r) = true then zi.amt else 0)) := by show _ = _; rw [Gr.sumIf_take _ hkl, <- Hs.out, <- hzi]
   obtain ⟨zl, zh⟩ : zi.small := by rw [hzi]; exact HX.out _ (List.getElem_mem hkl)
   rw [<- hzi] at hr
   have Hr := Lib.hid hr
   have hbw : b < wr.heap.size := by omega
   have hk0 : (0 : Int) <= (k : Int) := by omega
   have hkn : (k : Int) < n := by omega
   obtain ⟨W6, hW6, hB6, hb6, hz6⟩ := nw1 wr #[.int .i64 zi.ent0, .int .i64 zi.lin, .int .i64 zi.ent, .int .i64 zi.acct, .int .i64 zi.partner, .int .i64 zi.date, .int .i64 zi.amt] 82
   have HW6 := Lib.hid hW6
   have Hb6 := Lib.hid hb6
   have hbr6 := hbr.trans (hB6.mono hq)
   have hrz := Lib.hid (range_row (cs := [.int .i64 zi.ent0, .int .i64 zi.lin, .int .i64 zi.ent, .int .i64 zi.acct, .int .i64 zi.partner, .int .i64 zi.date, .int .i64 zi.amt]) hb6)
   have s6 : wr.heap.size < W6.heap.size := by omega
   have hq6 := hbr6.size
   have Hcall := Lib.hid (stepc4_any W6 zi pg r (by omega) ((hbr6.cell (p := ⟨pg, 12, none⟩) hp).trans HG.out))
   obtain ⟨t, ht⟩ : ∃ t, t = decide (zi.acct = r) := ⟨_, rfl⟩
   clear hzi hr hb6 hz6 hW6
   go_upto_region 5 with (refine wpList_load_mid rfl 82 (.tmp 14) rfl b (o + k * 7) rfl [.int .i64 zi.ent0, .int .i64 zi.lin, .int .i64 zi.ent, .int .i64 zi.acct, .int .i64 zi.partner, .int .i64 zi.date, .int .i64 zi.amt] _ Hr.out Tryz.underlying82 rfl itmSizeS ?_)
   rw [<- HW6.out]
   go_wp2_with (refine wpList_load_mid rfl 82 (.tmp 9) rfl wr.heap.size 0 rfl [.int .i64 zi.ent0, .int .i64 zi.lin, .int .i64 zi.ent, .int .i64 zi.acct, .int .i64 zi.partner, .int .i64 zi.date, .int .i64 zi.amt] _ hrz.out Tryz.underlying82 rfl itmSizeS ?_)
   refine Hcall.out.mono ?_
   rw [<- ht]
   rintro e W7 ⟨rfl, hB7⟩
   have hb7 := gbox Hb6.out hB7 s6
   have Hrz7 := Lib.hid (range_row (cs := [.int .i64 zi.ent0, .int .i64 zi.lin, .int .i64 zi.ent, .int .i64 zi.acct, .int .i64 zi.partner, .int .i64 zi.date, .int .i64 zi.amt]) hb7)
   have s7 := some_lt hb7
   have Hamt := Lib.hid (stepamt_any W7 zi)
   have hbr7 := Lib.hid (hbr6.trans (hB7.mono hq6))
   obtain ⟨am, ham⟩ : ∃ am, am = zi.amt := ⟨_, rfl⟩
   rw [<- ham] at zl zh HN
   have Ham := Lib.hid ham
   rw [<- ht] at HN
   clear hb7 ham ht
   cases t with
   | true =>
    have HN2 : Hid (Gr.sumIf (fun z => decide (z.acct = r)) (l.take (k + 1)) = s + am) := by show _ = _; rw [HN.out]; simp
    go_wp2_with (refine wpList_load_mid rfl 82 (.tmp 9) rfl wr.heap.size 0 rfl [.int .i64 zi.ent0, .int .i64 zi.lin, .int .i64 zi.ent, .int .i64 zi.acct, .int .i64 zi.partner, .int .i64 zi.date, .int .i64 zi.amt] _ Hrz7.out Tryz.underlying82 rfl itmSizeS ?_)
    refine Hamt.out.mono ?_
    rw [<- Ham.out]
    rintro e W8 ⟨rfl, hB8⟩
    have hbr8 := Lib.hid (hbr7.out.trans (hB8.mono hbr7.out.size))
    go_wp2
    go_roundw
    case rel => exact ⟨k + 1, by omega, by go_num, by rw [HN2.out], hbr8.out⟩
    case measure => simp [intOf]; omega
   | false =>
    have HN2 : Hid (Gr.sumIf (fun z => decide (z.acct = r)) (l.take (k + 1)) = s) := by show _ = _; rw [HN.out]; simp
    go_wp2
    go_roundw
    case rel => exact ⟨k + 1, by omega, by go_num, by rw [HN2.out], hbr7.out⟩
    case measure => simp [intOf]; omega
  ·obtain rfl : k = n := by omega
   have HV : Hid (Gr.sumIf (fun z => decide (z.acct = r)) l = s) := by
    show _ = _
    have := Hs.out
    rw [<- Hl.out, List.take_length] at this
    exact this.symm
   go_wp2
   go_ret
   exact ⟨by rw [HV.out]; rfl, hbr⟩
theorem stepsum1_any (A : Option Addr) (n c : Nat) (l : List Itm) (hl : l.length = n) (hn : n <= 40) (hx : ∀ x ∈ l, x.small) (hA : ItmsAt w w.heap.size A l) (g : Grp) (pg pe po : Nat) (x d : Int) (hp : pg < w.heap.size) (hpe : pe < w.heap.size) (hpo : po < w.heap.size) (hg : w.cell? ⟨pg, 5, none⟩ = some (.int .i64 g.r0)) (he : w.cell? ⟨pe, 0, none⟩ = some (.int .i64 x)) (ho : w.cell? ⟨po, 2, none⟩ = some (.int .i64 d)) :
  Calls Tryz.prog 67 #[.slice A n c, .func (.func 68) #[] #[], .func (.func 64) #[] #[.pointer (some ⟨pg, 0, none⟩), .pointer (some ⟨pe, 0, none⟩), .pointer (some ⟨po, 0, none⟩)]] w fun e w' => e = .returned (.int .i64 (Gr.sumIf (Gr.invest1 g x d true) l)) /\ Below w.heap.size w w' := by
 have HA := Lib.hid hA
 have HX := Lib.hid hx
 have Hl := Lib.hid hl
 have HG := Lib.hid hg
 have HE := Lib.hid he
 have HO := Lib.hid ho
 clear hg he ho
 clear hA hx hl
 go_enter Tryz.func67, Tryz.ntmps67
 go_wp2
 go_loopw [7, 12] (fun s i wr => ∃ k : Nat, k <= n /\ i = .int .i64 k /\ s = .int .i64 (Gr.sumIf (Gr.invest1 g x d true) (l.take k)) /\ Below w.heap.size w wr) (fun _ i _ => n - (intOf i).toNat)
 case atStart => exact ⟨0, Nat.zero_le _, rfl, rfl, Below.refl _ _⟩
 case round =>
  obtain ⟨k, hk, rfl, rfl, hbr⟩ := hrel
  obtain ⟨s, hs⟩ : ∃ s, s = Gr.sumIf (Gr.invest1 g x d true) (l.take k) := ⟨_, rfl⟩
  obtain ⟨lo, hi⟩ := Gr.sumIf_take_small (P := (Gr.invest1 g x d true)) k Hl.out hn HX.out
  rw [<- hs] at lo hi ⊢
  have Hs := Lib.hid hs
  have hq := hbr.size
  clear hs
  by_cases hlt : k < n
  ·have hkl : k < l.length := by have := Hl.out; omega
   obtain ⟨b, o, hAe, hbB, hr⟩ := RowsAt.look (RowsAt.below HA.out hbr (Nat.le_refl _)) hkl
   cases hAe
   obtain ⟨zi, hzi⟩ : ∃ zi, zi = l[k] := ⟨_, rfl⟩
   have HN : Hid (Gr.sumIf (Gr.invest1 g x d true) (l.take (k + 1)) = s + (if Gr.invest1 g x d true zi = true then zi.amt else 0)) := by show _ = _; rw [Gr.sumIf_take _ hkl, <- Hs.out, <- hzi]
   obtain ⟨zl, zh⟩ : zi.small := by rw [hzi]; exact HX.out _ (List.getElem_mem hkl)
   rw [<- hzi] at hr
   have Hr := Lib.hid hr
   have hbw : b < wr.heap.size := by omega
   have hk0 : (0 : Int) <= (k : Int) := by omega
   have hkn : (k : Int) < n := by omega
   obtain ⟨W6, hW6, hB6, hb6, hz6⟩ := nw1 wr #[.int .i64 zi.ent0, .int .i64 zi.lin, .int .i64 zi.ent, .int .i64 zi.acct, .int .i64 zi.partner, .int .i64 zi.date, .int .i64 zi.amt] 82
   have HW6 := Lib.hid hW6
   have Hb6 := Lib.hid hb6
   have hbr6 := hbr.trans (hB6.mono hq)
   have hrz := Lib.hid (range_row (cs := [.int .i64 zi.ent0, .int .i64 zi.lin, .int .i64 zi.ent, .int .i64 zi.acct, .int .i64 zi.partner, .int .i64 zi.date, .int .i64 zi.amt]) hb6)
   have s6 : wr.heap.size < W6.heap.size := by omega
   have hq6 := hbr6.size
   have Hcall := Lib.hid (stepc1_any W6 g zi pg pe po x d (by omega) (by omega) (by omega) ((hbr6.cell (p := ⟨pg, 5, none⟩) hp).trans HG.out) ((hbr6.cell (p := ⟨pe, 0, none⟩) hpe).trans HE.out) ((hbr6.cell (p := ⟨po, 2, none⟩) hpo).trans HO.out))
   obtain ⟨t, ht⟩ : ∃ t, t = Gr.invest1 g x d true zi := ⟨_, rfl⟩
   clear hzi hr hb6 hz6 hW6
   go_upto_region 5 with (refine wpList_load_mid rfl 82 (.tmp 14) rfl b (o + k * 7) rfl [.int .i64 zi.ent0, .int .i64 zi.lin, .int .i64 zi.ent, .int .i64 zi.acct, .int .i64 zi.partner, .int .i64 zi.date, .int .i64 zi.amt] _ Hr.out Tryz.underlying82 rfl itmSizeS ?_)
   rw [<- HW6.out]
   go_wp2_with (refine wpList_load_mid rfl 82 (.tmp 9) rfl wr.heap.size 0 rfl [.int .i64 zi.ent0, .int .i64 zi.lin, .int .i64 zi.ent, .int .i64 zi.acct, .int .i64 zi.partner, .int .i64 zi.date, .int .i64 zi.amt] _ hrz.out Tryz.underlying82 rfl itmSizeS ?_)
   refine Hcall.out.mono ?_
   rw [<- ht]
   rintro e W7 ⟨rfl, hB7⟩
   have hb7 := gbox Hb6.out hB7 s6
   have Hrz7 := Lib.hid (range_row (cs := [.int .i64 zi.ent0, .int .i64 zi.lin, .int .i64 zi.ent, .int .i64 zi.acct, .int .i64 zi.partner, .int .i64 zi.date, .int .i64 zi.amt]) hb7)
   have s7 := some_lt hb7
   have Hamt := Lib.hid (stepamt_any W7 zi)
   have hbr7 := Lib.hid (hbr6.trans (hB7.mono hq6))
   obtain ⟨am, ham⟩ : ∃ am, am = zi.amt := ⟨_, rfl⟩
   rw [<- ham] at zl zh HN
   have Ham := Lib.hid ham
   rw [<- ht] at HN
   clear hb7 ham ht
   cases t with
   | true =>
    have HN2 : Hid (Gr.sumIf (Gr.invest1 g x d true) (l.take (k + 1)) = s + am) := by show _ = _; rw [HN.out]; simp
    go_wp2_with (refine wpList_load_mid rfl 82 (.tmp 9) rfl wr.heap.size 0 rfl [.int .i64 zi.ent0, .int .i64 zi.lin, .int .i64 zi.ent, .int .i64 zi.acct, .int .i64 zi.partner, .int .i64 zi.date, .int .i64 zi.amt] _ Hrz7.out Tryz.underlying82 rfl itmSizeS ?_)
    refine Hamt.out.mono ?_
    rw [<- Ham.out]
    rintro e W8 ⟨rfl, hB8⟩
    have hbr8 := Lib.hid (hbr7.out.trans (hB8.mono hbr7.out.size))
    go_wp2
    go_roundw
    case rel => exact ⟨k + 1, by omega, by go_num, by rw [HN2.out], hbr8.out⟩
    case measure => simp [intOf]; omega
   | false =>
    have HN2 : Hid (Gr.sumIf (Gr.invest1 g x d true) (l.take (k + 1)) = s) := by show _ = _; rw [HN.out]; simp
    go_wp2
    go_roundw
    case rel => exact ⟨k + 1, by omega, by go_num, by rw [HN2.out], hbr7.out⟩
    case measure => simp [intOf]; omega
  ·obtain rfl : k = n := by omega
   have HV : Hid (Gr.sumIf (Gr.invest1 g x d true) l = s) := by
    show _ = _
    have := Hs.out
    rw [<- Hl.out, List.take_length] at this
    exact this.symm
   go_wp2
   go_ret
   exact ⟨by rw [HV.out]; rfl, hbr⟩
theorem consSizeS : (Tryz.prog.info? 94).map (·.size) = some 13 := by kernel_rfl
theorem stepc3_any (x : Con) :
  Calls Tryz.prog 69 #[.agg #[.int .i64 x.ent, .int .i64 x.meth, .int .i64 x.since, .bool x.sg1, .slice x.sA1 x.sn1 x.sc1, .bool x.sg2, .slice x.sA2 x.sn2 x.sc2, .bool x.fg1, .slice x.fA1 x.fn1 x.fc1, .bool x.fg2, .slice x.fA2 x.fn2 x.fc2, .slice x.iA x.im x.ic, .slice x.hA x.hm x.hc]] w fun e w' => e = .returned (.bool (decide (x.meth = 3))) /\ Below w.heap.size w w' := by
 obtain ⟨W1, hW1, hB0, hb0, hz⟩ := nw1 w #[.int .i64 x.ent, .int .i64 x.meth, .int .i64 x.since, .bool x.sg1, .slice x.sA1 x.sn1 x.sc1, .bool x.sg2, .slice x.sA2 x.sn2 x.sc2, .bool x.fg1, .slice x.fA1 x.fn1 x.fc1, .bool x.fg2, .slice x.fA2 x.fn2 x.fc2, .slice x.iA x.im x.ic, .slice x.hA x.hm x.hc] 94
 have HW := Lib.hid hW1
 have y1 := cell_of_row _ _ 1 _ _ _ hb0
 simp at y1
 have s1 : w.heap.size < W1.heap.size := by omega
 obtain ⟨mt, hmt⟩ : ∃ mt, mt = x.meth := ⟨_, rfl⟩
 rw [<- hmt] at y1
 have Hmt := Lib.hid hmt
 clear hW1 hb0 hz hmt
 go_enter Tryz.func69, Tryz.ntmps69
 go_upto_region 1 with (fail)
 rw [<- HW.out]
 by_cases h : mt = 3
 ·have hb : (mt == 3) = true := by simp [h]
  have HD : Hid (decide (x.meth = 3) = true) := by show _ = _; rw [<- Hmt.out]; simp [h]
  clear h
  go_wp2
  go_ret
  exact ⟨by rw [HD.out]; rfl, hB0⟩
 ·have hb : (mt == 3) = false := by simp [h]
  have HD : Hid (decide (x.meth = 3) = false) := by show _ = _; rw [<- Hmt.out]; simp [h]
  clear h
  go_wp2
  go_ret
  exact ⟨by rw [HD.out]; rfl, hB0⟩
theorem stepc2_any (x0 : Con) (y : Cnt) (hy : x0.Holds SD w w.heap.size y) (g : Grp) (pl pg pe po : Nat) (x d : Int) (hpl : pl < w.heap.size) (hl : w.cell? ⟨pl, 0, none⟩ = some (.func (.func 64) #[] #[.pointer (some ⟨pg, 0, none⟩), .pointer (some ⟨pe, 0, none⟩), .pointer (some ⟨po, 0, none⟩)]))
  (hp : pg < w.heap.size) (hpe : pe < w.heap.size) (hpo : po < w.heap.size) (hg : w.cell? ⟨pg, 5, none⟩ = some (.int .i64 g.r0)) (he : w.cell? ⟨pe, 0, none⟩ = some (.int .i64 x)) (ho : w.cell? ⟨po, 2, none⟩ = some (.int .i64 d)) :
  Calls Tryz.prog 66 #[.agg #[.int .i64 x0.ent, .int .i64 x0.meth, .int .i64 x0.since, .bool x0.sg1, .slice x0.sA1 x0.sn1 x0.sc1, .bool x0.sg2, .slice x0.sA2 x0.sn2 x0.sc2, .bool x0.fg1, .slice x0.fA1 x0.fn1 x0.fc1, .bool x0.fg2, .slice x0.fA2 x0.fn2 x0.fc2, .slice x0.iA x0.im x0.ic, .slice x0.hA x0.hm x0.hc], .pointer (some ⟨pl, 0, none⟩)] w fun e w' => e = .returned (.int .i64 (Gr.sumIf (Gr.invest1 g x d true) y.its)) /\ Below w.heap.size w w' := by
 obtain ⟨W1, hW1, hB0, hb0, hz⟩ := nw1 w #[.int .i64 x0.ent, .int .i64 x0.meth, .int .i64 x0.since, .bool x0.sg1, .slice x0.sA1 x0.sn1 x0.sc1, .bool x0.sg2, .slice x0.sA2 x0.sn2 x0.sc2, .bool x0.fg1, .slice x0.fA1 x0.fn1 x0.fc1, .bool x0.fg2, .slice x0.fA2 x0.fn2 x0.fc2, .slice x0.iA x0.im x0.ic, .slice x0.hA x0.hm x0.hc] 94
 have HW := Lib.hid hW1
 have y11 := cell_of_row _ _ 11 _ _ _ hb0
 simp at y11
 have l0 := (hB0.cell (p := ⟨pl, 0, none⟩) hpl).trans hl
 have s1 : w.heap.size < W1.heap.size := by omega
 have sl : pl < W1.heap.size := by omega
 have Hs := Lib.hid (stepsum1_any W1 x0.iA x0.im x0.ic y.its hy.hil hy.hin hy.hix (RowsAt.at_ hy.hiA hB0) g pg pe po x d (by omega) (by omega) (by omega) ((hB0.cell (p := ⟨pg, 5, none⟩) hp).trans hg) ((hB0.cell (p := ⟨pe, 0, none⟩) hpe).trans he) ((hB0.cell (p := ⟨po, 2, none⟩) hpo).trans ho))
 have HB0 := Lib.hid hB0
 clear hW1 hb0 hz hy hl hg he ho hB0
 go_enter Tryz.func66, Tryz.ntmps66
 go_upto_region 1 with (fail)
 rw [<- HW.out]
 go_wp2_with (fail)
 refine Hs.out.mono ?_
 rintro e W2 ⟨rfl, hB2⟩
 go_wp2
 go_ret
 exact ⟨rfl, HB0.out.trans (hB2.mono HB0.out.size)⟩
theorem stepsumc_any (A : Option Addr) (n c : Nat) (l : List Con) (m : List Cnt) (hl : l.length = n) (hn : n <= 100) (hA : ConsAt w w.heap.size A l) (hm : Hold (fun a b => a.Holds SD w w.heap.size b) l m) (g : Grp) (pl pg pe po : Nat) (x d : Int) (hpl : pl < w.heap.size) (hlc : w.cell? ⟨pl, 0, none⟩ = some (.func (.func 64) #[] #[.pointer (some ⟨pg, 0, none⟩), .pointer (some ⟨pe, 0, none⟩), .pointer (some ⟨po, 0, none⟩)]))
  (hp : pg < w.heap.size) (hpe : pe < w.heap.size) (hpo : po < w.heap.size) (hg : w.cell? ⟨pg, 5, none⟩ = some (.int .i64 g.r0)) (he : w.cell? ⟨pe, 0, none⟩ = some (.int .i64 x)) (ho : w.cell? ⟨po, 2, none⟩ = some (.int .i64 d)) :
  Calls Tryz.prog 65 #[.slice A n c, .func (.func 66) #[] #[.pointer (some ⟨pl, 0, none⟩)], .func (.func 69) #[] #[]] w fun e w' => e = .returned (.int .i64 (Gr.invest g x d true m)) /\ Below w.heap.size w w' := by
 have HA := Lib.hid hA
 have HM := Lib.hid hm
 have Hl := Lib.hid hl
 have Hml := Lib.hid (Hold.len hm)
 have Hits := Lib.hid (Hold.its hm)
 have HL := Lib.hid hlc
 have HG := Lib.hid hg
 have HE := Lib.hid he
 have HO := Lib.hid ho
 clear hA hm hl hlc hg he ho
 go_enter Tryz.func65, Tryz.ntmps65
 go_wp2
 go_loopw [7, 12] (fun s i wr => ∃ k : Nat, k <= n /\ i = .int .i64 k /\ s = .int .i64 (Gr.invest g x d true (m.take k)) /\ Below w.heap.size w wr) (fun _ i _ => n - (intOf i).toNat)
 case atStart => exact ⟨0, Nat.zero_le _, rfl, rfl, Below.refl _ _⟩
 case round =>
  obtain ⟨k, hk, rfl, rfl, hbr⟩ := hrel
  obtain ⟨s, hs⟩ : ∃ s, s = Gr.invest g x d true (m.take k) := ⟨_, rfl⟩
  have hsb := Gr.invest_bd g x d true (m.take k) fun y hy => Hits.out y (List.mem_of_mem_take hy)
  have htl : (m.take k).length <= 100 := by rw [List.length_take]; omega
  rw [<- hs] at hsb ⊢
  obtain ⟨lo, hi⟩ : -4000000000000000 <= s /\ s <= 4000000000000000 := by omega
  have Hs := Lib.hid hs
  have hq := hbr.size
  clear hs hsb htl
  by_cases hlt : k < n
  ·have hkl : k < l.length := by have := Hl.out; omega
   have hkm : k < m.length := by have := Hml.out; omega
   obtain ⟨b, o, hAe, hbB, hr⟩ := RowsAt.look (RowsAt.below HA.out hbr (Nat.le_refl _)) hkl
   cases hAe
   have hHo := (HM.out.get k hkl hkm).belowD hbr (Nat.le_refl _)
   obtain ⟨xk, hxk⟩ : ∃ xk, xk = l[k] := ⟨_, rfl⟩
   obtain ⟨yk, hyk⟩ : ∃ yk, yk = m[k] := ⟨_, rfl⟩
   have HN : Hid (Gr.invest g x d true (m.take (k + 1)) = s + (if yk.meth = 3 then Gr.sumIf (Gr.invest1 g x d true) yk.its else 0)) := by show _ = _; rw [Gr.invest_take _ _ _ _ hkm, <- Hs.out, <- hyk]
   rw [<- hxk] at hr hHo
   rw [<- hyk] at hHo
   have Hr := Lib.hid hr
   have Hmk := Lib.hid hHo.hm
   have hbw : b < wr.heap.size := by omega
   have hk0 : (0 : Int) <= (k : Int) := by omega
   have hkn : (k : Int) < n := by omega
   obtain ⟨W6, hW6, hB6, hb6, hz6⟩ := nw1 wr #[.int .i64 xk.ent, .int .i64 xk.meth, .int .i64 xk.since, .bool xk.sg1, .slice xk.sA1 xk.sn1 xk.sc1, .bool xk.sg2, .slice xk.sA2 xk.sn2 xk.sc2, .bool xk.fg1, .slice xk.fA1 xk.fn1 xk.fc1, .bool xk.fg2, .slice xk.fA2 xk.fn2 xk.fc2, .slice xk.iA xk.im xk.ic, .slice xk.hA xk.hm xk.hc] 94
   have HW6 := Lib.hid hW6
   have Hb6 := Lib.hid hb6
   have hbr6 := hbr.trans (hB6.mono hq)
   have hrz := Lib.hid (range_row (cs := [.int .i64 xk.ent, .int .i64 xk.meth, .int .i64 xk.since, .bool xk.sg1, .slice xk.sA1 xk.sn1 xk.sc1, .bool xk.sg2, .slice xk.sA2 xk.sn2 xk.sc2, .bool xk.fg1, .slice xk.fA1 xk.fn1 xk.fc1, .bool xk.fg2, .slice xk.fA2 xk.fn2 xk.fc2, .slice xk.iA xk.im xk.ic, .slice xk.hA xk.hm xk.hc]) hb6)
   have s6 : wr.heap.size < W6.heap.size := by omega
   have hq6 := hbr6.size
   have Hy6 := Lib.hid ((hHo.moreD hq).atD hB6)
   have Hcall := Lib.hid (stepc3_any W6 xk)
   obtain ⟨tt, ht⟩ : ∃ tt, tt = decide (xk.meth = 3) := ⟨_, rfl⟩
   have hN2 : Gr.invest g x d true (m.take (k + 1)) = s + (if tt = true then Gr.sumIf (Gr.invest1 g x d true) yk.its else 0) := by rw [HN.out, ht, <- Hmk.out]; simp
   have HN3 := Lib.hid hN2
   have hub := Gr.sumIf_bd (Gr.invest1 g x d true) yk.its Hy6.out.hix
   have hul := Hy6.out.hil
   have hul2 := Hy6.out.hin
   obtain ⟨u, hu⟩ : ∃ u, u = Gr.sumIf (Gr.invest1 g x d true) yk.its := ⟨_, rfl⟩
   rw [<- hu] at hub
   obtain ⟨ul, uh⟩ : -40000000000000 <= u /\ u <= 40000000000000 := by omega
   have Hu := Lib.hid hu
   clear hxk hyk hr hHo hb6 hz6 hW6 hN2 hub hul hul2 hu
   go_upto_region 5 with (refine wpList_load_mid rfl 94 (.tmp 14) rfl b (o + k * 13) rfl [.int .i64 xk.ent, .int .i64 xk.meth, .int .i64 xk.since, .bool xk.sg1, .slice xk.sA1 xk.sn1 xk.sc1, .bool xk.sg2, .slice xk.sA2 xk.sn2 xk.sc2, .bool xk.fg1, .slice xk.fA1 xk.fn1 xk.fc1, .bool xk.fg2, .slice xk.fA2 xk.fn2 xk.fc2, .slice xk.iA xk.im xk.ic, .slice xk.hA xk.hm xk.hc] _ Hr.out Tryz.underlying94 rfl consSizeS ?_)
   rw [<- HW6.out]
   go_wp2_with (refine wpList_load_mid rfl 94 (.tmp 9) rfl wr.heap.size 0 rfl [.int .i64 xk.ent, .int .i64 xk.meth, .int .i64 xk.since, .bool xk.sg1, .slice xk.sA1 xk.sn1 xk.sc1, .bool xk.sg2, .slice xk.sA2 xk.sn2 xk.sc2, .bool xk.fg1, .slice xk.fA1 xk.fn1 xk.fc1, .bool xk.fg2, .slice xk.fA2 xk.fn2 xk.fc2, .slice xk.iA xk.im xk.ic, .slice xk.hA xk.hm xk.hc] _ hrz.out Tryz.underlying94 rfl consSizeS ?_)
   refine Hcall.out.mono ?_
   rw [<- ht]
   rintro e W7 ⟨rfl, hB7⟩
   have hb7 := gbox Hb6.out hB7 s6
   have Hrz7 := Lib.hid (range_row (cs := [.int .i64 xk.ent, .int .i64 xk.meth, .int .i64 xk.since, .bool xk.sg1, .slice xk.sA1 xk.sn1 xk.sc1, .bool xk.sg2, .slice xk.sA2 xk.sn2 xk.sc2, .bool xk.fg1, .slice xk.fA1 xk.fn1 xk.fc1, .bool xk.fg2, .slice xk.fA2 xk.fn2 xk.fc2, .slice xk.iA xk.im xk.ic, .slice xk.hA xk.hm xk.hc]) hb7)
   have s7 := some_lt hb7
   have hbr7 := Lib.hid (hbr6.trans (hB7.mono hq6))
   have hq7 := hbr7.out.size
   have Hc2 := Lib.hid (stepc2_any W7 xk yk (Hy6.out.atD hB7) g pl pg pe po x d (by omega) ((hbr7.out.cell (p := ⟨pl, 0, none⟩) hpl).trans HL.out) (by omega) (by omega) (by omega) ((hbr7.out.cell (p := ⟨pg, 5, none⟩) hp).trans HG.out) ((hbr7.out.cell (p := ⟨pe, 0, none⟩) hpe).trans HE.out) ((hbr7.out.cell (p := ⟨po, 2, none⟩) hpo).trans HO.out))
   rw [<- Hu.out] at Hc2
   clear hb7 ht
   cases tt with
   | true =>
    have HN2 : Hid (Gr.invest g x d true (m.take (k + 1)) = s + u) := by show _ = _; rw [HN3.out, Hu.out]; simp
    go_wp2_with (refine wpList_load_mid rfl 94 (.tmp 9) rfl wr.heap.size 0 rfl [.int .i64 xk.ent, .int .i64 xk.meth, .int .i64 xk.since, .bool xk.sg1, .slice xk.sA1 xk.sn1 xk.sc1, .bool xk.sg2, .slice xk.sA2 xk.sn2 xk.sc2, .bool xk.fg1, .slice xk.fA1 xk.fn1 xk.fc1, .bool xk.fg2, .slice xk.fA2 xk.fn2 xk.fc2, .slice xk.iA xk.im xk.ic, .slice xk.hA xk.hm xk.hc] _ Hrz7.out Tryz.underlying94 rfl consSizeS ?_)
    refine Hc2.out.mono ?_
    rintro e W8 ⟨rfl, hB8⟩
    have hbr8 := Lib.hid (hbr7.out.trans (hB8.mono hbr7.out.size))
    go_wp2
    go_roundw
    case rel => exact ⟨k + 1, by omega, by go_num, by rw [HN2.out], hbr8.out⟩
    case measure => simp [intOf]; omega
   | false =>
    have HN2 : Hid (Gr.invest g x d true (m.take (k + 1)) = s) := by show _ = _; rw [HN3.out]; simp
    go_wp2
    go_roundw
    case rel => exact ⟨k + 1, by omega, by go_num, by rw [HN2.out], hbr7.out⟩
    case measure => simp [intOf]; omega
  ·obtain rfl : k = n := by omega
   have HV : Hid (Gr.invest g x d true m = s) := by
    show _ = _
    have := Hs.out
    rw [List.take_of_length_le (by have := Hml.out; have := Hl.out; omega)] at this
    exact this.symm
   go_wp2
   go_ret
   exact ⟨by rw [HV.out]; rfl, hbr⟩
end
theorem red_le40 (a : Int) {D : Int} (hD : 0 < D) : Int.tdiv D (Int.gcd a D) <= D := by
 obtain ⟨q, hq⟩ := Int.gcd_dvd_right a D
 have h0 : (0 : Int) <= (Int.gcd a D : Int) := Int.natCast_nonneg _
 obtain ⟨G, hG⟩ : ∃ G, G = (Int.gcd a D : Int) := ⟨_, rfl⟩
 rw [<- hG] at hq h0 ⊢
 have hG0 : G ≠ 0 := by intro e; subst e; rw [Int.zero_mul] at hq; omega
 have e2 : Int.tdiv D G = q := by rw [hq, Int.mul_tdiv_cancel_left _ hG0]
 rw [e2]
 have hqp : 0 < q := by
  rw [hq] at hD
  exact Int.pos_of_mul_pos_right hD (by omega)
 have : 1 * q <= G * q := Int.mul_le_mul_of_nonneg_right (by omega) (by omega)
 rw [hq]; omega
theorem redBy_pos40 {a D : Int} (hD : 0 < D) : redBy a D = (Int.gcd a D : Int) := by unfold redBy; rw [if_neg (by omega)]
section
variable (w : World)
theorem times40_any (n N D : Int) (s1 : Bool) (S1 : Option Addr) (m1 d1 : Nat) (s2 : Bool) (S2 : Option Addr) (m2 d2 : Nat) (h0 : -100000000000000 <= n) (h1 : n <= 100000000000000) (hs : SD w w.heap.size (.agg #[.bool s1, .slice S1 m1 d1, .bool s2, .slice S2 m2 d2]) N D) (hsk : ShareOk N D) :
  Calls Tryz.prog 71 #[.int .i64 n, .agg #[.bool s1, .slice S1 m1 d1, .bool s2, .slice S2 m2 d2]] w fun e w' => e = .returned (.tuple #[.int .i64 (R1.rd n N D), .bool true]) /\ Below w.heap.size w w' := by
 obtain ⟨W1, hW1, hB0, hb0, hz0⟩ := nw1 w #[.bool s1, .slice S1 m1 d1, .bool s2, .slice S2 m2 d2] 92
 have HW1 := Lib.hid hW1
 have Hb0 := Lib.hid hb0
 have Hy := Lib.hid (RI.more (SD_below hs hB0 (Nat.le_refl _)) hB0.size (Nat.le_refl _) (Nat.le_refl _))
 have Hso := Lib.hid hsk
 have Hbd := Lib.hid (rd_small hsk h0 h1)
 have sz1 : w.heap.size < W1.heap.size := by omega
 clear hW1 hb0 hz0 hs hsk
 go_enter Tryz.func71, Tryz.ntmps71
 go_upto_region 1 with (fail)
 rw [<- HW1.out]
 go_wp2_with (fail)
 refine (ratof_any W1 n 1 (by omega) (by omega) (by omega) (by omega) (by omega)).mono ?_
 rintro e W2 ⟨⟨r2, rfl, hr2⟩, hB2⟩
 have e1 : redBy n 1 = 1 := by rw [redBy_pos40 (by omega)]; simp
 rw [e1, Int.tdiv_one, Int.tdiv_one] at hr2
 obtain ⟨g1, A1, n1, c1, g2, A2, n2, c2, rfl⟩ := hr2.open
 obtain ⟨hB3, hb3, hz3⟩ := row_new W2 #[.bool g1, .slice A1 n1 c1, .bool g2, .slice A2 n2 c2] 92
 have hB13 := hB2.trans (hB3.mono hB2.size)
 have he0 := gbox Hb0.out hB13 sz1
 obtain ⟨W3, hW3⟩ : ∃ W3, W3 = W2.alloc (.cells #[.bool g1, .slice A1 n1 c1, .bool g2, .slice A2 n2 c2] 92) := ⟨_, rfl⟩
 rw [<- hW3] at hB3 hb3 hz3 hB13 he0
 have hB03 := hB0.trans (hB13.mono hB0.size)
 have HW3 := Lib.hid hW3
 have hr3 := Lib.hid (hr2.at_ hB3)
 have hy3 := Lib.hid (RI.more (SD_below Hy.out hB13 (Nat.le_refl _)) hB13.size (Nat.le_refl _) (Nat.le_refl _))
 have hrr := Lib.hid (range_row (cs := [.bool g1, .slice A1 n1 c1, .bool g2, .slice A2 n2 c2]) hb3)
 have hsr := Lib.hid (range_row (cs := [.bool s1, .slice S1 m1 d1, .bool s2, .slice S2 m2 d2]) he0)
 have hpos : Hid (0 < Int.tdiv (1 * D) (redBy (n * N) (1 * D)) /\ Int.tdiv (1 * D) (redBy (n * N) (1 * D)) <= 1000000) := Lib.hid (by
  have h := Hso.out.1
  have h2 := Hso.out.2.1
  rw [Int.one_mul, redBy_pos40 h]
  have a := R1.red_pos (n * N) h
  have b := red_le40 (n * N) h
  omega)
 have s3 : W2.heap.size < W3.heap.size := by omega
 have spo := some_lt he0
 clear hW3 hz3 hb3 he0
 go_upto_region 2 with (fail)
 rw [<- HW3.out]
 go_wp2_with (first | (refine wpList_load_mid rfl 92 (.tmp 6) rfl W2.heap.size 0 rfl [.bool g1, .slice A1 n1 c1, .bool g2, .slice A2 n2 c2] _ hrr.out Tryz.underlying92 rfl ratSize ?_) | (refine wpList_load_mid rfl 92 (.tmp 3) rfl w.heap.size 0 rfl [.bool s1, .slice S1 m1 d1, .bool s2, .slice S2 m2 d2] _ hsr.out Tryz.underlying92 rfl ratSize ?_))
 refine (mul_rat W3 3 1 3 1 _ _ n 1 N D (by omega) (by omega) (by omega) (by have := Hso.out.1; omega) (by have := Hso.out.1; omega) (by have := Hso.out.2.1; omega) hr3.out hy3.out).mono ?_
 rintro e W4 ⟨⟨r4, rfl, hr4⟩, hB4⟩
 have hB04 := hB03.trans (hB4.mono hB03.size)
 go_wp2_with (fail)
 refine (round_rat W4 6 _ _ _ (by omega) (by have := hpos.out; omega) (by have := hpos.out; omega) (by have := hpos.out; omega) hr4).mono ?_
 rw [rd_prog Hso.out.1]
 rintro e W5 ⟨⟨r5, rfl, hr5⟩, hB5⟩
 have hB05 := hB04.trans (hB5.mono hB04.size)
 go_wp2_with (fail)
 refine (small_any W5 _ _ _ (by omega) hr5).mono ?_
 rw [if_pos (by have := Hbd.out; omega), decide_eq_true (by have := Hbd.out; omega)]
 rintro e W6 ⟨rfl, hB6⟩
 have hB06 := hB05.trans (hB6.mono hB05.size)
 obtain ⟨v, hv⟩ : ∃ v, v = R1.rd n N D := ⟨_, rfl⟩
 rw [<- hv]
 have HVv := Lib.hid hv
 clear hv
 go_wp2
 exact bodyPost_ret (v := .tuple #[.int .i64 v, .bool true]) (by simp [results, Tryz.results71, asAddr, Act.put]) rfl ⟨by rw [HVv.out], hB06⟩
end
end Go.Proofs.YtccapfbblnnfjaaGreat
