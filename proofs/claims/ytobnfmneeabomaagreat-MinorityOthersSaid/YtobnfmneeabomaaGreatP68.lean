/- My texts LawO39. -/
import Derived.Test.YtobnfmneeabomaaGreatK46
import Derived.Test.YtobnfmneeabomaaGreatK48
import Derived.Test.YtobnfmneeabomaaGreatP64
import Derived.Test.YtobnfmneeabomaaGreatP65
import Derived.Test.YtobnfmneeabomaaGreatP67
set_option linter.unusedVariables false
set_option linter.unusedSimpArgs false
set_option maxRecDepth 100000
set_option maxHeartbeats 8000000
namespace Go.Proofs.YtobnfmneeabomaaGreat
open Go.RowKit
section
variable (w : World)
theorem law_others39 (A : Option Addr) (n c : Nat) (l : List Raw) (x y : Int) (hwa : ∀ a ∈ l, ∀ z ∈ a.its, (Lit.int .i64 z.acct).wf = true) (hl : l.length = n) (hn : n <= maxLen) (hr : RawsAt w w.heap.size A l) (hx : ∀ a ∈ l, a.At w w.heap.size) :
  Calls Tryz.prog 4 #[.slice A n c, .int .i64 x, .int .i64 y] w fun e w' => e = .returned (.bool true) /\ Below w.heap.size w w' := by
 have Hl := Lib.hid hl
 have Hr := Lib.hid hr
 have Hx := Lib.hid hx
 unfold maxLen at hn
 have Hn := Lib.hid hn
 clear hl hr hx hn
 go_enter Tryz.func4, Tryz.ntmps4
 have Hwa := Lib.hid hwa
 clear hwa
 go_wp2_with (fail)
 refine (awake39_any w).mono ?_
 rintro e W2 ⟨rfl, hB2⟩
 have Hr2 := Lib.hid (RowsAt.at_ Hr.out hB2)
 have Hx2 := Lib.hid (fun a ha => ((Hx.out a ha).below hB2 (Nat.le_refl _)).more hB2.size : ∀ a ∈ l, a.At W2 W2.heap.size)
 go_wp2_with (fail)
 refine (contrr_any W2 A n c l Hl.out Hn.out Hr2.out Hx2.out).mono ?_
 rintro e W3 ⟨hB3, v, ok, rfl, hok⟩
 have hB03 := hB2.trans (hB3.mono hB2.size)
 have Hr3 := Lib.hid (RowsAt.at_ Hr2.out hB3)
 have Hx3 := Lib.hid (fun a ha => ((Hx2.out a ha).below hB3 (Nat.le_refl _)).more hB3.size : ∀ a ∈ l, a.At W3 W3.heap.size)
 cases ok with
 | false =>
  clear hok
  go_wp2
  go_ret
  exact ⟨rfl, hB03⟩
 | true =>
 obtain ⟨h8, hall, Ar, cr, cs, rfl, hcl, hcs, hho⟩ := hok rfl
 have H8 := Lib.hid h8
 have Hall := Lib.hid hall
 have Hcl := Lib.hid hcl
 have Hcs := Lib.hid hcs
 have Hho := Lib.hid hho
 have Hlr := Lib.hid (show l.length <= 100 by omega)
 clear hok h8 hall hcl hcs hho
 by_cases hy1 : y > 1000000000000
 ·go_wp2
  go_ret
  exact ⟨rfl, hB03⟩
 by_cases hy2 : y < -1000000000000
 ·go_wp2
  go_ret
  exact ⟨rfl, hB03⟩
 have HYB : Hid (-1000000000000 <= y /\ y <= 1000000000000) := Lib.hid (by omega)
 go_wp2_with (fail)
 refine (sample_any W3).mono ?_
 rintro e W4 ⟨hB4, g, rfl, hg, hgs⟩
 have HGS := Lib.hid (Smp.oth39 hgs)
 have hB04 := hB03.trans (hB4.mono hB03.size)
 obtain ⟨W5, hW5, hB5, hb5, hz5⟩ := nw1 W4 #[.string g.cur, .int .i64 g.Y, .int .i64 g.M, .int .i64 g.N, .slice g.cA g.cn g.cc, .int .i64 g.r0, .int .i64 g.r1, .int .i64 g.r2, .int .i64 g.r3, .int .i64 g.r4, .int .i64 g.r5, .int .i64 g.r6, .int .i64 g.r7, .int .i64 g.r8, .int .i64 g.r9, .int .i64 g.r10, .int .i64 g.r11, .int .i64 g.r12, .int .i64 g.r13, .int .i64 g.r14, .slice g.eA g.en g.ec] 36
 have HW5 := Lib.hid hW5
 have hB35 := hB4.trans (hB5.mono hB4.size)
 have hB05 := hB04.trans (hB5.mono hB04.size)
 have Hga := Lib.hid (hg.at_ hB5)
 have Hb5 := Lib.hid hb5
 have s5 : W4.heap.size < W5.heap.size := by omega
 have Hr5 := Lib.hid (RowsAt.at_ Hr3.out hB35)
 have Hx5 := Lib.hid (fun a ha => ((Hx3.out a ha).below hB35 (Nat.le_refl _)).more hB35.size : ∀ a ∈ l, a.At W5 W5.heap.size)
 have Hcs5 := Lib.hid (RowsAt.at_ Hcs.out hB35)
 have Hho5 := Lib.hid (Hho.out.imp (Q := fun a b => a.Holds SR W5 W5.heap.size b) fun _ _ h => h.atR hB35)
 have hrg5 := Lib.hid (grp_range hb5)
 obtain ⟨ln, hln⟩ : ∃ ln, ln = l.length := ⟨_, rfl⟩
 have Hln := Lib.hid hln
 rw [<- hln]
 have h1c : ∀ v ∈ (#[.string g.cur, .int .i64 g.Y, .int .i64 g.M, .int .i64 g.N, .slice g.cA g.cn g.cc, .int .i64 g.r0, .int .i64 g.r1, .int .i64 g.r2, .int .i64 g.r3, .int .i64 g.r4, .int .i64 g.r5, .int .i64 g.r6, .int .i64 g.r7, .int .i64 g.r8, .int .i64 g.r9, .int .i64 g.r10, .int .i64 g.r11, .int .i64 g.r12, .int .i64 g.r13, .int .i64 g.r14, .slice g.eA g.en g.ec] : Array Value).toList, v.oneCell' = true := by simp [Value.oneCell']
 clear hg hgs hW5 hb5 hz5 hln
 go_upto_region 6 with (refine wpList_store_new rfl 36 _ _ rfl 36 _ #[.string g.cur, .int .i64 g.Y, .int .i64 g.M, .int .i64 g.N, .slice g.cA g.cn g.cc, .int .i64 g.r0, .int .i64 g.r1, .int .i64 g.r2, .int .i64 g.r3, .int .i64 g.r4, .int .i64 g.r5, .int .i64 g.r6, .int .i64 g.r7, .int .i64 g.r8, .int .i64 g.r9, .int .i64 g.r10, .int .i64 g.r11, .int .i64 g.r12, .int .i64 g.r13, .int .i64 g.r14, .slice g.eA g.en g.ec] rfl rfl rfl h1c grpSize ?_)
 clear h1c
 rw [<- HW5.out]
 have Hrow' := Lib.hid rawInfo
 have Hit := Lib.hid itmInfo
 have hn8 : n <= 8 := by have := Hl.out; have := H8.out; omega
 have Hb5g := Lib.hid Hb5.out
 go_wp2
 go_loopw [10, 11, 12] (fun ov iv _ wr => ∃ (v : Value) (j : Nat), ov = v /\ j <= n /\ iv = .int .i64 j /\ OnlyAt wr x y (l.take j) v /\ Below W5.heap.size W5 wr) (fun _ iv _ _ => n - (intOf iv).toNat)
 case atStart => exact ⟨_, 0, rfl, Nat.zero_le _, rfl, by rw [List.take_zero]; exact OnlyAt.start, Below.refl _ _⟩
 case round =>
  obtain ⟨v, j, hv, hj, rfl, honly, hbr⟩ := hrel
  subst hv
  have Ho := Lib.hid honly
  have Hbr := Lib.hid hbr
  have szr := hbr.size
  by_cases hlt : j < n
  ·skip
   have hjl : j < l.length := by have := Hl.out; omega
   have hj0 : (0 : Int) <= (j : Int) := by omega
   have hjn : (j : Int) < n := by omega
   obtain ⟨b, o, hAe, hbB, hrq⟩ := RowsAt.look (RowsAt.below Hr5.out hbr (Nat.le_refl _)) hjl
   subst hAe
   obtain ⟨xq, hxq⟩ : ∃ xq, xq = l[j] := ⟨_, rfl⟩
   rw [<- hxq] at hrq
   have Hxq := Lib.hid hxq
   have Hrq := Lib.hid hrq
   have htk : l.take (j + 1) = l.take j ++ [xq] := by rw [List.take_succ_eq_append_getElem hjl, hxq]
   have Htk := Lib.hid htk
   obtain ⟨W6, hW6, hB6, hb6, hz6⟩ := nw1 wr #[.int .i64 xq.ent, .int .i64 xq.meth, .int .i64 xq.since, .int .i64 xq.s0, .int .i64 xq.s1, .int .i64 xq.f0, .int .i64 xq.f1, .slice xq.iA xq.im xq.ic, .slice xq.hA xq.hm xq.hc] 45
   have HW6 := Lib.hid hW6
   have Hb6 := Lib.hid hb6
   have HB6 := Lib.hid hB6
   have s6 : wr.heap.size < W6.heap.size := some_lt hb6
   have hbw : b < wr.heap.size := by omega
   have x0 := cell_of_row _ _ 0 _ _ _ hb6
   have x7 := cell_of_row _ _ 7 _ _ _ hb6
   simp at x0 x7
   clear hrq hxq hb6 hz6 hW6 honly hbr htk hB6
   go_upto_region 12 with (refine wpList_load_mid rfl 45 (.tmp 44) rfl b (o + j * 9) rfl [.int .i64 xq.ent, .int .i64 xq.meth, .int .i64 xq.since, .int .i64 xq.s0, .int .i64 xq.s1, .int .i64 xq.f0, .int .i64 xq.f1, .slice xq.iA xq.im xq.ic, .slice xq.hA xq.hm xq.hc] _ Hrq.out Tryz.underlying45 rfl rawSize ?_)
   rw [<- HW6.out]
   have Hbr6 := Lib.hid (Hbr.out.trans (HB6.out.mono szr))
   by_cases he : xq.ent = x
   focus
    have heb : (xq.ent == x) = true := by simp [he]
    rcases Ho.out.split with ⟨rfl, hnone⟩ | ⟨A1, c1, rfl⟩
    focus
     have Hnone := Lib.hid hnone
     have He := Lib.hid he
     clear he hnone
     have hxat := ((Hx5.out l[j] (List.getElem_mem hjl)).below Hbr6.out (Nat.le_refl _)).more Hbr6.out.size
     rw [<- Hxq.out] at hxat
     have Hxa := Lib.hid hxat
     have hfew : xq.its.length <= 40 := by rw [Hxq.out]; exact (Raw.few_ok (Raw.ok_parts (Hall.out l[j] (List.getElem_mem hjl))).2.2.1).1
     have him := hxat.hil
     have hil' := hxat.hiA
     obtain ⟨W7, hW7, hB7, hb7, hz7⟩ := nw1 W6 #[] 61
     have HW7 := Lib.hid hW7
     have Hb7 := Lib.hid hb7
     have HB7 := Lib.hid hB7
     have Hi7 := Lib.hid (RowsAt.at_ hil' hB7)
     have s7 : W6.heap.size < W7.heap.size := some_lt hb7
     have x7b : W7.cell? ⟨wr.heap.size, 7, none⟩ = some (.slice xq.iA xq.im xq.ic) := (hB7.cell (p := ⟨wr.heap.size, 7, none⟩) s6).trans x7
     obtain ⟨i0, hi9, hz0, hz1, hz2⟩ := info_parts Hit.out
     have hyn : wrap64 (-y) = -y := IntWalk.wrap64_in _ (by have := HYB.out; omega)
     have hy0 := HYB.out
     clear hxat hil' hW7 hb7 hB7 hz7
     go_upto_region 13 with (fail)
     have tok : True := trivial
     go_wp2_with (first | (at_builtin; have _t := tok; rw [<- HW7.out]; refine wpList_own_itms W7 rfl _ _ 43 rfl Tryz.underlying43 W6.heap.size rfl Hb7.out xq.iA xq.im xq.ic xq.its rfl him (by omega) Hi7.out ?_; intro v1 V2 ho2 hg2; clear _t tok) | (at_builtin; refine wpList_append_own _ rfl _ _ 43 rfl W6.heap.size 61 i0 (.agg #[.int .i64 0, .int .i64 0, .int .i64 0, .int .i64 0, .int .i64 0, .int .i64 0, .int .i64 0]) 7 56 Tryz.underlying43 hi9 hz0 hz1 hz2 rfl (by decide) v1 xq.im (xq.its.flatMap Itm.cells) rfl (ho2.alloc _) ⟨V2.heap.size, 0, none⟩ 2 2 [.int .i64 0, .int .i64 0, .int .i64 0, .int .i64 1010, .int .i64 (-1), .int .i64 0, .int .i64 y, .int .i64 0, .int .i64 0, .int .i64 0, .int .i64 2000, .int .i64 (-1), .int .i64 0, .int .i64 (-y)] rfl rfl (cells_new V2 [.int .i64 0, .int .i64 0, .int .i64 0, .int .i64 1010, .int .i64 (-1), .int .i64 0, .int .i64 y, .int .i64 0, .int .i64 0, .int .i64 0, .int .i64 2000, .int .i64 (-1), .int .i64 0, .int .i64 (-y)] 61) (by simp [Value.oneCell']) (by unfold maxLen; omega) (by omega) (by have := hg2.size; simp; omega) ?_))
     intro v3 W8 hown hgrow _
     have hown2 : W8.ownsRow W6.heap.size 61 7 v3 (xq.im + 2) ((xq.its ++ othPair y).flatMap Itm.cells) := by rw [List.flatMap_append]; exact hown
     have hlen : (xq.its ++ othPair y).length = xq.im + 2 := by rw [List.length_append, him]; rfl
     obtain ⟨A3, c3, hv3, hA3⟩ := own_flat (f := Itm.cells) (by omega) (fun _ => rfl) hown2 hlen.symm
     subst hv3
     have HF3 : Hid (∀ b o, A3 = some ⟨b, o, none⟩ -> W6.heap.size <= b) := Lib.hid fun b o e => own_base hown2 b (by rw [e]; simp [Value.ownBlock])
     have hB62 : Below W6.heap.size W6 V2 := HB7.out.grown hg2 (Nat.le_of_lt s7) (fun k hk => by cases hk; exact Nat.le_refl _)
     have hB68 : Below W6.heap.size W6 W8 := (hB62.alloc hB62.size (.cells #[.int .i64 0, .int .i64 0, .int .i64 0, .int .i64 1010, .int .i64 (-1), .int .i64 0, .int .i64 y, .int .i64 0, .int .i64 0, .int .i64 0, .int .i64 2000, .int .i64 (-1), .int .i64 0, .int .i64 (-y)] 61)).grown hgrow (by have := hB62.size; simp; omega) (fun g hg => own_base ho2 g hg)
     have hb8 := gbox Hb6.out hB68 s6
     have hB08 := HB6.out.trans (hB68.mono HB6.out.size)
     have z7 := cell_of_row _ _ 7 _ _ _ hb8
     have zf := fun j => frozen_of_row _ _ j _ _ hb8
     have zl := some_lt hb8
     simp at z7
     have HA3 := Lib.hid hA3
     have HB08 := Lib.hid hB08
     have Hb8 := Lib.hid hb8
     have HB68 := Lib.hid hB68
     have hrow9 := heap_setCell_same W8 wr.heap.size 7 _ _ (.slice A3 (xq.im + 2) c3) hb8
     simp at hrow9
     have Hrow9 := Lib.hid hrow9
     clear hown hgrow hown2 hlen hA3 hB62 hB68 hb8 hB08 ho2 hg2 hrow9 x7 x7b
     go_upto_region 14 with (fail)
     obtain ⟨W9, hW9⟩ : ∃ W9, W9 = W8.setCell ⟨wr.heap.size, 7, none⟩ (.slice A3 (xq.im + 2) c3) := ⟨_, rfl⟩
     have hrow := Hrow9.out
     have hB09 := HB08.out.setCell (p := ⟨wr.heap.size, 7, none⟩) (Nat.le_refl _) (.slice A3 (xq.im + 2) c3)
     have hz9 : W9.heap.size = W8.heap.size := by rw [hW9]; simp [World.setCell]
     have hA9 : ItmsAt W9 W9.heap.size A3 (xq.its ++ othPair y) := by
      rw [hW9]
      refine RowsAt.kept HA3.out (grown_set9 W8 wr.heap.size 7 _) fun b o e h => ?_
      have := HF3.out b o e
      cases h; omega
     rw [<- hW9] at hrow hB09 ⊢
     clear hW9 z7 zf zl
     have HRX := Lib.hid (range_row (cs := [.int .i64 xq.ent, .int .i64 xq.meth, .int .i64 xq.since, .int .i64 xq.s0, .int .i64 xq.s1, .int .i64 xq.f0, .int .i64 xq.f1, .slice A3 (xq.im + 2) c3, .slice xq.hA xq.hm xq.hc]) hrow)
     have s9 : wr.heap.size < W9.heap.size := some_lt hrow
     obtain ⟨zq, hzq⟩ : ∃ z : Raw, z = { xq with iA := A3, im := xq.im + 2, ic := c3, its := xq.its ++ othPair y } := ⟨_, rfl⟩
     have hzc : Raw.cells zq = [.int .i64 xq.ent, .int .i64 xq.meth, .int .i64 xq.since, .int .i64 xq.s0, .int .i64 xq.s1, .int .i64 xq.f0, .int .i64 xq.f1, .slice A3 (xq.im + 2) c3, .slice xq.hA xq.hm xq.hc] := by rw [hzq]; rfl
     have HZ := Lib.hid hzq
     have HZC := Lib.hid hzc
     have HA9 := Lib.hid hA9
     have HB09' := Lib.hid hB09
     have own0 : W9.ownsRow W9.heap.size 45 9 (.slice none 0 0) 0 [] := ⟨rfl, .inl ⟨rfl, rfl⟩⟩
     have Own0 := Lib.hid own0
     obtain ⟨ir, hir, hr0, hr1, hr2⟩ := info_parts Hrow'.out
     clear hrow hB09 hA9 hzq hzc own0 hz9
     go_wp2_with (first | (refine wpList_load_mid rfl 45 (.tmp 12) rfl wr.heap.size 0 rfl [.int .i64 xq.ent, .int .i64 xq.meth, .int .i64 xq.since, .int .i64 xq.s0, .int .i64 xq.s1, .int .i64 xq.f0, .int .i64 xq.f1, .slice A3 (xq.im + 2) c3, .slice xq.hA xq.hm xq.hc] _ HRX.out Tryz.underlying45 rfl rawSize ?_) | (at_builtin; refine Hid.out ?_))
     refine Lib.hid ?_
     refine wpList_append_own _ rfl _ _ 22 rfl W9.heap.size 45 ir (.agg #[.int .i64 0, .int .i64 0, .int .i64 0, .int .i64 0, .int .i64 0, .int .i64 0, .int .i64 0, .slice none 0 0, .slice none 0 0]) 9 104 Tryz.underlying22 hir hr0 hr1 hr2 rfl (by decide) _ _ _ rfl (Own0.out.alloc _) ⟨W9.heap.size, 0, none⟩ 1 1 [.int .i64 xq.ent, .int .i64 xq.meth, .int .i64 xq.since, .int .i64 xq.s0, .int .i64 xq.s1, .int .i64 xq.f0, .int .i64 xq.f1, .slice A3 (xq.im + 2) c3, .slice xq.hA xq.hm xq.hc] rfl rfl (cells_new W9 [.int .i64 xq.ent, .int .i64 xq.meth, .int .i64 xq.since, .int .i64 xq.s0, .int .i64 xq.s1, .int .i64 xq.f0, .int .i64 xq.f1, .slice A3 (xq.im + 2) c3, .slice xq.hA xq.hm xq.hc] 45) (by simp [Value.oneCell']) (by unfold maxLen; omega) (by omega) (by simp) ?_
     intro v4 W10 hown hgrow _
     have hownz : W10.ownsRow W9.heap.size 45 9 v4 1 ([zq].flatMap Raw.cells) := by rw [List.flatMap_cons, List.flatMap_nil, List.append_nil, HZC.out]; exact hown
     obtain ⟨A4, c4, hv4, hA4⟩ := own_flat (f := Raw.cells) (by omega) (fun _ => rfl) hownz rfl
     subst hv4
     have hb10 : Below W9.heap.size W9 W10 := ((Below.refl _ _).alloc (Nat.le_refl _) (.cells #[.int .i64 xq.ent, .int .i64 xq.meth, .int .i64 xq.since, .int .i64 xq.s0, .int .i64 xq.s1, .int .i64 xq.f0, .int .i64 xq.f1, .slice A3 (xq.im + 2) c3, .slice xq.hA xq.hm xq.hc] 45)).grown hgrow (by simp) (fun g hg => by cases hg)
     have hB010 := HB09'.out.trans (hb10.mono (Nat.le_of_lt s9))
     have hb5 := Hbr.out.trans (hB010.mono szr)
     have hxat := ((Hx5.out l[j] (List.getElem_mem hjl)).below hb5 (Nat.le_refl _)).more hb5.size
     rw [<- Hxq.out] at hxat
     have hzat : zq.At W10 W10.heap.size := by
      rw [HZ.out]
      exact ⟨by simp [him, othPair], by have := hxat.him; simp; omega, RowsAt.at_ HA9.out hb10, hxat.hhl, hxat.hhm, hxat.hhA⟩
     have hnew : OnlyAt W10 x y (l.take (j + 1)) (.slice A4 1 c4) := by
      rw [Htk.out]
      exact .inr ⟨A4, c4, l.take j, xq, [], zq, rfl, rfl, Hnone.out, He.out, hA4, hzat, by rw [HZ.out], by rw [HZ.out]⟩
     have Hnew := Lib.hid hnew
     have Hb5 := Lib.hid hb5
     clear hnew hzat hxat hb5 hB010 hb10 hA4 hownz hown hgrow
     go_upto_region 10 with (fail)
     go_wp2
     go_roundw
     case rel => exact ⟨_, j + 1, rfl, by omega, by go_num, Hnew.out, Hb5.out⟩
     case measure => simp [intOf]; omega
    focus
     have hB06 := HB6.out
     have hnew : OnlyAt W6 x y (l.take (j + 1)) (.slice A1 1 c1) := by rw [Htk.out]; exact (Ho.out.at_ hB06).more xq
     have Hnew := Lib.hid hnew
     clear hnew hB06 he x7
     go_upto_region 10 with (fail)
     go_wp2
     go_roundw
     case rel => exact ⟨_, j + 1, rfl, by omega, by go_num, Hnew.out, Hbr6.out⟩
     case measure => simp [intOf]; omega
   focus
    have heb : (xq.ent == x) = false := by simp [he]
    have hB06 := HB6.out
    have hnew := (Ho.out.at_ hB06).other he
    rw [<- Htk.out] at hnew
    have Hnew := Lib.hid hnew
    clear hnew hB06 he x7
    go_upto_region 10 with (fail)
    go_wp2
    go_roundw
    case rel => exact ⟨_, j + 1, rfl, by omega, by go_num, Hnew.out, Hbr6.out⟩
    case measure => simp [intOf]; omega
  ·obtain rfl : j = n := by omega
   have hdone := honly
   rw [show l.take j = l from by rw [<- Hl.out, List.take_length]] at hdone
   obtain ⟨Au, nu, cu, R, rfl, hRl, hR1, hRr, hRx, hRw, hRf, hRc⟩ := hdone.done HYB.out Hall.out Hwa.out
   have HRl := Lib.hid hRl
   have H8R := Lib.hid (show R.length <= 8 by omega)
   have HRr := Lib.hid hRr
   have HRx := Lib.hid hRx
   have HRw := Lib.hid hRw
   have HRf := Lib.hid hRf
   have HWF : Hid (∀ y ∈ l.map Raw.cnt, ∀ z ∈ y.its, (Lit.int .i64 z.acct).wf = true) := Lib.hid fun q hq => by
    rw [List.mem_map] at hq
    obtain ⟨a, ha, rfl⟩ := hq
    exact Hwa.out a ha
   have HPQ : Hid (Gr.mpost g (R.map Raw.cnt) x = Gr.mpost g (l.map Raw.cnt) x) := Lib.hid (Gr.mpost_pair HGS.out.1 hRc)
   have H3 := Lib.hid (Gr.mpost_three HGS.out.2 (Gr.minor_small (x := x) (g := g) Hho5.out))
   have hb5w := gbox Hb5g.out hbr s5
   have Hg5 := Lib.hid hb5w
   have sg5 := some_lt hb5w
   have hrg6 := Lib.hid (grp_range hb5w)
   have Hgaw := Lib.hid (Hga.out.at_ hbr)
   have Hrw := Lib.hid (RowsAt.at_ Hr5.out hbr)
   have Hxw := Lib.hid (fun a ha => ((Hx5.out a ha).below hbr (Nat.le_refl _)).more hbr.size : ∀ a ∈ l, a.At wr wr.heap.size)
   have HB0r := Lib.hid (hB05.trans (hbr.mono hB05.size))
   obtain ⟨rn, hrn⟩ : ∃ rn, rn = R.length := ⟨_, rfl⟩
   have Hrn := Lib.hid hrn
   clear hdone honly hRl hRr hRx hRw hRf hRc hbr hb5w hrn
   obtain ⟨kk, hkk⟩ : ∃ kk, kk = Po.pk 6 (Gr.mpost g (l.map Raw.cnt) x) := ⟨_, rfl⟩
   obtain ⟨ee, hee⟩ : ∃ ee, ee = Po.pk x (Gr.mpost g (l.map Raw.cnt) x) := ⟨_, rfl⟩
   obtain ⟨oo, hoo⟩ : ∃ oo, oo = Po.pk (-1) (Gr.mpost g (l.map Raw.cnt) x) := ⟨_, rfl⟩
   obtain ⟨ep, hep⟩ : ∃ ep, ep = (Gr.mpost g (l.map Raw.cnt) x).2 := ⟨_, rfl⟩
   obtain ⟨ps, hps⟩ : ∃ ps, ps = Po.pl (Gr.mpost g (l.map Raw.cnt) x) := ⟨_, rfl⟩
   obtain ⟨np, hnp⟩ : ∃ np, np = ps.length := ⟨_, rfl⟩
   have HKK := Lib.hid hkk
   have HEE := Lib.hid hee
   have HOO := Lib.hid hoo
   have HEP := Lib.hid hep
   have HPS := Lib.hid hps
   have HNP := Lib.hid hnp
   clear hkk hee hoo hep hps hnp
   obtain ⟨kkq, hkk⟩ : ∃ kk, kk = Po.pk 6 (Gr.mpost g (R.map Raw.cnt) x) := ⟨_, rfl⟩
   obtain ⟨eeq, hee⟩ : ∃ ee, ee = Po.pk x (Gr.mpost g (R.map Raw.cnt) x) := ⟨_, rfl⟩
   obtain ⟨ooq, hoo⟩ : ∃ oo, oo = Po.pk (-1) (Gr.mpost g (R.map Raw.cnt) x) := ⟨_, rfl⟩
   obtain ⟨epq, hep⟩ : ∃ ep, ep = (Gr.mpost g (R.map Raw.cnt) x).2 := ⟨_, rfl⟩
   obtain ⟨psq, hps⟩ : ∃ ps, ps = Po.pl (Gr.mpost g (R.map Raw.cnt) x) := ⟨_, rfl⟩
   obtain ⟨npq, hnp⟩ : ∃ np, np = psq.length := ⟨_, rfl⟩
   have HKKq := Lib.hid hkk
   have HEEq := Lib.hid hee
   have HOOq := Lib.hid hoo
   have HEPq := Lib.hid hep
   have HPSq := Lib.hid hps
   have HNPq := Lib.hid hnp
   clear hkk hee hoo hep hps hnp
   have HN3 : Hid (np <= 3) := by show _ <= _; rw [HNP.out, HPS.out]; exact Nat.le_trans (Po.pl_length _) (Gr.mpost_len _ _ _)
   have H3' := H3.out
   rw [<- HPS.out] at H3'
   obtain ⟨p12, hp12⟩ : ∃ p12, p12 = Po.part ps g.r12 := ⟨_, rfl⟩
   obtain ⟨p6, hp6⟩ : ∃ p6, p6 = Po.part ps g.r6 := ⟨_, rfl⟩
   obtain ⟨p5, hp5⟩ : ∃ p5, p5 = Po.part ps g.r5 := ⟨_, rfl⟩
   rw [<- hp12, <- hp6, <- hp5] at H3'
   have HP12 := Lib.hid hp12
   have HP6 := Lib.hid hp6
   have HP5 := Lib.hid hp5
   have HSUM := Lib.hid H3'
   clear hp12 hp6 hp5 H3'
   go_upto_region 15 with (fail)
   have hS : Below wr.heap.size wr wr.drew := below_drawn (Below.refl _ _) 1
   refine wp_region_held (S := Below wr.heap.size wr) (by kernel_rfl) ?_
   change wpAnyH _ _ _ _ _ _ _ _ (World.drew wr)
   obtain ⟨W_0, hWd⟩ : ∃ W0, W0 = wr.drew := ⟨_, rfl⟩
   rw [<- hWd] at hS ⊢
   clear hWd
   refine tk (i := 0) (v := .agg #[.string g.cur, .int .i64 g.Y, .int .i64 g.M, .int .i64 g.N, .slice g.cA g.cn g.cc, .int .i64 g.r0, .int .i64 g.r1, .int .i64 g.r2, .int .i64 g.r3, .int .i64 g.r4, .int .i64 g.r5, .int .i64 g.r6, .int .i64 g.r7, .int .i64 g.r8, .int .i64 g.r9, .int .i64 g.r10, .int .i64 g.r11, .int .i64 g.r12, .int .i64 g.r13, .int .i64 g.r14, .slice g.eA g.en g.ec]) rfl (by kernel_rfl) (fun _ _ _ h => h) (yieldsIf_load_mid (by rfl) 36 _ rfl W4.heap.size 0 rfl [.string g.cur, .int .i64 g.Y, .int .i64 g.M, .int .i64 g.N, .slice g.cA g.cn g.cc, .int .i64 g.r0, .int .i64 g.r1, .int .i64 g.r2, .int .i64 g.r3, .int .i64 g.r4, .int .i64 g.r5, .int .i64 g.r6, .int .i64 g.r7, .int .i64 g.r8, .int .i64 g.r9, .int .i64 g.r10, .int .i64 g.r11, .int .i64 g.r12, .int .i64 g.r13, .int .i64 g.r14, .slice g.eA g.en g.ec] _ (fun W' hS' => range_below hrg6.out hS' sg5) Tryz.underlying36 rfl grpSize) hS ?_
   try simp only [z]
   refine tk (i := 1) (v := .slice A j c) rfl (by kernel_rfl) (fun _ _ _ h => h) (.inl ⟨by rfl, fun W' hS' => by go_simp⟩) hS ?_
   try simp only [z]
   refine tk (i := 3) (v := .int .i64 x) rfl (by kernel_rfl) (fun _ _ _ h => h) (.inl ⟨by rfl, fun W' hS' => by go_simp⟩) hS ?_
   try simp only [z]
   have hV0 := hS.size
   refine wpAnyH_letters fun md' ops' Q' a' hlm hlo hlq hla => ?_
   obtain ⟨RG, hRG⟩ : ∃ R : World -> Prop, R = Below wr.heap.size wr := ⟨_, rfl⟩
   rw [<- hRG] at hS ⊢
   have n2 : ∀ (m : Nat) (W : World) (Ao : Option Addr) (co : Nat) (ds : List Con) (Ap : Option Addr) (cp : Nat) (bp : Bool) (vp : Value) (pp : Nat), 2 + cond bp 0 1 <= m -> RG W -> W_0.heap.size <= W.heap.size -> (PrtsAt W W.heap.size Ap ps) -> (bp = true -> ps ≠ [] -> ∀ ad, Ap = some ad -> ad.block ≠ pp) -> Mk W_0 W bp vp pp #[.int .i64 0, .int .i64 0, .int .i64 0, .int .i64 0, .slice none 0 0] 53 -> wpAnyH Tryz.prog md' ops' Q' RG m #[true, true, true, true, true, true, true, true, bp, false, false] ((((((a'.put (some 74) (.slice Ao ln co)).put (some 76) (.tuple #[.agg #[.int .i64 kk, .int .i64 ee, .int .i64 oo, .int .i64 0, .slice Ap np cp], .int .i64 ep])).put (some 71) (.tuple #[.agg #[.int .i64 kk, .int .i64 ee, .int .i64 oo, .int .i64 0, .slice Ap np cp], .int .i64 ep])).put (some 77) (.agg #[.int .i64 kk, .int .i64 ee, .int .i64 oo, .int .i64 0, .slice Ap np cp])).put (some 78) (.int .i64 ep)).put (some 13) vp) W := by
    intro m
    induction m with
    | zero => intros; omega
    | succ m ih =>
    intro W Ao co ds Ap cp bp vp pp hm hS hz hPp hq Hp
    subst hlm hlo hlq hla hRG
    try simp only [z]
    by_cases hb : bp = true
    rotate_left
    ·refine wpAnyH_ready (rs := (cond bp [] [8] ++ [])) (by revert hb; cases bp <;> intro hb <;> first | exact absurd (by decide) hb | kernel_rfl) (by revert hb; cases bp <;> decide) (ropt (fun hp => .cons rfl (fun K hK => ?_) .nil) .nil)
     ·subst hp
      obtain ⟨W', hWn, hB, hrow, _⟩ := nw1 W #[.int .i64 0, .int .i64 0, .int .i64 0, .int .i64 0, .slice none 0 0] 53
      go_simp
      rw [<- hWn]
      clear hWn
      have hS' := hS.trans (hB.mono hS.size)
      refine hK.out _ _ hS' (fun _ => ?_)
      clear hK K
      try simp only [z]
      have hn := ih W' Ao co ds Ap cp true (.pointer (some ⟨W.heap.size, 0, none⟩)) W.heap.size (by simp only [cond_true, cond_false] at hm ⊢; omega) hS' (Nat.le_trans hz hB.size) (RowsAt.at_ hPp hB) (fun _ h ad e => Nat.ne_of_lt (RowsAt.lt hPp h ad e)) (fun _ => ⟨rfl, hz, hrow⟩) 
      try simp only [z] at hn
      exact hn
    subst hb
    obtain ⟨rfl, gp, hp⟩ := Hp rfl
    obtain ⟨m, rfl⟩ : ∃ k, m = k + 1 := ⟨m - 1, by simp only [cond_true] at hm; omega⟩
    clear ih hm
    refine wpAnyH_ready (rs := [9]) (by kernel_rfl) (by simp) (AllReadyH.cons rfl (fun K hK => ?_) AllReadyH.nil)
    rw [if_pos (by rfl)]
    refine wp_store_row 53 _ _ none rfl rfl pp 53 _ #[.int .i64 kk, .int .i64 ee, .int .i64 oo, .int .i64 0, .slice Ap np cp] rfl rfl hp rfl postSize (by simp [Value.oneCell']) ?_
    have hPb := RowsAt.stored hPp (hq rfl) #[.int .i64 kk, .int .i64 ee, .int .i64 oo, .int .i64 0, .slice Ap np cp]
    have hrw := setRow_heap W pp _ #[.int .i64 kk, .int .i64 ee, .int .i64 oo, .int .i64 0, .slice Ap np cp] _ _ hp
    have hS2 := below_setRow hS (Nat.le_trans (show wr.heap.size <= W_0.heap.size from hV0) gp) #[.int .i64 kk, .int .i64 ee, .int .i64 oo, .int .i64 0, .slice Ap np cp]
    refine hK.out _ _ hS2 (fun _ => ?_)
    clear hK K
    try simp only [z]
    refine wpAnyH_ready (rs := [10]) (by kernel_rfl) (by simp) (AllReadyH.cons rfl (fun K hK => ?_) AllReadyH.nil)
    go_simp
    refine hK.out _ _ hS2 (fun _ => ?_)
    clear hK K
    try simp only [z]
    refine wpAnyH_done (by kernel_rfl) ?_ _
    try simp only [z]
    obtain ⟨W6, hWn⟩ : ∃ W6, W6 = W.setRow pp #[.int .i64 kk, .int .i64 ee, .int .i64 oo, .int .i64 0, .slice Ap np cp] := ⟨_, rfl⟩
    rw [<- hWn] at hrw hS2 hPb ⊢
    clear hWn hS hp hPp hq hz gp
    have hB06 := HB0r.out.trans (hS2.mono HB0r.out.size)
    have HPa := Lib.hid hPb
    have Hpa := Lib.hid hrw
    have spa := some_lt hrw
    have hgb6 := (hS2.block _ sg5).trans Hg5.out
    have Hg6 := Lib.hid hgb6
    have sg6 := some_lt hgb6
    have hrg7 := Lib.hid (grp_range hgb6)
    have Hga7 := Lib.hid (Hgaw.out.at_ hS2)
    have Hr7 := Lib.hid (RowsAt.at_ HRr.out hS2)
    have Hx7 := Lib.hid (fun a ha => ((HRx.out a ha).below hS2 (Nat.le_refl _)).more hS2.size : ∀ a ∈ R, a.At W6 W6.heap.size)
    have HB06 := Lib.hid hB06
    clear hrw hS2 hPb hB06 hgb6
    go_upto_region 16 with (fail)
    have hS : Below W6.heap.size W6 W6.drew := below_drawn (Below.refl _ _) 1
    refine wp_region_held (S := Below W6.heap.size W6) (by kernel_rfl) ?_
    change wpAnyH _ _ _ _ _ _ _ _ (World.drew W6)
    obtain ⟨W_0, hWd⟩ : ∃ W0, W0 = W6.drew := ⟨_, rfl⟩
    rw [<- hWd] at hS ⊢
    clear hWd
    refine tk (i := 0) (v := .agg #[.string g.cur, .int .i64 g.Y, .int .i64 g.M, .int .i64 g.N, .slice g.cA g.cn g.cc, .int .i64 g.r0, .int .i64 g.r1, .int .i64 g.r2, .int .i64 g.r3, .int .i64 g.r4, .int .i64 g.r5, .int .i64 g.r6, .int .i64 g.r7, .int .i64 g.r8, .int .i64 g.r9, .int .i64 g.r10, .int .i64 g.r11, .int .i64 g.r12, .int .i64 g.r13, .int .i64 g.r14, .slice g.eA g.en g.ec]) rfl (by kernel_rfl) (fun _ _ _ h => h) (yieldsIf_load_mid (by rfl) 36 _ rfl W4.heap.size 0 rfl [.string g.cur, .int .i64 g.Y, .int .i64 g.M, .int .i64 g.N, .slice g.cA g.cn g.cc, .int .i64 g.r0, .int .i64 g.r1, .int .i64 g.r2, .int .i64 g.r3, .int .i64 g.r4, .int .i64 g.r5, .int .i64 g.r6, .int .i64 g.r7, .int .i64 g.r8, .int .i64 g.r9, .int .i64 g.r10, .int .i64 g.r11, .int .i64 g.r12, .int .i64 g.r13, .int .i64 g.r14, .slice g.eA g.en g.ec] _ (fun W' hS' => range_below hrg7.out hS' sg6) Tryz.underlying36 rfl grpSize) hS ?_
    try simp only [z]
    refine tk (i := 1) (v := .slice Au nu cu) rfl (by kernel_rfl) (fun _ _ _ h => h) (.inl ⟨by rfl, fun W' hS' => by go_simp⟩) hS ?_
    try simp only [z]
    refine tk (i := 3) (v := .int .i64 x) rfl (by kernel_rfl) (fun _ _ _ h => h) (.inl ⟨by rfl, fun W' hS' => by go_simp⟩) hS ?_
    try simp only [z]
    have hV0 := hS.size
    refine wpAnyH_letters fun md' ops' Q' a' hlm hlo hlq hla => ?_
    obtain ⟨RG, hRG⟩ : ∃ R : World -> Prop, R = Below W6.heap.size W6 := ⟨_, rfl⟩
    rw [<- hRG] at hS ⊢
    have n2 : ∀ (m : Nat) (W : World) (Ao : Option Addr) (co : Nat) (ds : List Con) (Aq : Option Addr) (cq : Nat) (bu : Bool) (vu : Value) (pu : Nat), 2 + cond bu 0 1 <= m -> RG W -> W_0.heap.size <= W.heap.size -> (PrtsAt W W.heap.size Aq psq) -> (bu = true -> psq ≠ [] -> ∀ ad, Aq = some ad -> ad.block ≠ pu) -> Mk W_0 W bu vu pu #[.int .i64 0, .int .i64 0, .int .i64 0, .int .i64 0, .slice none 0 0] 53 -> wpAnyH Tryz.prog md' ops' Q' RG m #[true, true, true, true, true, true, true, true, bu, false, false] ((((((a'.put (some 82) (.slice Ao rn co)).put (some 84) (.tuple #[.agg #[.int .i64 kkq, .int .i64 eeq, .int .i64 ooq, .int .i64 0, .slice Aq npq cq], .int .i64 epq])).put (some 79) (.tuple #[.agg #[.int .i64 kkq, .int .i64 eeq, .int .i64 ooq, .int .i64 0, .slice Aq npq cq], .int .i64 epq])).put (some 85) (.agg #[.int .i64 kkq, .int .i64 eeq, .int .i64 ooq, .int .i64 0, .slice Aq npq cq])).put (some 86) (.int .i64 epq)).put (some 15) vu) W := by
     intro m
     induction m with
     | zero => intros; omega
     | succ m ih =>
     intro W Ao co ds Aq cq bu vu pu hm hS hz hPp hq Hu
     subst hlm hlo hlq hla hRG
     try simp only [z]
     by_cases hb : bu = true
     rotate_left
     ·refine wpAnyH_ready (rs := (cond bu [] [8] ++ [])) (by revert hb; cases bu <;> intro hb <;> first | exact absurd (by decide) hb | kernel_rfl) (by revert hb; cases bu <;> decide) (ropt (fun hu => .cons rfl (fun K hK => ?_) .nil) .nil)
      ·subst hu
       obtain ⟨W', hWn, hB, hrow, _⟩ := nw1 W #[.int .i64 0, .int .i64 0, .int .i64 0, .int .i64 0, .slice none 0 0] 53
       go_simp
       rw [<- hWn]
       clear hWn
       have hS' := hS.trans (hB.mono hS.size)
       refine hK.out _ _ hS' (fun _ => ?_)
       clear hK K
       try simp only [z]
       have hn := ih W' Ao co ds Aq cq true (.pointer (some ⟨W.heap.size, 0, none⟩)) W.heap.size (by simp only [cond_true, cond_false] at hm ⊢; omega) hS' (Nat.le_trans hz hB.size) (RowsAt.at_ hPp hB) (fun _ h ad e => Nat.ne_of_lt (RowsAt.lt hPp h ad e)) (fun _ => ⟨rfl, hz, hrow⟩) 
       try simp only [z] at hn
       exact hn
     subst hb
     obtain ⟨rfl, gu, hu⟩ := Hu rfl
     obtain ⟨m, rfl⟩ : ∃ k, m = k + 1 := ⟨m - 1, by simp only [cond_true] at hm; omega⟩
     clear ih hm
     refine wpAnyH_ready (rs := [9]) (by kernel_rfl) (by simp) (AllReadyH.cons rfl (fun K hK => ?_) AllReadyH.nil)
     rw [if_pos (by rfl)]
     refine wp_store_row 53 _ _ none rfl rfl pu 53 _ #[.int .i64 kkq, .int .i64 eeq, .int .i64 ooq, .int .i64 0, .slice Aq npq cq] rfl rfl hu rfl postSize (by simp [Value.oneCell']) ?_
     have hPb := RowsAt.stored hPp (hq rfl) #[.int .i64 kkq, .int .i64 eeq, .int .i64 ooq, .int .i64 0, .slice Aq npq cq]
     have hrw := setRow_heap W pu _ #[.int .i64 kkq, .int .i64 eeq, .int .i64 ooq, .int .i64 0, .slice Aq npq cq] _ _ hu
     have hS2 := below_setRow hS (Nat.le_trans (show W6.heap.size <= W_0.heap.size from hV0) gu) #[.int .i64 kkq, .int .i64 eeq, .int .i64 ooq, .int .i64 0, .slice Aq npq cq]
     refine hK.out _ _ hS2 (fun _ => ?_)
     clear hK K
     try simp only [z]
     refine wpAnyH_ready (rs := [10]) (by kernel_rfl) (by simp) (AllReadyH.cons rfl (fun K hK => ?_) AllReadyH.nil)
     go_simp
     refine hK.out _ _ hS2 (fun _ => ?_)
     clear hK K
     try simp only [z]
     refine wpAnyH_done (by kernel_rfl) ?_ _
     try simp only [z]
     obtain ⟨W6q, hWn⟩ : ∃ W6, W6 = W.setRow pu #[.int .i64 kkq, .int .i64 eeq, .int .i64 ooq, .int .i64 0, .slice Aq npq cq] := ⟨_, rfl⟩
     rw [<- hWn] at hrw hS2 hPb ⊢
     clear hWn hS hu hPp hq hz gu
     have hB07 := HB06.out.trans (hS2.mono HB06.out.size)
     have HPR := Lib.hid (range_row (cs := [.int .i64 kk, .int .i64 ee, .int .i64 oo, .int .i64 0, .slice Ap np cp]) (gbox Hpa.out hS2 spa))
     have Hpx := Lib.hid (gbox Hpa.out hS2 spa)
     have HPb := Lib.hid ((HPa.out.below hS2 (Nat.le_refl _)).more hS2.size)
     have eps : ps = psq := by rw [HPS.out, HPSq.out, HPQ.out]
     have enp : np = npq := by rw [HNP.out, HNPq.out, eps]
     have ekk : kk = kkq := by rw [HKK.out, HKKq.out, HPQ.out]
     have eee : ee = eeq := by rw [HEE.out, HEEq.out, HPQ.out]
     have eoo : oo = ooq := by rw [HOO.out, HOOq.out, HPQ.out]
     have eep : ep = epq := by rw [HEP.out, HEPq.out, HPQ.out]
     subst eps enp ekk eee eoo eep
     have HQR := Lib.hid (range_row (cs := [.int .i64 kk, .int .i64 ee, .int .i64 oo, .int .i64 0, .slice Aq np cq]) hrw)
     have HQb := Lib.hid hPb
     have sq7 := some_lt hrw
     have sp7 := some_lt Hpx.out
     have hgb7 := (hS2.block _ sg6).trans Hg6.out
     have hrr := Lib.hid (roles_range hgb7)
     obtain ⟨W7, hW7, hB7, hb7, hz7⟩ := nw1 W6q #[.int .i64 g.r0, .int .i64 g.r1, .int .i64 g.r2, .int .i64 g.r3, .int .i64 g.r4, .int .i64 g.r5, .int .i64 g.r6, .int .i64 g.r7, .int .i64 g.r8, .int .i64 g.r9, .int .i64 g.r10, .int .i64 g.r11, .int .i64 g.r12, .int .i64 g.r13, .int .i64 g.r14] 33
     have HW7 := Lib.hid hW7
     have HB7 := Lib.hid hB7
     have Hb7 := Lib.hid hb7
     have s7 := some_lt hb7
     have HB08 := Lib.hid (hB07.trans (hB7.mono hB07.size))
     clear hrw hS2 hPb hgb7 hW7 hB7 hb7 hz7 hB07
     go_upto_region 18 with (refine wpList_load_mid rfl 33 (.tmp 87) rfl W4.heap.size 5 rfl [.int .i64 g.r0, .int .i64 g.r1, .int .i64 g.r2, .int .i64 g.r3, .int .i64 g.r4, .int .i64 g.r5, .int .i64 g.r6, .int .i64 g.r7, .int .i64 g.r8, .int .i64 g.r9, .int .i64 g.r10, .int .i64 g.r11, .int .i64 g.r12, .int .i64 g.r13, .int .i64 g.r14] _ hrr.out Tryz.underlying33 rfl rolesSize ?_)
     rw [<- HW7.out]
     have HPR7 := Lib.hid (range_below HPR.out HB7.out sp7)
     have HQR7 := Lib.hid (range_below HQR.out HB7.out sq7)
     have HPb7 := Lib.hid ((HPb.out.below HB7.out (Nat.le_refl _)).more HB7.out.size)
     have HQb7 := Lib.hid ((HQb.out.below HB7.out (Nat.le_refl _)).more HB7.out.size)
     have Hpx7 := Lib.hid (gbox Hpx.out HB7.out sp7)
     have sp8 := some_lt Hpx7.out
     have sq8 : pu < W7.heap.size := Nat.lt_of_lt_of_le sq7 HB7.out.size
     have g12 := Lib.hid (cell_of_row _ _ 12 _ _ _ Hb7.out)
     have g6 := Lib.hid (cell_of_row _ _ 6 _ _ _ Hb7.out)
     have g5 := Lib.hid (cell_of_row _ _ 5 _ _ _ Hb7.out)
     have hS : Below W7.heap.size W7 W7.drew := below_drawn (Below.refl _ _) 1
     refine wp_region_held (S := Below W7.heap.size W7) (by kernel_rfl) ?_
     change wpAnyH _ _ _ _ _ _ _ _ (World.drew W7)
     obtain ⟨WC0, hWd⟩ : ∃ W0, W0 = W7.drew := ⟨_, rfl⟩
     rw [<- hWd] at hS ⊢
     clear hWd
     refine tk (i := 0) (v := .int .i64 ep) rfl (by kernel_rfl) (fun _ _ _ h => h) (.inl ⟨by rfl, fun W' hS' => by go_simp⟩) hS ?_
     try simp only [z]
     refine tk (i := 1) (v := .int .i64 ep) rfl (by kernel_rfl) (fun _ _ _ h => h) (.inl ⟨by rfl, fun W' hS' => by go_simp⟩) hS ?_
     try simp only [z]
     refine tk (i := 2) (v := .bool true) rfl (by kernel_rfl) (fun _ _ _ h => h) (.inl ⟨by rfl, fun W' hS' => by go_simp⟩) hS ?_
     try simp only [z]
     refine tk (i := 3) (v := .bool true) rfl (by kernel_rfl) (fun _ _ _ h => h) (.inl ⟨by rfl, fun W' hS' => by go_simp⟩) hS ?_
     try simp only [z]
     refine tk (i := 4) (v := .agg #[.int .i64 kk, .int .i64 ee, .int .i64 oo, .int .i64 0, .slice Ap np cp]) rfl (by kernel_rfl) (fun _ _ _ h => h) (yieldsIf_load_mid (by rfl) 53 _ rfl pp 0 rfl [.int .i64 kk, .int .i64 ee, .int .i64 oo, .int .i64 0, .slice Ap np cp] _ (fun W' hS' => range_below HPR7.out hS' sp8) Tryz.underlying53 rfl postSize) hS ?_
     try simp only [z]
     refine tk (i := 5) (v := .agg #[.int .i64 kk, .int .i64 ee, .int .i64 oo, .int .i64 0, .slice Aq np cq]) rfl (by kernel_rfl) (fun _ _ _ h => h) (yieldsIf_load_mid (by rfl) 53 _ rfl pu 0 rfl [.int .i64 kk, .int .i64 ee, .int .i64 oo, .int .i64 0, .slice Aq np cq] _ (fun W' hS' => range_below HQR7.out hS' sq8) Tryz.underlying53 rfl postSize) hS ?_
     try simp only [z]
     refine wpAnyH_ready (rs := [6]) (by kernel_rfl) (by simp) (AllReadyH.cons rfl (fun K hK => ?_) AllReadyH.nil)
     go_simp
     refine (equald_same WC0 kk ee oo 0 Ap Aq np cp cq ps HNP.out.symm (by have := HN3.out; omega) ((HPb7.out.below hS (Nat.le_refl _)).more hS.size) ((HQb7.out.below hS (Nat.le_refl _)).more hS.size)).mono ?_
     rintro e WC1 ⟨rfl, hBc⟩
     have hVC1 := hS.trans (hBc.mono hS.size)
     clear hBc
     refine hK.out _ _ hVC1 (fun _ => ?_)
     clear hK K
     try simp only [z]
     refine tk (i := 7) (v := .bool true) rfl (by kernel_rfl) (fun _ _ _ h => h) (.inl ⟨by rfl, fun W' hS' => by go_simp⟩) hVC1 ?_
     try simp only [z]
     refine tk (i := 8) (v := .bool true) rfl (by kernel_rfl) (fun _ _ _ h => h) (.inl ⟨by rfl, fun W' hS' => by go_simp⟩) hVC1 ?_
     try simp only [z]
     refine tk (i := 9) (v := .agg #[.int .i64 kk, .int .i64 ee, .int .i64 oo, .int .i64 0, .slice Ap np cp]) rfl (by kernel_rfl) (fun _ _ _ h => h) (yieldsIf_load_mid (by rfl) 53 _ rfl pp 0 rfl [.int .i64 kk, .int .i64 ee, .int .i64 oo, .int .i64 0, .slice Ap np cp] _ (fun W' hS' => range_below HPR7.out hS' sp8) Tryz.underlying53 rfl postSize) hVC1 ?_
     try simp only [z]
     refine tk (i := 10) (v := .pointer (some ⟨W6q.heap.size, 12, none⟩)) rfl (by kernel_rfl) (fun _ _ _ h => h) (.inl ⟨by rfl, fun W' hS' => by go_simp⟩) hVC1 ?_
     try simp only [z]
     refine tk (i := 11) (v := .int .i64 g.r12) rfl (by kernel_rfl) (fun _ _ _ h => h) (.inl ⟨by rfl, fun W' hS' => by have hc := (hS'.cell (p := ⟨W6q.heap.size, 12, none⟩) s7).trans g12.out; (try simp at hc); have hl9 := Nat.lt_of_lt_of_le s7 hS'.size; go_simp⟩) hVC1 ?_
     try simp only [z]
     refine tk (i := 13) (v := .agg #[.int .i64 kk, .int .i64 ee, .int .i64 oo, .int .i64 0, .slice Ap np cp]) rfl (by kernel_rfl) (fun _ _ _ h => h) (yieldsIf_load_mid (by rfl) 53 _ rfl pp 0 rfl [.int .i64 kk, .int .i64 ee, .int .i64 oo, .int .i64 0, .slice Ap np cp] _ (fun W' hS' => range_below HPR7.out hS' sp8) Tryz.underlying53 rfl postSize) hVC1 ?_
     try simp only [z]
     refine tk (i := 14) (v := .pointer (some ⟨W6q.heap.size, 6, none⟩)) rfl (by kernel_rfl) (fun _ _ _ h => h) (.inl ⟨by rfl, fun W' hS' => by go_simp⟩) hVC1 ?_
     try simp only [z]
     refine tk (i := 15) (v := .int .i64 g.r6) rfl (by kernel_rfl) (fun _ _ _ h => h) (.inl ⟨by rfl, fun W' hS' => by have hc := (hS'.cell (p := ⟨W6q.heap.size, 6, none⟩) s7).trans g6.out; (try simp at hc); have hl9 := Nat.lt_of_lt_of_le s7 hS'.size; go_simp⟩) hVC1 ?_
     try simp only [z]
     refine tk (i := 18) (v := .agg #[.int .i64 kk, .int .i64 ee, .int .i64 oo, .int .i64 0, .slice Ap np cp]) rfl (by kernel_rfl) (fun _ _ _ h => h) (yieldsIf_load_mid (by rfl) 53 _ rfl pp 0 rfl [.int .i64 kk, .int .i64 ee, .int .i64 oo, .int .i64 0, .slice Ap np cp] _ (fun W' hS' => range_below HPR7.out hS' sp8) Tryz.underlying53 rfl postSize) hVC1 ?_
     try simp only [z]
     refine tk (i := 19) (v := .pointer (some ⟨W6q.heap.size, 5, none⟩)) rfl (by kernel_rfl) (fun _ _ _ h => h) (.inl ⟨by rfl, fun W' hS' => by go_simp⟩) hVC1 ?_
     try simp only [z]
     refine tk (i := 20) (v := .int .i64 g.r5) rfl (by kernel_rfl) (fun _ _ _ h => h) (.inl ⟨by rfl, fun W' hS' => by have hc := (hS'.cell (p := ⟨W6q.heap.size, 5, none⟩) s7).trans g5.out; (try simp at hc); have hl9 := Nat.lt_of_lt_of_le s7 hS'.size; go_simp⟩) hVC1 ?_
     try simp only [z]
     refine wpAnyH_ready (rs := [12]) (by kernel_rfl) (by simp) (AllReadyH.cons rfl (fun K hK => ?_) AllReadyH.nil)
     go_simp
     refine (part39_any WC1 kk ee oo 0 Ap np cp ps g.r12 HNP.out.symm (by have := HN3.out; omega) ((HPb7.out.below hVC1 (Nat.le_refl _)).more hVC1.size)).mono ?_
     rw [<- HP12.out]
     rintro e WC2 ⟨rfl, hBc⟩
     have hVC2 := hVC1.trans (hBc.mono hVC1.size)
     clear hBc
     refine hK.out _ _ hVC2 (fun _ => ?_)
     clear hK K
     try simp only [z]
     refine wpAnyH_ready (rs := [16]) (by kernel_rfl) (by simp) (AllReadyH.cons rfl (fun K hK => ?_) AllReadyH.nil)
     go_simp
     refine (part39_any WC2 kk ee oo 0 Ap np cp ps g.r6 HNP.out.symm (by have := HN3.out; omega) ((HPb7.out.below hVC2 (Nat.le_refl _)).more hVC2.size)).mono ?_
     rw [<- HP6.out]
     rintro e WC3 ⟨rfl, hBc⟩
     have hVC3 := hVC2.trans (hBc.mono hVC2.size)
     clear hBc
     refine hK.out _ _ hVC3 (fun _ => ?_)
     clear hK K
     try simp only [z]
     refine tk (i := 17) (v := .int .i64 (p12 + p6)) rfl (by kernel_rfl) (fun _ _ _ h => h) (.inl ⟨by rfl, fun W' hS' => by have hw : wrap64 (p12 + p6) = p12 + p6 := IntWalk.wrap64_in _ (by have := HSUM.out; omega); (go_simp; first | done | (rw [IntKind.wrap_i64]; have hs := HSUM.out; clear hw; omega))⟩) hVC3 ?_
     try simp only [z]
     refine wpAnyH_ready (rs := [21]) (by kernel_rfl) (by simp) (AllReadyH.cons rfl (fun K hK => ?_) AllReadyH.nil)
     go_simp
     refine (part39_any WC3 kk ee oo 0 Ap np cp ps g.r5 HNP.out.symm (by have := HN3.out; omega) ((HPb7.out.below hVC3 (Nat.le_refl _)).more hVC3.size)).mono ?_
     rw [<- HP5.out]
     rintro e WC4 ⟨rfl, hBc⟩
     have hVC4 := hVC3.trans (hBc.mono hVC3.size)
     clear hBc
     refine hK.out _ _ hVC4 (fun _ => ?_)
     clear hK K
     try simp only [z]
     refine tk (i := 22) (v := .int .i64 0) rfl (by kernel_rfl) (fun _ _ _ h => h) (.inl ⟨by rfl, fun W' hS' => by have hw : wrap64 (p12 + p6 + p5) = 0 := (by rw [HSUM.out.2.2]; exact IntWalk.wrap64_in _ (by omega)); (go_simp; first | done | (rw [IntKind.wrap_i64]; have hs := HSUM.out; clear hw; omega))⟩) hVC4 ?_
     try simp only [z]
     refine tk (i := 23) (v := .bool true) rfl (by kernel_rfl) (fun _ _ _ h => h) (.inl ⟨by rfl, fun W' hS' => by go_simp⟩) hVC4 ?_
     try simp only [z]
     refine tk (i := 24) (v := .bool true) rfl (by kernel_rfl) (fun _ _ _ h => h) (.inl ⟨by rfl, fun W' hS' => by go_simp⟩) hVC4 ?_
     try simp only [z]
     refine tk (i := 25) (v := .bool true) rfl (by kernel_rfl) (fun _ _ _ h => h) (.inl ⟨by rfl, fun W' hS' => by go_simp⟩) hVC4 ?_
     try simp only [z]
     refine tk (i := 26) (v := .pointer (some ⟨pp, 4, none⟩)) rfl (by kernel_rfl) (fun _ _ _ h => h) (.inl ⟨by rfl, fun W' hS' => by go_simp⟩) hVC4 ?_
     try simp only [z]
     refine tk (i := 27) (v := .slice Ap np cp) rfl (by kernel_rfl) (fun _ _ _ h => h) (.inl ⟨by rfl, fun W' hS' => by have hc := cell_of_row _ _ 4 _ _ _ ((hS'.block _ sp8).trans Hpx7.out); (try simp at hc); have hl9 := Nat.lt_of_lt_of_le sp8 hS'.size; go_simp⟩) hVC4 ?_
     try simp only [z]
     refine tk (i := 28) (v := .int .i64 np) rfl (by kernel_rfl) (fun _ _ _ h => h) (.inl ⟨by rfl, fun W' hS' => by go_simp⟩) hVC4 ?_
     try simp only [z]
     refine tk (i := 29) (v := .bool true) rfl (by kernel_rfl) (fun _ _ _ h => h) (.inl ⟨by rfl, fun W' hS' => by have h3 : (np : Int) <= 3 := (by have := HN3.out; omega); (go_simp; try simp [h3])⟩) hVC4 ?_
     try simp only [z]
     refine tk (i := 30) (v := .bool true) rfl (by kernel_rfl) (fun _ _ _ h => h) (.inl ⟨by rfl, fun W' hS' => by go_simp⟩) hVC4 ?_
     try simp only [z]
     refine wpAnyH_ready (rs := [31]) (by kernel_rfl) (by simp) (AllReadyH.cons rfl (fun K hK => ?_) AllReadyH.nil)
     go_simp
     refine hK.out _ _ hVC4 (fun _ => ?_)
     clear hK K
     try simp only [z]
     refine wpAnyH_done (by kernel_rfl) ?_ _
     try simp only [z]
     have hB09 := HB08.out.trans (hVC4.mono HB08.out.size)
     go_wp2
     go_ret
     exact ⟨rfl, hB09⟩
    have n1 : ∀ (m : Nat) (W : World) (Ao : Option Addr) (co : Nat) (ds : List Con) (bu : Bool) (vu : Value) (pu : Nat), 6 + cond bu 0 1 <= m -> RG W -> W_0.heap.size <= W.heap.size -> (ds.length = R.length) -> (ConsAt W W.heap.size Ao ds) -> (Hold (fun a b => a.Holds SD W W.heap.size b) ds (R.map Raw.cnt)) -> Mk W_0 W bu vu pu #[.int .i64 0, .int .i64 0, .int .i64 0, .int .i64 0, .slice none 0 0] 53 -> wpAnyH Tryz.prog md' ops' Q' RG m #[true, true, true, true, false, false, false, false, bu, false, false] ((a'.put (some 82) (.slice Ao rn co)).put (some 15) vu) W := by
     intro m
     induction m with
     | zero => intros; omega
     | succ m ih =>
     intro W Ao co ds bu vu pu hm hS hz hdl hds hdo Hu
     subst hlm hlo hlq hla hRG
     try simp only [z]
     refine wpAnyH_ready (rs := 4 :: (cond bu [] [8] ++ [])) (by cases bu <;> kernel_rfl) (by simp) (.cons rfl (fun K hK => ?_) (ropt (fun hu => .cons rfl (fun K hK => ?_) .nil) .nil))
     ·clear ih
      have Hof := Lib.hid (mpostd_any W g Ao rn co ds (R.map Raw.cnt) x (hdl.trans Hrn.out.symm) (by have := Hrn.out; have := H8R.out; omega) hds hdo (Hga7.out.at_ hS) HRf.out)
      go_simp
      refine Hof.out.mono ?_
      rintro e W' hpp
      obtain ⟨hB, Aq, cq, hfp, rfl, hPp⟩ := PostingPost.one hpp
      clear hpp
      rw [<- HPSq.out] at hPp
      rw [<- HKKq.out, <- HEEq.out, <- HOOq.out, <- HEPq.out, <- HPSq.out, <- HNPq.out]
      have hS' := hS.trans (hB.mono hS.size)
      refine hK.out _ _ hS' (fun _ => ?_)
      clear hK K
      try simp only [z]
      obtain ⟨m, rfl⟩ : ∃ k, m = k + 3 := ⟨m - 3, by omega⟩
      refine wpAnyH_take (i := 5) (v := .tuple #[.agg #[.int .i64 kkq, .int .i64 eeq, .int .i64 ooq, .int .i64 0, .slice Aq npq cq], .int .i64 epq]) rfl (by kernel_rfl) (by cases bu <;> kernel_rfl) (by cases bu <;> kernel_rfl) (fun _ _ _ h => h) (.inl ⟨by rfl, fun W' hS' => by go_simp⟩) hS' ?_
      try simp only [z]
      refine wpAnyH_take (i := 6) (v := .agg #[.int .i64 kkq, .int .i64 eeq, .int .i64 ooq, .int .i64 0, .slice Aq npq cq]) rfl (by kernel_rfl) (by cases bu <;> kernel_rfl) (by cases bu <;> kernel_rfl) (fun _ _ _ h => h) (.inl ⟨by rfl, fun W' hS' => by go_simp⟩) hS' ?_
      try simp only [z]
      refine wpAnyH_take (i := 7) (v := .int .i64 epq) rfl (by kernel_rfl) (by cases bu <;> kernel_rfl) (by cases bu <;> kernel_rfl) (fun _ _ _ h => h) (.inl ⟨by rfl, fun W' hS' => by go_simp⟩) hS' ?_
      try simp only [z]
      have hn := n2 m W' Ao co ds Aq cq bu vu pu (by omega) hS' (Nat.le_trans hz hB.size) (hPp) (fun hb _ ad e => Nat.ne_of_gt (Nat.lt_of_lt_of_le (some_lt (Hu hb).2.2) (hfp ad e))) (Hu.step hB)
      try simp only [z] at hn
      exact hn
     ·subst hu
      obtain ⟨W', hWn, hB, hrow, _⟩ := nw1 W #[.int .i64 0, .int .i64 0, .int .i64 0, .int .i64 0, .slice none 0 0] 53
      go_simp
      rw [<- hWn]
      clear hWn
      have hS' := hS.trans (hB.mono hS.size)
      refine hK.out _ _ hS' (fun _ => ?_)
      clear hK K
      try simp only [z]
      have hn := ih W' Ao co ds true (.pointer (some ⟨W.heap.size, 0, none⟩)) W.heap.size (by simp only [cond_true, cond_false] at hm ⊢; omega) hS' (Nat.le_trans hz hB.size) (hdl) (RowsAt.at_ hds hB) (hdo.imp (Q := fun a b => a.Holds SD W' W'.heap.size b) fun _ _ h => h.atD hB) (fun _ => ⟨rfl, hz, hrow⟩) 
      try simp only [z] at hn
      exact hn
    have n0 : ∀ (m : Nat) (W : World) (bu : Bool) (vu : Value) (pu : Nat), 7 + cond bu 0 1 <= m -> RG W -> W_0.heap.size <= W.heap.size -> Mk W_0 W bu vu pu #[.int .i64 0, .int .i64 0, .int .i64 0, .int .i64 0, .slice none 0 0] 53 -> wpAnyH Tryz.prog md' ops' Q' RG m #[true, true, false, true, false, false, false, false, bu, false, false] (a'.put (some 15) vu) W := by
     intro m
     induction m with
     | zero => intros; omega
     | succ m ih =>
     intro W bu vu pu hm hS hz Hu
     subst hlm hlo hlq hla hRG
     try simp only [z]
     refine wpAnyH_ready (rs := 2 :: (cond bu [] [8] ++ [])) (by cases bu <;> kernel_rfl) (by simp) (.cons rfl (fun K hK => ?_) (ropt (fun hu => .cons rfl (fun K hK => ?_) .nil) .nil))
     ·clear ih
      have Hown := Lib.hid (own39_wide W Au nu cu R HRl.out (by have := HRl.out; have := H8R.out; omega) (RowsAt.at_ Hr7.out hS) (fun a ha => ((Hx7.out a ha).below hS (Nat.le_refl _)).more hS.size) HRw.out)
      go_simp
      refine Hown.out.mono ?_
      rintro e W' ⟨hB, Ao, co, ds, rfl, hdl, hds, hdo⟩
      rw [<- Hrn.out]
      have hS' := hS.trans (hB.mono hS.size)
      refine hK.out _ _ hS' (fun _ => ?_)
      clear hK K
      try simp only [z]
      have hn := n1 m W' Ao co ds bu vu pu (by omega) hS' (Nat.le_trans hz hB.size) (hdl) (hds) (hdo) (Hu.step hB)
      try simp only [z] at hn
      exact hn
     ·subst hu
      obtain ⟨W', hWn, hB, hrow, _⟩ := nw1 W #[.int .i64 0, .int .i64 0, .int .i64 0, .int .i64 0, .slice none 0 0] 53
      go_simp
      rw [<- hWn]
      clear hWn
      have hS' := hS.trans (hB.mono hS.size)
      refine hK.out _ _ hS' (fun _ => ?_)
      clear hK K
      try simp only [z]
      have hn := ih W' true (.pointer (some ⟨W.heap.size, 0, none⟩)) W.heap.size (by simp only [cond_true, cond_false] at hm ⊢; omega) hS' (Nat.le_trans hz hB.size) (fun _ => ⟨rfl, hz, hrow⟩) 
      try simp only [z] at hn
      exact hn
    have hn := n0 _ W_0 false undef 0 (Nat.le_refl _) hS (Nat.le_refl _)  (fun h => nomatch h)
    subst hlm hlo hlq hla hRG
    exact hn
   have n1 : ∀ (m : Nat) (W : World) (Ao : Option Addr) (co : Nat) (ds : List Con) (bp : Bool) (vp : Value) (pp : Nat), 6 + cond bp 0 1 <= m -> RG W -> W_0.heap.size <= W.heap.size -> (ds.length = l.length) -> (ConsAt W W.heap.size Ao ds) -> (Hold (fun a b => a.Holds SD W W.heap.size b) ds (l.map Raw.cnt)) -> Mk W_0 W bp vp pp #[.int .i64 0, .int .i64 0, .int .i64 0, .int .i64 0, .slice none 0 0] 53 -> wpAnyH Tryz.prog md' ops' Q' RG m #[true, true, true, true, false, false, false, false, bp, false, false] ((a'.put (some 74) (.slice Ao ln co)).put (some 13) vp) W := by
    intro m
    induction m with
    | zero => intros; omega
    | succ m ih =>
    intro W Ao co ds bp vp pp hm hS hz hdl hds hdo Hp
    subst hlm hlo hlq hla hRG
    try simp only [z]
    refine wpAnyH_ready (rs := 4 :: (cond bp [] [8] ++ [])) (by cases bp <;> kernel_rfl) (by simp) (.cons rfl (fun K hK => ?_) (ropt (fun hp => .cons rfl (fun K hK => ?_) .nil) .nil))
    ·clear ih
     have Hof := Lib.hid (mpostd_any W g Ao ln co ds (l.map Raw.cnt) x (hdl.trans Hln.out.symm) (by have := Hln.out; have := H8.out; omega) hds hdo (Hgaw.out.at_ hS) HWF.out)
     go_simp
     refine Hof.out.mono ?_
     rintro e W' hpp
     obtain ⟨hB, Ap, cp, hfp, rfl, hPp⟩ := PostingPost.one hpp
     clear hpp
     rw [<- HPS.out] at hPp
     rw [<- HKK.out, <- HEE.out, <- HOO.out, <- HEP.out, <- HPS.out, <- HNP.out]
     have hS' := hS.trans (hB.mono hS.size)
     refine hK.out _ _ hS' (fun _ => ?_)
     clear hK K
     try simp only [z]
     obtain ⟨m, rfl⟩ : ∃ k, m = k + 3 := ⟨m - 3, by omega⟩
     refine wpAnyH_take (i := 5) (v := .tuple #[.agg #[.int .i64 kk, .int .i64 ee, .int .i64 oo, .int .i64 0, .slice Ap np cp], .int .i64 ep]) rfl (by kernel_rfl) (by cases bp <;> kernel_rfl) (by cases bp <;> kernel_rfl) (fun _ _ _ h => h) (.inl ⟨by rfl, fun W' hS' => by go_simp⟩) hS' ?_
     try simp only [z]
     refine wpAnyH_take (i := 6) (v := .agg #[.int .i64 kk, .int .i64 ee, .int .i64 oo, .int .i64 0, .slice Ap np cp]) rfl (by kernel_rfl) (by cases bp <;> kernel_rfl) (by cases bp <;> kernel_rfl) (fun _ _ _ h => h) (.inl ⟨by rfl, fun W' hS' => by go_simp⟩) hS' ?_
     try simp only [z]
     refine wpAnyH_take (i := 7) (v := .int .i64 ep) rfl (by kernel_rfl) (by cases bp <;> kernel_rfl) (by cases bp <;> kernel_rfl) (fun _ _ _ h => h) (.inl ⟨by rfl, fun W' hS' => by go_simp⟩) hS' ?_
     try simp only [z]
     have hn := n2 m W' Ao co ds Ap cp bp vp pp (by omega) hS' (Nat.le_trans hz hB.size) (hPp) (fun hb _ ad e => Nat.ne_of_gt (Nat.lt_of_lt_of_le (some_lt (Hp hb).2.2) (hfp ad e))) (Hp.step hB)
     try simp only [z] at hn
     exact hn
    ·subst hp
     obtain ⟨W', hWn, hB, hrow, _⟩ := nw1 W #[.int .i64 0, .int .i64 0, .int .i64 0, .int .i64 0, .slice none 0 0] 53
     go_simp
     rw [<- hWn]
     clear hWn
     have hS' := hS.trans (hB.mono hS.size)
     refine hK.out _ _ hS' (fun _ => ?_)
     clear hK K
     try simp only [z]
     have hn := ih W' Ao co ds true (.pointer (some ⟨W.heap.size, 0, none⟩)) W.heap.size (by simp only [cond_true, cond_false] at hm ⊢; omega) hS' (Nat.le_trans hz hB.size) (hdl) (RowsAt.at_ hds hB) (hdo.imp (Q := fun a b => a.Holds SD W' W'.heap.size b) fun _ _ h => h.atD hB) (fun _ => ⟨rfl, hz, hrow⟩) 
     try simp only [z] at hn
     exact hn
   have n0 : ∀ (m : Nat) (W : World) (bp : Bool) (vp : Value) (pp : Nat), 7 + cond bp 0 1 <= m -> RG W -> W_0.heap.size <= W.heap.size -> Mk W_0 W bp vp pp #[.int .i64 0, .int .i64 0, .int .i64 0, .int .i64 0, .slice none 0 0] 53 -> wpAnyH Tryz.prog md' ops' Q' RG m #[true, true, false, true, false, false, false, false, bp, false, false] (a'.put (some 13) vp) W := by
    intro m
    induction m with
    | zero => intros; omega
    | succ m ih =>
    intro W bp vp pp hm hS hz Hp
    subst hlm hlo hlq hla hRG
    try simp only [z]
    refine wpAnyH_ready (rs := 2 :: (cond bp [] [8] ++ [])) (by cases bp <;> kernel_rfl) (by simp) (.cons rfl (fun K hK => ?_) (ropt (fun hp => .cons rfl (fun K hK => ?_) .nil) .nil))
    ·clear ih
     have Hown := Lib.hid (own39_any W A j c l Hl.out (by have := Hl.out; have := H8.out; omega) (RowsAt.at_ Hrw.out hS) (fun a ha => ((Hxw.out a ha).below hS (Nat.le_refl _)).more hS.size) Hall.out)
     go_simp
     refine Hown.out.mono ?_
     rintro e W' ⟨hB, Ao, co, ds, rfl, hdl, hds, hdo⟩
     rw [<- Hln.out]
     have hS' := hS.trans (hB.mono hS.size)
     refine hK.out _ _ hS' (fun _ => ?_)
     clear hK K
     try simp only [z]
     have hn := n1 m W' Ao co ds bp vp pp (by omega) hS' (Nat.le_trans hz hB.size) (hdl) (hds) (hdo) (Hp.step hB)
     try simp only [z] at hn
     exact hn
    ·subst hp
     obtain ⟨W', hWn, hB, hrow, _⟩ := nw1 W #[.int .i64 0, .int .i64 0, .int .i64 0, .int .i64 0, .slice none 0 0] 53
     go_simp
     rw [<- hWn]
     clear hWn
     have hS' := hS.trans (hB.mono hS.size)
     refine hK.out _ _ hS' (fun _ => ?_)
     clear hK K
     try simp only [z]
     have hn := ih W' true (.pointer (some ⟨W.heap.size, 0, none⟩)) W.heap.size (by simp only [cond_true, cond_false] at hm ⊢; omega) hS' (Nat.le_trans hz hB.size) (fun _ => ⟨rfl, hz, hrow⟩) 
     try simp only [z] at hn
     exact hn
   have hn := n0 _ W_0 false undef 0 (Nat.le_refl _) hS (Nat.le_refl _)  (fun h => nomatch h)
   subst hlm hlo hlq hla hRG
   exact hn
end
end Go.Proofs.YtobnfmneeabomaaGreat
