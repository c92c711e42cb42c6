/- My texts GrpR, ItemW. -/
import Derived.Test.YtccapfbblnnfjaaGreatG27
set_option linter.unusedVariables false
set_option linter.unusedSimpArgs false
set_option maxRecDepth 100000
set_option maxHeartbeats 8000000
namespace Go.Proofs.YtccapfbblnnfjaaGreat
open Go.RowKit
section
variable (w : World)
theorem grpr_any (g : Grp) (hg : g.At w w.heap.size) :
  Calls Tryz.prog 86 #[.agg #[.string g.cur, .int .i64 g.Y, .int .i64 g.M, .int .i64 g.N, .slice g.cA g.cn g.cc, .int .i64 g.r0, .int .i64 g.r1, .int .i64 g.r2, .int .i64 g.r3, .int .i64 g.r4, .int .i64 g.r5, .int .i64 g.r6, .int .i64 g.r7, .int .i64 g.r8, .int .i64 g.r9, .int .i64 g.r10, .int .i64 g.r11, .int .i64 g.r12, .int .i64 g.r13, .int .i64 g.r14, .slice g.eA g.en g.ec]] w fun e w' => e = .returned (.bool (Gr.valid g)) /\ Below w.heap.size w w' := by
 obtain ⟨W1, hW1, hB0, hb0, hz⟩ := nw1 w #[.string g.cur, .int .i64 g.Y, .int .i64 g.M, .int .i64 g.N, .slice g.cA g.cn g.cc, .int .i64 g.r0, .int .i64 g.r1, .int .i64 g.r2, .int .i64 g.r3, .int .i64 g.r4, .int .i64 g.r5, .int .i64 g.r6, .int .i64 g.r7, .int .i64 g.r8, .int .i64 g.r9, .int .i64 g.r10, .int .i64 g.r11, .int .i64 g.r12, .int .i64 g.r13, .int .i64 g.r14, .slice g.eA g.en g.ec] 29
 have HW := Lib.hid hW1
 have hg1 := hg.at_ hB0
 have s1 : w.heap.size < W1.heap.size := by omega
 have Hb0 := Lib.hid hb0
 have Hel := Lib.hid hg.hel
 have hen := hg.hen
 have hrg := Lib.hid (grp_range hb0)
 clear hW1 hz hb0 hg
 go_enter Tryz.func86, Tryz.ntmps86
 go_upto_region 1 with (fail)
 rw [<- HW.out]
 go_wp2_with (refine wpList_load_mid rfl 29 (.tmp 1) rfl w.heap.size 0 rfl _ _ hrg.out Tryz.underlying29 rfl grpSize ?_)
 refine (booksr_any W1 g hg1).mono ?_
 rintro e W3 ⟨rfl, hB3⟩
 have hB03 := hB0.trans (hB3.mono hB0.size)
 have hb3 := gbox Hb0.out hB3 s1
 have hg3 := hg1.at_ hB3
 clear hrg hg1
 by_cases h1 : Gr.books g = true
 case neg =>
  have h1' : Gr.books g = false := by simpa using h1
  have HV : Hid (Gr.valid g = false) := by show _ = _; rw [Gr.valid, h1']; rfl
  rw [h1']
  clear h1 h1' hg3 hb3
  go_wp2
  go_ret
  exact ⟨by rw [HV.out]; rfl, hB03⟩
 have H1 := Lib.hid h1
 rw [h1]
 have x20 := cell_of_row _ _ 20 _ _ _ hb3
 simp at x20
 have s3 : w.heap.size < W3.heap.size := some_lt hb3
 have Hb3 := Lib.hid hb3
 have Hg3 := Lib.hid hg3
 clear h1 hb3 hg3
 by_cases h4 : g.en < 1
 ·have h4' : (g.en : Int) < 1 := by omega
  have HV : Hid (Gr.valid g = false) := by show _ = _; rw [Gr.valid, decide_eq_false (show ¬ 1 <= g.ents.length by have := Hel.out; omega)]; simp
  clear h4
  go_wp2
  go_ret
  exact ⟨by rw [HV.out]; rfl, hB03⟩
 have h4' : ¬ (g.en : Int) < 1 := by omega
 by_cases h5 : 12 < g.en
 ·have h5' : (12 : Int) < (g.en : Int) := by omega
  have HV : Hid (Gr.valid g = false) := by show _ = _; rw [Gr.valid, decide_eq_false (show ¬ g.ents.length <= 12 by have := Hel.out; omega)]; simp
  clear h5
  go_wp2
  go_ret
  exact ⟨by rw [HV.out]; rfl, hB03⟩
 have h5' : ¬ (12 : Int) < (g.en : Int) := by omega
 have h0l : 0 < g.ents.length := by have := Hel.out; omega
 obtain ⟨b, o, hAe, hbB, c0, c1, c2, c3, c4⟩ := EntsAt.five Hg3.out.he h0l
 simp only [Nat.zero_mul, Nat.add_zero] at c4
 have hen0 : (0 : Int) < (g.en : Int) := by omega
 have HAe := Lib.hid hAe
 have Hj := Lib.hid (eat_lt h0l)
 obtain ⟨j, hj⟩ : ∃ j, j = (Gr.eat g.ents 0).joint := ⟨_, rfl⟩
 have hc4 : W3.cell? ⟨b, o + 4, none⟩ = some (.bool j) := by rw [hj, Hj.out]; exact c4
 have HJ := Lib.hid hj
 rw [hAe] at x20
 clear c0 c1 c2 c3 c4 hj hAe
 cases j
 case true =>
  have HV : Hid (Gr.valid g = false) := by show _ = _; rw [Gr.valid, <- HJ.out]; simp
  go_wp2
  go_ret
  exact ⟨by rw [HV.out]; rfl, hB03⟩
 have HV : Hid (Gr.valid g = (List.range g.ents.length).all (Gr.entAt g)) := by
  show _ = _
  rw [Gr.valid, H1.out, <- HJ.out, decide_eq_true (show 1 <= g.ents.length by omega), decide_eq_true (show g.ents.length <= 12 by have := Hel.out; omega)]; rfl
 clear h4 h5
 go_wp2
 go_loopw [3] (fun i wr => ∃ k : Nat, k <= g.en /\ i = .int .i64 k /\ (List.range k).all (Gr.entAt g) = true /\ Below W3.heap.size W3 wr) (fun i _ => g.en - (intOf i).toNat)
 case atStart => exact ⟨0, Nat.zero_le _, rfl, rfl, Below.refl _ _⟩
 case round =>
  obtain ⟨k, hk, rfl, hall, hbr⟩ := hrel
  have Hall := Lib.hid hall
  have hq3 := hbr.size
  have hbw := hB03.trans (hbr.mono hB03.size)
  have hbx := gbox Hb3.out hbr s3
  clear hall x20 hc4
  have x20 := cell_of_row _ _ 20 _ _ _ hbx
  simp at x20
  rw [HAe.out] at x20
  have sw : w.heap.size < wr.heap.size := some_lt hbx
  have hgx := Lib.hid (grp_range hbx)
  have Hbx := Lib.hid hbx
  clear hbx
  by_cases hlt : k < g.en
  ·have hkl : k < g.ents.length := by have := Hel.out; omega
   have hea := RowsAt.below Hg3.out.he hbr (Nat.le_refl _)
   obtain ⟨b', o', hA', hbB', c0, c1, c2, c3, c4⟩ := EntsAt.five hea hkl
   rw [HAe.out] at hA'
   cases hA'
   have hbwr : b < wr.heap.size := by omega
   have hS : Below wr.heap.size wr wr.drew := below_drawn (Below.refl _ _) 1
   have hgr := (Hg3.out.below hbr (Nat.le_refl _)).more hq3
   have Heat := Lib.hid (eat_lt hkl)
   have hk0 : (0 : Int) <= (k : Int) := by omega
   have hkn : (k : Int) < (g.en : Int) := by omega
   have hbad : Gr.entAt g k = false -> Hid (Gr.valid g = false) := fun h => Lib.hid (by rw [HV.out]; exact Ch.all_not hkl h)
   have Hea := Lib.hid hea
   clear c1 c2 c3 c4 hea
   go_upto_region 6 with (fail)
   refine wp_region_held (S := Below wr.heap.size wr) (by kernel_rfl) ?_
   change wpAnyH _ _ _ _ _ _ _ _ (World.drew _)
   obtain ⟨W0, hWd⟩ : ∃ W0, W0 = wr.drew := ⟨_, rfl⟩
   rw [<- hWd] at hS ⊢
   clear hWd
   refine tk (i := 0) (v := .agg #[.string g.cur, .int .i64 g.Y, .int .i64 g.M, .int .i64 g.N, .slice g.cA g.cn g.cc, .int .i64 g.r0, .int .i64 g.r1, .int .i64 g.r2, .int .i64 g.r3, .int .i64 g.r4, .int .i64 g.r5, .int .i64 g.r6, .int .i64 g.r7, .int .i64 g.r8, .int .i64 g.r9, .int .i64 g.r10, .int .i64 g.r11, .int .i64 g.r12, .int .i64 g.r13, .int .i64 g.r14, .slice g.eA g.en g.ec]) rfl (by kernel_rfl) (fun _ _ _ h => h) (yieldsIf_load_mid (by rfl) 29 _ rfl w.heap.size 0 rfl [.string g.cur, .int .i64 g.Y, .int .i64 g.M, .int .i64 g.N, .slice g.cA g.cn g.cc, .int .i64 g.r0, .int .i64 g.r1, .int .i64 g.r2, .int .i64 g.r3, .int .i64 g.r4, .int .i64 g.r5, .int .i64 g.r6, .int .i64 g.r7, .int .i64 g.r8, .int .i64 g.r9, .int .i64 g.r10, .int .i64 g.r11, .int .i64 g.r12, .int .i64 g.r13, .int .i64 g.r14, .slice g.eA g.en g.ec] _ (fun W' hS' => range_below hgx.out hS' sw) Tryz.underlying29 rfl grpSize) hS ?_
   try simp only [z]
   refine tk (i := 1) (v := .pointer (some ⟨w.heap.size, 20, none⟩)) rfl (by kernel_rfl) (fun _ _ _ h => h) (.inl ⟨by rfl, fun W' hS' => by go_simp⟩) hS ?_
   try simp only [z]
   refine tk (i := 2) (v := .slice (some ⟨b, o, none⟩) g.en g.ec) rfl (by kernel_rfl) (fun _ _ _ h => h) (.inl ⟨by rfl, fun W' hS' => by have hc := (hS'.cell (p := ⟨w.heap.size, 20, none⟩) sw).trans x20; go_simp⟩) hS ?_
   try simp only [z]
   refine tk (i := 3) (v := .int .i64 k) rfl (by kernel_rfl) (fun _ _ _ h => h) (.inl ⟨by rfl, fun W' hS' => by go_simp⟩) hS ?_
   try simp only [z]
   refine tk (i := 4) (v := .pointer (some ⟨b, o + k * 5, none⟩)) rfl (by kernel_rfl) (fun _ _ _ h => h) (.inl ⟨by rfl, fun W' hS' => by go_simp⟩) hS ?_
   try simp only [z]
   refine tk (i := 5) (v := .pointer (some ⟨b, o + k * 5, none⟩)) rfl (by kernel_rfl) (fun _ _ _ h => h) (.inl ⟨by rfl, fun W' hS' => by go_simp⟩) hS ?_
   try simp only [z]
   refine tk (i := 6) (v := .string g.ents[k].name) rfl (by kernel_rfl) (fun _ _ _ h => h) (.inl ⟨by rfl, fun W' hS' => by have hc := (hS'.cell (p := ⟨b, o + k * 5, none⟩) hbwr).trans c0; go_simp⟩) hS ?_
   try simp only [z]
   refine wpAnyH_ready (rs := [7]) (by kernel_rfl) (by simp) (AllReadyH.cons rfl (fun K hK => ?_) AllReadyH.nil)
   go_simp
   refine (fname_any W0 g g.ents[k].name (hgr.at_ hS)).mono ?_
   rintro e W4 ⟨hB4, hcase⟩
   have hS4 : Below wr.heap.size wr W4 := hS.trans (hB4.mono hS.size)
   have hfound : ∃ (m : Nat) (_ : m < g.ents.length), e = .returned (.tuple #[.int .i64 m, .bool true]) /\ g.ents[m].name = g.ents[k].name /\ (g.ents.take m).any (fun y => decide (y.name = g.ents[k].name)) = false := by
    rcases hcase with ⟨_, hno⟩ | h
    ·exfalso
     have : g.ents.any (fun y => decide (y.name = g.ents[k].name)) = true := by
      rw [List.any_eq_true]; exact ⟨g.ents[k], List.getElem_mem hkl, by simp⟩
     rw [this] at hno; cases hno
    ·exact h
   obtain ⟨m, hml, rfl, hmn, hmf⟩ := hfound
   have hmk : m <= k := by
    rcases Nat.lt_or_ge k m with h | h
    ·exfalso
     have : (g.ents.take m).any (fun y => decide (y.name = g.ents[k].name)) = true := by
      rw [List.any_eq_true]; exact ⟨g.ents[k], List.mem_take_iff_getElem.2 ⟨k, by omega, rfl⟩, by simp⟩
     rw [this] at hmf; cases hmf
    ·exact h
   have Hmn := Lib.hid hmn
   have Hmf := Lib.hid hmf
   clear hcase hmn hmf
   refine hK.out _ _ hS4 (fun _ => ?_)
   clear hK K
   try simp only [z]
   refine tk (i := 8) (v := .tuple #[.int .i64 m, .bool true]) rfl (by kernel_rfl) (fun _ _ _ h => h) (.inl ⟨by rfl, fun W' hS' => by go_simp⟩) hS4 ?_
   try simp only [z]
   refine tk (i := 9) (v := .int .i64 m) rfl (by kernel_rfl) (fun _ _ _ h => h) (.inl ⟨by rfl, fun W' hS' => by go_simp⟩) hS4 ?_
   try simp only [z]
   refine tk (i := 10) (v := .bool true) rfl (by kernel_rfl) (fun _ _ _ h => h) (.inl ⟨by rfl, fun W' hS' => by go_simp⟩) hS4 ?_
   try simp only [z]
   refine wpAnyH_ready (rs := [11]) (by kernel_rfl) (by simp) (AllReadyH.cons rfl (fun K hK => ?_) AllReadyH.nil)
   go_simp
   refine hK.out _ _ hS4 (fun _ => ?_)
   clear hK K
   try simp only [z]
   refine wpAnyH_ready (rs := [12]) (by kernel_rfl) (by simp) (AllReadyH.cons rfl (fun K hK => ?_) AllReadyH.nil)
   go_simp
   refine hK.out _ _ hS4 (fun _ => ?_)
   clear hK K
   try simp only [z]
   refine wpAnyH_done (by kernel_rfl) ?_ _
   have hbF4 := hbw.trans (hS4.mono hbw.size)
   have hbr4 := hbr.trans (hS4.mono hq3)
   have hq4 := hS4.size
   have hgx4 := Lib.hid (range_below hgx.out hS4 sw)
   have Hent := Lib.hid (RowsAt.look (RowsAt.below Hea.out hS4 (by omega)) hkl)
   have hgr4 := (hgr.below hS4 (Nat.le_refl _)).more hq4
   have x204 := (hS4.cell (p := ⟨w.heap.size, 20, none⟩) sw).trans x20
   have hS5 : Below W4.heap.size W4 W4.drew := below_drawn (Below.refl _ _) 1
   have sw4 : w.heap.size < W4.heap.size := by omega
   have hbw4 : b < W4.heap.size := by omega
   obtain ⟨b2, o2, hA2, hb2, hx2⟩ := Hent.out
   rw [HAe.out] at hA2
   cases hA2
   clear x20 c0
   go_wp2_with (fail)
   by_cases hmk2 : m = k
   ·have hnk : ((m : Int) != (k : Int)) = false := by simp; omega
    have Hm := Lib.hid hmk2
    clear hmk2 hmk
    refine wp_region_held (S := Below W4.heap.size W4) (by kernel_rfl) ?_
    change wpAnyH _ _ _ _ _ _ _ _ (World.drew _)
    obtain ⟨W0', hWd⟩ : ∃ W0, W0 = W4.drew := ⟨_, rfl⟩
    rw [<- hWd] at hS5 ⊢
    clear hWd
    refine tk (i := 0) (v := .int .i64 m) rfl (by kernel_rfl) (fun _ _ _ h => h) (.inl ⟨by rfl, fun W' hS' => by go_simp⟩) hS5 ?_
    try simp only [z]
    refine tk (i := 1) (v := .int .i64 k) rfl (by kernel_rfl) (fun _ _ _ h => h) (.inl ⟨by rfl, fun W' hS' => by go_simp⟩) hS5 ?_
    try simp only [z]
    refine tk (i := 2) (v := .bool false) rfl (by kernel_rfl) (fun _ _ _ h => h) (.inl ⟨by rfl, fun W' hS' => by go_simp⟩) hS5 ?_
    try simp only [z]
    refine tk (i := 3) (v := .bool false) rfl (by kernel_rfl) (fun _ _ _ h => h) (.inl ⟨by rfl, fun W' hS' => by go_simp⟩) hS5 ?_
    try simp only [z]
    refine tk (i := 4) (v := .agg #[.string g.cur, .int .i64 g.Y, .int .i64 g.M, .int .i64 g.N, .slice g.cA g.cn g.cc, .int .i64 g.r0, .int .i64 g.r1, .int .i64 g.r2, .int .i64 g.r3, .int .i64 g.r4, .int .i64 g.r5, .int .i64 g.r6, .int .i64 g.r7, .int .i64 g.r8, .int .i64 g.r9, .int .i64 g.r10, .int .i64 g.r11, .int .i64 g.r12, .int .i64 g.r13, .int .i64 g.r14, .slice g.eA g.en g.ec]) rfl (by kernel_rfl) (fun _ _ _ h => h) (yieldsIf_load_mid (by rfl) 29 _ rfl w.heap.size 0 rfl [.string g.cur, .int .i64 g.Y, .int .i64 g.M, .int .i64 g.N, .slice g.cA g.cn g.cc, .int .i64 g.r0, .int .i64 g.r1, .int .i64 g.r2, .int .i64 g.r3, .int .i64 g.r4, .int .i64 g.r5, .int .i64 g.r6, .int .i64 g.r7, .int .i64 g.r8, .int .i64 g.r9, .int .i64 g.r10, .int .i64 g.r11, .int .i64 g.r12, .int .i64 g.r13, .int .i64 g.r14, .slice g.eA g.en g.ec] _ (fun W' hS' => range_below hgx4.out hS' sw4) Tryz.underlying29 rfl grpSize) hS5 ?_
    try simp only [z]
    refine tk (i := 5) (v := .pointer (some ⟨w.heap.size, 20, none⟩)) rfl (by kernel_rfl) (fun _ _ _ h => h) (.inl ⟨by rfl, fun W' hS' => by go_simp⟩) hS5 ?_
    try simp only [z]
    refine tk (i := 6) (v := .slice (some ⟨b, o, none⟩) g.en g.ec) rfl (by kernel_rfl) (fun _ _ _ h => h) (.inl ⟨by rfl, fun W' hS' => by have hc := (hS'.cell (p := ⟨w.heap.size, 20, none⟩) sw4).trans x204; go_simp⟩) hS5 ?_
    try simp only [z]
    refine tk (i := 7) (v := .int .i64 k) rfl (by kernel_rfl) (fun _ _ _ h => h) (.inl ⟨by rfl, fun W' hS' => by go_simp⟩) hS5 ?_
    try simp only [z]
    refine tk (i := 8) (v := .pointer (some ⟨b, o + k * 5, none⟩)) rfl (by kernel_rfl) (fun _ _ _ h => h) (.inl ⟨by rfl, fun W' hS' => by go_simp⟩) hS5 ?_
    try simp only [z]
    refine tk (i := 9) (v := .agg #[.string (g.ents[k]).name, .string (g.ents[k]).cur, .slice (g.ents[k]).cA (g.ents[k]).cn (g.ents[k]).cc, .slice (g.ents[k]).lA (g.ents[k]).ln (g.ents[k]).lc, .bool (g.ents[k]).joint]) rfl (by kernel_rfl) (fun _ _ _ h => h) (yieldsIf_load_mid (by rfl) 106 _ rfl b (o + k * 5) rfl [.string (g.ents[k]).name, .string (g.ents[k]).cur, .slice (g.ents[k]).cA (g.ents[k]).cn (g.ents[k]).cc, .slice (g.ents[k]).lA (g.ents[k]).ln (g.ents[k]).lc, .bool (g.ents[k]).joint] _ (fun W' hS' => range_below hx2 hS' hbw4) Tryz.underlying106 rfl entSize) hS5 ?_
    try simp only [z]
    refine wpAnyH_ready (rs := [10]) (by kernel_rfl) (by simp) (AllReadyH.cons rfl (fun K hK => ?_) AllReadyH.nil)
    go_simp
    refine (entr_any W0' g g.ents[k] (hgr4.at_ hS5) ((hgr4.hea _ (List.getElem_mem hkl)).at_ hS5)).mono ?_
    rintro e W6 ⟨rfl, hB6⟩
    have hS6 : Below W4.heap.size W4 W6 := hS5.trans (hB6.mono hS5.size)
    refine hK.out _ _ hS6 (fun _ => ?_)
    clear hK K
    try simp only [z]
    by_cases ho : Gr.entity g g.ents[k] = true
    ·skip
     have Hall2 := Lib.hid (Gr.range_all Hall.out (show Gr.entAt g k = true by have h1 := Hmf.out; rw [Hm.out] at h1; rw [Gr.entAt, Heat.out, h1, ho]; rfl))
     rw [ho]
     clear ho hbad
     refine tk (i := 11) (v := .bool false) rfl (by kernel_rfl) (fun _ _ _ h => h) (.inl ⟨by rfl, fun W' hS' => by go_simp⟩) hS6 ?_
     try simp only [z]
     refine tk (i := 12) (v := .bool false) rfl (by kernel_rfl) (fun _ _ _ h => h) (.inl ⟨by rfl, fun W' hS' => by go_simp⟩) hS6 ?_
     try simp only [z]
     refine wpAnyH_done (by kernel_rfl) ?_ _
     have hbr6 := hbr4.trans (hS6.mono hbr4.size)
     clear x204
     go_wp2
     go_roundw
     case rel => exact ⟨k + 1, by omega, by go_num, Hall2.out, hbr6⟩
     case measure => simp [intOf]; omega
    ·skip
     have ho' : Gr.entity g g.ents[k] = false := by simpa using ho
     have HV2 := hbad (by rw [Gr.entAt, Heat.out, ho']; rfl)
     rw [ho']
     clear ho ho' hbad
     refine tk (i := 11) (v := .bool true) rfl (by kernel_rfl) (fun _ _ _ h => h) (.inl ⟨by rfl, fun W' hS' => by go_simp⟩) hS6 ?_
     try simp only [z]
     refine tk (i := 12) (v := .bool true) rfl (by kernel_rfl) (fun _ _ _ h => h) (.inl ⟨by rfl, fun W' hS' => by go_simp⟩) hS6 ?_
     try simp only [z]
     refine wpAnyH_done (by kernel_rfl) ?_ _
     clear x204
     go_wp2
     go_ret
     exact ⟨by rw [HV2.out]; rfl, hbF4.trans (hS6.mono hbF4.size)⟩
   ·have hnk : ((m : Int) != (k : Int)) = true := by simp; omega
    have HV2 := hbad (by
     rw [Gr.entAt, Heat.out]
     have : (g.ents.take k).any (fun y => decide (y.name = g.ents[k].name)) = true := by
      rw [List.any_eq_true]; exact ⟨g.ents[m], List.mem_take_iff_getElem.2 ⟨m, by omega, rfl⟩, by rw [Hmn.out]; simp⟩
     rw [this]; simp)
    have Hm := Lib.hid hmk2
    clear hmk2 hmk hbad
    refine wp_region_held (S := Below W4.heap.size W4) (by kernel_rfl) ?_
    change wpAnyH _ _ _ _ _ _ _ _ (World.drew _)
    obtain ⟨W0', hWd⟩ : ∃ W0, W0 = W4.drew := ⟨_, rfl⟩
    rw [<- hWd] at hS5 ⊢
    clear hWd
    refine tk (i := 0) (v := .int .i64 m) rfl (by kernel_rfl) (fun _ _ _ h => h) (.inl ⟨by rfl, fun W' hS' => by go_simp⟩) hS5 ?_
    try simp only [z]
    refine tk (i := 1) (v := .int .i64 k) rfl (by kernel_rfl) (fun _ _ _ h => h) (.inl ⟨by rfl, fun W' hS' => by go_simp⟩) hS5 ?_
    try simp only [z]
    refine tk (i := 2) (v := .bool true) rfl (by kernel_rfl) (fun _ _ _ h => h) (.inl ⟨by rfl, fun W' hS' => by go_simp⟩) hS5 ?_
    try simp only [z]
    refine tk (i := 3) (v := .bool true) rfl (by kernel_rfl) (fun _ _ _ h => h) (.inl ⟨by rfl, fun W' hS' => by go_simp⟩) hS5 ?_
    try simp only [z]
    refine tk (i := 4) (v := undef) rfl (by kernel_rfl) (fun _ _ _ h => h) (.inr ⟨by rfl, rfl⟩) hS5 ?_
    try simp only [z]
    refine tk (i := 5) (v := undef) rfl (by kernel_rfl) (fun _ _ _ h => h) (.inr ⟨by rfl, rfl⟩) hS5 ?_
    try simp only [z]
    refine tk (i := 6) (v := undef) rfl (by kernel_rfl) (fun _ _ _ h => h) (.inr ⟨by rfl, rfl⟩) hS5 ?_
    try simp only [z]
    refine tk (i := 7) (v := undef) rfl (by kernel_rfl) (fun _ _ _ h => h) (.inr ⟨by rfl, rfl⟩) hS5 ?_
    try simp only [z]
    refine tk (i := 8) (v := undef) rfl (by kernel_rfl) (fun _ _ _ h => h) (.inr ⟨by rfl, rfl⟩) hS5 ?_
    try simp only [z]
    refine tk (i := 9) (v := undef) rfl (by kernel_rfl) (fun _ _ _ h => h) (.inr ⟨by rfl, rfl⟩) hS5 ?_
    try simp only [z]
    refine tk (i := 10) (v := undef) rfl (by kernel_rfl) (fun _ _ _ h => h) (.inr ⟨by rfl, rfl⟩) hS5 ?_
    try simp only [z]
    refine tk (i := 11) (v := undef) rfl (by kernel_rfl) (fun _ _ _ h => h) (.inr ⟨by rfl, rfl⟩) hS5 ?_
    try simp only [z]
    refine tk (i := 12) (v := .bool true) rfl (by kernel_rfl) (fun _ _ _ h => h) (.inl ⟨by rfl, fun W' hS' => by go_simp⟩) hS5 ?_
    try simp only [z]
    refine wpAnyH_done (by kernel_rfl) ?_ _
    clear x204
    go_wp2
    go_ret
    exact ⟨by rw [HV2.out]; rfl, hbF4.trans (hS5.mono hbF4.size)⟩
  ·obtain rfl : k = g.en := by omega
   have HV2 : Hid (Gr.valid g = true) := by show _ = _; rw [HV.out, Hel.out]; exact Hall.out
   go_wp2
   go_ret
   exact ⟨by rw [HV2.out]; rfl, hbw⟩
end

structure Itm where
 ent0 : Int
 lin : Int
 ent : Int
 acct : Int
 partner : Int
 date : Int
 amt : Int
def Itm.cells (x : Itm) : List Value := [.int .i64 x.ent0, .int .i64 x.lin, .int .i64 x.ent, .int .i64 x.acct, .int .i64 x.partner, .int .i64 x.date, .int .i64 x.amt]
def Itm.small (x : Itm) : Prop := -1000000000000 <= x.amt /\ x.amt <= 1000000000000
abbrev ItmsAt := RowsAt Itm.cells 7
namespace Gr
def kind (g : Grp) (a : Int) : Int := (Ch.found g.chart a).kind
def check (g : Grp) (x : Int) : Int := if Gr.valid g = false then 1 else if x < 0 ∨ (g.en : Int) <= x then 2 else 0
def sumOf (P : Int -> Bool) : List Itm -> Int
 | [] => 0
 | x :: l => (if P x.acct = true then x.amt else 0) + sumOf P l
theorem sumOf_append (P : Int -> Bool) : ∀ (l m : List Itm), sumOf P (l ++ m) = sumOf P l + sumOf P m
 | [], m => by simp [sumOf]
 | x :: l, m => by simp only [List.cons_append, sumOf, sumOf_append P l m]; omega
theorem sumOf_take (P : Int -> Bool) {l : List Itm} {k : Nat} (hk : k < l.length) : sumOf P (l.take (k + 1)) = sumOf P (l.take k) + (if P l[k].acct = true then l[k].amt else 0) := by
 rw [List.take_succ_eq_append_getElem hk, sumOf_append]; simp [sumOf]
theorem sumOf_bd (P : Int -> Bool) : ∀ (l : List Itm), (∀ x ∈ l, x.small) -> -(1000000000000 * (l.length : Int)) <= sumOf P l /\ sumOf P l <= 1000000000000 * (l.length : Int)
 | [], _ => by simp [sumOf]
 | x :: l, h => by
  have h1 := sumOf_bd P l fun y hy => h y (List.mem_cons_of_mem _ hy)
  have h2 := h x (List.mem_cons_self)
  unfold Itm.small at h2
  simp only [sumOf, List.length_cons]
  split <;> omega
end Gr
theorem ItmsAt.seven {w : World} {B : Nat} {A : Option Addr} {l : List Itm} (h : ItmsAt w B A l) {k : Nat} (hk : k < l.length) : ∃ b o, A = some ⟨b, o, none⟩ /\ b < B /\ w.rangeAt b (o + k * 7) [.int .i64 (l[k]).ent0, .int .i64 (l[k]).lin, .int .i64 (l[k]).ent, .int .i64 (l[k]).acct, .int .i64 (l[k]).partner, .int .i64 (l[k]).date, .int .i64 (l[k]).amt] /\ w.cell? ⟨b, o + k * 7 + 3, none⟩ = some (.int .i64 l[k].acct) /\ w.cell? ⟨b, o + k * 7 + 6, none⟩ = some (.int .i64 l[k].amt) := by
 obtain ⟨b, o, e, hb, hr⟩ := RowsAt.look h hk
 exact ⟨b, o, e, hb, hr, hr 3 _ rfl, hr 6 _ rfl⟩
section
variable (w : World)
theorem check_any (g : Grp) (x : Int) (hg : g.At w w.heap.size) :
  Calls Tryz.prog 52 #[.agg #[.string g.cur, .int .i64 g.Y, .int .i64 g.M, .int .i64 g.N, .slice g.cA g.cn g.cc, .int .i64 g.r0, .int .i64 g.r1, .int .i64 g.r2, .int .i64 g.r3, .int .i64 g.r4, .int .i64 g.r5, .int .i64 g.r6, .int .i64 g.r7, .int .i64 g.r8, .int .i64 g.r9, .int .i64 g.r10, .int .i64 g.r11, .int .i64 g.r12, .int .i64 g.r13, .int .i64 g.r14, .slice g.eA g.en g.ec], .int .i64 x] w fun e w' => e = .returned (.int .i64 (Gr.check g x)) /\ Below w.heap.size w w' := by
 obtain ⟨W1, hW1, hB0, hb0, hz⟩ := nw1 w #[.string g.cur, .int .i64 g.Y, .int .i64 g.M, .int .i64 g.N, .slice g.cA g.cn g.cc, .int .i64 g.r0, .int .i64 g.r1, .int .i64 g.r2, .int .i64 g.r3, .int .i64 g.r4, .int .i64 g.r5, .int .i64 g.r6, .int .i64 g.r7, .int .i64 g.r8, .int .i64 g.r9, .int .i64 g.r10, .int .i64 g.r11, .int .i64 g.r12, .int .i64 g.r13, .int .i64 g.r14, .slice g.eA g.en g.ec] 29
 have HW := Lib.hid hW1
 have hg1 := hg.at_ hB0
 have hrg := Lib.hid (grp_range hb0)
 have s1 : w.heap.size < W1.heap.size := by omega
 have Hb0 := Lib.hid hb0
 clear hW1 hz hb0 hg
 go_enter Tryz.func52, Tryz.ntmps52
 go_upto_region 1 with (fail)
 rw [<- HW.out]
 go_wp2_with (refine wpList_load_mid rfl 29 (.tmp 2) rfl w.heap.size 0 rfl _ _ hrg.out Tryz.underlying29 rfl grpSize ?_)
 refine (grpr_any W1 g hg1).mono ?_
 rintro e W2 ⟨rfl, hB2⟩
 have hB02 := hB0.trans (hB2.mono hB0.size)
 have hb2 := gbox Hb0.out hB2 s1
 have x20 := cell_of_row _ _ 20 _ _ _ hb2
 simp at x20
 have s2 : w.heap.size < W2.heap.size := some_lt hb2
 clear hrg hg1 hb2
 by_cases h1 : Gr.valid g = true
 case neg =>
  have h1' : Gr.valid g = false := by simpa using h1
  have HV : Hid (Gr.check g x = 1) := by show _ = _; rw [Gr.check, if_pos h1']
  rw [h1']
  clear h1 h1'
  go_wp2
  go_ret
  exact ⟨by rw [HV.out]; rfl, hB02⟩
 have H1 := Lib.hid h1
 rw [h1]
 clear h1
 by_cases h2 : x < 0
 ·have HV : Hid (Gr.check g x = 2) := by show _ = _; rw [Gr.check, if_neg (by rw [H1.out]; simp), if_pos (.inl h2)]
  go_wp2
  go_ret
  exact ⟨by rw [HV.out]; rfl, hB02⟩
 by_cases h3 : (g.en : Int) <= x
 ·have HV : Hid (Gr.check g x = 2) := by show _ = _; rw [Gr.check, if_neg (by rw [H1.out]; simp), if_pos (.inr h3)]
  go_wp2
  go_ret
  exact ⟨by rw [HV.out]; rfl, hB02⟩
 ·have HV : Hid (Gr.check g x = 0) := by show _ = _; rw [Gr.check, if_neg (by rw [H1.out]; simp), if_neg (by omega)]
  go_wp2
  go_ret
  exact ⟨by rw [HV.out]; rfl, hB02⟩
end
end Go.Proofs.YtccapfbblnnfjaaGreat
