/- My texts ConD39. -/
import Derived.Test.YtobnfmneeabomaaGreatK39
set_option linter.unusedVariables false
set_option linter.unusedSimpArgs false
set_option maxRecDepth 100000
set_option maxHeartbeats 8000000
namespace Go.Proofs.YtobnfmneeabomaaGreat
open Go.RowKit
section
variable (w : World)
theorem own39_wide (A : Option Addr) (n c : Nat) (l : List Raw) (hl : l.length = n) (hn : n <= 8) (h : RawsAt w w.heap.size A l) (hx : ∀ x ∈ l, x.At w w.heap.size) (hok : ∀ x ∈ l, x.wide) :
  Calls Tryz.prog 9 #[.slice A n c] w (OwnPost l w) := by
 have Hl := Lib.hid hl
 have HX := Lib.hid hx
 have HO := Lib.hid hok
 obtain ⟨i0, hi, hz0, hz1, hz2⟩ := info_parts conInfoD
 clear hl hx hok
 go_enter Tryz.func9, Tryz.ntmps9
 go_wp2
 go_loopw [3, 4] (fun v i wr => ∃ (v' : Value) (k : Nat) (cs : List Con), v' = v /\ k <= n /\ i = .int .i64 k /\ cs.length = k /\ wr.ownsRow w.heap.size 92 13 v' k (conRow cs) /\ Hold (fun a b => a.FitsD wr b) cs ((l.take k).map Raw.cnt) /\ Below w.heap.size w wr) (fun _ i _ => n - (intOf i).toNat)
 case atStart => exact ⟨_, 0, [], rfl, Nat.zero_le _, rfl, rfl, World.ownsRow_nil _ _ _ _, trivial, Below.refl _ _⟩
 case round =>
  obtain ⟨v0, k, cs, hv0, hk, rfl, hcl, hown, hhold, hb⟩ := hrel
  subst hv0
  have Hcl := Lib.hid hcl
  have Hown := Lib.hid hown
  have Hhold := Lib.hid hhold
  clear hcl hown hhold
  by_cases hlt : k < n
  ·have hkl : k < l.length := by have := Hl.out; omega
   obtain ⟨b, o, rfl, hbB, hr⟩ := RowsAt.look (h.below hb (Nat.le_refl _)) hkl
   obtain ⟨x, hx⟩ : ∃ x, x = l[k] := ⟨_, rfl⟩
   rw [<- hx] at hr
   have HXe := Lib.hid hx
   have Hr := Lib.hid hr
   have hxa := (HX.out x (by rw [hx]; exact List.getElem_mem _)).below hb (Nat.le_refl _)
   have hxo := HO.out x (by rw [hx]; exact List.getElem_mem _)
   have hbw : b < wr.heap.size := Nat.lt_of_lt_of_le hbB hb.size
   obtain ⟨W1, hW1, hB1, hb1, hz1⟩ := nw1 wr #[.int .i64 x.ent, .int .i64 x.meth, .int .i64 x.since, .int .i64 x.s0, .int .i64 x.s1, .int .i64 x.f0, .int .i64 x.f1, .slice x.iA x.im x.ic, .slice x.hA x.hm x.hc] 45
   have HW1 := Lib.hid hW1
   have Hb1 := Lib.hid hb1
   have Hxa := Lib.hid ((hxa.below (hB1.mono (show w.heap.size <= wr.heap.size from hb.size)) (Nat.le_refl _)).more (C := W1.heap.size) (by have := hb.size; omega))
   have s1 : wr.heap.size < W1.heap.size := by omega
   have hbw1 := hb.trans (hB1.mono hb.size)
   obtain ⟨hq1, hq2, hq3, hq4⟩ := hxo
   have Hso := Lib.hid (Raw.quot_ok hq1)
   have Hfo := Lib.hid (Raw.quot_ok hq2)
   have Hfi := Lib.hid hq3
   have Hfs := Lib.hid hq4
   clear hr hx hxa hb1 hz1 hW1 hq1 hq2 hq3 hq4
   go_upto_region 6 with (refine wpList_load_mid rfl 45 (.tmp 18) rfl b (o + k * 9) rfl [.int .i64 x.ent, .int .i64 x.meth, .int .i64 x.since, .int .i64 x.s0, .int .i64 x.s1, .int .i64 x.f0, .int .i64 x.f1, .slice x.iA x.im x.ic, .slice x.hA x.hm x.hc] _ Hr.out Tryz.underlying45 rfl rawSize ?_)
   rw [<- HW1.out]
   obtain ⟨_, ⟨c3, c4⟩, _⟩ := raw_cells Hb1.out
   go_wp2_with (fail)
   refine (ratof_any W1 x.s0 x.s1 (by have := Hso.out; unfold ShareOk at this; omega) (by have := Hso.out; unfold ShareOk at this; omega) (by have := Hso.out.1; omega) (by have := Hso.out; unfold ShareOk at this; omega) (by have := Hso.out; unfold ShareOk at this; omega)).mono ?_
   rintro e W6 ⟨⟨r6, rfl, hr6⟩, hB6⟩
   rw [redBy_pos Hso.out.1] at hr6
   obtain ⟨g1, A1, n1, k1, g2, A2, n2, k2, rfl⟩ := hr6.open
   have hb6 := gbox Hb1.out hB6 s1
   have s6 := some_lt hb6
   have hbw6 := hbw1.trans (hB6.mono hbw1.size)
   obtain ⟨W7, hW7, hB7, ha7, hz7⟩ := nw1 W6 #[.bool g1, .slice A1 n1 k1, .bool g2, .slice A2 n2 k2] 90
   have HW7 := Lib.hid hW7
   have Hb7 := Lib.hid (gbox hb6 hB7 s6)
   have Ha7 := Lib.hid ha7
   have Hr7 := Lib.hid (hr6.at_ hB7)
   have hbw7 := hbw6.trans (hB7.mono hbw6.size)
   have s7 := some_lt Hb7.out
   have s7' := some_lt Ha7.out
   clear c3 c4 hb6 ha7 hr6 hW7 hz7
   go_upto_region 7 with (fail)
   rw [<- HW7.out]
   obtain ⟨_, _, ⟨c5, c6⟩, _⟩ := raw_cells Hb7.out
   go_wp2_with (fail)
   refine (ratof_any W7 x.f0 x.f1 (by have := Hfo.out; unfold ShareOk at this; omega) (by have := Hfo.out; unfold ShareOk at this; omega) (by have := Hfo.out.1; omega) (by have := Hfo.out; unfold ShareOk at this; omega) (by have := Hfo.out; unfold ShareOk at this; omega)).mono ?_
   rintro e W8 ⟨⟨r8, rfl, hr8⟩, hB8⟩
   rw [redBy_pos Hfo.out.1] at hr8
   obtain ⟨g3, A3, n3, k3, g4, A4, n4, k4, rfl⟩ := hr8.open
   have hb8 := gbox Hb7.out hB8 s7
   have ha8 := gbox Ha7.out hB8 s7'
   have s8 := some_lt hb8
   have s8' := some_lt ha8
   have hbw8 := hbw7.trans (hB8.mono hbw7.size)
   have Hr8 := Lib.hid (Hr7.out.at_ hB8)
   obtain ⟨W9, hW9, hB9, hd9, hz9⟩ := nw1 W8 #[.bool g3, .slice A3 n3 k3, .bool g4, .slice A4 n4 k4] 90
   have HW9 := Lib.hid hW9
   have hb9 := gbox hb8 hB9 s8
   have ha9 := gbox ha8 hB9 s8'
   have Hs9 := Lib.hid (Hr8.out.at_ hB9)
   have Hf9 := Lib.hid (hr8.at_ hB9)
   have hbw9 := hbw8.trans (hB9.mono hbw8.size)
   have hBr9 : Below wr.heap.size wr W9 := hB1.trans ((hB6.trans ((hB7.trans ((hB8.trans (hB9.mono hB8.size)).mono hB7.size)).mono hB6.size)).mono hB1.size)
   have hown9 := Lib.hid (pOwns_below Hown.out hBr9)
   have Hold9 := Lib.hid (Hhold.out.imp (Q := fun a b => a.FitsD W9 b) fun _ _ h => h.below hBr9)
   have hxa9 := Hxa.out.below (hB6.trans ((hB7.trans ((hB8.trans (hB9.mono hB8.size)).mono hB7.size)).mono hB6.size)) (Nat.le_refl _)
   have hsz19 : W1.heap.size <= W9.heap.size := by have := hB6.size; have := hB7.size; have := hB8.size; have := hB9.size; omega
   have Hx9 := Lib.hid (hxa9.more (C := W9.heap.size) hsz19)
   have sr9 := some_lt hb9
   have sa9 := some_lt ha9
   have sd9 := some_lt hd9
   have Hb9 := Lib.hid hb9
   have Ha9 := Lib.hid ha9
   have Hd9 := Lib.hid hd9
   have hRg : Reg w [(wr.heap.size, #[.int .i64 x.ent, .int .i64 x.meth, .int .i64 x.since, .int .i64 x.s0, .int .i64 x.s1, .int .i64 x.f0, .int .i64 x.f1, .slice x.iA x.im x.ic, .slice x.hA x.hm x.hc], 45), (W6.heap.size, #[.bool g1, .slice A1 n1 k1, .bool g2, .slice A2 n2 k2], 90), (W8.heap.size, #[.bool g3, .slice A3 n3 k3, .bool g4, .slice A4 n4 k4], 90)] W9 := ⟨hbw9, fun y hy => by
    simp only [List.mem_cons, List.not_mem_nil, or_false] at hy
    rcases hy with rfl | rfl | rfl
    ·exact hb9
    ·exact ha9
    ·exact hd9⟩
   have HRg := Lib.hid hRg
   have hq9 := hbw9.size
   have hk8 : k + 1 <= 8 := by omega
   clear c5 c6 hb8 ha8 hd9 hr8 hW9 hz9 hb9 ha9 hxa9 hRg hBr9
   go_upto_region 8 with (fail)
   rw [<- HW9.out]
   obtain ⟨S, hSd⟩ : ∃ S : World -> Prop, S = Reg w [(wr.heap.size, #[.int .i64 x.ent, .int .i64 x.meth, .int .i64 x.since, .int .i64 x.s0, .int .i64 x.s1, .int .i64 x.f0, .int .i64 x.f1, .slice x.iA x.im x.ic, .slice x.hA x.hm x.hc], 45), (W6.heap.size, #[.bool g1, .slice A1 n1 k1, .bool g2, .slice A2 n2 k2], 90), (W8.heap.size, #[.bool g3, .slice A3 n3 k3, .bool g4, .slice A4 n4 k4], 90)] := ⟨_, rfl⟩
   have HSd := Lib.hid hSd
   have raw : ∀ W, S W -> W.heap[wr.heap.size]? = some (.cells #[.int .i64 x.ent, .int .i64 x.meth, .int .i64 x.since, .int .i64 x.s0, .int .i64 x.s1, .int .i64 x.f0, .int .i64 x.f1, .slice x.iA x.im x.ic, .slice x.hA x.hm x.hc] 45 (0, 0)) := fun W hS => by rw [HSd.out] at hS; exact hS.get (by simp)
   have ra1 : ∀ W, S W -> W.rangeAt W6.heap.size 0 [.bool g1, .slice A1 n1 k1, .bool g2, .slice A2 n2 k2] := fun W hS => by rw [HSd.out] at hS; exact range_row (cs := [.bool g1, .slice A1 n1 k1, .bool g2, .slice A2 n2 k2]) (Reg.get (t := 90) hS (by simp))
   have ra2 : ∀ W, S W -> W.rangeAt W8.heap.size 0 [.bool g3, .slice A3 n3 k3, .bool g4, .slice A4 n4 k4] := fun W hS => by rw [HSd.out] at hS; exact range_row (cs := [.bool g3, .slice A3 n3 k3, .bool g4, .slice A4 n4 k4]) (Reg.get (t := 90) hS (by simp))
   have stp : ∀ W, Below W9.heap.size W9 W -> S W := fun W hW => by rw [HSd.out]; exact HRg.out.step hW
   have Raw' := Lib.hid raw
   have Ra1 := Lib.hid ra1
   have Ra2 := Lib.hid ra2
   have Stp := Lib.hid stp
   clear raw ra1 ra2 stp hSd
   refine wp_region_held (S := S) (by kernel_rfl) ?_
   change wpAnyH _ _ _ _ _ _ _ _ (World.drew _)
   have hV0 : Below W9.heap.size W9 W9.drew := below_drawn (Below.refl _ _) 1
   obtain ⟨W0, hWd⟩ : ∃ W0, W0 = W9.drew := ⟨_, rfl⟩
   rw [<- hWd] at hV0 ⊢
   clear hWd
   have hS := Stp.out _ hV0
   refine tk (i := 0) (v := v0) rfl (by kernel_rfl) (fun _ _ _ h => h) (.inl ⟨by rfl, fun W' hS' => by go_simp⟩) hS ?_
   try simp only [z]
   refine tk (i := 1) (v := .pointer (some ⟨wr.heap.size, 0, none⟩)) rfl (by kernel_rfl) (fun _ _ _ h => h) (.inl ⟨by rfl, fun W' hS' => by go_simp⟩) hS ?_
   try simp only [z]
   refine tk (i := 2) (v := .int .i64 x.ent) rfl (by kernel_rfl) (fun _ _ _ h => h) (.inl ⟨by rfl, fun W' hS' => by have hc := cell_of_row _ _ 0 _ _ _ (Raw'.out W' hS'); simp at hc; go_simp⟩) hS ?_
   try simp only [z]
   refine tk (i := 3) (v := .pointer (some ⟨wr.heap.size, 1, none⟩)) rfl (by kernel_rfl) (fun _ _ _ h => h) (.inl ⟨by rfl, fun W' hS' => by go_simp⟩) hS ?_
   try simp only [z]
   refine tk (i := 4) (v := .int .i64 x.meth) rfl (by kernel_rfl) (fun _ _ _ h => h) (.inl ⟨by rfl, fun W' hS' => by have hc := cell_of_row _ _ 1 _ _ _ (Raw'.out W' hS'); simp at hc; go_simp⟩) hS ?_
   try simp only [z]
   refine tk (i := 5) (v := .pointer (some ⟨wr.heap.size, 2, none⟩)) rfl (by kernel_rfl) (fun _ _ _ h => h) (.inl ⟨by rfl, fun W' hS' => by go_simp⟩) hS ?_
   try simp only [z]
   refine tk (i := 6) (v := .int .i64 x.since) rfl (by kernel_rfl) (fun _ _ _ h => h) (.inl ⟨by rfl, fun W' hS' => by have hc := cell_of_row _ _ 2 _ _ _ (Raw'.out W' hS'); simp at hc; go_simp⟩) hS ?_
   try simp only [z]
   refine tk (i := 7) (v := .agg #[.bool g1, .slice A1 n1 k1, .bool g2, .slice A2 n2 k2]) rfl (by kernel_rfl) (fun _ _ _ h => h) (yieldsIf_load_mid (by rfl) 90 _ rfl W6.heap.size 0 rfl [.bool g1, .slice A1 n1 k1, .bool g2, .slice A2 n2 k2] _ (fun W' hS' => Ra1.out W' hS') Tryz.underlying90 rfl ratSize) hS ?_
   try simp only [z]
   refine tk (i := 8) (v := .agg #[.bool g3, .slice A3 n3 k3, .bool g4, .slice A4 n4 k4]) rfl (by kernel_rfl) (fun _ _ _ h => h) (yieldsIf_load_mid (by rfl) 90 _ rfl W8.heap.size 0 rfl [.bool g3, .slice A3 n3 k3, .bool g4, .slice A4 n4 k4] _ (fun W' hS' => Ra2.out W' hS') Tryz.underlying90 rfl ratSize) hS ?_
   try simp only [z]
   refine tk (i := 10) (v := .pointer (some ⟨wr.heap.size, 7, none⟩)) rfl (by kernel_rfl) (fun _ _ _ h => h) (.inl ⟨by rfl, fun W' hS' => by go_simp⟩) hS ?_
   try simp only [z]
   refine tk (i := 11) (v := .slice x.iA x.im x.ic) rfl (by kernel_rfl) (fun _ _ _ h => h) (.inl ⟨by rfl, fun W' hS' => by have hc := cell_of_row _ _ 7 _ _ _ (Raw'.out W' hS'); simp at hc; go_simp⟩) hS ?_
   try simp only [z]
   refine tk (i := 14) (v := .pointer (some ⟨wr.heap.size, 8, none⟩)) rfl (by kernel_rfl) (fun _ _ _ h => h) (.inl ⟨by rfl, fun W' hS' => by go_simp⟩) hS ?_
   try simp only [z]
   refine tk (i := 15) (v := .slice x.hA x.hm x.hc) rfl (by kernel_rfl) (fun _ _ _ h => h) (.inl ⟨by rfl, fun W' hS' => by have hc := cell_of_row _ _ 8 _ _ _ (Raw'.out W' hS'); simp at hc; go_simp⟩) hS ?_
   try simp only [z]
   refine wpAnyH_letters fun md' ops' Q' a' hlm hlo hlq hla => ?_
   have fin : ∀ (W' : World) (p q : Nat) (I1 : Option Addr) (J1 : Nat), Below W9.heap.size W9 W' -> ItmsAt W' W'.heap.size I1 x.its -> ItmsTy W' I1 x.its -> W'.heap[q]? = some (.cells #[] 61 (0, 0)) -> wpAnyH Tryz.prog md' ops' Q' S 5 #[true, true, true, true, true, true, true, true, true, true, true, true, true, true, true, true, false, false, false, false, false] (((a'.put (some 49) (.slice (some ⟨p, 0, none⟩) 0 0)).put (some 52) (.slice I1 x.im J1)).put (some 53) (.slice (some ⟨q, 0, none⟩) 0 0)) W' := by
    intro W' p q I1 J1 hV hI hT hq
    subst hlm hlo hlq hla
    try simp only [z]
    refine wpAnyH_ready (rs := [16]) (by kernel_rfl) (by simp) (AllReadyH.cons rfl (fun K hK => ?_) AllReadyH.nil)
    have hx' := (Hx9.out.below hV (Nat.le_refl _)).more (C := W'.heap.size) hV.size
    refine wp_copy_itms W' _ _ 43 rfl Tryz.underlying43 q rfl hq x.hA x.hm x.hc x.shs rfl hx'.hhl (by rw [<- hx'.hhl]; exact Hfs.out.1) hx'.hhA ?_
    intro I2 J2 W2 hB2 hI2 hT2
    have hV2 := hV.trans (hB2.mono hV.size)
    have HI1 := Lib.hid (RowsAt.at_ hI hB2)
    have HT1 := Lib.hid (hT.below hI hB2)
    have HI2 := Lib.hid hI2
    have HT2 := Lib.hid hT2
    clear hI hT hI2 hT2 hq hx'
    refine hK.out _ _ (Stp.out _ hV2) (fun _ => ?_)
    clear hK K
    try simp only [z]
    have hS2 := Stp.out _ hV2
    refine tk (i := 17) (v := .agg #[.int .i64 x.ent, .int .i64 x.meth, .int .i64 x.since, .bool g1, .slice A1 n1 k1, .bool g2, .slice A2 n2 k2, .bool g3, .slice A3 n3 k3, .bool g4, .slice A4 n4 k4, .slice I1 x.im J1, .slice I2 x.hm J2]) rfl (by kernel_rfl) (fun _ _ _ h => h) (.inl ⟨by rfl, fun W' hS' => by go_simp⟩) hS2 ?_
    try simp only [z]
    refine wpAnyH_ready (rs := [18]) (by kernel_rfl) (by simp) (AllReadyH.cons rfl (fun K hK => ?_) AllReadyH.nil)
    obtain ⟨hB3, hrw, _⟩ := row_new W2 #[.int .i64 x.ent, .int .i64 x.meth, .int .i64 x.since, .bool g1, .slice A1 n1 k1, .bool g2, .slice A2 n2 k2, .bool g3, .slice A3 n3 k3, .bool g4, .slice A4 n4 k4, .slice I1 x.im J1, .slice I2 x.hm J2] 92
    have hnew := cells_new W2 [.int .i64 x.ent, .int .i64 x.meth, .int .i64 x.since, .bool g1, .slice A1 n1 k1, .bool g2, .slice A2 n2 k2, .bool g3, .slice A3 n3 k3, .bool g4, .slice A4 n4 k4, .slice I1 x.im J1, .slice I2 x.hm J2] 92
    go_simp
    obtain ⟨W3, hWn⟩ : ∃ W3, W3 = W2.alloc (.cells #[.int .i64 x.ent, .int .i64 x.meth, .int .i64 x.since, .bool g1, .slice A1 n1 k1, .bool g2, .slice A2 n2 k2, .bool g3, .slice A3 n3 k3, .bool g4, .slice A4 n4 k4, .slice I1 x.im J1, .slice I2 x.hm J2] 92) := ⟨_, rfl⟩
    change ∀ j u, ([.int .i64 x.ent, .int .i64 x.meth, .int .i64 x.since, .bool g1, .slice A1 n1 k1, .bool g2, .slice A2 n2 k2, .bool g3, .slice A3 n3 k3, .bool g4, .slice A4 n4 k4, .slice I1 x.im J1, .slice I2 x.hm J2] : List Value)[j]? = some u -> (W2.alloc (.cells #[.int .i64 x.ent, .int .i64 x.meth, .int .i64 x.since, .bool g1, .slice A1 n1 k1, .bool g2, .slice A2 n2 k2, .bool g3, .slice A3 n3 k3, .bool g4, .slice A4 n4 k4, .slice I1 x.im J1, .slice I2 x.hm J2] 92)).cell? _ = some u at hnew
    rw [<- hWn] at hB3 hrw hnew ⊢
    clear hWn
    have hV3 := hV2.trans (hB3.mono hV2.size)
    have hS3 := Stp.out _ hV3
    refine hK.out _ _ hS3 (fun _ => ?_)
    clear hK K
    try simp only [z]
    have hown3 := pOwns_below hown9.out hV3
    have hw3 : w.heap.size <= W3.heap.size := Nat.le_trans hq9 hV3.size
    obtain ⟨y, hy⟩ : ∃ y : Con, y = ⟨x.ent, x.meth, x.since, g1, A1, n1, k1, g2, A2, n2, k2, g3, A3, n3, k3, g4, A4, n4, k4, I1, x.im, J1, I2, x.hm, J2⟩ := ⟨_, rfl⟩
    have hyc : y.cells = [.int .i64 x.ent, .int .i64 x.meth, .int .i64 x.since, .bool g1, .slice A1 n1 k1, .bool g2, .slice A2 n2 k2, .bool g3, .slice A3 n3 k3, .bool g4, .slice A4 n4 k4, .slice I1 x.im J1, .slice I2 x.hm J2] := by rw [hy]; rfl
    have hone : ∀ u ∈ ([.int .i64 x.ent, .int .i64 x.meth, .int .i64 x.since, .bool g1, .slice A1 n1 k1, .bool g2, .slice A2 n2 k2, .bool g3, .slice A3 n3 k3, .bool g4, .slice A4 n4 k4, .slice I1 x.im J1, .slice I2 x.hm J2] : List Value), u.oneCell' = true := by rw [<- hyc]; exact con_one y
    have hyf : y.FitsD W3 x.cnt := by
     have hi1 := RowsAt.at_ HI1.out hB3
     have hi2 := RowsAt.at_ HI2.out hB3
     have ht1 := HT1.out.below HI1.out hB3
     have ht2 := HT2.out.below HI2.out hB3
     have hs3 := Hs9.out.at_ hV3
     have hf3 := Hf9.out.at_ hV3
     have hl1 := Hx9.out.hil
     have hl2 := Hx9.out.hhl
     subst hy
     exact ⟨⟨rfl, rfl, rfl, hs3, hf3, Raw.red_ok Hso.out, Raw.red_ok Hfo.out, hl1, by show x.im <= 50; rw [<- hl1]; exact Hfi.out.1, Hfi.out.2, hi1, hl2, by show x.hm <= 50; rw [<- hl2]; exact Hfs.out.1, Hfs.out.2, hi2⟩, ht1, ht2⟩
    have hold3 := Hold9.out.imp (Q := fun a b => a.FitsD W3 b) fun _ _ h => h.below hV3
    refine wpAnyH_ready (rs := [19]) (by kernel_rfl) (by simp) (AllReadyH.cons rfl (fun K hK => ?_) AllReadyH.nil)
    refine wp_append_own W3 _ _ 49 rfl w.heap.size 92 i0 (.agg #[.int .i64 (Con.zero).ent, .int .i64 (Con.zero).meth, .int .i64 (Con.zero).since, .bool (Con.zero).sg1, .slice (Con.zero).sA1 (Con.zero).sn1 (Con.zero).sc1, .bool (Con.zero).sg2, .slice (Con.zero).sA2 (Con.zero).sn2 (Con.zero).sc2, .bool (Con.zero).fg1, .slice (Con.zero).fA1 (Con.zero).fn1 (Con.zero).fc1, .bool (Con.zero).fg2, .slice (Con.zero).fA2 (Con.zero).fn2 (Con.zero).fc2, .slice (Con.zero).iA (Con.zero).im (Con.zero).ic, .slice (Con.zero).hA (Con.zero).hm (Con.zero).hc]) 13 200 Tryz.underlying49 hi hz0 hz1 hz2 rfl (by decide) v0 k (conRow cs) rfl hown3 ⟨W2.heap.size, 0, none⟩ 1 1 [.int .i64 x.ent, .int .i64 x.meth, .int .i64 x.since, .bool g1, .slice A1 n1 k1, .bool g2, .slice A2 n2 k2, .bool g3, .slice A3 n3 k3, .bool g4, .slice A4 n4 k4, .slice I1 x.im J1, .slice I2 x.hm J2] rfl rfl hnew hone (by unfold maxLen; omega) (by omega) hw3 ?_
    intro v' W4 hown' hgrow _
    rw [<- hyc] at hown'
    have hS4 : S W4 := by
     have hS3' := hS3
     rw [HSd.out] at hS3' ⊢
     refine ⟨hS3'.1.grown hgrow hw3 (own_base hown3), fun z hz => ?_⟩
     refine (hgrow.block z.1 (hS3'.lt hz) (fun e' => ?_)).trans (hS3'.2 z hz)
     have hz' := hS3'.2 z hz
     simp only [List.mem_cons, List.not_mem_nil, or_false] at hz
     rcases hz with rfl | rfl | rfl
     ·exact row_not (t := 45) hown3 e'.symm hz' (by decide)
     ·exact row_not (t := 90) hown3 e'.symm hz' (by decide)
     ·exact row_not (t := 90) hown3 e'.symm hz' (by decide)
    have hb4 : Below w.heap.size w W4 := by have := hS4; rw [HSd.out] at this; exact this.1
    have hnh : Hold (fun a b => a.FitsD W4 b) (cs ++ [y]) ((l.take (k + 1)).map Raw.cnt) := by
     rw [List.take_succ_eq_append_getElem hkl, List.map_append, <- HXe.out]
     exact Hold.snoc (hyf.kept hgrow (row_of_own hown3 _ (by decide)) (row_of_own hown3 _ (by decide))) (hold3.imp fun _ _ h => h.kept hgrow (row_of_own hown3 _ (by decide)) (row_of_own hown3 _ (by decide)))
    have Hnh := Lib.hid hnh
    have Ho4 := Lib.hid hown'
    have Hb4 := Lib.hid hb4
    clear hnh hown' hyf hold3 hnew hone hgrow hb4 hyc hy hrw hB3 hown3
    refine hK.out _ _ hS4 (fun _ => ?_)
    clear hK K
    try simp only [z]
    refine wpAnyH_ready (rs := [20]) (by kernel_rfl) (by simp) (AllReadyH.cons rfl (fun K hK => ?_) AllReadyH.nil)
    go_simp
    refine hK.out _ _ hS4 (fun _ => ?_)
    clear hK K
    try simp only [z]
    refine wpAnyH_done (by kernel_rfl) ?_ _
    try simp only [z]
    clear hS4 hS3 hS2 hV hV2 hV3 hB2
    go_wp2
    go_roundw
    case rel => exact ⟨_, k + 1, cs ++ [y], rfl, by omega, by go_num, by rw [List.length_append, Hcl.out]; rfl, by rw [conRow_snoc]; exact Ho4.out, Hnh.out, Hb4.out⟩
    case measure => simp [intOf]; omega
   subst hlm hlo hlq hla
   refine wpAnyH_ready (rs := [9, 13]) (by kernel_rfl) (by simp) (AllReadyH.cons rfl (fun K hK => ?_) (AllReadyH.cons rfl (fun K hK => ?_) AllReadyH.nil))
   ·skip
    obtain ⟨hB1, hrw1, _⟩ := row_new W0 #[] 61
    go_simp
    obtain ⟨V1, hWn⟩ : ∃ V1, V1 = W0.alloc (.cells #[] 61) := ⟨_, rfl⟩
    rw [<- hWn] at hB1 hrw1 ⊢
    clear hWn
    have hV1 := hV0.trans (hB1.mono hV0.size)
    refine hK.out _ _ (Stp.out _ hV1) (fun _ => ?_)
    clear hK K
    try simp only [z]
    refine wpAnyH_ready (rs := [12, 13]) (by kernel_rfl) (by simp) (AllReadyH.cons rfl (fun K hK => ?_) (AllReadyH.cons rfl (fun K hK => ?_) AllReadyH.nil))
    ·skip
     have hx' := (Hx9.out.below hV1 (Nat.le_refl _)).more (C := V1.heap.size) hV1.size
     refine wp_copy_itms V1 _ _ 43 rfl Tryz.underlying43 W0.heap.size rfl hrw1 x.iA x.im x.ic x.its rfl hx'.hil (by rw [<- hx'.hil]; exact Hfi.out.1) hx'.hiA ?_
     intro I2 J2 V2 hB2 hI2 hT2
     clear hx'
     have hV2 := hV1.trans (hB2.mono hV1.size)
     have hp2 := gbox hrw1 hB2 (some_lt hrw1)
     refine hK.out _ _ (Stp.out _ hV2) (fun _ => ?_)
     clear hK K
     try simp only [z]
     refine wpAnyH_ready (rs := [13]) (by kernel_rfl) (by simp) (AllReadyH.cons rfl (fun K hK => ?_) AllReadyH.nil)
     ·skip
      obtain ⟨hB3, hrw3, _⟩ := row_new V2 #[] 61
      go_simp
      obtain ⟨V3, hWn⟩ : ∃ V3, V3 = V2.alloc (.cells #[] 61) := ⟨_, rfl⟩
      rw [<- hWn] at hB3 hrw3 ⊢
      clear hWn
      have hV3 := hV2.trans (hB3.mono hV2.size)
      have hp3 := gbox hp2 hB3 (some_lt hp2)
      have hI3 := RowsAt.at_ hI2 hB3
      have hT3 := hT2.below hI2 hB3
      refine hK.out _ _ (Stp.out _ hV3) (fun _ => ?_)
      clear hK K
      try simp only [z]
      have hn := fin V3 W0.heap.size V2.heap.size I2 J2 hV3 hI3 hT3 hrw3
      try simp only [z] at hn
      exact hn
    ·skip
     obtain ⟨hB4, hrw4, _⟩ := row_new V1 #[] 61
     go_simp
     obtain ⟨V4, hWn⟩ : ∃ V4, V4 = V1.alloc (.cells #[] 61) := ⟨_, rfl⟩
     rw [<- hWn] at hB4 hrw4 ⊢
     clear hWn
     have hV4 := hV1.trans (hB4.mono hV1.size)
     have hp4 := gbox hrw1 hB4 (some_lt hrw1)
     refine hK.out _ _ (Stp.out _ hV4) (fun _ => ?_)
     clear hK K
     try simp only [z]
     refine wpAnyH_ready (rs := [12]) (by kernel_rfl) (by simp) (AllReadyH.cons rfl (fun K hK => ?_) AllReadyH.nil)
     ·skip
      have hx' := (Hx9.out.below hV4 (Nat.le_refl _)).more (C := V4.heap.size) hV4.size
      refine wp_copy_itms V4 _ _ 43 rfl Tryz.underlying43 W0.heap.size rfl hp4 x.iA x.im x.ic x.its rfl hx'.hil (by rw [<- hx'.hil]; exact Hfi.out.1) hx'.hiA ?_
      intro I5 J5 V5 hB5 hI5 hT5
      clear hx'
      have hV5 := hV4.trans (hB5.mono hV4.size)
      have hp5 := gbox hp4 hB5 (some_lt hp4)
      have hq5 := gbox hrw4 hB5 (some_lt hrw4)
      refine hK.out _ _ (Stp.out _ hV5) (fun _ => ?_)
      clear hK K
      try simp only [z]
      have hn := fin V5 W0.heap.size V1.heap.size I5 J5 hV5 hI5 hT5 hq5
      try simp only [z] at hn
      exact hn
   ·skip
    obtain ⟨hB6, hrw6, _⟩ := row_new W0 #[] 61
    go_simp
    obtain ⟨V6, hWn⟩ : ∃ V6, V6 = W0.alloc (.cells #[] 61) := ⟨_, rfl⟩
    rw [<- hWn] at hB6 hrw6 ⊢
    clear hWn
    have hV6 := hV0.trans (hB6.mono hV0.size)
    refine hK.out _ _ (Stp.out _ hV6) (fun _ => ?_)
    clear hK K
    try simp only [z]
    refine wpAnyH_ready (rs := [9]) (by kernel_rfl) (by simp) (AllReadyH.cons rfl (fun K hK => ?_) AllReadyH.nil)
    ·skip
     obtain ⟨hB7, hrw7, _⟩ := row_new V6 #[] 61
     go_simp
     obtain ⟨V7, hWn⟩ : ∃ V7, V7 = V6.alloc (.cells #[] 61) := ⟨_, rfl⟩
     rw [<- hWn] at hB7 hrw7 ⊢
     clear hWn
     have hV7 := hV6.trans (hB7.mono hV6.size)
     have hq7 := gbox hrw6 hB7 (some_lt hrw6)
     refine hK.out _ _ (Stp.out _ hV7) (fun _ => ?_)
     clear hK K
     try simp only [z]
     refine wpAnyH_ready (rs := [12]) (by kernel_rfl) (by simp) (AllReadyH.cons rfl (fun K hK => ?_) AllReadyH.nil)
     ·skip
      have hx' := (Hx9.out.below hV7 (Nat.le_refl _)).more (C := V7.heap.size) hV7.size
      refine wp_copy_itms V7 _ _ 43 rfl Tryz.underlying43 V6.heap.size rfl hrw7 x.iA x.im x.ic x.its rfl hx'.hil (by rw [<- hx'.hil]; exact Hfi.out.1) hx'.hiA ?_
      intro I8 J8 V8 hB8 hI8 hT8
      clear hx'
      have hV8 := hV7.trans (hB8.mono hV7.size)
      have hp8 := gbox hrw7 hB8 (some_lt hrw7)
      have hq8 := gbox hq7 hB8 (some_lt hq7)
      refine hK.out _ _ (Stp.out _ hV8) (fun _ => ?_)
      clear hK K
      try simp only [z]
      have hn := fin V8 V6.heap.size W0.heap.size I8 J8 hV8 hI8 hT8 hq8
      try simp only [z] at hn
      exact hn
  ·obtain rfl : k = n := by omega
   have htk : l.take k = l := List.take_of_length_le (by have := Hl.out; omega)
   have Htk := Lib.hid htk
   clear htk
   go_wp2
   go_ret
   obtain ⟨A', c', rfl, hC⟩ := consAt_own Hown.out (by have := Hcl.out; omega)
   have hho := Hhold.out
   rw [Htk.out] at hho
   have hlk := Hl.out
   exact ⟨hb, A', c', cs, by rw [hlk]; rfl, by rw [Hcl.out, hlk], hC, hho.imp fun _ _ h => h.1⟩
theorem own39_any (A : Option Addr) (n c : Nat) (l : List Raw) (hl : l.length = n) (hn : n <= 8) (h : RawsAt w w.heap.size A l) (hx : ∀ x ∈ l, x.At w w.heap.size) (hok : ∀ x ∈ l, x.ok = true) :
  Calls Tryz.prog 9 #[.slice A n c] w (OwnPost l w) := own39_wide w A n c l hl hn h hx fun x hm => Raw.ok_wide (hok x hm)
end
end Go.Proofs.YtobnfmneeabomaaGreat
