/- My texts MapV, MapR. -/
import Derived.Test.YtobnfmneeabomaaGreatG20
set_option linter.unusedVariables false
set_option linter.unusedSimpArgs false
set_option maxRecDepth 100000
set_option maxHeartbeats 8000000
namespace Go.Proofs.YtobnfmneeabomaaGreat
open Go.RowKit

theorem laidOut : laidOutB Tryz.prog = true := by kernel_rfl
theorem linkLaw : Maps.Keyed Tryz.prog 113 := Maps.Keyed.of_law (deep_law_laid laidOut (m := 2) (by omega) (of_decide_eq_true (by kernel_rfl)) (by kernel_rfl) (by kernel_rfl))
theorem linkKey (a b c : Int) (ha : (Lit.int .i64 a).wf = true) (hb : (Lit.int .i64 b).wf = true) (hc : (Lit.int .i64 c).wf = true) : ∃ kl, keyOf Tryz.prog 113 (.agg #[.int .i64 a, .int .i64 b, .int .i64 c]) = some kl := by
 unfold keyOf
 rw [Tryz.underlying113]
 have h1 : Tryz.prog.keyType 113 = true := by kernel_rfl
 have c3 : Tryz.prog.cellsOf 113 = 3 := by kernel_rfl
 have h2 : (Value.agg #[.int .i64 a, .int .i64 b, .int .i64 c]).formed Tryz.prog 113 = true := by
  simp [Value.formed, Tryz.underlying113, c3]
 simp only [h1, h2, Bool.and_self, if_true]
 have h3 : ∃ n, Tryz.prog.types.size = n + 1 := ⟨Tryz.prog.types.size - 1, by have : 0 < Tryz.prog.types.size := of_decide_eq_true (by kernel_rfl); omega⟩
 obtain ⟨n, hn⟩ := h3
 rw [hn]
 have c1 : Tryz.prog.cellsOf 3 = 1 := by kernel_rfl
 simp [Program.keyLits, Tryz.underlying113, Tryz.underlying3, Value.cells, c1, c3, ha, hb, hc]
def SeenL (w : World) (b : Nat) (l : List Lnk) (k : Nat) : Prop :=
 ∃ f, MapAt w Tryz.prog 113 b k f /\ ∀ x y, f (.agg #[.int .i64 x, .int .i64 0, .int .i64 y]) = if (l.take k).any (fun r => decide (r.frm = x) && decide (r.since = y)) = true then some (.bool true) else none
section
variable {w w' : World} {b B : Nat} {l : List Lnk} {k : Nat}
theorem SeenL.lt (h : SeenL w b l k) : b < w.heap.size := by obtain ⟨f, h, _⟩ := h; exact h.lt
theorem SeenL.below (h : SeenL w b l k) (hb : Below B w w') (hB : b < B) : SeenL w' b l k := by obtain ⟨f, h, r⟩ := h; exact ⟨f, h.below hb hB, r⟩
theorem SeenL.alloc (h : SeenL w b l k) (o : Obj) : SeenL (w.alloc o) b l k := by obtain ⟨f, h, r⟩ := h; exact ⟨f, h.alloc o, r⟩
theorem SeenL.made (w : World) (l : List Lnk) : SeenL (w.alloc (.map #[] 0)) w.heap.size l 0 := ⟨_, MapAt.made w _ _, fun x y => by simp⟩
theorem SeenL.look (h : SeenL w b l k) (x y : Int) (hx : (Lit.int .i64 x).wf = true) (hy : (Lit.int .i64 y).wf = true) :
  (Instr.lookup 168 (.map (some b)) (.agg #[.int .i64 x, .int .i64 0, .int .i64 y]) false).run Tryz.prog w = .ok (.bool ((l.take k).any (fun r => decide (r.frm = x) && decide (r.since = y)))) w := by
 obtain ⟨f, hm, hf⟩ := h
 obtain ⟨kl, hk⟩ := linkKey x 0 y hx rfl hy
 have hz : (zeroValue 4).run Tryz.prog w = .ok (.bool false) w := by kernel_rfl
 rw [hm.lookup linkLaw Tryz.underlying168 hz hk, hf]
 cases (l.take k).any (fun r => decide (r.frm = x) && decide (r.since = y)) <;> rfl
open Classical in
theorem seenL_step (hk : k < l.length) (f : Value -> Option Value) (hf : ∀ x y, f (.agg #[.int .i64 x, .int .i64 0, .int .i64 y]) = if (l.take k).any (fun r => decide (r.frm = x) && decide (r.since = y)) = true then some (.bool true) else none) :
  ∀ x y, (fun v => if v = .agg #[.int .i64 l[k].frm, .int .i64 0, .int .i64 l[k].since] then some (Value.bool true) else f v) (.agg #[.int .i64 x, .int .i64 0, .int .i64 y]) = if (l.take (k + 1)).any (fun r => decide (r.frm = x) && decide (r.since = y)) = true then some (.bool true) else none := by
 intro x y
 show (if _ then _ else f _) = _
 rw [List.take_succ_eq_append_getElem hk, List.any_append]
 by_cases h : l[k].frm = x /\ l[k].since = y
 ·obtain ⟨h1, h2⟩ := h
  rw [if_pos (by rw [h1, h2]), if_pos (by simp [h1, h2])]
 ·rw [if_neg (by
   intro e
   simp only [Value.agg.injEq, Array.mk.injEq, List.cons.injEq, Value.int.injEq, true_and, and_true] at e
   exact h ⟨e.1.symm, e.2.symm⟩), hf]
  have h' : (decide (l[k].frm = x) && decide (l[k].since = y)) = false := by simpa using h
  simp [h']
end
theorem lat_lt {l : List Lnk} {i : Nat} (h : i < l.length) : Gr.lat l i = l[i] := by simp [Gr.lat, h]
theorem fresh_eq {l : List Lnk} {i : Nat} (h : i < l.length) : Gr.fresh l i l[i] = !(l.take i).any (fun r => decide (r.frm = l[i].frm) && decide (r.since = l[i].since)) := rfl
theorem mapping_bad {chart gch : List Acc} {l : List Lnk} {i : Nat} (h : i < l.length) (hb : Gr.linkAt chart gch l i = false) : Gr.mapping chart gch l = false := by
 unfold Gr.mapping; rw [Ch.all_not h hb, Bool.and_false]
section
variable (w : World)
theorem mapd_any (e : Ent) (A : Option Addr) (n c : Nat) (gch : List Acc) (hl : gch.length = n) (hn : n <= 100000) (hgw : ∀ a ∈ gch, a.wf) (he : e.At w w.heap.size) (hg : AccsAt w w.heap.size A gch) :
  Calls Tryz.prog 59 #[.agg #[.string e.name, .string e.cur, .slice e.cA e.cn e.cc, .slice e.lA e.ln e.lc, .bool e.joint], .slice A n c] w fun r w' => r = .returned (.bool (Gr.mapping e.chart gch e.links)) /\ Below w.heap.size w w' := by
 obtain ⟨W1, hW1, hB0, hb0, hz⟩ := nw1 w #[.string e.name, .string e.cur, .slice e.cA e.cn e.cc, .slice e.lA e.ln e.lc, .bool e.joint] 83
 have HW := Lib.hid hW1
 have he1 := he.at_ hB0
 have hg1 := RowsAt.at_ hg hB0
 have x2 := cell_of_row _ _ 2 _ _ _ hb0
 have x3 := cell_of_row _ _ 3 _ _ _ hb0
 simp at x2 x3
 have s1 : w.heap.size < W1.heap.size := by omega
 have Hb0 := Lib.hid hb0
 have Hgw := Lib.hid hgw
 have Hcl := Lib.hid he.hcl
 have Hcn := Lib.hid he.hcn
 have Hcw := Lib.hid he.hcw
 have Hll := Lib.hid he.hll
 have hln := he.hln
 have Hlw := Lib.hid he.hlw
 have hmm := @run_makeMap Tryz.prog
 clear hW1 hz hb0 hgw
 go_enter Tryz.func59, Tryz.ntmps59
 go_upto_region 1 with (fail)
 rw [<- HW.out]
 go_wp2_with (fail)
 refine (validd_any W1 A n c gch true hl hn Hgw.out hg1).mono ?_
 rintro r W2 ⟨rfl, hB2⟩
 have hB02 := hB0.trans (hB2.mono hB0.size)
 have hb2 := gbox Hb0.out hB2 s1
 have he2 := he1.at_ hB2
 clear x2 x3
 by_cases h1 : Ch.valid true gch = true
 ·have x2 := cell_of_row _ _ 2 _ _ _ hb2
  have x3 := cell_of_row _ _ 3 _ _ _ hb2
  simp at x2 x3
  have s2 : w.heap.size < W2.heap.size := some_lt hb2
  have Hb2 := Lib.hid hb2
  have H1 := Lib.hid h1
  have hc2 := he2.hc
  rw [h1]
  clear hb2 h1 he he1 hg
  go_wp2_with (fail)
  refine (validd_any W2 e.cA e.cn e.cc e.chart false Hcl.out Hcn.out Hcw.out hc2).mono ?_
  rintro r W3 ⟨rfl, hB3⟩
  have hB03 := hB02.trans (hB3.mono hB02.size)
  have hb3 := gbox Hb2.out hB3 s2
  have he3 := he2.at_ hB3
  have hg3 := RowsAt.at_ (RowsAt.at_ hg1 hB2) hB3
  clear x2 x3 hc2 he2 hg1
  by_cases h2 : Ch.valid false e.chart = true
  ·have x3 := cell_of_row _ _ 3 _ _ _ hb3
   simp at x3
   have s3 : w.heap.size < W3.heap.size := some_lt hb3
   have Hb3 := Lib.hid hb3
   have H2 := Lib.hid h2
   rw [h2]
   clear hb3 h2
   by_cases h4 : 400 < e.ln
   ·have h4' : (400 : Int) < (e.ln : Int) := by omega
    have HV : Hid (Gr.mapping e.chart gch e.links = false) := by show _ = _; rw [Gr.mapping, decide_eq_false (by have := Hll.out; omega)]; simp
    clear h4
    go_wp2
    go_ret
    exact ⟨by rw [HV.out]; rfl, hB03⟩
   ·have h4' : ¬ (400 : Int) < (e.ln : Int) := by omega
    have HV : Hid (Gr.mapping e.chart gch e.links = (List.range e.links.length).all (Gr.linkAt e.chart gch e.links)) := by
     show _ = _; rw [Gr.mapping, H1.out, H2.out, decide_eq_true (by have := Hll.out; omega)]; rfl
    have hB04 := hB03.alloc hB03.size (.map #[] 0)
    have hb4 := (Below.heap_alloc W3 (.map #[] 0) _ s3).trans Hb3.out
    have x34 := cell_of_row _ _ 3 _ _ _ hb4
    simp at x34
    have he4 := Lib.hid he3
    have Hg3 := Lib.hid hg3
    have Hb4 := Lib.hid hb4
    have hset0 := Lib.hid (SeenL.made W3 e.links)
    clear hb4 he3 hg3
    go_wp2
    go_loopw [28] (fun i wr => ∃ k : Nat, k <= e.ln /\ i = .int .i64 k /\ (List.range k).all (Gr.linkAt e.chart gch e.links) = true /\ SeenL wr W3.heap.size e.links k /\ Below W3.heap.size W3 wr) (fun i _ => e.ln - (intOf i).toNat)
    case atStart => exact ⟨0, Nat.zero_le _, rfl, rfl, hset0.out, (Below.refl _ _).alloc (Nat.le_refl _) _⟩
    case round =>
     obtain ⟨k, hk, rfl, hall, hseen, hbr⟩ := hrel
     have Hall := Lib.hid hall
     have hlt3 := hseen.lt
     have hq3 := hbr.size
     have hbw := hB03.trans (hbr.mono hB03.size)
     clear hall x3 x34 hmm
     by_cases hlt : k < e.ln
     ·have hkl : k < e.links.length := by have := Hll.out; omega
      obtain ⟨b, o, hAe, hbB, c0, c1, c2⟩ := LnksAt.three (RowsAt.below he4.out.hl hbr (Nat.le_refl _)) hkl
      have hbwr : b < wr.heap.size := by omega
      obtain ⟨hBa, hra, hra2, hza⟩ := row_new2 wr #[.int .i64 (e.links[k]).frm, .int .i64 (e.links[k]).to, .int .i64 (e.links[k]).since] #[.int .i64 e.links[k].frm, .int .i64 0, .int .i64 e.links[k].since] 113 113
      have hbx := gbox Hb3.out hbr s3
      have hbx2 := gbox hbx hBa (some_lt hbx)
      have hseen2 := (hseen.alloc (.cells #[.int .i64 (e.links[k]).frm, .int .i64 (e.links[k]).to, .int .i64 (e.links[k]).since] 113)).alloc (.cells #[.int .i64 e.links[k].frm, .int .i64 0, .int .i64 e.links[k].since] 113)
      obtain ⟨Wa, hWa⟩ : ∃ Wa, Wa = ((wr.alloc (.cells #[.int .i64 (e.links[k]).frm, .int .i64 (e.links[k]).to, .int .i64 (e.links[k]).since] 113)).alloc (.cells #[.int .i64 e.links[k].frm, .int .i64 0, .int .i64 e.links[k].since] 113)) := ⟨_, rfl⟩
      rw [<- hWa] at hBa hra hra2 hza hbx2 hseen2
      have HWa := Lib.hid hWa
      have hw := Hlw.out _ (List.getElem_mem hkl)
      have hlk := hseen2.look _ _ hw.1 hw.2.2
      have hbx3 := hbx
      have x3 := cell_of_row _ _ 3 _ _ _ hbx3
      simp at x3
      have sw : w.heap.size < wr.heap.size := some_lt hbx3
      have hba := hbr.trans (hBa.mono hq3)
      have Hlat := Lib.hid (lat_lt hkl)
      have Hfr := Lib.hid (fresh_eq hkl)
      clear hbx hbx3 hWa hw
      go_upto_region 8 with (fail)
      rw [<- HWa.out]
      have HAe := Lib.hid hAe
      clear hAe
      have z0 := cell_of_row _ _ 0 _ _ _ hra2
      have z1 := cell_of_row _ _ 1 _ _ _ hra2
      have z2 := cell_of_row _ _ 2 _ _ _ hra2
      have y0 := cell_of_row _ _ 0 _ _ _ hra
      have y1 := cell_of_row _ _ 1 _ _ _ hra
      have y2 := cell_of_row _ _ 2 _ _ _ hra
      have w0 := cell_of_row _ _ 0 _ _ _ hbx2
      have w1 := cell_of_row _ _ 1 _ _ _ hbx2
      have w2 := cell_of_row _ _ 2 _ _ _ hbx2
      have w3 := cell_of_row _ _ 3 _ _ _ hbx2
      have w4 := cell_of_row _ _ 4 _ _ _ hbx2
      simp at z0 z1 z2 y0 y1 y2 w0 w1 w2 w3 w4
      have t1 : wr.heap.size < Wa.heap.size := some_lt hra
      have t2 : wr.heap.size + 1 < Wa.heap.size := some_lt hra2
      have t3 : w.heap.size < Wa.heap.size := some_lt hbx2
      have Hra2 := Lib.hid hra2
      have hbF := hB03.trans (hba.mono hB03.size)
      clear hra hra2 hbx2 c0 c1 c2 x3 hseen
      by_cases hs : (e.links.take k).any (fun r => decide (r.frm = e.links[k].frm) && decide (r.since = e.links[k].since)) = true
      ·rw [hs] at hlk
       have HV2 := Lib.hid (mapping_bad (chart := e.chart) (gch := gch) hkl (by rw [Gr.linkAt, Hlat.out, Hfr.out, hs]; simp))
       clear hs
       go_wp2
       go_ret
       exact ⟨by rw [HV2.out]; rfl, hbF⟩
      ·have hs' : (e.links.take k).any (fun r => decide (r.frm = e.links[k].frm) && decide (r.since = e.links[k].since)) = false := by simpa using hs
       rw [hs'] at hlk
       have Hs := Lib.hid hs'
       have heA := (he4.out.below hba (Nat.le_refl _)).more hba.size
       have hgA := (RowsAt.below Hg3.out hba (Nat.le_refl _)).more hba.size
       clear hs hs'
       go_wp2_with (fail)
       refine (linkd_any Wa e A n c gch e.links[k] hl hn heA hgA).mono ?_
       rintro r W5 ⟨rfl, hB5⟩
       have hba5 := hba.trans (hB5.mono hba.size)
       have hbF5 := hbF.trans (hB5.mono hbF.size)
       have hseen5 := hseen2.below hB5 hseen2.lt
       have hr5 := gbox Hra2.out hB5 t2
       clear z0 z1 z2 y0 y1 y2 w0 w1 w2 w3 w4 hlk heA hgA
       by_cases ho : Gr.linkOk e.chart gch e.links[k] = true
       ·rw [ho]
        have z0 := cell_of_row _ _ 0 _ _ _ hr5
        have z1 := cell_of_row _ _ 1 _ _ _ hr5
        have z2 := cell_of_row _ _ 2 _ _ _ hr5
        simp at z0 z1 z2
        have t5 : wr.heap.size + 1 < W5.heap.size := some_lt hr5
        have Hall2 := Lib.hid (Gr.range_all Hall.out (show Gr.linkAt e.chart gch e.links k = true by rw [Gr.linkAt, Hlat.out, Hfr.out, Hs.out, ho]; rfl))
        obtain ⟨f, hm, hf⟩ := hseen5
        obtain ⟨kl, hkl5⟩ := linkKey e.links[k].frm 0 e.links[k].since (Hlw.out _ (List.getElem_mem hkl)).1 rfl (Hlw.out _ (List.getElem_mem hkl)).2.2
        have Hstep := Lib.hid (seenL_step hkl f hf)
        have hq5 := hba5.size
        clear ho hr5 hf
        go_wp2_with (at_mapUpdate; refine wpList_mapUpdate_at rfl _ _ _ rfl hm linkLaw Tryz.underlying168 rfl (by unfold maxLen; omega) _ _ _ rfl rfl hkl5 ?_; intro w7 hm7 hg7)
        have hb7 := hba5.grown hg7 hba5.size (fun j e => by cases e; exact Nat.le_refl _)
        go_roundw
        case rel => exact ⟨k + 1, by omega, by go_num, Hall2.out, ⟨_, hm7, Hstep.out⟩, hb7⟩
        case measure => simp [intOf]; omega
       ·have ho' : Gr.linkOk e.chart gch e.links[k] = false := by simpa using ho
        rw [ho']
        have HV2 := Lib.hid (mapping_bad (chart := e.chart) (gch := gch) hkl (by rw [Gr.linkAt, Hlat.out, ho']; rfl))
        clear ho ho' hr5 hseen5
        go_wp2
        go_ret
        exact ⟨by rw [HV2.out]; rfl, hbF5⟩
     ·obtain rfl : k = e.ln := by omega
      have HV2 : Hid (Gr.mapping e.chart gch e.links = true) := by show _ = _; rw [HV.out, Hll.out]; exact Hall.out
      clear hseen
      go_wp2
      go_ret
      exact ⟨by rw [HV2.out]; rfl, hbw⟩
  ·have h2' : Ch.valid false e.chart = false := by simpa using h2
   have HV : Hid (Gr.mapping e.chart gch e.links = false) := by show _ = _; rw [Gr.mapping, h2']; simp
   rw [h2']
   clear h2 h2' hb3 he3 hg3
   go_wp2
   go_ret
   exact ⟨by rw [HV.out]; rfl, hB03⟩
 ·have h1' : Ch.valid true gch = false := by simpa using h1
  have HV : Hid (Gr.mapping e.chart gch e.links = false) := by show _ = _; rw [Gr.mapping, h1']; simp
  rw [h1']
  clear h1 h1' hb2 he2 he he1
  go_wp2
  go_ret
  exact ⟨by rw [HV.out]; rfl, hB02⟩
end
end Go.Proofs.YtobnfmneeabomaaGreat
namespace Go.Proofs.YtobnfmneeabomaaGreat
open Go.RowKit

section
variable (w : World)
end
end Go.Proofs.YtobnfmneeabomaaGreat
