/- My texts GrpD. -/
import Derived.StringKeys
import Derived.Test.YtobnfmneeabomaaGreatG24
set_option linter.unusedVariables false
set_option linter.unusedSimpArgs false
set_option maxRecDepth 100000
set_option maxHeartbeats 8000000
namespace Go.Proofs.YtobnfmneeabomaaGreat
open Go.RowKit

theorem wpList_load_want {P : Program} {ops : Array Oper} {rest : List Oper} {op : Oper} {a : Act} {w : World} {Q : Exit -> Act -> World -> Prop} (hw : Region.wanted op (yielded ops a.tmps) = true) (ty : TypeId) (x : Operand) (ho : op.op = .load ty x)
  (b o : Nat) (hx : a.eval x = .pointer (some ⟨b, o, none⟩)) (cs : List Value) (d : TypeDesc) (hc : w.rangeAt b o cs)
  (hu : P.underlying ty = some d) (hd : d.isRow = true) (hi : (P.info? ty).map (·.size) = some cs.length)
  (h : wpList P ops Q rest (a.put op.dst (.agg cs.toArray)) w) : wpList P ops Q (op :: rest) a w :=
 BigFrame.wpList_want hw fun _ hK => wp_load_mid ty x ho b o hx cs d hc hu hd hi (hK _ _ h)
open Go.Maps in
theorem strLaw : Maps.Keyed Tryz.prog 9 := string_keyed Tryz.underlying9
def SeenN (w : World) (b : Nat) (l : List Ent) (k : Nat) : Prop :=
 ∃ f, MapAt w Tryz.prog 9 b k f /\ ∀ s, f (.string s) = if (l.take k).any (fun y => decide (y.name = s)) = true then some (.bool true) else none
section
variable {w w' : World} {b B : Nat} {l : List Ent} {k : Nat}
theorem SeenN.lt (h : SeenN w b l k) : b < w.heap.size := by obtain ⟨f, h, _⟩ := h; exact h.lt
theorem SeenN.below (h : SeenN w b l k) (hb : Below B w w') (hB : b < B) : SeenN w' b l k := by obtain ⟨f, h, r⟩ := h; exact ⟨f, h.below hb hB, r⟩
theorem SeenN.alloc (h : SeenN w b l k) (o : Obj) : SeenN (w.alloc o) b l k := by obtain ⟨f, h, r⟩ := h; exact ⟨f, h.alloc o, r⟩
theorem SeenN.made (w : World) (l : List Ent) : SeenN (w.alloc (.map #[] 0)) w.heap.size l 0 := ⟨_, MapAt.made w _ _, fun x => by simp⟩
open Go.Maps in
theorem SeenN.look (h : SeenN w b l k) (s : ByteArray) (hs : s.size <= maxLen) : (Instr.lookup 116 (.map (some b)) (.string s) false).run Tryz.prog w = .ok (.bool ((l.take k).any (fun y => decide (y.name = s)))) w := by
 obtain ⟨f, hm, hf⟩ := h
 have hz : (zeroValue 4).run Tryz.prog w = .ok (.bool false) w := by kernel_rfl
 rw [hm.lookup strLaw Tryz.underlying116 hz (WideMaps.keyOf_string_mk Tryz.underlying9 hs), hf]
 cases (l.take k).any (fun y => decide (y.name = s)) <;> rfl
open Classical in
theorem seenN_step {f : Value -> Option Value} (hk : k < l.length) (hf : ∀ s, f (.string s) = if (l.take k).any (fun y => decide (y.name = s)) = true then some (.bool true) else none) :
  ∀ s, (fun v => if v = .string l[k].name then some (Value.bool true) else f v) (.string s) = if (l.take (k + 1)).any (fun y => decide (y.name = s)) = true then some (.bool true) else none := by
 intro s
 show (if _ then _ else f _) = _
 rw [List.take_succ_eq_append_getElem hk, List.any_append]
 by_cases h : l[k].name = s
 ·rw [if_pos (by rw [h]), if_pos (by simp [h])]
 ·rw [if_neg (by simp; exact fun e => h e.symm), hf]; simp [h]
end
abbrev EntsAt := RowsAt Ent.cells 5
theorem EntsAt.five {w : World} {B : Nat} {A : Option Addr} {l : List Ent} (h : EntsAt w B A l) {k : Nat} (hk : k < l.length) : ∃ b o, A = some ⟨b, o, none⟩ /\ b < B /\ w.cell? ⟨b, o + k * 5, none⟩ = some (.string l[k].name) /\ w.cell? ⟨b, o + k * 5 + 1, none⟩ = some (.string l[k].cur) /\ w.cell? ⟨b, o + k * 5 + 2, none⟩ = some (.slice l[k].cA l[k].cn l[k].cc) /\ w.cell? ⟨b, o + k * 5 + 3, none⟩ = some (.slice l[k].lA l[k].ln l[k].lc) /\ w.cell? ⟨b, o + k * 5 + 4, none⟩ = some (.bool l[k].joint) := by
 obtain ⟨b, o, e, hb, hr⟩ := RowsAt.look h hk
 exact ⟨b, o, e, hb, hr 0 _ rfl, hr 1 _ rfl, hr 2 _ rfl, hr 3 _ rfl, hr 4 _ rfl⟩
theorem eat_lt {l : List Ent} {i : Nat} (h : i < l.length) : Gr.eat l i = l[i] := by simp [Gr.eat, h]
theorem grp_range {w : World} {b : Nat} {g : Grp} {t : TypeId} {fr : Nat × Nat} (h : w.heap[b]? = some (.cells #[.string g.cur, .int .i64 g.Y, .int .i64 g.M, .int .i64 g.N, .slice g.cA g.cn g.cc, .int .i64 g.r0, .int .i64 g.r1, .int .i64 g.r2, .int .i64 g.r3, .int .i64 g.r4, .int .i64 g.r5, .int .i64 g.r6, .int .i64 g.r7, .int .i64 g.r8, .int .i64 g.r9, .int .i64 g.r10, .int .i64 g.r11, .int .i64 g.r12, .int .i64 g.r13, .int .i64 g.r14, .slice g.eA g.en g.ec] t fr)) : w.rangeAt b 0 [.string g.cur, .int .i64 g.Y, .int .i64 g.M, .int .i64 g.N, .slice g.cA g.cn g.cc, .int .i64 g.r0, .int .i64 g.r1, .int .i64 g.r2, .int .i64 g.r3, .int .i64 g.r4, .int .i64 g.r5, .int .i64 g.r6, .int .i64 g.r7, .int .i64 g.r8, .int .i64 g.r9, .int .i64 g.r10, .int .i64 g.r11, .int .i64 g.r12, .int .i64 g.r13, .int .i64 g.r14, .slice g.eA g.en g.ec] := range_row (cs := [.string g.cur, .int .i64 g.Y, .int .i64 g.M, .int .i64 g.N, .slice g.cA g.cn g.cc, .int .i64 g.r0, .int .i64 g.r1, .int .i64 g.r2, .int .i64 g.r3, .int .i64 g.r4, .int .i64 g.r5, .int .i64 g.r6, .int .i64 g.r7, .int .i64 g.r8, .int .i64 g.r9, .int .i64 g.r10, .int .i64 g.r11, .int .i64 g.r12, .int .i64 g.r13, .int .i64 g.r14, .slice g.eA g.en g.ec]) h
section
variable (w : World)
theorem grpd_any (g : Grp) (hg : g.At w w.heap.size) :
  Calls Tryz.prog 21 #[.agg #[.string g.cur, .int .i64 g.Y, .int .i64 g.M, .int .i64 g.N, .slice g.cA g.cn g.cc, .int .i64 g.r0, .int .i64 g.r1, .int .i64 g.r2, .int .i64 g.r3, .int .i64 g.r4, .int .i64 g.r5, .int .i64 g.r6, .int .i64 g.r7, .int .i64 g.r8, .int .i64 g.r9, .int .i64 g.r10, .int .i64 g.r11, .int .i64 g.r12, .int .i64 g.r13, .int .i64 g.r14, .slice g.eA g.en g.ec]] w fun e w' => e = .returned (.bool (Gr.valid g)) /\ Below w.heap.size w w' := by
 obtain ⟨W1, hW1, hB0, hb0, hz⟩ := nw1 w #[.string g.cur, .int .i64 g.Y, .int .i64 g.M, .int .i64 g.N, .slice g.cA g.cn g.cc, .int .i64 g.r0, .int .i64 g.r1, .int .i64 g.r2, .int .i64 g.r3, .int .i64 g.r4, .int .i64 g.r5, .int .i64 g.r6, .int .i64 g.r7, .int .i64 g.r8, .int .i64 g.r9, .int .i64 g.r10, .int .i64 g.r11, .int .i64 g.r12, .int .i64 g.r13, .int .i64 g.r14, .slice g.eA g.en g.ec] 36
 have HW := Lib.hid hW1
 have hg1 := hg.at_ hB0
 have x0 := cell_of_row _ _ 0 _ _ _ hb0
 have x1 := cell_of_row _ _ 1 _ _ _ hb0
 have x2 := cell_of_row _ _ 2 _ _ _ hb0
 have x3 := cell_of_row _ _ 3 _ _ _ hb0
 simp at x0 x1 x2 x3
 have s1 : w.heap.size < W1.heap.size := by omega
 have Hb0 := Lib.hid hb0
 have Hnm := Lib.hid hg.hn
 have hmm := @run_makeMap Tryz.prog
 have Hel := Lib.hid hg.hel
 have hen := hg.hen
 clear hW1 hz hb0 hg
 go_enter Tryz.func21, Tryz.ntmps21
 go_upto_region 1 with (fail)
 rw [<- HW.out]
 go_wp2_with (fail)
 refine (curd_any W1 g.cur Hnm.out).mono ?_
 rintro e W2 ⟨rfl, rfl⟩
 by_cases h1 : Gr.isCur g.cur = true
 case neg =>
  have h1' : Gr.isCur g.cur = false := by simpa using h1
  have HV : Hid (Gr.valid g = false) := by show _ = _; rw [Gr.valid, Gr.books, h1']; rfl
  rw [h1']
  clear h1 h1' hg1
  go_wp2
  go_ret
  exact ⟨by rw [HV.out]; rfl, hB0⟩
 have H1 := Lib.hid h1
 rw [h1]
 clear h1
 go_wp2_with (fail)
 refine (dcvalid_any g.Y g.M g.N W1).mono ?_
 rintro e W2 ⟨rfl, hB2⟩
 have hB02 := hB0.trans (hB2.mono hB0.size)
 have hb2 := gbox Hb0.out hB2 s1
 have hg2 := hg1.at_ hB2
 clear x0 x1 x2 x3 hg1
 by_cases h2 : Cal.ok g.Y g.M g.N = true
 case neg =>
  have h2' : Cal.ok g.Y g.M g.N = false := by simpa using h2
  have HV : Hid (Gr.valid g = false) := by show _ = _; rw [Gr.valid, Gr.books, h2']; simp
  rw [h2']
  clear h2 h2' hg2 hb2
  go_wp2
  go_ret
  exact ⟨by rw [HV.out]; rfl, hB02⟩
 have H2 := Lib.hid h2
 have hrg := Lib.hid (grp_range hb2)
 rw [h2]
 have Hb2 := Lib.hid hb2
 have s2 : w.heap.size < W2.heap.size := some_lt hb2
 clear h2 hb2
 go_wp2_with (refine wpList_load_want (by rfl) 36 (.tmp 1) rfl w.heap.size 0 rfl _ _ hrg.out Tryz.underlying36 rfl grpSize ?_)
 refine (accd_any W2 g hg2).mono ?_
 rintro e W3 ⟨rfl, hB3⟩
 have hB03 := hB02.trans (hB3.mono hB02.size)
 have hb3 := gbox Hb2.out hB3 s2
 have hg3 := hg2.at_ hB3
 clear hg2 hrg
 by_cases h3 : Gr.accounts g = true
 case neg =>
  have h3' : Gr.accounts g = false := by simpa using h3
  have HV : Hid (Gr.valid g = false) := by show _ = _; rw [Gr.valid, Gr.books, h3']; simp
  rw [h3']
  clear h3 h3' hg3 hb3
  go_wp2
  go_ret
  exact ⟨by rw [HV.out]; rfl, hB03⟩
 have H3 := Lib.hid h3
 rw [h3]
 clear h3
 have x20 := cell_of_row _ _ 20 _ _ _ hb3
 simp at x20
 have s3 : w.heap.size < W3.heap.size := some_lt hb3
 have Hb3 := Lib.hid hb3
 have Hg3 := Lib.hid hg3
 clear hb3 hg3
 by_cases h4 : g.en < 1
 ·have h4' : (g.en : Int) < 1 := by omega
  have HV : Hid (Gr.valid g = false) := by show _ = _; rw [Gr.valid, decide_eq_false (show ¬ 1 <= g.ents.length by have := Hel.out; omega)]; simp
  clear h4
  go_wp2
  go_ret
  exact ⟨by rw [HV.out]; rfl, hB03⟩
 have h4' : ¬ (g.en : Int) < 1 := by omega
 by_cases h5 : 12 < g.en
 ·have h5' : (12 : Int) < (g.en : Int) := by omega
  have HV : Hid (Gr.valid g = false) := by show _ = _; rw [Gr.valid, decide_eq_false (show ¬ g.ents.length <= 12 by have := Hel.out; omega)]; simp
  clear h5
  go_wp2
  go_ret
  exact ⟨by rw [HV.out]; rfl, hB03⟩
 have h5' : ¬ (12 : Int) < (g.en : Int) := by omega
 have h0l : 0 < g.ents.length := by have := Hel.out; omega
 obtain ⟨b, o, hAe, hbB, c0, c1, c2, c3, c4⟩ := EntsAt.five Hg3.out.he h0l
 simp only [Nat.zero_mul, Nat.add_zero] at c4
 have hen0 : (0 : Int) < (g.en : Int) := by omega
 have HAe := Lib.hid hAe
 have Hj := Lib.hid (eat_lt h0l)
 obtain ⟨j, hj⟩ : ∃ j, j = (Gr.eat g.ents 0).joint := ⟨_, rfl⟩
 have hc4 : W3.cell? ⟨b, o + 4, none⟩ = some (.bool j) := by rw [hj, Hj.out]; exact c4
 have HJ := Lib.hid hj
 rw [hAe] at x20
 clear c0 c1 c2 c3 c4 hj hAe
 cases j
 case true =>
  have HV : Hid (Gr.valid g = false) := by show _ = _; rw [Gr.valid, <- HJ.out]; simp
  go_wp2
  go_ret
  exact ⟨by rw [HV.out]; rfl, hB03⟩
 have HV : Hid (Gr.valid g = (List.range g.ents.length).all (Gr.entAt g)) := by
  show _ = _
  rw [Gr.valid, Gr.books, H1.out, H2.out, H3.out, <- HJ.out, decide_eq_true (show 1 <= g.ents.length by omega), decide_eq_true (show g.ents.length <= 12 by have := Hel.out; omega)]; rfl
 have hset0 := Lib.hid (SeenN.made W3 g.ents)
 have hb4 := (Below.heap_alloc W3 (.map #[] 0) _ s3).trans Hb3.out
 have x204 := cell_of_row _ _ 20 _ _ _ hb4
 simp at x204
 rw [HAe.out] at x204
 clear hb4 h4 h5
 go_wp2
 go_loopw [44] (fun i wr => ∃ k : Nat, k <= g.en /\ i = .int .i64 k /\ (List.range k).all (Gr.entAt g) = true /\ SeenN wr W3.heap.size g.ents k /\ Below W3.heap.size W3 wr) (fun i _ => g.en - (intOf i).toNat)
 case atStart => exact ⟨0, Nat.zero_le _, rfl, rfl, hset0.out, (Below.refl _ _).alloc (Nat.le_refl _) _⟩
 case round =>
  obtain ⟨k, hk, rfl, hall, hseen, hbr⟩ := hrel
  have Hall := Lib.hid hall
  have hq3 := hbr.size
  have hlt3 := hseen.lt
  have hbw := hB03.trans (hbr.mono hB03.size)
  clear hall hmm x20 x204 hc4
  by_cases hlt : k < g.en
  ·have hkl : k < g.ents.length := by have := Hel.out; omega
   obtain ⟨b', o', hA', hbB', c0, c1, c2, c3, c4⟩ := EntsAt.five (RowsAt.below Hg3.out.he hbr (Nat.le_refl _)) hkl
   rw [HAe.out] at hA'
   cases hA'
   have hbwr : b < wr.heap.size := by omega
   obtain ⟨hBa, hra, hza⟩ := row_new wr #[.string (g.ents[k]).name, .string (g.ents[k]).cur, .slice (g.ents[k]).cA (g.ents[k]).cn (g.ents[k]).cc, .slice (g.ents[k]).lA (g.ents[k]).ln (g.ents[k]).lc, .bool (g.ents[k]).joint] 83
   have hbx := gbox Hb3.out hbr s3
   have hbx2 := gbox hbx hBa (some_lt hbx)
   have hseen2 := hseen.alloc (.cells #[.string (g.ents[k]).name, .string (g.ents[k]).cur, .slice (g.ents[k]).cA (g.ents[k]).cn (g.ents[k]).cc, .slice (g.ents[k]).lA (g.ents[k]).ln (g.ents[k]).lc, .bool (g.ents[k]).joint] 83)
   obtain ⟨Wa, hWa⟩ : ∃ Wa, Wa = (wr.alloc (.cells #[.string (g.ents[k]).name, .string (g.ents[k]).cur, .slice (g.ents[k]).cA (g.ents[k]).cn (g.ents[k]).cc, .slice (g.ents[k]).lA (g.ents[k]).ln (g.ents[k]).lc, .bool (g.ents[k]).joint] 83)) := ⟨_, rfl⟩
   rw [<- hWa] at hBa hra hza hbx2 hseen2
   have HWa := Lib.hid hWa
   have hba := hbr.trans (hBa.mono hq3)
   have hea := Hg3.out.hea _ (List.getElem_mem hkl)
   have Hnk := Lib.hid hea.hn
   have hlk := hseen2.look g.ents[k].name hea.hn
   have Heat := Lib.hid (eat_lt hkl)
   have hrg := Lib.hid (grp_range hbx2)
   have hbF := hB03.trans (hba.mono hB03.size)
   clear hbx hWa hea
   go_upto_region 7 with (fail)
   rw [<- HWa.out]
   have y0 := cell_of_row _ _ 0 _ _ _ hra
   have y1 := cell_of_row _ _ 1 _ _ _ hra
   have y2 := cell_of_row _ _ 2 _ _ _ hra
   have y3 := cell_of_row _ _ 3 _ _ _ hra
   have y4 := cell_of_row _ _ 4 _ _ _ hra
   simp at y0 y1 y2 y3 y4
   have t1 : wr.heap.size < Wa.heap.size := some_lt hra
   have t2 : w.heap.size < Wa.heap.size := some_lt hbx2
   have Hra := Lib.hid hra
   have hbad : Gr.entAt g k = false -> Hid (Gr.valid g = false) := fun h => Lib.hid (by rw [HV.out]; exact Ch.all_not hkl h)
   clear hra hbx2 c0 c1 c2 c3 c4 hseen
   by_cases hs : (g.ents.take k).any (fun y => decide (y.name = g.ents[k].name)) = true
   ·rw [hs] at hlk
    have HV2 := hbad (by rw [Gr.entAt, Heat.out, hs]; simp)
    clear hs hbad
    go_wp2
    go_ret
    exact ⟨by rw [HV2.out]; rfl, hbF⟩
   ·have hs' : (g.ents.take k).any (fun y => decide (y.name = g.ents[k].name)) = false := by simpa using hs
    rw [hs'] at hlk
    have Hs := Lib.hid hs'
    have hgA := (Hg3.out.below hba (Nat.le_refl _)).more hba.size
    have heA := hgA.hea _ (List.getElem_mem hkl)
    clear hs hs'
    go_wp2_with (refine wpList_load_want (by rfl) 36 (.tmp 1) rfl w.heap.size 0 rfl _ _ hrg.out Tryz.underlying36 rfl grpSize ?_)
    refine (entd_any Wa g g.ents[k] hgA heA H3.out).mono ?_
    rintro e W5 ⟨rfl, hB5⟩
    have hba5 := hba.trans (hB5.mono hba.size)
    have hbF5 := hbF.trans (hB5.mono hbF.size)
    have hseen5 := hseen2.below hB5 hseen2.lt
    have hr5 := gbox Hra.out hB5 t1
    clear y0 y1 y2 y3 y4 hlk heA hgA
    by_cases ho : Gr.entity g g.ents[k] = true
    ·rw [ho]
     have y0 := cell_of_row _ _ 0 _ _ _ hr5
     simp at y0
     have t5 : wr.heap.size < W5.heap.size := some_lt hr5
     have Hall2 := Lib.hid (Gr.range_all Hall.out (show Gr.entAt g k = true by rw [Gr.entAt, Heat.out, Hs.out, ho]; rfl))
     obtain ⟨f, hm, hf⟩ := hseen5
     have hkl5 := WideMaps.keyOf_string_mk (P := Tryz.prog) Tryz.underlying9 Hnk.out
     have Hstep := Lib.hid (seenN_step hkl hf)
     have hq5 := hba5.size
     clear ho hr5 hf hbad
     go_wp2_with (at_mapUpdate; refine wpList_mapUpdate_at rfl _ _ _ rfl hm strLaw Tryz.underlying116 rfl (by unfold maxLen; omega) _ _ _ rfl rfl hkl5 ?_; intro w7 hm7 hg7)
     have hb7 := hba5.grown hg7 hba5.size (fun j e => by cases e; exact Nat.le_refl _)
     go_roundw
     case rel => exact ⟨k + 1, by omega, by go_num, Hall2.out, ⟨_, hm7, Hstep.out⟩, hb7⟩
     case measure => simp [intOf]; omega
    ·have ho' : Gr.entity g g.ents[k] = false := by simpa using ho
     rw [ho']
     have HV2 := hbad (by rw [Gr.entAt, Heat.out, ho']; rfl)
     clear ho ho' hr5 hseen5 hbad
     go_wp2
     go_ret
     exact ⟨by rw [HV2.out]; rfl, hbF5⟩
  ·obtain rfl : k = g.en := by omega
   have HV2 : Hid (Gr.valid g = true) := by show _ = _; rw [HV.out, Hel.out]; exact Hall.out
   clear hseen
   go_wp2
   go_ret
   exact ⟨by rw [HV2.out]; rfl, hbw⟩
end
end Go.Proofs.YtobnfmneeabomaaGreat
