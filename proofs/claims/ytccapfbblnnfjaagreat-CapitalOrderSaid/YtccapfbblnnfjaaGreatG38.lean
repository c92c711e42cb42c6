/- My texts FewW. -/
import Derived.Test.YtccapfbblnnfjaaGreatG22
set_option linter.unusedVariables false
set_option linter.unusedSimpArgs false
set_option maxRecDepth 100000
set_option maxHeartbeats 8000000
namespace Go.Proofs.YtccapfbblnnfjaaGreat
open Go.RowKit
structure Ent.Out (w : World) (B : Nat) (e : Ent) : Prop where
 hcl : e.chart.length = e.cn
 hcn : e.cn <= maxLen
 hc : AccsAt w B e.cA e.chart
 hcw : ∀ a ∈ e.chart, a.wf
 hll : e.links.length = e.ln
 hln : e.ln <= maxLen
 hl : LnksAt w B e.lA e.links
 hlw : ∀ x ∈ e.links, x.wf
 hn : e.name.size <= maxLen
 hu : e.cur.size <= maxLen
structure Grp.Out (w : World) (B : Nat) (g : Grp) : Prop where
 hcl : g.chart.length = g.cn
 hcn : g.cn <= maxLen
 hc : AccsAt w B g.cA g.chart
 hcw : ∀ a ∈ g.chart, a.wf
 hel : g.ents.length = g.en
 hen : g.en <= maxLen
 he : RowsAt Ent.cells 5 w B g.eA g.ents
 hea : ∀ e ∈ g.ents, e.Out w B
 hn : g.cur.size <= maxLen
 hr : ∀ r ∈ Gr.roles g, (Lit.int .i64 r.code).wf = true
theorem Ent.Out.below {w w' : World} {B C : Nat} {e : Ent} (h : e.Out w B) (hb : Below C w w') (hC : B <= C) : e.Out w' B :=
 ⟨h.hcl, h.hcn, RowsAt.below h.hc hb hC, h.hcw, h.hll, h.hln, RowsAt.below h.hl hb hC, h.hlw, h.hn, h.hu⟩
theorem Ent.Out.more {w : World} {B C : Nat} {e : Ent} (h : e.Out w B) (hC : B <= C) : e.Out w C :=
 ⟨h.hcl, h.hcn, RowsAt.more h.hc hC, h.hcw, h.hll, h.hln, RowsAt.more h.hl hC, h.hlw, h.hn, h.hu⟩
theorem Grp.Out.below {w w' : World} {B C : Nat} {g : Grp} (h : g.Out w B) (hb : Below C w w') (hC : B <= C) : g.Out w' B :=
 ⟨h.hcl, h.hcn, RowsAt.below h.hc hb hC, h.hcw, h.hel, h.hen, RowsAt.below h.he hb hC, fun e he => (h.hea e he).below hb hC, h.hn, h.hr⟩
theorem Grp.Out.more {w : World} {B C : Nat} {g : Grp} (h : g.Out w B) (hC : B <= C) : g.Out w C :=
 ⟨h.hcl, h.hcn, RowsAt.more h.hc hC, h.hcw, h.hel, h.hen, RowsAt.more h.he hC, fun e he => (h.hea e he).more hC, h.hn, h.hr⟩
theorem Grp.Out.at_ {w w' : World} {g : Grp} (h : g.Out w w.heap.size) (hb : Below w.heap.size w w') : g.Out w' w'.heap.size := (h.below hb (Nat.le_refl _)).more hb.size
def Gr.Short (g : Grp) : Prop := g.cn <= 60 /\ g.en <= 14 /\ ∀ e ∈ g.ents, e.cn <= 40 /\ e.ln <= 60
theorem Grp.Out.at_short {w : World} {B : Nat} {g : Grp} (h : g.Out w B) (hs : Gr.Short g) : g.At w B := by
 obtain ⟨h1, h2, h3⟩ := hs
 refine ⟨h.hcl, by omega, h.hc, h.hcw, h.hel, by omega, h.he, fun e he => ?_, h.hn, h.hr⟩
 have o := h.hea e he
 have := h3 e he
 exact ⟨o.hcl, by omega, o.hc, o.hcw, o.hll, by omega, o.hl, o.hlw, o.hn, o.hu⟩
def FewPost (g : Grp) (w : World) (e : Ending) (w' : World) : Prop := (∃ b, e = .returned (.bool b) /\ (b = true -> Gr.Short g)) /\ Below w.heap.size w w'
section
variable (w : World)
theorem fewg_any (g : Grp) (hg : g.Out w w.heap.size) :
  Calls Tryz.prog 15 #[.agg #[.string g.cur, .int .i64 g.Y, .int .i64 g.M, .int .i64 g.N, .slice g.cA g.cn g.cc, .int .i64 g.r0, .int .i64 g.r1, .int .i64 g.r2, .int .i64 g.r3, .int .i64 g.r4, .int .i64 g.r5, .int .i64 g.r6, .int .i64 g.r7, .int .i64 g.r8, .int .i64 g.r9, .int .i64 g.r10, .int .i64 g.r11, .int .i64 g.r12, .int .i64 g.r13, .int .i64 g.r14, .slice g.eA g.en g.ec]] w (FewPost g w) := by
 obtain ⟨W1, hW1, hB0, hb0, hz⟩ := nw1 w #[.string g.cur, .int .i64 g.Y, .int .i64 g.M, .int .i64 g.N, .slice g.cA g.cn g.cc, .int .i64 g.r0, .int .i64 g.r1, .int .i64 g.r2, .int .i64 g.r3, .int .i64 g.r4, .int .i64 g.r5, .int .i64 g.r6, .int .i64 g.r7, .int .i64 g.r8, .int .i64 g.r9, .int .i64 g.r10, .int .i64 g.r11, .int .i64 g.r12, .int .i64 g.r13, .int .i64 g.r14, .slice g.eA g.en g.ec] 29
 have HW := Lib.hid hW1
 have Hb0 := Lib.hid hb0
 have hg1 := Lib.hid (hg.at_ hB0)
 have s1 : w.heap.size < W1.heap.size := by omega
 have hel := Lib.hid hg.hel
 have hen := hg.hen
 have hcn := hg.hcn
 have hnn := hg.hn
 unfold maxLen at hen hcn hnn
 clear hW1 hz hb0 hg
 go_enter Tryz.func15, Tryz.ntmps15
 go_upto_region 1 with (fail)
 rw [<- HW.out]
 go_wp2
 go_loopw [3] (fun i wr => ∃ k : Nat, k <= g.en /\ i = .int .i64 k /\ (∀ e ∈ g.ents.take k, e.cn <= 40 /\ e.ln <= 60) /\ Below W1.heap.size W1 wr) (fun i _ => g.en - (intOf i).toNat)
 case atStart => exact ⟨0, Nat.zero_le _, rfl, by simp, Below.refl _ _⟩
 case round =>
  obtain ⟨k, hk, rfl, hall, hb⟩ := hrel
  have Hall := Lib.hid hall
  have hbr := gbox Hb0.out hb s1
  have x20 := cell_of_row _ _ 20 _ _ _ hbr
  have x4 := cell_of_row _ _ 4 _ _ _ hbr
  have x0 := cell_of_row _ _ 0 _ _ _ hbr
  simp at x20 x4 x0
  have sr : w.heap.size < wr.heap.size := some_lt hbr
  have hB0r := hB0.trans (hb.mono hB0.size)
  clear hall hbr
  by_cases hlt : k < g.en
  ·have hkl : k < g.ents.length := by have := hel.out; omega
   have hgr := Lib.hid (hg1.out.below hb (Nat.le_refl _))
   obtain ⟨b, o, hAe, hbB, hr⟩ := RowsAt.look hgr.out.he hkl
   obtain ⟨e, he⟩ : ∃ e, e = g.ents[k] := ⟨_, rfl⟩
   rw [<- he] at hr
   rw [hAe] at x20
   have Hr := Lib.hid hr
   have heo := hgr.out.hea e (by rw [he]; exact List.getElem_mem _)
   have he1 := heo.hcn
   have he2 := heo.hln
   have he3 := heo.hn
   have he4 := heo.hu
   unfold maxLen at he1 he2 he3 he4
   have HE := Lib.hid he
   have hbw : b < wr.heap.size := by have := hb.size; omega
   have hnx : e.cn <= 40 -> e.ln <= 60 -> Hid (∀ e ∈ g.ents.take (k + 1), e.cn <= 40 /\ e.ln <= 60) := fun h1 h2 =>
    Lib.hid (take_mem_all (P := fun e : Ent => e.cn <= 40 /\ e.ln <= 60) hkl Hall.out (by rw [<- HE.out]; exact ⟨h1, h2⟩))
   clear hr hAe heo he
   by_cases h1 : e.cn <= 40
   case neg =>
    clear hnx
    go_wp2_with (refine wpList_load_mid rfl 106 (.tmp 15) rfl b (o + k * 5) rfl [.string e.name, .string e.cur, .slice e.cA e.cn e.cc, .slice e.lA e.ln e.lc, .bool e.joint] _ Hr.out Tryz.underlying106 rfl entSize ?_)
    go_ret
    exact ⟨⟨_, rfl, fun h => by cases h⟩, hB0r.alloc hB0r.size _⟩
   by_cases h2 : e.ln <= 60
   case neg =>
    clear hnx
    go_wp2_with (refine wpList_load_mid rfl 106 (.tmp 15) rfl b (o + k * 5) rfl [.string e.name, .string e.cur, .slice e.cA e.cn e.cc, .slice e.lA e.ln e.lc, .bool e.joint] _ Hr.out Tryz.underlying106 rfl entSize ?_)
    go_ret
    exact ⟨⟨_, rfl, fun h => by cases h⟩, hB0r.alloc hB0r.size _⟩
   have Hnx := hnx h1 h2
   clear hnx
   by_cases h3 : (60 : Int) < wrap64 ((e.name.size : Int) + (e.cur.size : Int))
   ·go_wp2_with (refine wpList_load_mid rfl 106 (.tmp 15) rfl b (o + k * 5) rfl [.string e.name, .string e.cur, .slice e.cA e.cn e.cc, .slice e.lA e.ln e.lc, .bool e.joint] _ Hr.out Tryz.underlying106 rfl entSize ?_)
    go_ret
    exact ⟨⟨_, rfl, fun h => by cases h⟩, hB0r.alloc hB0r.size _⟩
   ·go_wp2_with (refine wpList_load_mid rfl 106 (.tmp 15) rfl b (o + k * 5) rfl [.string e.name, .string e.cur, .slice e.cA e.cn e.cc, .slice e.lA e.ln e.lc, .bool e.joint] _ Hr.out Tryz.underlying106 rfl entSize ?_)
    go_roundw
    case rel => exact ⟨k + 1, by omega, by go_num, Hnx.out, hb.alloc hb.size _⟩
    case measure => simp [intOf]; omega
  ·obtain rfl : k = g.en := by omega
   have htk : g.ents.take g.en = g.ents := List.take_of_length_le (by have := hel.out; omega)
   have Hal : Hid (∀ e ∈ g.ents, e.cn <= 40 /\ e.ln <= 60) := by show ∀ e ∈ _, _; have := Hall.out; rw [htk] at this; exact this
   clear htk
   by_cases h1 : g.cn <= 60
   case neg =>
    go_wp2
    go_ret
    exact ⟨⟨_, rfl, fun h => by cases h⟩, hB0r⟩
   by_cases h2 : g.en <= 14
   case neg =>
    go_wp2
    go_ret
    exact ⟨⟨_, rfl, fun h => by cases h⟩, hB0r⟩
   go_wp2
   go_ret
   exact ⟨⟨_, rfl, fun _ => ⟨h1, h2, Hal.out⟩⟩, hB0r⟩
end
end Go.Proofs.YtccapfbblnnfjaaGreat
