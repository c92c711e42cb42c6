/- My texts FewW. -/
import Derived.Test.YtobnfmneeabomaaGreatG22
set_option linter.unusedVariables false
set_option linter.unusedSimpArgs false
set_option maxRecDepth 100000
set_option maxHeartbeats 8000000
namespace Go.Proofs.YtobnfmneeabomaaGreat
open Go.RowKit
structure Ent.Out (w : World) (B : Nat) (e : Ent) : Prop where
 hcl : e.chart.length = e.cn
 hcn : e.cn <= maxLen
 hc : AccsAt w B e.cA e.chart
 hcw : ∀ a ∈ e.chart, a.wf
 hll : e.links.length = e.ln
 hln : e.ln <= maxLen
 hl : LnksAt w B e.lA e.links
 hlw : ∀ x ∈ e.links, x.wf
 hn : e.name.size <= maxLen
 hu : e.cur.size <= maxLen
structure Grp.Out (w : World) (B : Nat) (g : Grp) : Prop where
 hcl : g.chart.length = g.cn
 hcn : g.cn <= maxLen
 hc : AccsAt w B g.cA g.chart
 hcw : ∀ a ∈ g.chart, a.wf
 hel : g.ents.length = g.en
 hen : g.en <= maxLen
 he : RowsAt Ent.cells 5 w B g.eA g.ents
 hea : ∀ e ∈ g.ents, e.Out w B
 hn : g.cur.size <= maxLen
 hr : ∀ r ∈ Gr.roles g, (Lit.int .i64 r.code).wf = true
theorem Ent.Out.below {w w' : World} {B C : Nat} {e : Ent} (h : e.Out w B) (hb : Below C w w') (hC : B <= C) : e.Out w' B :=
 ⟨h.hcl, h.hcn, RowsAt.below h.hc hb hC, h.hcw, h.hll, h.hln, RowsAt.below h.hl hb hC, h.hlw, h.hn, h.hu⟩
theorem Ent.Out.more {w : World} {B C : Nat} {e : Ent} (h : e.Out w B) (hC : B <= C) : e.Out w C :=
 ⟨h.hcl, h.hcn, RowsAt.more h.hc hC, h.hcw, h.hll, h.hln, RowsAt.more h.hl hC, h.hlw, h.hn, h.hu⟩
theorem Grp.Out.below {w w' : World} {B C : Nat} {g : Grp} (h : g.Out w B) (hb : Below C w w') (hC : B <= C) : g.Out w' B :=
 ⟨h.hcl, h.hcn, RowsAt.below h.hc hb hC, h.hcw, h.hel, h.hen, RowsAt.below h.he hb hC, fun e he => (h.hea e he).below hb hC, h.hn, h.hr⟩
theorem Grp.Out.more {w : World} {B C : Nat} {g : Grp} (h : g.Out w B) (hC : B <= C) : g.Out w C :=
 ⟨h.hcl, h.hcn, RowsAt.more h.hc hC, h.hcw, h.hel, h.hen, RowsAt.more h.he hC, fun e he => (h.hea e he).more hC, h.hn, h.hr⟩
theorem Grp.Out.at_ {w w' : World} {g : Grp} (h : g.Out w w.heap.size) (hb : Below w.heap.size w w') : g.Out w' w'.heap.size := (h.below hb (Nat.le_refl _)).more hb.size
section
variable (w : World)
end
end Go.Proofs.YtobnfmneeabomaaGreat
