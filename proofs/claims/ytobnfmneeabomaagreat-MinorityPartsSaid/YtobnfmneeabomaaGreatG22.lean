/- My texts RoleW. -/
import Derived.Test.YtobnfmneeabomaaGreatG21
set_option linter.unusedVariables false
set_option linter.unusedSimpArgs false
set_option maxRecDepth 100000
set_option maxHeartbeats 8000000
namespace Go.Proofs.YtobnfmneeabomaaGreat
open Go.RowKit

structure Grp.At (w : World) (B : Nat) (g : Grp) : Prop where
 hcl : g.chart.length = g.cn
 hcn : g.cn <= 100000
 hc : AccsAt w B g.cA g.chart
 hcw : ∀ a ∈ g.chart, a.wf
 hel : g.ents.length = g.en
 hen : g.en <= 100000
 he : RowsAt Ent.cells 5 w B g.eA g.ents
 hea : ∀ e ∈ g.ents, e.At w B
 hn : g.cur.size <= maxLen
 hr : ∀ r ∈ Gr.roles g, (Lit.int .i64 r.code).wf = true
theorem Grp.At.below {w w' : World} {B C : Nat} {g : Grp} (h : g.At w B) (hb : Below C w w') (hC : B <= C) : g.At w' B :=
 ⟨h.hcl, h.hcn, RowsAt.below h.hc hb hC, h.hcw, h.hel, h.hen, RowsAt.below h.he hb hC, fun e he => (h.hea e he).below hb hC, h.hn, h.hr⟩
theorem Grp.At.more {w : World} {B C : Nat} {g : Grp} (h : g.At w B) (hC : B <= C) : g.At w C :=
 ⟨h.hcl, h.hcn, RowsAt.more h.hc hC, h.hcw, h.hel, h.hen, RowsAt.more h.he hC, fun e he => (h.hea e he).more hC, h.hn, h.hr⟩
theorem Grp.At.at_ {w w' : World} {g : Grp} (h : g.At w w.heap.size) (hb : Below w.heap.size w w') : g.At w' w'.heap.size := (h.below hb (Nat.le_refl _)).more hb.size
theorem grpSize : (Tryz.prog.info? 36).map (·.size) = some 21 := by kernel_rfl
theorem rolesSize : (Tryz.prog.info? 33).map (·.size) = some 15 := by kernel_rfl
theorem entSize : (Tryz.prog.info? 83).map (·.size) = some 5 := by kernel_rfl
def RolesPost (g : Grp) (w : World) (e : Ending) (w' : World) : Prop :=
 Below w.heap.size w w' /\ ∃ b, e = .returned (.slice (some ⟨b, 0, none⟩) 15 15) /\ w.heap.size <= b /\ RowsAt Role.cells 5 w' w'.heap.size (some ⟨b, 0, none⟩) (Gr.roles g)
theorem flat_get {α : Type} (f : α -> List Value) (sz : Nat) : ∀ (l : List α), (∀ a ∈ l, (f a).length = sz) -> ∀ (k : Nat) (hk : k < l.length) (j : Nat), j < sz -> (l.flatMap f)[k * sz + j]? = (f l[k])[j]?
 | a :: l, h, 0, _, j, hj => by
  rw [List.flatMap_cons, List.getElem?_append_left (by rw [h a (List.mem_cons_self)]; omega)]
  simp
 | a :: l, h, k + 1, hk, j, hj => by
  have ha := h a (List.mem_cons_self)
  rw [List.flatMap_cons, List.getElem?_append_right (by rw [ha, Nat.add_mul]; omega), ha]
  rw [show (k + 1) * sz + j - sz = k * sz + j by rw [Nat.add_mul]; omega]
  exact flat_get f sz l (fun b hb => h b (List.mem_cons_of_mem _ hb)) k (by simpa using hk) j hj
theorem rows_flat {α : Type} {f : α -> List Value} {sz : Nat} {w : World} {B b : Nat} {l : List α} {t : TypeId} {fr : Nat × Nat} (hb : w.heap[b]? = some (.cells (l.flatMap f).toArray t fr)) (hB : b < B) (hl : ∀ a ∈ l, (f a).length = sz) : RowsAt f sz w B (some ⟨b, 0, none⟩) l := by
 refine .inr ⟨b, 0, rfl, hB, fun k hk j v hj => ?_⟩
 have hjl : j < sz := by have := (List.getElem?_eq_some_iff.1 hj).1; rw [hl _ (List.getElem_mem hk)] at this; exact this
 rw [Nat.zero_add, cell_of_row _ _ _ _ _ _ hb]
 have := flat_get f sz l hl k hk j hjl
 rw [hj] at this
 simpa using this
section
variable (w : World)
theorem rolesd_any (g : Grp) : Calls Tryz.prog 56 #[.agg #[.int .i64 g.r0, .int .i64 g.r1, .int .i64 g.r2, .int .i64 g.r3, .int .i64 g.r4, .int .i64 g.r5, .int .i64 g.r6, .int .i64 g.r7, .int .i64 g.r8, .int .i64 g.r9, .int .i64 g.r10, .int .i64 g.r11, .int .i64 g.r12, .int .i64 g.r13, .int .i64 g.r14]] w (RolesPost g w) := by
 go_enter Tryz.func56, Tryz.ntmps56
 go_wp2
 go_ret
 exact ⟨((Below.refl _ _).alloc (Nat.le_refl _) _).alloc (by simp) _, w.heap.size + 1, rfl, by omega, rows_flat (by
  have := heap_alloc_new (w.alloc (.cells #[.int .i64 g.r0, .int .i64 g.r1, .int .i64 g.r2, .int .i64 g.r3, .int .i64 g.r4, .int .i64 g.r5, .int .i64 g.r6, .int .i64 g.r7, .int .i64 g.r8, .int .i64 g.r9, .int .i64 g.r10, .int .i64 g.r11, .int .i64 g.r12, .int .i64 g.r13, .int .i64 g.r14] 33)) (.cells ((Gr.roles g).flatMap Role.cells).toArray 141)
  rwa [show (w.alloc (.cells #[.int .i64 g.r0, .int .i64 g.r1, .int .i64 g.r2, .int .i64 g.r3, .int .i64 g.r4, .int .i64 g.r5, .int .i64 g.r6, .int .i64 g.r7, .int .i64 g.r8, .int .i64 g.r9, .int .i64 g.r10, .int .i64 g.r11, .int .i64 g.r12, .int .i64 g.r13, .int .i64 g.r14] 33)).heap.size = w.heap.size + 1 by simp] at this) (by simp) (by simp [Gr.roles, Role.cells])⟩
end
end Go.Proofs.YtobnfmneeabomaaGreat
