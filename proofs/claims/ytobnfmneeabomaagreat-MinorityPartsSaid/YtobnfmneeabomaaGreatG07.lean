/- My texts Store, RefOps. -/
import Derived.WalkKit
import Derived.Laws.Tables
import Derived.Test.YtobnfmneeabomaaGreatG06
set_option linter.unusedVariables false
set_option linter.unusedSimpArgs false
set_option maxRecDepth 100000
set_option maxHeartbeats 8000000
namespace Go.Proofs.YtobnfmneeabomaaGreat
open Go.RowKit
theorem alloc_setRow (W : World) (cur cs : Array Value) (t : TypeId) : (W.alloc (.cells cur t)).setRow W.heap.size cs = W.alloc (.cells cs t) := by
 unfold World.setRow World.alloc
 congr 1
 apply Array.ext
 ·simp
 ·intro i h1 h2
  simp only [Array.getElem_modify, Array.getElem_push]
  by_cases h : W.heap.size = i
  ·subst h; simp
  ·have hi : i < W.heap.size := by simp at h1; omega
   simp [h, hi]
theorem run_storeVar_new {P : Program} (W : World) (ty t : TypeId) (cur cs : Array Value) (hs : cs.size = cur.size) (h1 : ∀ v ∈ cs.toList, v.oneCell' = true) (hi : (P.info? ty).map (·.size) = some cs.size) :
  (storeVar ty ⟨W.heap.size, 0, none⟩ (.agg cs)).run P (W.alloc (.cells cur t)) = .ok () (W.alloc (.cells cs t)) := by
 have h := run_storeCells_from (P := P) W.heap.size t cs.toList 0 cur (W.alloc (.cells cur t)) (heap_alloc_new W _) (by simpa using hs) h1
 simp only [List.take_zero, List.nil_append, Array.toArray_toList, alloc_setRow] at h
 cases hq : P.info? ty with
 | none => simp [hq] at hi
 | some i =>
  have hsz : i.size = cs.size := by simpa [hq] using hi
  simp [storeVar, Value.cells, Sem.run_bind, sizeOf, typeInfo, hq, hsz, h]
theorem wpList_store_new {P : Program} {ops : Array Oper} {rest : List Oper} {o : Oper} {a : Act} {W : World} {Q : Exit -> Act -> World -> Prop} (hgd : o.guard = none) (ty : TypeId) (x v : Operand) (ho : o.op = .store ty x v)
  (t : TypeId) (cur cs : Array Value) (hx : a.eval x = .pointer (some ⟨W.heap.size, 0, none⟩)) (hv : a.eval v = .agg cs) (hs : cs.size = cur.size) (h1 : ∀ v ∈ cs.toList, v.oneCell' = true) (hi : (P.info? ty).map (·.size) = some cs.size)
  (h : wpList P ops Q rest (a.put o.dst undef) (W.alloc (.cells cs t))) : wpList P ops Q (o :: rest) a (W.alloc (.cells cur t)) := by
 refine wpList_plain hgd fun _ hK => ?_
 unfold Oper.wp execOp
 simp only [ho, hx, hv, Instr.storeAt, Instr.sureAddr, Sem.run_bind, Sem.run_pure, Result.andThen_ok, run_storeVar_new W ty t cur cs hs h1 hi]
 exact hK _ _ h
theorem wpList_alloc_is {P : Program} {ops : Array Oper} {rest : List Oper} {o : Oper} {a : Act} {W : World} {Q : Exit -> Act -> World -> Prop} (hgd : o.guard = none) (ty : TypeId) (ho : o.op = .alloc ty) (O : Obj)
  (hr : (Instr.alloc ty true (.tuple #[])).run P W = .ok (.pointer (some ⟨W.heap.size, 0, none⟩)) (W.alloc O))
  (h : wpList P ops Q rest (a.put o.dst (.pointer (some ⟨W.heap.size, 0, none⟩))) (W.alloc O)) : wpList P ops Q (o :: rest) a W := by
 refine wpList_plain hgd fun _ hK => ?_
 unfold Oper.wp execOp
 simp only [ho, Sem.run_bind, Result.andThen_ok, hr]
 exact hK _ _ h
theorem wpList_build_is {P : Program} {ops : Array Oper} {rest : List Oper} {o : Oper} {a : Act} {W : World} {Q : Exit -> Act -> World -> Prop} (hgd : o.guard = none) (ty : TypeId) (parts : Array (Nat × Operand)) (ho : o.op = .build ty parts) (ps : Array (Nat × Value)) (hps : parts.map (fun (i, x) => (i, a.eval x)) = ps) (v : Value)
  (hr : (Instr.build ty ps).run P W = .ok v W)
  (h : wpList P ops Q rest (a.put o.dst v) W) : wpList P ops Q (o :: rest) a W := by
 refine wpList_plain hgd fun _ hK => ?_
 unfold Oper.wp execOp
 simp only [ho, hps, Sem.run_bind, Result.andThen_ok, hr]
 exact hK _ _ h
theorem wp_store_row {P : Program} {op : Oper} {a : Act} {w : World} {K : Act -> World -> Prop} {Q : Exit -> Act -> World -> Prop} (ty : TypeId) (x y : Operand) (d : Option Tmp) (ho : op.op = .store ty x y) (hd : op.dst = d)
  (b : Nat) (t : TypeId) (old cells : Array Value) (hx : a.eval x = .pointer (some ⟨b, 0, none⟩)) (hy : a.eval y = .agg cells)
  (hg : w.heap[b]? = some (.cells old t (0, 0))) (hs : old.size = cells.size) (hi : (P.info? ty).map (·.size) = some cells.size) (h1 : cells.all (·.oneCell') = true)
  (h : K (a.put d undef) (w.setRow b cells)) : op.wp P a w K Q := by
 subst hd
 unfold Oper.wp execOp
 simp only [ho, hx, hy, Instr.storeAt, Instr.sureAddr, Sem.run_bind, Sem.run_pure, Result.andThen_ok, run_storeVar_row w b t ty old cells hg hi hs h1]
 exact h
end Go.Proofs.YtobnfmneeabomaaGreat
namespace Go.Proofs.YtobnfmneeabomaaGreat
namespace R1
open Go.RowKit
theorem intSize : (Tryz.prog.info? 72).map (·.size) = some 2 := by kernel_rfl

def RegS (w : World) (X Y : Array Value) (W' : World) : Prop :=
 Below w.heap.size w W' /\ W'.heap[w.heap.size]? = some (.cells X 72 (0, 0)) /\ W'.heap[w.heap.size + 1]? = some (.cells Y 72 (0, 0)) /\ ∃ cs : Array Value, W'.heap[w.heap.size + 2]? = some (.cells cs 72 (0, 0)) /\ cs.size = 2
theorem RegS.lt {w W : World} {X Y : Array Value} (h : RegS w X Y W) : w.heap.size + 2 < W.heap.size := by
 obtain ⟨_, _, _, cs, h, _⟩ := h
 exact (Array.getElem?_eq_some_iff.1 h).1
theorem RegS.step {w W W' : World} {X Y : Array Value} (h : RegS w X Y W) (hb : Below W.heap.size W W') : RegS w X Y W' := by
 have hlt := h.lt
 obtain ⟨h1, h2, h3, cs, h4, h5⟩ := h
 exact ⟨h1.trans (hb.mono h1.size), (hb.block _ (by omega)).trans h2, (hb.block _ (by omega)).trans h3, cs, (hb.block _ hlt).trans h4, h5⟩
theorem RegS.store {w W : World} {X Y : Array Value} (h : RegS w X Y W) (cs : Array Value) (hc : cs.size = 2) : RegS w X Y (W.setRow (w.heap.size + 2) cs) := by
 obtain ⟨h1, h2, h3, ds, h4, h5⟩ := h
 exact ⟨below_setRow h1 (by omega) _, (setRow_other _ _ _ _ (by omega)).trans h2, (setRow_other _ _ _ _ (by omega)).trans h3, cs, setRow_heap _ _ _ _ _ _ h4, hc⟩
theorem RegS.start (w : World) (X Y : Array Value) : RegS w X Y (((w.alloc (.cells X 72)).alloc (.cells Y 72)).alloc (.cells #[.bool false, .slice none 0 0] 72)) := by
 refine ⟨(((Below.refl _ _).alloc (Nat.le_refl _) _).alloc (by simp) _).alloc (by simp; omega) _, ?_, ?_, #[.bool false, .slice none 0 0], ?_, rfl⟩
 ·rw [Below.heap_alloc _ _ _ (by simp; omega), Below.heap_alloc _ _ _ (by simp)]; exact heap_alloc_new w _
 ·rw [Below.heap_alloc _ _ _ (by simp)]
  have := heap_alloc_new (w.alloc (.cells X 72)) (.cells Y 72)
  rwa [show (w.alloc (.cells X 72)).heap.size = w.heap.size + 1 by simp] at this
 ·have := heap_alloc_new ((w.alloc (.cells X 72)).alloc (.cells Y 72)) (.cells #[.bool false, .slice none 0 0] 72)
  rwa [show ((w.alloc (.cells X 72)).alloc (.cells Y 72)).heap.size = w.heap.size + 2 by simp] at this

theorem RegS.drew {w W : World} {X Y : Array Value} (h : RegS w X Y W) : RegS w X Y W.drew := ⟨below_drawn h.1 1, h.2⟩

section
variable (w : World)
end
end R1
end Go.Proofs.YtobnfmneeabomaaGreat
