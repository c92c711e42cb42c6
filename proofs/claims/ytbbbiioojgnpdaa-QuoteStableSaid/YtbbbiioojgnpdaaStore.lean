/- A whole struct stored into the block that was just made for it: one step. -/
import Derived.WalkKit
namespace Go.Proofs.Ytbbbiioojgnpdaa
open Go.RowKit
theorem alloc_setRow (W : World) (cur cs : Array Value) (t : TypeId) : (W.alloc (.cells cur t)).setRow W.heap.size cs = W.alloc (.cells cs t) := by
  unfold World.setRow World.alloc
  congr 1
  apply Array.ext
  · simp
  · intro i h1 h2
    simp only [Array.getElem_modify, Array.getElem_push]
    by_cases h : W.heap.size = i
    · subst h; simp
    · have hi : i < W.heap.size := by simp at h1; omega
      simp [h, hi]
theorem run_storeVar_new {P : Program} (W : World) (ty t : TypeId) (cur cs : Array Value) (hs : cs.size = cur.size) (h1 : ∀ v ∈ cs.toList, v.oneCell' = true) (hi : (P.info? ty).map (·.size) = some cs.size) :
    (storeVar ty ⟨W.heap.size, 0, none⟩ (.agg cs)).run P (W.alloc (.cells cur t)) = .ok () (W.alloc (.cells cs t)) := by
  have h := run_storeCells_from (P := P) W.heap.size t cs.toList 0 cur (W.alloc (.cells cur t)) (heap_alloc_new W _) (by simpa using hs) h1
  simp only [List.take_zero, List.nil_append, Array.toArray_toList, alloc_setRow] at h
  cases hq : P.info? ty with
  | none => simp [hq] at hi
  | some i =>
    have hsz : i.size = cs.size := by simpa [hq] using hi
    simp [storeVar, Value.cells, Sem.run_bind, sizeOf, typeInfo, hq, hsz, h]
/-- .. as a step of the walk. -/
theorem wpList_store_new {P : Program} {ops : Array Oper} {rest : List Oper} {o : Oper} {a : Act} {W : World} {Q : Exit → Act → World → Prop} (hgd : o.guard = none) (ty : TypeId) (x v : Operand) (ho : o.op = .store ty x v)
    (t : TypeId) (cur cs : Array Value) (hx : a.eval x = .pointer (some ⟨W.heap.size, 0, none⟩)) (hv : a.eval v = .agg cs) (hs : cs.size = cur.size) (h1 : ∀ v ∈ cs.toList, v.oneCell' = true) (hi : (P.info? ty).map (·.size) = some cs.size)
    (h : wpList P ops Q rest (a.put o.dst undef) (W.alloc (.cells cs t))) : wpList P ops Q (o :: rest) a (W.alloc (.cells cur t)) := by
  refine wpList_plain hgd fun _ hK => ?_
  unfold Oper.wp execOp
  simp only [ho, hx, hv, Instr.storeAt, Instr.sureAddr, Sem.run_bind, Sem.run_pure, Result.andThen_ok, run_storeVar_new W ty t cur cs hs h1 hi]
  exact hK _ _ h
/-- A new variable of a large type, its zero value known beforehand. -/
theorem wpList_alloc_is {P : Program} {ops : Array Oper} {rest : List Oper} {o : Oper} {a : Act} {W : World} {Q : Exit → Act → World → Prop} (hgd : o.guard = none) (ty : TypeId) (ho : o.op = .alloc ty) (O : Obj)
    (hr : (Instr.alloc ty true (.tuple #[])).run P W = .ok (.pointer (some ⟨W.heap.size, 0, none⟩)) (W.alloc O))
    (h : wpList P ops Q rest (a.put o.dst (.pointer (some ⟨W.heap.size, 0, none⟩))) (W.alloc O)) : wpList P ops Q (o :: rest) a W := by
  refine wpList_plain hgd fun _ hK => ?_
  unfold Oper.wp execOp
  simp only [ho, Sem.run_bind, Result.andThen_ok, hr]
  exact hK _ _ h
theorem wpList_build_is {P : Program} {ops : Array Oper} {rest : List Oper} {o : Oper} {a : Act} {W : World} {Q : Exit → Act → World → Prop} (hgd : o.guard = none) (ty : TypeId) (parts : Array (Nat × Operand)) (ho : o.op = .build ty parts) (ps : Array (Nat × Value)) (hps : parts.map (fun (i, x) => (i, a.eval x)) = ps) (v : Value)
    (hr : (Instr.build ty ps).run P W = .ok v W)
    (h : wpList P ops Q rest (a.put o.dst v) W) : wpList P ops Q (o :: rest) a W := by
  refine wpList_plain hgd fun _ hK => ?_
  unfold Oper.wp execOp
  simp only [ho, hps, Sem.run_bind, Result.andThen_ok, hr]
  exact hK _ _ h
end Go.Proofs.Ytbbbiioojgnpdaa
