/- My texts Awake, LawSpot. -/
import Derived.Test.YtalfikdjclineaaGreatDoorG03
import Derived.Test.YtalfikdjclineaaGreatDoorG21
set_option linter.unusedVariables false
set_option linter.unusedSimpArgs false
set_option maxRecDepth 100000
set_option maxHeartbeats 8000000
namespace Go.Proofs.YtalfikdjclineaaGreatDoor
open Go.RowKit Go.Shelf

theorem run_loadVar_list {P : Program} (w : World) (a : Addr) (ty : TypeId) (cs : Array Value) (d : TypeDesc) (hc : ∀ j v, cs[j]? = some v -> w.cell? (a.add j) = some v)
    (hu : P.underlying ty = some d) (hd : (match d with | .struct _ | .array _ _ => true | _ => false) = true) (hi : (P.info? ty).map (·.size) = some cs.size) : (loadVar ty a).run P w = .ok (.agg cs) w := by
  have hl : (loadCells a cs.toList.length).run P w = .ok cs.toList.toArray w := run_loadCells_list (P := P) w a cs.toList (fun j v hv => hc j v (by simpa using hv))
  cases hq : P.info? ty with
  | none => simp [hq] at hi
  | some i =>
    have hs : i.size = cs.size := by simpa [hq] using hi
    have hagg : (isAgg ty).run P w = .ok true w := by
      unfold isAgg
      rw [Sem.run_bind, run_underlying hu w]
      cases d <;> simp_all
    simp only [Array.length_toList, Array.toArray_toList] at hl
    simp [loadVar, Sem.run_bind, hagg, sizeOf, typeInfo, hq, hs, hl]
theorem wpList_load_list {P : Program} {ops : Array Oper} {rest : List Oper} {o : Oper} {a : Act} {w : World} {Q : Exit -> Act -> World -> Prop} (hgd : o.guard = none) (ty : TypeId) (x : Operand) (ho : o.op = .load ty x)
    (ad : Addr) (hx : a.eval x = .pointer (some ad)) (cs : Array Value) (d : TypeDesc) (hc : ∀ j v, cs[j]? = some v -> w.cell? (ad.add j) = some v)
    (hu : P.underlying ty = some d) (hd : (match d with | .struct _ | .array _ _ => true | _ => false) = true) (hi : (P.info? ty).map (·.size) = some cs.size)
    (h : wpList P ops Q rest (a.put o.dst (.agg cs)) w) : wpList P ops Q (o :: rest) a w := by
  refine wpList_plain hgd fun _ hK => ?_
  unfold Oper.wp execOp
  simp only [ho, hx, Instr.loadAt, Instr.sureAddr, Sem.run_bind, Sem.run_pure, Result.andThen_ok, run_loadVar_list w ad ty cs d hc hu hd hi]
  exact hK _ _ h
theorem part_of {w : World} {g : Nat} {t : TypeId} {fr : Nat × Nat} {cs more : Array Value} (hg : w.heap[g]? = some (.cells (cs ++ more) t fr)) : ∀ j v, cs[j]? = some v -> w.cell? ((⟨g, 0, none⟩ : Addr).add j) = some v := by
  intro j v hv
  have hadd : (⟨g, 0, none⟩ : Addr).add j = ⟨g, j, none⟩ := by unfold Addr.add; split <;> simp_all
  rw [hadd, cell_of_row _ _ _ _ _ _ hg, Array.getElem?_append_left (Array.getElem?_eq_some_iff.1 hv).1]
  exact hv

section
variable (w : World)
theorem spot_any (g : Grp) (A : Option Addr) (n c : Nat) (rs : List Rt) (cur : ByteArray) (d : Int) (hl : rs.length = n) (hn : n <= 1000) (hg : g.gc.size <= maxLen) (hcu : cur.size <= maxLen) (hr : ∀ r ∈ rs, r.wf) (h : RatesAt w w.heap.size A rs) :
    Calls Tryz.prog 13 #[.agg #[.string g.gc, .int .i64 g.Y, .int .i64 g.M, .int .i64 g.N, g.x0, g.x1, g.x2, g.x3, g.x4, g.x5, g.x6, g.x7, g.x8, g.x9, g.x10, g.x11, g.x12, g.x13, g.x14, g.x15, g.x16], .slice A n c, .string cur, .int .i64 d] w fun e w' => e = .returned (.tuple #[.int .i64 (Rates.whichR g.gc rs cur d).1.val, .int .i64 (Rates.whichR g.gc rs cur d).2]) /\ Below w.heap.size w w' := by
  have HR := Lib.hid (h.start (.cells #[.string g.gc, .int .i64 g.Y, .int .i64 g.M, .int .i64 g.N, g.x0, g.x1, g.x2, g.x3, g.x4, g.x5, g.x6, g.x7, g.x8, g.x9, g.x10, g.x11, g.x12, g.x13, g.x14, g.x15, g.x16] 29))
  clear h
  have hB0 := (Below.refl w.heap.size w).alloc (Nat.le_refl _) (.cells #[.string g.gc, .int .i64 g.Y, .int .i64 g.M, .int .i64 g.N, g.x0, g.x1, g.x2, g.x3, g.x4, g.x5, g.x6, g.x7, g.x8, g.x9, g.x10, g.x11, g.x12, g.x13, g.x14, g.x15, g.x16] 29)
  have hG := heap_alloc_new w (.cells #[.string g.gc, .int .i64 g.Y, .int .i64 g.M, .int .i64 g.N, g.x0, g.x1, g.x2, g.x3, g.x4, g.x5, g.x6, g.x7, g.x8, g.x9, g.x10, g.x11, g.x12, g.x13, g.x14, g.x15, g.x16] 29)
  obtain ⟨x, hx⟩ : ∃ x, Rates.whichR g.gc rs cur d = x := ⟨_, rfl⟩
  have Hx := Lib.hid hx
  rw [hx]
  clear hx
  go_enter Tryz.func13, Tryz.ntmps13
  go_wp2_with (refine wpList_load_row rfl 29 _ rfl _ rfl _ _ _ _ hG Tryz.underlying29 rfl gsize ?_)
  refine (dwhich_any _ _ _ _ _ rs _ _ hl hn hg hcu hr HR.out).mono ?_
  rw [Hx.out]
  rintro e w4 ⟨rfl, hB⟩
  have hB1 := hB0.trans (hB.mono (by simp))
  unfold Rt.v
  go_wp2
  go_ret2
  exact ⟨rfl, hB1.alloc hB1.size _⟩

theorem lfew_any (g : Grp) (A : Option Addr) (n c : Nat) (rs : List Rt) (cur : ByteArray) (hl : rs.length = n) (hn : n <= maxLen) (hg : g.gc.size <= maxLen) (hcu : cur.size <= maxLen) (hr : ∀ r ∈ rs, r.wf) (h : RatesAt w w.heap.size A rs) :
    Calls Tryz.prog 6 #[.agg #[.string g.gc, .int .i64 g.Y, .int .i64 g.M, .int .i64 g.N, g.x0, g.x1, g.x2, g.x3, g.x4, g.x5, g.x6, g.x7, g.x8, g.x9, g.x10, g.x11, g.x12, g.x13, g.x14, g.x15, g.x16, .slice A n c], .string cur] w fun e w' => e = .returned (.bool (fewB g rs && decide (cur.size <= 20))) /\ Below w.heap.size w w' := by
  have HR := Lib.hid (h.start (.cells #[.string g.gc, .int .i64 g.Y, .int .i64 g.M, .int .i64 g.N, g.x0, g.x1, g.x2, g.x3, g.x4, g.x5, g.x6, g.x7, g.x8, g.x9, g.x10, g.x11, g.x12, g.x13, g.x14, g.x15, g.x16, .slice A n c] 32))
  clear h
  have hB0 := (Below.refl w.heap.size w).alloc (Nat.le_refl _) (.cells #[.string g.gc, .int .i64 g.Y, .int .i64 g.M, .int .i64 g.N, g.x0, g.x1, g.x2, g.x3, g.x4, g.x5, g.x6, g.x7, g.x8, g.x9, g.x10, g.x11, g.x12, g.x13, g.x14, g.x15, g.x16, .slice A n c] 32)
  have hG := part_of (cs := #[.string g.gc, .int .i64 g.Y, .int .i64 g.M, .int .i64 g.N, g.x0, g.x1, g.x2, g.x3, g.x4, g.x5, g.x6, g.x7, g.x8, g.x9, g.x10, g.x11, g.x12, g.x13, g.x14, g.x15, g.x16]) (more := #[.slice A n c]) (heap_alloc_new w (.cells #[.string g.gc, .int .i64 g.Y, .int .i64 g.M, .int .i64 g.N, g.x0, g.x1, g.x2, g.x3, g.x4, g.x5, g.x6, g.x7, g.x8, g.x9, g.x10, g.x11, g.x12, g.x13, g.x14, g.x15, g.x16, .slice A n c] 32))
  have hcu' := hcu
  unfold maxLen at hcu'
  cases hf : fewB g rs with
  | true =>
    by_cases h20 : cur.size <= 20
    all_goals
      go_enter Tryz.func6, Tryz.ntmps6
      go_wp2_with (refine wpList_load_list rfl 29 _ rfl _ rfl _ _ hG Tryz.underlying29 rfl gsize ?_)
      refine (few_any _ _ _ _ _ rs hl hn hg hr HR.out).mono ?_
      rw [hf]
      rintro e w4 ⟨rfl, hB⟩
      have hB1 := hB0.trans (hB.mono (by simp))
      go_wp2
      go_ret
      exact ⟨ret_bool (by simp [h20] <;> omega), hB1⟩
  | false =>
    go_enter Tryz.func6, Tryz.ntmps6
    go_wp2_with (refine wpList_load_list rfl 29 _ rfl _ rfl _ _ hG Tryz.underlying29 rfl gsize ?_)
    refine (few_any _ _ _ _ _ rs hl hn hg hr HR.out).mono ?_
    rw [hf]
    rintro e w4 ⟨rfl, hB⟩
    have hB1 := hB0.trans (hB.mono (by simp))
    go_wp2
    go_ret
    exact ⟨rfl, hB1⟩
end

def eur : ByteArray := ⟨#[69, 85, 82]⟩
def usd : ByteArray := ⟨#[85, 83, 68]⟩
def exG : Grp := ⟨eur, 2024, 10, 12, .slice none 0 0, .int .i64 0, .int .i64 0, .int .i64 0, .int .i64 0, .int .i64 0, .int .i64 0, .int .i64 0, .int .i64 0, .int .i64 0, .int .i64 0, .int .i64 0, .int .i64 0, .int .i64 0, .int .i64 0, .int .i64 0, .slice none 0 0⟩
def exR : List Rt := [⟨usd, 1, 20000, 900000⟩, ⟨usd, 1, 20010, 940000⟩]
theorem ex1 : ((Rates.whichR eur exR usd 20009).1.val, (Rates.whichR eur exR usd 20009).2) = (900000, 0) := by decide +kernel
theorem ex2 : ((Rates.whichR eur exR usd 20050).1.val, (Rates.whichR eur exR usd 20050).2) = (940000, 0) := by decide +kernel
theorem ex3 : Rates.avg exG exR usd 0 = (920000, 0) := by decide +kernel

theorem exR_wf : ∀ r ∈ exR, r.wf := by
  intro r hr
  simp only [exR, List.mem_cons, List.not_mem_nil, or_false] at hr
  rcases hr with rfl | rfl
  all_goals exact ⟨by decide, by decide, by decide, by decide⟩
theorem exRates (W : World) (g : Nat) (t : TypeId) (h : W.heap[g]? = some (.cells #[.string usd, .int .i64 1, .int .i64 20000, .int .i64 900000, .string usd, .int .i64 1, .int .i64 20010, .int .i64 940000] t (0, 0))) : RatesAt W W.heap.size (some ⟨g, 0, none⟩) exR := by
  refine .inr ⟨g, 0, rfl, (Array.getElem?_eq_some_iff.1 h).1, fun k hk => ?_⟩
  have hc := fun j => cell_of_row _ _ j _ _ _ h
  have hk' : k = 0 ∨ k = 1 := by have : k < 2 := hk; omega
  rcases hk' with rfl | rfl
  · exact ⟨hc 0, hc 1, hc 2, hc 3⟩
  · exact ⟨hc 4, hc 5, hc 6, hc 7⟩

theorem ex_spot (W : World) (b c : Nat) (d : Int) (h : RatesAt W W.heap.size (some ⟨b, 0, none⟩) exR) :
    Calls Tryz.prog 13 #[.agg #[.string ⟨#[69, 85, 82]⟩, .int .i64 2024, .int .i64 10, .int .i64 12, .slice none 0 0, .int .i64 0, .int .i64 0, .int .i64 0, .int .i64 0, .int .i64 0, .int .i64 0, .int .i64 0, .int .i64 0, .int .i64 0, .int .i64 0, .int .i64 0, .int .i64 0, .int .i64 0, .int .i64 0, .int .i64 0, .slice none 0 0], .slice (some ⟨b, 0, none⟩) 2 c, .string ⟨#[85, 83, 68]⟩, .int .i64 d] W fun e w' => e = .returned (.tuple #[.int .i64 (Rates.whichR eur exR usd d).1.val, .int .i64 (Rates.whichR eur exR usd d).2]) /\ Below W.heap.size W w' :=
  spot_any W exG (some ⟨b, 0, none⟩) 2 c exR usd d rfl (by omega) (by decide) (by decide) exR_wf h
theorem ex_avg (W : World) (b c : Nat) (h : RatesAt W W.heap.size (some ⟨b, 0, none⟩) exR) :
    Calls Tryz.prog 14 #[.agg #[.string ⟨#[69, 85, 82]⟩, .int .i64 2024, .int .i64 10, .int .i64 12, .slice none 0 0, .int .i64 0, .int .i64 0, .int .i64 0, .int .i64 0, .int .i64 0, .int .i64 0, .int .i64 0, .int .i64 0, .int .i64 0, .int .i64 0, .int .i64 0, .int .i64 0, .int .i64 0, .int .i64 0, .int .i64 0, .slice none 0 0], .slice (some ⟨b, 0, none⟩) 2 c, .string ⟨#[85, 83, 68]⟩, .int .i64 0] W fun e w' => e = .returned (.tuple #[.int .i64 (Rates.avg exG exR usd 0).1, .int .i64 (Rates.avg exG exR usd 0).2]) /\ Below W.heap.size W w' :=
  davg_any W exG (some ⟨b, 0, none⟩) 2 c exR usd 0 rfl (by omega) (by decide) (by decide) exR_wf h

theorem awake_any (w : World) : Calls Tryz.prog 5 #[] w fun e w' => e = .returned (.bool true) /\ Below w.heap.size w w' := by
  have hG := heap_alloc2_old w (.cells #[.string ⟨#[69, 85, 82]⟩, .int .i64 2024, .int .i64 10, .int .i64 12, .slice none 0 0, .int .i64 0, .int .i64 0, .int .i64 0, .int .i64 0, .int .i64 0, .int .i64 0, .int .i64 0, .int .i64 0, .int .i64 0, .int .i64 0, .int .i64 0, .int .i64 0, .int .i64 0, .int .i64 0, .int .i64 0, .slice none 0 0] 29) (.cells #[.string ⟨#[85, 83, 68]⟩, .int .i64 1, .int .i64 20000, .int .i64 900000, .string ⟨#[85, 83, 68]⟩, .int .i64 1, .int .i64 20010, .int .i64 940000] 59)
  have hR := heap_alloc2_new w (.cells #[.string ⟨#[69, 85, 82]⟩, .int .i64 2024, .int .i64 10, .int .i64 12, .slice none 0 0, .int .i64 0, .int .i64 0, .int .i64 0, .int .i64 0, .int .i64 0, .int .i64 0, .int .i64 0, .int .i64 0, .int .i64 0, .int .i64 0, .int .i64 0, .int .i64 0, .int .i64 0, .int .i64 0, .int .i64 0, .slice none 0 0] 29) (.cells #[.string ⟨#[85, 83, 68]⟩, .int .i64 1, .int .i64 20000, .int .i64 900000, .string ⟨#[85, 83, 68]⟩, .int .i64 1, .int .i64 20010, .int .i64 940000] 59)
  have hB0 := ((Below.refl w.heap.size w).alloc (Nat.le_refl _) (.cells #[.string ⟨#[69, 85, 82]⟩, .int .i64 2024, .int .i64 10, .int .i64 12, .slice none 0 0, .int .i64 0, .int .i64 0, .int .i64 0, .int .i64 0, .int .i64 0, .int .i64 0, .int .i64 0, .int .i64 0, .int .i64 0, .int .i64 0, .int .i64 0, .int .i64 0, .int .i64 0, .int .i64 0, .int .i64 0, .slice none 0 0] 29)).alloc (by simp) (.cells #[.string ⟨#[85, 83, 68]⟩, .int .i64 1, .int .i64 20000, .int .i64 900000, .string ⟨#[85, 83, 68]⟩, .int .i64 1, .int .i64 20010, .int .i64 940000] 59)
  have HR := Lib.hid (exRates _ _ _ hR)
  have e1 := Lib.hid (Prod.mk.injEq _ _ _ _ ▸ ex1)
  have e2 := Lib.hid (Prod.mk.injEq _ _ _ _ ▸ ex2)
  have e3 := Lib.hid ex3
  go_enter Tryz.func5, Tryz.ntmps5
  have h1c : ∀ v ∈ (#[.string ⟨#[69, 85, 82]⟩, .int .i64 2024, .int .i64 10, .int .i64 12, .slice none 0 0, .int .i64 0, .int .i64 0, .int .i64 0, .int .i64 0, .int .i64 0, .int .i64 0, .int .i64 0, .int .i64 0, .int .i64 0, .int .i64 0, .int .i64 0, .int .i64 0, .int .i64 0, .int .i64 0, .int .i64 0, .slice none 0 0] : Array Value).toList, v.oneCell' = true := by simp [Value.oneCell']
  go_wp2_with (first | (refine wpList_store_new rfl 29 _ _ rfl 29 _ #[.string ⟨#[69, 85, 82]⟩, .int .i64 2024, .int .i64 10, .int .i64 12, .slice none 0 0, .int .i64 0, .int .i64 0, .int .i64 0, .int .i64 0, .int .i64 0, .int .i64 0, .int .i64 0, .int .i64 0, .int .i64 0, .int .i64 0, .int .i64 0, .int .i64 0, .int .i64 0, .int .i64 0, .int .i64 0, .slice none 0 0] rfl rfl rfl h1c gsize ?_) | (refine wpList_load_row rfl 29 _ rfl _ rfl _ _ _ _ hG Tryz.underlying29 rfl gsize ?_))
  refine (ex_spot _ _ _ _ HR.out).mono ?_
  rw [e1.out.1, e1.out.2]
  rintro e w4 ⟨rfl, hB⟩
  have hB1 := hB0.trans (hB.mono (by simp; omega))
  have hz := hB.size
  simp at hz
  have hG4 := gbox hG hB (by simp; omega)
  have hR4 := gbox hR hB (by simp)
  clear hG hR HR
  have HR4 := Lib.hid (exRates _ _ _ hR4)
  go_wp2_with (refine wpList_load_row rfl 29 _ rfl _ rfl _ _ _ _ hG4 Tryz.underlying29 rfl gsize ?_)
  refine (ex_spot _ _ _ _ HR4.out).mono ?_
  rw [e2.out.1, e2.out.2]
  rintro e w5 ⟨rfl, hB5⟩
  have hB2 := hB1.trans (hB5.mono hB1.size)
  have hG5 := gbox hG4 hB5 (by omega)
  have hR5 := gbox hR4 hB5 (by omega)
  clear hG4 hR4 HR4
  have HR5 := Lib.hid (exRates _ _ _ hR5)
  go_wp2_with (refine wpList_load_row rfl 29 _ rfl _ rfl _ _ _ _ hG5 Tryz.underlying29 rfl gsize ?_)
  refine (ex_avg _ _ _ HR5.out).mono ?_
  rw [e3.out]
  rintro e w6 ⟨rfl, hB6⟩
  have hB3 := hB2.trans (hB6.mono hB2.size)
  clear hG5 hR5
  go_wp2
  go_ret
  exact ⟨rfl, hB3⟩
end Go.Proofs.YtalfikdjclineaaGreatDoor
namespace Go.Proofs.YtalfikdjclineaaGreatDoor
open Go.RowKit Go.Shelf

theorem bsize : (Tryz.prog.info? 32).map (·.size) = some 22 := by kernel_rfl
theorem bsplit {W : World} {b : Nat} {g : Grp} {A : Option Addr} {n c : Nat} (h : W.heap[b]? = some (.cells #[.string g.gc, .int .i64 g.Y, .int .i64 g.M, .int .i64 g.N, g.x0, g.x1, g.x2, g.x3, g.x4, g.x5, g.x6, g.x7, g.x8, g.x9, g.x10, g.x11, g.x12, g.x13, g.x14, g.x15, g.x16, .slice A n c] 32)) : W.heap[b]? = some (.cells (#[.string g.gc, .int .i64 g.Y, .int .i64 g.M, .int .i64 g.N, g.x0, g.x1, g.x2, g.x3, g.x4, g.x5, g.x6, g.x7, g.x8, g.x9, g.x10, g.x11, g.x12, g.x13, g.x14, g.x15, g.x16] ++ #[.slice A n c]) 32 (0, 0)) := h
theorem bslice {W : World} {b : Nat} {g : Grp} {A : Option Addr} {n c : Nat} (h : W.heap[b]? = some (.cells #[.string g.gc, .int .i64 g.Y, .int .i64 g.M, .int .i64 g.N, g.x0, g.x1, g.x2, g.x3, g.x4, g.x5, g.x6, g.x7, g.x8, g.x9, g.x10, g.x11, g.x12, g.x13, g.x14, g.x15, g.x16, .slice A n c] 32)) : W.cell? ⟨b, 21, none⟩ = some (.slice A n c) := by rw [cell_of_row _ _ 21 _ _ _ h]; rfl
theorem fewB_iff (g : Grp) (rs : List Rt) (cur : ByteArray) (h : (fewB g rs && decide (cur.size <= 20)) = true) : rs.length <= 150 := by
  unfold fewB at h
  simp only [Bool.and_eq_true, decide_eq_true_eq] at h
  exact h.1.2

section
variable (w : World)
end
end Go.Proofs.YtalfikdjclineaaGreatDoor
