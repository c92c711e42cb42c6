/- The walk of the law's with: one rate ahead of the others, and whether all are valid. -/
import Derived.Test.YtbbbiioojgnpdaaLawSpot
import Derived.Test.YtbbbiioojgnpdaaSame
import Derived.Deep.RegionHeld3
import Derived.Laws.AppendOwnNone
import Derived.Laws.CopyOwn
namespace Go.Proofs.Ytbbbiioojgnpdaa
open Go.RowKit Go.Shelf

theorem RatesAt.other {w w' : World} {B : Nat} {A : Option Addr} {rs : List Rt} (h : RatesAt w B A rs) (hg : ∀ b o, A = some ⟨b, o, none⟩ → w'.heap[b]? = w.heap[b]?) : RatesAt w' B A rs := by
  rcases h with h | ⟨b, o, e, hl, hc⟩
  · exact .inl h
  · have hb := hg b o e
    refine .inr ⟨b, o, e, hl, fun k hk => ?_⟩
    obtain ⟨h0, h1, h2, h3⟩ := hc k hk
    exact ⟨(World.cell?_of_block (w := w) hb).trans h0, (World.cell?_of_block (w := w) hb).trans h1, (World.cell?_of_block (w := w) hb).trans h2, (World.cell?_of_block (w := w) hb).trans h3⟩
theorem own_block {W : World} {base n : Nat} {A : Option Addr} {m c : Nat} {xs : List Value} {e : TypeId} {size : Nat} (h : W.ownsRow base e size (.slice A m c) n xs) : ∀ b o, A = some ⟨b, o, none⟩ → base ≤ b := by
  intro b o hA
  rcases h.2 with ⟨e, _⟩ | ⟨g, cap, cur, e, hb, _⟩
  · subst hA; cases e
  · subst hA; cases e; exact hb
/-- A whole struct stored into a block that is known whole. -/
theorem wp_store_row {P : Program} {op : Oper} {a : Act} {w : World} {K : Act → World → Prop} {Q : Exit → Act → World → Prop} (ty : TypeId) (x y : Operand) (d : Option Tmp) (ho : op.op = .store ty x y) (hd : op.dst = d)
    (b : Nat) (t : TypeId) (old cells : Array Value) (hx : a.eval x = .pointer (some ⟨b, 0, none⟩)) (hy : a.eval y = .agg cells)
    (hg : w.heap[b]? = some (.cells old t (0, 0))) (hs : old.size = cells.size) (hi : (P.info? ty).map (·.size) = some cells.size) (h1 : cells.all (·.oneCell') = true)
    (h : K (a.put d undef) (w.setRow b cells)) : op.wp P a w K Q := by
  subst hd
  unfold Oper.wp execOp
  simp only [ho, hx, hy, Instr.storeAt, Instr.sureAddr, Sem.run_bind, Sem.run_pure, Result.andThen_ok, run_storeVar_row w b t ty old cells hg hi hs h1]
  exact h
/-- Each cell of a group is one. -/
def Grp.one (g : Grp) : Prop := ∀ v ∈ (#[.string g.gc, .int .i64 g.Y, .int .i64 g.M, .int .i64 g.N, g.x0, g.x1, g.x2, g.x3, g.x4, g.x5, g.x6, g.x7, g.x8, g.x9, g.x10, g.x11, g.x12, g.x13, g.x14, g.x15, g.x16] : Array Value).toList, v.oneCell' = true
theorem Grp.one_all {g : Grp} (h : g.one) (v : Value) (hv : v.oneCell' = true) : ((#[.string g.gc, .int .i64 g.Y, .int .i64 g.M, .int .i64 g.N, g.x0, g.x1, g.x2, g.x3, g.x4, g.x5, g.x6, g.x7, g.x8, g.x9, g.x10, g.x11, g.x12, g.x13, g.x14, g.x15, g.x16] ++ #[v] : Array Value).all (·.oneCell')) = true := by
  rw [Array.all_append, Bool.and_eq_true]
  refine ⟨Array.all_eq_true_iff_forall_mem.2 fun u hu => h u (by simpa using hu), ?_⟩
  simp [hv]

/-- What with returns. -/
def WithPost (g : Grp) (rs : List Rt) (r : Rt) (w : World) (e : Ending) (w' : World) : Prop :=
  Below w.heap.size w w' ∧ ∃ A n c, n = rs.length + 1 ∧ e = .returned (.tuple #[.agg #[.string g.gc, .int .i64 g.Y, .int .i64 g.M, .int .i64 g.N, g.x0, g.x1, g.x2, g.x3, g.x4, g.x5, g.x6, g.x7, g.x8, g.x9, g.x10, g.x11, g.x12, g.x13, g.x14, g.x15, g.x16, .slice A n c], .bool (Rates.valid g.gc (r :: rs))]) ∧ RatesAt w' w'.heap.size A (r :: rs)

/-- Rates in a block, as the cells that an append reads. -/
theorem rates_cells {w : World} {B : Nat} {a : Addr} {rs : List Rt} (h : RatesAt w B (some a) rs) : ∀ j u, (rowOf rs)[j]? = some u → w.cell? (a.add j) = some u := by
  intro j u hj
  have hjl : j < (rowOf rs).length := (List.getElem?_eq_some_iff.1 hj).1
  rw [rowOf_length] at hjl
  have hk : j / 4 < rs.length := by omega
  obtain ⟨b, o, e, _, c0, c1, c2, c3⟩ := h.look hk
  cases e
  have hd : j = j / 4 * 4 + j % 4 := by omega
  rw [hd, rowOf_get rs (j / 4) (j % 4) hk (by omega)] at hj
  have hadd : (⟨b, o, none⟩ : Addr).add j = ⟨b, o + j, none⟩ := Addr.add_mid b o j
  rw [hadd]
  have hm : j % 4 = 0 ∨ j % 4 = 1 ∨ j % 4 = 2 ∨ j % 4 = 3 := by omega
  rcases hm with hm | hm | hm | hm <;> rw [hm] at hj hd <;> simp [Rt.cells] at hj <;> subst hj
  · rw [show o + j = o + j / 4 * 4 by omega]; exact c0
  · rw [show o + j = o + j / 4 * 4 + 1 by omega]; exact c1
  · rw [show o + j = o + j / 4 * 4 + 2 by omega]; exact c2
  · rw [show o + j = o + j / 4 * 4 + 3 by omega]; exact c3

/-- append(l, rates...) onto a row of the call's own: the source nil or not. -/
theorem wpList_append_rates {w : World} {ops : Array Oper} {rest : List Oper} {o : Oper} {a : Act} {Q : Exit → Act → World → Prop} (hgd : o.guard = none) (s x : Operand)
    (ho : o.op = .call { callee := .builtin .append, args := #[s, x], argTypes := #[30, 30] }) (base : Nat)
    (v : Value) (n : Nat) (xs : List Value) (hs : a.eval s = v) (hown : w.ownsRow base 39 4 v n xs) (A : Option Addr) (m c : Nat) (rs : List Rt) (hx : a.eval x = .slice A m c) (hl : rs.length = m) (hA : A = none → m = 0 ∧ c = 0)
    (B : Nat) (hR : RatesAt w B A rs) (hlim : n + m ≤ 100000) (hbase : base ≤ w.heap.size)
    (h : ∀ v' w', w'.ownsRow base 39 4 v' (n + m) (xs ++ rowOf rs) → w.grownBy w' v.ownBlock → wpList Try.prog ops Q rest (a.put o.dst v') w') : wpList Try.prog ops Q (o :: rest) a w := by
  obtain ⟨i0, hi, hz0, hz1, hz2⟩ := info_parts info39
  subst hl
  cases A with
  | none =>
    obtain ⟨h1, rfl⟩ := hA rfl
    obtain rfl : rs = [] := List.length_eq_zero_iff.1 h1
    refine wpList_append_own_none hgd s x 30 ho base 39 i0 4 Try.underlying30 hi v n xs hs hown hx ?_
    refine h v w ?_ (grown_refl _ _)
    simpa [rowOf] using hown
  | some ad =>
    have hone : ∀ u ∈ rowOf rs, u.oneCell' = true := by
      intro u hu
      simp only [rowOf, List.mem_flatMap] at hu
      obtain ⟨x, _, hx⟩ := hu
      simp [Rt.cells] at hx
      rcases hx with rfl | rfl | rfl | rfl <;> rfl
    exact wpList_append_own w hgd s x 30 ho base 39 i0 Rt.zero.v 4 40 Try.underlying30 hi hz0 hz1 hz2 rfl (by decide) v n xs hs hown ad rs.length c (rowOf rs) hx (rowOf_length rs) (rates_cells hR) hone (by unfold maxLen; omega) (by omega) hbase fun v' w' h1 h2 _ => h v' w' h1 h2

def zeroBooks : Obj := .cells #[.string ⟨#[]⟩, .int .i64 0, .int .i64 0, .int .i64 0, .slice none 0 0, .int .i64 0, .int .i64 0, .int .i64 0, .int .i64 0, .int .i64 0, .int .i64 0, .int .i64 0, .int .i64 0, .int .i64 0, .int .i64 0, .int .i64 0, .int .i64 0, .int .i64 0, .int .i64 0, .int .i64 0, .slice none 0 0, .slice none 0 0] 32
section
variable (w : World)
/-- The world ahead of the append. -/
def withW (g : Grp) (A : Option Addr) (n c : Nat) (r : Rt) : World := ((((w.alloc (.cells #[.string g.gc, .int .i64 g.Y, .int .i64 g.M, .int .i64 g.N, g.x0, g.x1, g.x2, g.x3, g.x4, g.x5, g.x6, g.x7, g.x8, g.x9, g.x10, g.x11, g.x12, g.x13, g.x14, g.x15, g.x16, .slice A n c] 32)).alloc (.cells #[.string r.cur, .int .i64 r.kind, .int .i64 r.when_, .int .i64 r.val] 39)).alloc (.cells #[.string ⟨#[]⟩, .int .i64 0, .int .i64 0, .int .i64 0, .slice none 0 0, .int .i64 0, .int .i64 0, .int .i64 0, .int .i64 0, .int .i64 0, .int .i64 0, .int .i64 0, .int .i64 0, .int .i64 0, .int .i64 0, .int .i64 0, .int .i64 0, .int .i64 0, .int .i64 0, .int .i64 0, .slice none 0 0, .slice none 0 0] 32)).alloc (.cells #[.string r.cur, .int .i64 r.kind, .int .i64 r.when_, .int .i64 r.val] 39))
theorem withW_books (g : Grp) (A : Option Addr) (n c : Nat) (r : Rt) : (withW w g A n c r).heap[w.heap.size]? = some (.cells #[.string g.gc, .int .i64 g.Y, .int .i64 g.M, .int .i64 g.N, g.x0, g.x1, g.x2, g.x3, g.x4, g.x5, g.x6, g.x7, g.x8, g.x9, g.x10, g.x11, g.x12, g.x13, g.x14, g.x15, g.x16, .slice A n c] 32) := by
  unfold withW
  rw [Below.heap_alloc _ _ _ (by simp; omega), Below.heap_alloc _ _ _ (by simp; omega), Below.heap_alloc _ _ _ (by simp)]
  exact heap_alloc_new w _
theorem withW_zero (g : Grp) (A : Option Addr) (n c : Nat) (r : Rt) : (withW w g A n c r).heap[w.heap.size + 1 + 1]? = some zeroBooks := by
  unfold withW
  rw [Below.heap_alloc _ _ _ (by simp)]
  have := heap_alloc_new ((w.alloc (.cells #[.string g.gc, .int .i64 g.Y, .int .i64 g.M, .int .i64 g.N, g.x0, g.x1, g.x2, g.x3, g.x4, g.x5, g.x6, g.x7, g.x8, g.x9, g.x10, g.x11, g.x12, g.x13, g.x14, g.x15, g.x16, .slice A n c] 32)).alloc (.cells #[.string r.cur, .int .i64 r.kind, .int .i64 r.when_, .int .i64 r.val] 39)) zeroBooks
  rw [show ((w.alloc (.cells #[.string g.gc, .int .i64 g.Y, .int .i64 g.M, .int .i64 g.N, g.x0, g.x1, g.x2, g.x3, g.x4, g.x5, g.x6, g.x7, g.x8, g.x9, g.x10, g.x11, g.x12, g.x13, g.x14, g.x15, g.x16, .slice A n c] 32)).alloc (.cells #[.string r.cur, .int .i64 r.kind, .int .i64 r.when_, .int .i64 r.val] 39)).heap.size = w.heap.size + 1 + 1 by simp] at this
  exact this
theorem withW_below (g : Grp) (A : Option Addr) (n c : Nat) (r : Rt) : Below w.heap.size w (withW w g A n c r) := by
  unfold withW
  exact ((((Below.refl _ _).alloc (Nat.le_refl _) _).alloc (by simp) _).alloc (by simp; omega) _).alloc (by simp; omega) _
theorem withW_own (g : Grp) (A : Option Addr) (n c : Nat) (r : Rt) : (withW w g A n c r).ownsRow (w.heap.size + 1 + 1 + 1) 39 4 (.slice (some ⟨w.heap.size + 1 + 1 + 1, 0, none⟩) 1 1) 1 (Rt.cells r) := by
  have := World.ownsRow_lit (base := w.heap.size + 1 + 1 + 1) (e := 39) (size := 4) (((w.alloc (.cells #[.string g.gc, .int .i64 g.Y, .int .i64 g.M, .int .i64 g.N, g.x0, g.x1, g.x2, g.x3, g.x4, g.x5, g.x6, g.x7, g.x8, g.x9, g.x10, g.x11, g.x12, g.x13, g.x14, g.x15, g.x16, .slice A n c] 32)).alloc (.cells #[.string r.cur, .int .i64 r.kind, .int .i64 r.when_, .int .i64 r.val] 39)).alloc (.cells #[.string ⟨#[]⟩, .int .i64 0, .int .i64 0, .int .i64 0, .slice none 0 0, .int .i64 0, .int .i64 0, .int .i64 0, .int .i64 0, .int .i64 0, .int .i64 0, .int .i64 0, .int .i64 0, .int .i64 0, .int .i64 0, .int .i64 0, .int .i64 0, .int .i64 0, .int .i64 0, .int .i64 0, .slice none 0 0, .slice none 0 0] 32)) #[.string r.cur, .int .i64 r.kind, .int .i64 r.when_, .int .i64 r.val] 1 (by simp) (by unfold maxLen; omega) rfl
  simpa [withW, Rt.cells] using this
theorem withW_size (g : Grp) (A : Option Addr) (n c : Nat) (r : Rt) : (withW w g A n c r).heap.size = w.heap.size + 4 := by
  unfold withW; simp

/-- What holds throughout the last statement. -/
def WithS (g : Grp) (A : Option Addr) (n c : Nat) (A' : Option Addr) (l : List Rt) (W' : World) : Prop :=
  W'.heap[w.heap.size]? = some (.cells #[.string g.gc, .int .i64 g.Y, .int .i64 g.M, .int .i64 g.N, g.x0, g.x1, g.x2, g.x3, g.x4, g.x5, g.x6, g.x7, g.x8, g.x9, g.x10, g.x11, g.x12, g.x13, g.x14, g.x15, g.x16, .slice A n c] 32) ∧ (∃ cs : Array Value, W'.heap[w.heap.size + 1 + 1]? = some (.cells cs 32 (0, 0)) ∧ cs.size = 22) ∧ Below w.heap.size w W' ∧ RatesAt W' W'.heap.size A' l
set_option maxRecDepth 100000 in
set_option maxHeartbeats 2000000 in
theorem with_any (g : Grp) (A : Option Addr) (n c : Nat) (rs : List Rt) (r : Rt) (hl : rs.length = n) (hn : n ≤ 150) (hA : A = none → n = 0 ∧ c = 0) (hg : g.gc.size ≤ maxLen) (hone : g.one) (hr : ∀ x ∈ r :: rs, x.wf) (h : RatesAt w w.heap.size A rs) :
    Calls Try.prog 20 #[.agg #[.string g.gc, .int .i64 g.Y, .int .i64 g.M, .int .i64 g.N, g.x0, g.x1, g.x2, g.x3, g.x4, g.x5, g.x6, g.x7, g.x8, g.x9, g.x10, g.x11, g.x12, g.x13, g.x14, g.x15, g.x16, .slice A n c], r.v] w (WithPost g rs r w) := by
  have hown := Lib.hid (withW_own w g A n c r)
  have hXB := Lib.hid (withW_books w g A n c r)
  have hXZ := Lib.hid (withW_zero w g A n c r)
  have hXL := Lib.hid (withW_below w g A n c r)
  have hXS := Lib.hid (withW_size w g A n c r)
  have hXR := Lib.hid (h.below hXL.out (Nat.le_refl _))
  unfold Rt.v
  go_enter Try.func20, Try.ntmps20
  go_wp2_with (at_builtin; refine wpList_append_rates rfl _ _ rfl (w.heap.size + 1 + 1 + 1) _ 1 (Rt.cells r) rfl hown.out A n c rs rfl hl hA _ hXR.out (by omega) (by have := hXS.out; unfold withW at this; omega) ?_)
  intro v' W2 hown2 hgrow
  have hW0 := Lib.hid ((hgrow.block w.heap.size (by have := hXS.out; unfold withW at this; omega) (by simp [Value.ownBlock]; omega)).trans hXB.out)
  have hWZ := Lib.hid ((hgrow.block (w.heap.size + 1 + 1) (by have := hXS.out; unfold withW at this; omega) (by simp [Value.ownBlock])).trans hXZ.out)
  have hWL := Lib.hid (hXL.out.grown hgrow (by have := hXS.out; omega) (fun k hk => by have := own_base hown.out k hk; omega))
  obtain ⟨A', c', hv, hWR⟩ := ratesAt_own (l := r :: rs) hown2 (by simp; omega)
  rw [show (r :: rs).length = n + 1 by simp [hl]] at hv
  subst hv
  have hAb := Lib.hid (own_block hown2)
  have HWR := Lib.hid hWR
  clear hWR hgrow hown2
  have hS : WithS w g A n c A' (r :: rs) W2.drew := ⟨hW0.out, ⟨_, hWZ.out, rfl⟩, below_drewN hWL.out 1, HWR.out⟩
  go_wp2
  refine wp_region_held (S := WithS w g A n c A' (r :: rs)) (by kernel_rfl) ?_
  change wpAnyH _ _ _ _ _ _ _ _ W2.drew
  refine wpAnyH_take (i := 0) (v := .pointer (some ⟨w.heap.size, 0, none⟩)) rfl (by kernel_rfl) (by kernel_rfl) (by kernel_rfl) (fun _ _ _ h => h) (.inl ⟨by rfl, fun W' _ => by go_simp⟩) hS ?_
  simp only [Act.put, List.setIfInBounds_toArray, List.set_cons_zero, List.set_cons_succ]
  refine wpAnyH_take (i := 1) (v := .agg #[.string g.gc, .int .i64 g.Y, .int .i64 g.M, .int .i64 g.N, g.x0, g.x1, g.x2, g.x3, g.x4, g.x5, g.x6, g.x7, g.x8, g.x9, g.x10, g.x11, g.x12, g.x13, g.x14, g.x15, g.x16]) rfl (by kernel_rfl) (by kernel_rfl) (by kernel_rfl) (fun _ _ _ h => h) (yieldsIf_load_mid (by rfl) 29 _ rfl w.heap.size 0 rfl #[.string g.gc, .int .i64 g.Y, .int .i64 g.M, .int .i64 g.N, g.x0, g.x1, g.x2, g.x3, g.x4, g.x5, g.x6, g.x7, g.x8, g.x9, g.x10, g.x11, g.x12, g.x13, g.x14, g.x15, g.x16].toList _ (fun W' hS' => ?_) Try.underlying29 rfl gsize) hS ?_
  · intro j v hj
    have := part_of (bsplit hS'.1) j v (by simpa using hj)
    rwa [Addr.add_mid] at this
  simp only [Act.put, List.setIfInBounds_toArray, List.set_cons_zero, List.set_cons_succ]
  refine wpAnyH_take (i := 2) (v := .slice A' (n + 1) c') rfl (by kernel_rfl) (by kernel_rfl) (by kernel_rfl) (fun _ _ _ h => h) (.inl ⟨by rfl, fun W' _ => by go_simp⟩) hS ?_
  simp only [Act.put, List.setIfInBounds_toArray, List.set_cons_zero, List.set_cons_succ]
  refine wpAnyH_take (i := 3) (v := .agg #[.string g.gc, .int .i64 g.Y, .int .i64 g.M, .int .i64 g.N, g.x0, g.x1, g.x2, g.x3, g.x4, g.x5, g.x6, g.x7, g.x8, g.x9, g.x10, g.x11, g.x12, g.x13, g.x14, g.x15, g.x16, .slice A' (n + 1) c']) rfl (by kernel_rfl) (by kernel_rfl) (by kernel_rfl) (fun _ _ _ h => h) (.inl ⟨by rfl, fun W' hS' => by kernel_rfl⟩) hS ?_
  simp only [Act.put, List.setIfInBounds_toArray, List.set_cons_zero, List.set_cons_succ]
  refine wpAnyH_take (i := 4) (v := .pointer (some ⟨w.heap.size, 0, none⟩)) rfl (by kernel_rfl) (by kernel_rfl) (by kernel_rfl) (fun _ _ _ h => h) (.inl ⟨by rfl, fun W' hS' => by go_simp⟩) hS ?_
  simp only [Act.put, List.setIfInBounds_toArray, List.set_cons_zero, List.set_cons_succ]
  refine wpAnyH_take (i := 5) (v := .pointer (some ⟨w.heap.size, 0, none⟩)) rfl (by kernel_rfl) (by kernel_rfl) (by kernel_rfl) (fun _ _ _ h => h) (.inl ⟨by rfl, fun W' hS' => by go_simp⟩) hS ?_
  simp only [Act.put, List.setIfInBounds_toArray, List.set_cons_zero, List.set_cons_succ]
  refine wpAnyH_take (i := 6) (v := .string g.gc) rfl (by kernel_rfl) (by kernel_rfl) (by kernel_rfl) (fun _ _ _ h => h) (.inl ⟨by rfl, fun W' hS' => by have hc := cell_of_row _ _ 0 _ _ _ hS'.1; simp at hc; go_simp⟩) hS ?_
  simp only [Act.put, List.setIfInBounds_toArray, List.set_cons_zero, List.set_cons_succ]
  refine wpAnyH_take (i := 7) (v := .slice A' (n + 1) c') rfl (by kernel_rfl) (by kernel_rfl) (by kernel_rfl) (fun _ _ _ h => h) (.inl ⟨by rfl, fun W' hS' => by go_simp⟩) hS ?_
  simp only [Act.put, List.setIfInBounds_toArray, List.set_cons_zero, List.set_cons_succ]
  refine wpAnyH_ready (rs := [8]) (by kernel_rfl) (by simp) (AllReadyH.cons rfl (fun K hK => ?_) AllReadyH.nil)
  go_simp
  refine (rvalidr_any W2.drew A' (n + 1) c' (r :: rs) g.gc (by simp [hl]) (by omega) hg hr HWR.out).mono ?_
  rintro e W4 ⟨rfl, hB4⟩
  have hq4 := hB4.size
  have hq0 : w.heap.size < W2.drew.heap.size := (Array.getElem?_eq_some_iff.1 hS.1).1
  have hqz : w.heap.size + 1 + 1 < W2.drew.heap.size := (Array.getElem?_eq_some_iff.1 hWZ.out).1
  have hS4 : WithS w g A n c A' (r :: rs) W4 := ⟨gbox hS.1 hB4 hq0, ⟨_, gbox (W := W2.drew) hWZ.out hB4 hqz, rfl⟩, hS.2.2.1.trans (hB4.mono (by omega)), (hS.2.2.2.below hB4 (Nat.le_refl _)).more hq4⟩
  refine hK.out _ _ hS4 (fun _ => ?_)
  clear hK K
  try simp only [Act.put, List.setIfInBounds_toArray, List.set_cons_zero, List.set_cons_succ]
  refine wpAnyH_ready (rs := [9]) (by kernel_rfl) (by simp) (AllReadyH.cons rfl (fun K hK => ?_) AllReadyH.nil)
  rw [if_pos (by rfl)]
  obtain ⟨cs, hcs, hc22⟩ := hS4.2.1
  refine wp_store_row 32 _ _ none rfl rfl (w.heap.size + 1 + 1) 32 cs #[.string g.gc, .int .i64 g.Y, .int .i64 g.M, .int .i64 g.N, g.x0, g.x1, g.x2, g.x3, g.x4, g.x5, g.x6, g.x7, g.x8, g.x9, g.x10, g.x11, g.x12, g.x13, g.x14, g.x15, g.x16, .slice A' (n + 1) c'] rfl rfl hcs hc22 bsize (Grp.one_all hone _ rfl) ?_
  have hR5 := setRow_heap W4 (w.heap.size + 1 + 1) cs #[.string g.gc, .int .i64 g.Y, .int .i64 g.M, .int .i64 g.N, g.x0, g.x1, g.x2, g.x3, g.x4, g.x5, g.x6, g.x7, g.x8, g.x9, g.x10, g.x11, g.x12, g.x13, g.x14, g.x15, g.x16, .slice A' (n + 1) c'] _ _ hcs
  have hS5 : WithS w g A n c A' (r :: rs) (W4.setRow (w.heap.size + 1 + 1) #[.string g.gc, .int .i64 g.Y, .int .i64 g.M, .int .i64 g.N, g.x0, g.x1, g.x2, g.x3, g.x4, g.x5, g.x6, g.x7, g.x8, g.x9, g.x10, g.x11, g.x12, g.x13, g.x14, g.x15, g.x16, .slice A' (n + 1) c']) := by
    have hbel : Below (w.heap.size + 1 + 1) W4 (W4.setRow (w.heap.size + 1 + 1) #[.string g.gc, .int .i64 g.Y, .int .i64 g.M, .int .i64 g.N, g.x0, g.x1, g.x2, g.x3, g.x4, g.x5, g.x6, g.x7, g.x8, g.x9, g.x10, g.x11, g.x12, g.x13, g.x14, g.x15, g.x16, .slice A' (n + 1) c']) := below_setRow (Below.refl _ _) (Nat.le_refl _) _
    refine ⟨(setRow_other _ _ _ _ (by omega)).trans hS4.1, ⟨_, hR5, rfl⟩, below_setRow hS4.2.2.1 (by omega) _, ?_⟩
    exact (hS4.2.2.2.other fun b o e => setRow_other _ _ _ _ (by have := hAb.out b o e; omega)).more (by simp)
  refine hK.out _ _ hS5 (fun _ => ?_)
  clear hK K
  try simp only [Act.put, List.setIfInBounds_toArray, List.set_cons_zero, List.set_cons_succ]
  refine wpAnyH_ready (rs := [10]) (by kernel_rfl) (by simp) (AllReadyH.cons rfl (fun K hK => ?_) AllReadyH.nil)
  go_simp
  refine hK.out _ _ hS5 (fun _ => ?_)
  clear hK K
  refine wpAnyH_done (by kernel_rfl) ?_ _
  have hload := run_loadVar_row (P := Try.prog) _ _ _ 32 _ _ _ hR5 Try.underlying32 rfl bsize
  go_wp2
  refine bodyPost_ret (v := .tuple #[.agg #[.string g.gc, .int .i64 g.Y, .int .i64 g.M, .int .i64 g.N, g.x0, g.x1, g.x2, g.x3, g.x4, g.x5, g.x6, g.x7, g.x8, g.x9, g.x10, g.x11, g.x12, g.x13, g.x14, g.x15, g.x16, .slice A' (n + 1) c'], .bool (Rates.valid g.gc (r :: rs))]) ?_ rfl ⟨hS5.2.2.1, A', n + 1, c', by simp [hl], rfl, hS5.2.2.2⟩
  simp [results, Try.results20, asAddr, hload]
end
end Go.Proofs.Ytbbbiioojgnpdaa
