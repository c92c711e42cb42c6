/- My texts Open, Same, With, Open2. -/
import Derived.Test.YtalfikdjclineaaGreatDoorRows
import Derived.ProofKit
import Derived.OpenShut
import Derived.ShutString
import Derived.ChangeOld
import Derived.Deep.Slices
import Derived.Deep.RegionHeld3
import Derived.Laws.AppendOwnNone
import Derived.Laws.CopyOwn
import Derived.Test.YtalfikdjclineaaGreatDoorG22
set_option linter.unusedVariables false
set_option linter.unusedSimpArgs false
set_option maxRecDepth 100000
set_option maxHeartbeats 8000000
namespace Go.Proofs.YtalfikdjclineaaGreatDoor
open Go.ChangeShapes Go.WideShapes Go.ChangeAt Go.RowKit Go.Deep

section
variable {H : Type} {enc : TypeId × Value -> H} {P : Program} {w : World} {base : Nat} {spare : Nat -> Bool} {held : Bool}
theorem field_read {t : TypeId} {fs : Array Field} {fuel : Nat} {cs : List Value} {x : DataW H × List MemPlace} (ht : P.underlying t = some (.struct fs)) (h : DataW.trod enc P w base spare held fuel t cs = some x) (j : Nat) (T : TypeId) (o : Nat) (hf : (fs[j]?).map (fun f => (f.type, f.offset)) = some (T, o)) :
    ∃ n y, DataW.trod enc P w base spare held n T ((cs.drop o).take (P.cellsOf T)) = some y := by
  obtain ⟨xs, n, _, _, _, hlen, hg⟩ := DataW.trod_struct ht h
  rw [Option.map_eq_some_iff] at hf
  obtain ⟨f, hf, e⟩ := hf
  cases e
  have hj : j < fs.size := (Array.getElem?_eq_some_iff.1 hf).1
  exact ⟨n, xs[j]'(by omega), (hg j f hf).trans (List.getElem?_eq_getElem (by omega))⟩

theorem cell_of_trod_int {t : TypeId} {k : IntKind} {fuel : Nat} {v : Value} {x : DataW H × List MemPlace} (ht : P.underlying t = some (.int k)) (h : DataW.trod enc P w base spare held fuel t [v] = some x) : ∃ n, v = .int k n /\ (Lit.int k n).wf = true := by
  obtain ⟨n, e, _, hw⟩ := DataW.trod_int ht h
  exact ⟨n, by simpa using e, hw⟩
theorem cell_of_trod_string {t : TypeId} {fuel : Nat} {v : Value} {x : DataW H × List MemPlace} (ht : P.underlying t = some .string) (h : DataW.trod enc P w base spare held fuel t [v] = some x) : ∃ s : ByteArray, v = .string s /\ s.size <= maxLen := by
  obtain ⟨s, e, _, hw⟩ := DataW.trod_string ht h
  exact ⟨s, by simpa using e, hw⟩
end

theorem cells1 : Tryz.prog.cellsOf 9 = 1 := by kernel_rfl
theorem cells3 : Tryz.prog.cellsOf 3 = 1 := by kernel_rfl
theorem cellsR : Tryz.prog.cellsOf 59 = 4 := by kernel_rfl
theorem cellsG : Tryz.prog.cellsOf 29 = 21 := by kernel_rfl
theorem cellsB : Tryz.prog.cellsOf 32 = 22 := by kernel_rfl
theorem cellsC : Tryz.prog.cellsOf 23 = 3 := by kernel_rfl
theorem cellsS : Tryz.prog.cellsOf 30 = 1 := by kernel_rfl

section
variable {H : Type} {enc : TypeId × Value -> H} {w : World} {spare : Nat -> Bool} {held : Bool}
theorem rate_read {fuel : Nat} {cs : List Value} {x : DataW H × List MemPlace} (h : DataW.trod enc Tryz.prog w 0 spare held fuel 59 cs = some x) (hl : cs.length = 4) :
    ∃ r : Rt, r.wf /\ cs = r.cells := by
  match cs, hl with
  | [c0, c1, c2, c3], _ =>
    obtain ⟨_, _, h0⟩ := field_read Tryz.underlying59 h 0 9 0 rfl
    obtain ⟨_, _, h1⟩ := field_read Tryz.underlying59 h 1 3 1 rfl
    obtain ⟨_, _, h2⟩ := field_read Tryz.underlying59 h 2 3 2 rfl
    obtain ⟨_, _, h3⟩ := field_read Tryz.underlying59 h 3 3 3 rfl
    simp only [cells1, cells3, List.drop_zero, List.drop_succ_cons, List.take_succ_cons, List.take_zero] at h0 h1 h2 h3
    obtain ⟨s, rfl, hs⟩ := cell_of_trod_string Tryz.underlying9 h0
    obtain ⟨a, rfl, ha⟩ := cell_of_trod_int Tryz.underlying3 h1
    obtain ⟨b, rfl, hb⟩ := cell_of_trod_int Tryz.underlying3 h2
    obtain ⟨c, rfl, hc⟩ := cell_of_trod_int Tryz.underlying3 h3
    exact ⟨⟨s, a, b, c⟩, ⟨hs, ha, hb, hc⟩, rfl⟩
theorem rates_read {fuel : Nat} {v : Value} {x : DataW H × List MemPlace} (h : DataW.trod enc Tryz.prog w 0 spare held fuel 30 [v] = some x) :
    ∃ (A : Option Addr) (n c : Nat) (rs : List Rt), v = .slice A n c /\ rs.length = n /\ n <= maxLen /\ (∀ r ∈ rs, r.wf) /\ RatesAt w w.heap.size A rs := by
  rcases open_slice Tryz.underlying30 h with ⟨hcs, _⟩ | ⟨a, len, cap, m, n, D, Pl, hcs, _, hl, hm, hmm, _, hi⟩
  · exact ⟨none, 0, 0, [], by simpa using hcs, rfl, by unfold maxLen; omega, by simp, .inl rfl⟩
  · have hlm : len <= m := by rw [hmm]; split <;> omega
    have hex : ∀ i, i < len -> ∃ r : Rt, r.wf /\ ∀ j u, r.cells[j]? = some u -> w.cell? (a.add (i * 4 + j)) = some u := by
      intro i hil
      obtain ⟨cs', hc, ht⟩ := hi i (by omega)
      rw [cellsR] at hc
      obtain ⟨_, hcl, hat⟩ := World.cells?_some hc
      obtain ⟨r, hr, e⟩ := rate_read ht hcl
      refine ⟨r, hr, fun j u hj => ?_⟩
      have hj4 : j < 4 := by have := (List.getElem?_eq_some_iff.1 hj).1; simpa [Rt.cells] using this
      have := hat j hj4
      rw [e, hj] at this
      rw [<- Go.Deep.add_add]; exact this
    have hch : ∃ f : Nat -> Rt, ∀ i, i < len -> (f i).wf /\ ∀ j u, (f i).cells[j]? = some u -> w.cell? (a.add (i * 4 + j)) = some u := by
      refine ⟨fun i => if hil : i < len then Classical.choose (hex i hil) else Rt.zero, fun i hil => ?_⟩
      simp only [hil, dite_true]
      exact Classical.choose_spec (hex i hil)
    obtain ⟨f, hf⟩ := hch
    refine ⟨some a, len, cap, (List.range len).map f, by simpa using hcs, by simp, by omega, ?_, ?_⟩
    · intro r hr
      simp only [List.mem_map, List.mem_range] at hr
      obtain ⟨i, hil, rfl⟩ := hr
      exact (hf i hil).1
    · rcases Nat.eq_zero_or_pos len with h0 | hpos
      · left; rw [h0]; rfl
      · right
        obtain ⟨b, off, spot⟩ := a
        have h0 := (hf 0 hpos).2 0 _ rfl
        have hspot : spot = none := by simpa [Addr.add] using World.cell?_spot h0
        subst hspot
        refine ⟨b, off, rfl, block_lt_of_cell (by simpa [Addr.add] using h0), fun k hk => ?_⟩
        have hk' : k < len := by simpa using hk
        have e : ((List.range len).map f)[k] = f k := by simp
        rw [e]
        have h1 := (hf k hk').2
        have c0 := h1 0 _ rfl
        have c1 := h1 1 _ rfl
        have c2 := h1 2 _ rfl
        have c3 := h1 3 _ rfl
        rw [Go.WideShapes.add_plain] at c0 c1 c2 c3
        exact ⟨c0, c1, c2, c3⟩

theorem books_read {r : Reach} {b0 : Nat} {v : Value} {d : DataW H} {p : List MemPlace} (hv : Value.okWide Tryz.prog w r b0 32 v) (h : DataW.Trod enc Tryz.prog w 0 spare held 32 v d p) :
    ∃ (g : Grp) (A : Option Addr) (n c : Nat) (rs : List Rt), v = .agg #[.string g.gc, .int .i64 g.Y, .int .i64 g.M, .int .i64 g.N, g.x0, g.x1, g.x2, g.x3, g.x4, g.x5, g.x6, g.x7, g.x8, g.x9, g.x10, g.x11, g.x12, g.x13, g.x14, g.x15, g.x16, .slice A n c] /\ g.gc.size <= maxLen /\ (Lit.int .i64 g.Y).wf = true /\ (Lit.int .i64 g.M).wf = true /\ (Lit.int .i64 g.N).wf = true /\ rs.length = n /\ n <= maxLen /\ (∀ r ∈ rs, r.wf) /\ RatesAt w w.heap.size A rs := by
  obtain ⟨cs, rfl, hsz⟩ := okWide_struct Tryz.underlying32 hv
  rw [cellsB] at hsz
  obtain ⟨cs⟩ := cs
  match cs, hsz with
  | [c0, c1, c2, c3, c4, c5, c6, c7, c8, c9, c10, c11, c12, c13, c14, c15, c16, c17, c18, c19, c20, c21], _ =>
    obtain ⟨fuel, hf⟩ := h
    simp only [Value.cells] at hf
    obtain ⟨_, _, hG⟩ := field_read Tryz.underlying32 hf 0 29 0 rfl
    obtain ⟨_, _, hR⟩ := field_read Tryz.underlying32 hf 1 30 21 rfl
    simp only [cellsG, cellsS, List.drop_zero, List.drop_succ_cons, List.take_succ_cons, List.take_zero] at hG hR
    obtain ⟨_, _, hS⟩ := field_read Tryz.underlying29 hG 0 9 0 rfl
    obtain ⟨_, _, hC⟩ := field_read Tryz.underlying29 hG 1 23 1 rfl
    simp only [cells1, cellsC, List.drop_zero, List.drop_succ_cons, List.take_succ_cons, List.take_zero] at hS hC
    obtain ⟨_, _, h1⟩ := field_read Tryz.underlying23 hC 0 3 0 rfl
    obtain ⟨_, _, h2⟩ := field_read Tryz.underlying23 hC 1 3 1 rfl
    obtain ⟨_, _, h3⟩ := field_read Tryz.underlying23 hC 2 3 2 rfl
    simp only [cells3, List.drop_zero, List.drop_succ_cons, List.take_succ_cons, List.take_zero] at h1 h2 h3
    obtain ⟨s, rfl, hs⟩ := cell_of_trod_string Tryz.underlying9 hS
    obtain ⟨Y, rfl, hY⟩ := cell_of_trod_int Tryz.underlying3 h1
    obtain ⟨M, rfl, hM⟩ := cell_of_trod_int Tryz.underlying3 h2
    obtain ⟨N, rfl, hN⟩ := cell_of_trod_int Tryz.underlying3 h3
    obtain ⟨A, n, c, rs, rfl, k1, k2, k3, k4⟩ := rates_read hR
    exact ⟨⟨s, Y, M, N, c4, c5, c6, c7, c8, c9, c10, c11, c12, c13, c14, c15, c16, c17, c18, c19, c20⟩, A, n, c, rs, rfl, hs, hY, hM, hN, k1, k2, k3, k4⟩
end
end Go.Proofs.YtalfikdjclineaaGreatDoor
namespace Go.Proofs.YtalfikdjclineaaGreatDoor
open Go.RowKit Go.Shelf

theorem below_drewN {n : Nat} {a w : World} (h : Below n a w) (q : Nat) : Below n a (w.drewN q) := ⟨h.os, h.tape, h.output, h.size, h.block⟩

section
variable (w : World)
end
end Go.Proofs.YtalfikdjclineaaGreatDoor
namespace Go.Proofs.YtalfikdjclineaaGreatDoor
open Go.RowKit Go.Shelf

theorem RatesAt.other {w w' : World} {B : Nat} {A : Option Addr} {rs : List Rt} (h : RatesAt w B A rs) (hg : ∀ b o, A = some ⟨b, o, none⟩ -> w'.heap[b]? = w.heap[b]?) : RatesAt w' B A rs := by
  rcases h with h | ⟨b, o, e, hl, hc⟩
  · exact .inl h
  · have hb := hg b o e
    refine .inr ⟨b, o, e, hl, fun k hk => ?_⟩
    obtain ⟨h0, h1, h2, h3⟩ := hc k hk
    exact ⟨(World.cell?_of_block (w := w) hb).trans h0, (World.cell?_of_block (w := w) hb).trans h1, (World.cell?_of_block (w := w) hb).trans h2, (World.cell?_of_block (w := w) hb).trans h3⟩
theorem own_block {W : World} {base n : Nat} {A : Option Addr} {m c : Nat} {xs : List Value} {e : TypeId} {size : Nat} (h : W.ownsRow base e size (.slice A m c) n xs) : ∀ b o, A = some ⟨b, o, none⟩ -> base <= b := by
  intro b o hA
  rcases h.2 with ⟨e, _⟩ | ⟨g, cap, cur, e, hb, _⟩
  · subst hA; cases e
  · subst hA; cases e; exact hb
def Grp.one (g : Grp) : Prop := ∀ v ∈ (#[.string g.gc, .int .i64 g.Y, .int .i64 g.M, .int .i64 g.N, g.x0, g.x1, g.x2, g.x3, g.x4, g.x5, g.x6, g.x7, g.x8, g.x9, g.x10, g.x11, g.x12, g.x13, g.x14, g.x15, g.x16] : Array Value).toList, v.oneCell' = true
theorem Grp.one_all {g : Grp} (h : g.one) (v : Value) (hv : v.oneCell' = true) : ((#[.string g.gc, .int .i64 g.Y, .int .i64 g.M, .int .i64 g.N, g.x0, g.x1, g.x2, g.x3, g.x4, g.x5, g.x6, g.x7, g.x8, g.x9, g.x10, g.x11, g.x12, g.x13, g.x14, g.x15, g.x16] ++ #[v] : Array Value).all (·.oneCell')) = true := by
  rw [Array.all_append, Bool.and_eq_true]
  refine ⟨Array.all_eq_true_iff_forall_mem.2 fun u hu => h u (by simpa using hu), ?_⟩
  simp [hv]

def WithPost (g : Grp) (rs : List Rt) (r : Rt) (w : World) (e : Ending) (w' : World) : Prop :=
  Below w.heap.size w w' /\ ∃ A n c, n = rs.length + 1 /\ e = .returned (.tuple #[.agg #[.string g.gc, .int .i64 g.Y, .int .i64 g.M, .int .i64 g.N, g.x0, g.x1, g.x2, g.x3, g.x4, g.x5, g.x6, g.x7, g.x8, g.x9, g.x10, g.x11, g.x12, g.x13, g.x14, g.x15, g.x16, .slice A n c], .bool (Rates.valid g.gc (r :: rs))]) /\ RatesAt w' w'.heap.size A (r :: rs)

theorem rates_cells {w : World} {B : Nat} {a : Addr} {rs : List Rt} (h : RatesAt w B (some a) rs) : ∀ j u, (rowOf rs)[j]? = some u -> w.cell? (a.add j) = some u := by
  intro j u hj
  have hjl : j < (rowOf rs).length := (List.getElem?_eq_some_iff.1 hj).1
  rw [rowOf_length] at hjl
  have hk : j / 4 < rs.length := by omega
  obtain ⟨b, o, e, _, c0, c1, c2, c3⟩ := h.look hk
  cases e
  have hd : j = j / 4 * 4 + j % 4 := by omega
  rw [hd, rowOf_get rs (j / 4) (j % 4) hk (by omega)] at hj
  have hadd : (⟨b, o, none⟩ : Addr).add j = ⟨b, o + j, none⟩ := Addr.add_mid b o j
  rw [hadd]
  have hm : j % 4 = 0 ∨ j % 4 = 1 ∨ j % 4 = 2 ∨ j % 4 = 3 := by omega
  rcases hm with hm | hm | hm | hm <;> rw [hm] at hj hd <;> simp [Rt.cells] at hj <;> subst hj
  · rw [show o + j = o + j / 4 * 4 by omega]; exact c0
  · rw [show o + j = o + j / 4 * 4 + 1 by omega]; exact c1
  · rw [show o + j = o + j / 4 * 4 + 2 by omega]; exact c2
  · rw [show o + j = o + j / 4 * 4 + 3 by omega]; exact c3

theorem wpList_append_rates {w : World} {ops : Array Oper} {rest : List Oper} {o : Oper} {a : Act} {Q : Exit -> Act -> World -> Prop} (hgd : o.guard = none) (s x : Operand)
    (ho : o.op = .call { callee := .builtin .append, args := #[s, x], argTypes := #[30, 30] }) (base : Nat)
    (v : Value) (n : Nat) (xs : List Value) (hs : a.eval s = v) (hown : w.ownsRow base 59 4 v n xs) (A : Option Addr) (m c : Nat) (rs : List Rt) (hx : a.eval x = .slice A m c) (hl : rs.length = m) (hA : A = none -> m = 0 /\ c = 0)
    (B : Nat) (hR : RatesAt w B A rs) (hlim : n + m <= 100000) (hbase : base <= w.heap.size)
    (h : ∀ v' w', w'.ownsRow base 59 4 v' (n + m) (xs ++ rowOf rs) -> w.grownBy w' v.ownBlock -> wpList Tryz.prog ops Q rest (a.put o.dst v') w') : wpList Tryz.prog ops Q (o :: rest) a w := by
  obtain ⟨i0, hi, hz0, hz1, hz2⟩ := info_parts info39
  subst hl
  cases A with
  | none =>
    obtain ⟨h1, rfl⟩ := hA rfl
    obtain rfl : rs = [] := List.length_eq_zero_iff.1 h1
    refine wpList_append_own_none hgd s x 30 ho base 59 i0 4 Tryz.underlying30 hi v n xs hs hown hx ?_
    refine h v w ?_ (grown_refl _ _)
    simpa [rowOf] using hown
  | some ad =>
    have hone : ∀ u ∈ rowOf rs, u.oneCell' = true := by
      intro u hu
      simp only [rowOf, List.mem_flatMap] at hu
      obtain ⟨x, _, hx⟩ := hu
      simp [Rt.cells] at hx
      rcases hx with rfl | rfl | rfl | rfl <;> rfl
    exact wpList_append_own w hgd s x 30 ho base 59 i0 Rt.zero.v 4 40 Tryz.underlying30 hi hz0 hz1 hz2 rfl (by decide) v n xs hs hown ad rs.length c (rowOf rs) hx (rowOf_length rs) (rates_cells hR) hone (by unfold maxLen; omega) (by omega) hbase fun v' w' h1 h2 _ => h v' w' h1 h2

def zeroBooks : Obj := .cells #[.string ⟨#[]⟩, .int .i64 0, .int .i64 0, .int .i64 0, .slice none 0 0, .int .i64 0, .int .i64 0, .int .i64 0, .int .i64 0, .int .i64 0, .int .i64 0, .int .i64 0, .int .i64 0, .int .i64 0, .int .i64 0, .int .i64 0, .int .i64 0, .int .i64 0, .int .i64 0, .int .i64 0, .slice none 0 0, .slice none 0 0] 32
section
variable (w : World)
def withW (g : Grp) (A : Option Addr) (n c : Nat) (r : Rt) : World := ((((w.alloc (.cells #[.string g.gc, .int .i64 g.Y, .int .i64 g.M, .int .i64 g.N, g.x0, g.x1, g.x2, g.x3, g.x4, g.x5, g.x6, g.x7, g.x8, g.x9, g.x10, g.x11, g.x12, g.x13, g.x14, g.x15, g.x16, .slice A n c] 32)).alloc (.cells #[.string r.cur, .int .i64 r.kind, .int .i64 r.when_, .int .i64 r.val] 59)).alloc (.cells #[.string ⟨#[]⟩, .int .i64 0, .int .i64 0, .int .i64 0, .slice none 0 0, .int .i64 0, .int .i64 0, .int .i64 0, .int .i64 0, .int .i64 0, .int .i64 0, .int .i64 0, .int .i64 0, .int .i64 0, .int .i64 0, .int .i64 0, .int .i64 0, .int .i64 0, .int .i64 0, .int .i64 0, .slice none 0 0, .slice none 0 0] 32)).alloc (.cells #[.string r.cur, .int .i64 r.kind, .int .i64 r.when_, .int .i64 r.val] 59))
theorem withW_books (g : Grp) (A : Option Addr) (n c : Nat) (r : Rt) : (withW w g A n c r).heap[w.heap.size]? = some (.cells #[.string g.gc, .int .i64 g.Y, .int .i64 g.M, .int .i64 g.N, g.x0, g.x1, g.x2, g.x3, g.x4, g.x5, g.x6, g.x7, g.x8, g.x9, g.x10, g.x11, g.x12, g.x13, g.x14, g.x15, g.x16, .slice A n c] 32) := by
  unfold withW
  rw [Below.heap_alloc _ _ _ (by simp; omega), Below.heap_alloc _ _ _ (by simp; omega), Below.heap_alloc _ _ _ (by simp)]
  exact heap_alloc_new w _
theorem withW_zero (g : Grp) (A : Option Addr) (n c : Nat) (r : Rt) : (withW w g A n c r).heap[w.heap.size + 1 + 1]? = some zeroBooks := by
  unfold withW
  rw [Below.heap_alloc _ _ _ (by simp)]
  have := heap_alloc_new ((w.alloc (.cells #[.string g.gc, .int .i64 g.Y, .int .i64 g.M, .int .i64 g.N, g.x0, g.x1, g.x2, g.x3, g.x4, g.x5, g.x6, g.x7, g.x8, g.x9, g.x10, g.x11, g.x12, g.x13, g.x14, g.x15, g.x16, .slice A n c] 32)).alloc (.cells #[.string r.cur, .int .i64 r.kind, .int .i64 r.when_, .int .i64 r.val] 59)) zeroBooks
  rw [show ((w.alloc (.cells #[.string g.gc, .int .i64 g.Y, .int .i64 g.M, .int .i64 g.N, g.x0, g.x1, g.x2, g.x3, g.x4, g.x5, g.x6, g.x7, g.x8, g.x9, g.x10, g.x11, g.x12, g.x13, g.x14, g.x15, g.x16, .slice A n c] 32)).alloc (.cells #[.string r.cur, .int .i64 r.kind, .int .i64 r.when_, .int .i64 r.val] 59)).heap.size = w.heap.size + 1 + 1 by simp] at this
  exact this
theorem withW_below (g : Grp) (A : Option Addr) (n c : Nat) (r : Rt) : Below w.heap.size w (withW w g A n c r) := by
  unfold withW
  exact ((((Below.refl _ _).alloc (Nat.le_refl _) _).alloc (by simp) _).alloc (by simp; omega) _).alloc (by simp; omega) _
theorem withW_own (g : Grp) (A : Option Addr) (n c : Nat) (r : Rt) : (withW w g A n c r).ownsRow (w.heap.size + 1 + 1 + 1) 59 4 (.slice (some ⟨w.heap.size + 1 + 1 + 1, 0, none⟩) 1 1) 1 (Rt.cells r) := by
  have := World.ownsRow_lit (base := w.heap.size + 1 + 1 + 1) (e := 59) (size := 4) (((w.alloc (.cells #[.string g.gc, .int .i64 g.Y, .int .i64 g.M, .int .i64 g.N, g.x0, g.x1, g.x2, g.x3, g.x4, g.x5, g.x6, g.x7, g.x8, g.x9, g.x10, g.x11, g.x12, g.x13, g.x14, g.x15, g.x16, .slice A n c] 32)).alloc (.cells #[.string r.cur, .int .i64 r.kind, .int .i64 r.when_, .int .i64 r.val] 59)).alloc (.cells #[.string ⟨#[]⟩, .int .i64 0, .int .i64 0, .int .i64 0, .slice none 0 0, .int .i64 0, .int .i64 0, .int .i64 0, .int .i64 0, .int .i64 0, .int .i64 0, .int .i64 0, .int .i64 0, .int .i64 0, .int .i64 0, .int .i64 0, .int .i64 0, .int .i64 0, .int .i64 0, .int .i64 0, .slice none 0 0, .slice none 0 0] 32)) #[.string r.cur, .int .i64 r.kind, .int .i64 r.when_, .int .i64 r.val] 1 (by simp) (by unfold maxLen; omega) rfl
  simpa [withW, Rt.cells] using this
theorem withW_size (g : Grp) (A : Option Addr) (n c : Nat) (r : Rt) : (withW w g A n c r).heap.size = w.heap.size + 4 := by
  unfold withW; simp

def WithS (g : Grp) (A : Option Addr) (n c : Nat) (A' : Option Addr) (l : List Rt) (W' : World) : Prop :=
  W'.heap[w.heap.size]? = some (.cells #[.string g.gc, .int .i64 g.Y, .int .i64 g.M, .int .i64 g.N, g.x0, g.x1, g.x2, g.x3, g.x4, g.x5, g.x6, g.x7, g.x8, g.x9, g.x10, g.x11, g.x12, g.x13, g.x14, g.x15, g.x16, .slice A n c] 32) /\ (∃ cs : Array Value, W'.heap[w.heap.size + 1 + 1]? = some (.cells cs 32 (0, 0)) /\ cs.size = 22) /\ Below w.heap.size w W' /\ RatesAt W' W'.heap.size A' l
end
end Go.Proofs.YtalfikdjclineaaGreatDoor
namespace Go.Proofs.YtalfikdjclineaaGreatDoor
open Go.ChangeShapes Go.WideShapes Go.ChangeAt Go.RowKit Go.Deep

theorem one_of_okWide {P : Program} {w : World} {r : Reach} {b : Nat} {t : TypeId} {v : Value} (h : Cell.okWide P w r b t v) : v.oneCell' = true := by
  cases v <;> first
    | rfl
    | (exfalso
       unfold Cell.okWide at h
       split at h
       all_goals first | contradiction | (unfold Cell.ok at h; split at h <;> first | contradiction | simp_all))
theorem books_one {w : World} {r : Reach} {b0 : Nat} {g : Grp} {A : Option Addr} {n c : Nat} (hv : Value.okWide Tryz.prog w r b0 32 (.agg #[.string g.gc, .int .i64 g.Y, .int .i64 g.M, .int .i64 g.N, g.x0, g.x1, g.x2, g.x3, g.x4, g.x5, g.x6, g.x7, g.x8, g.x9, g.x10, g.x11, g.x12, g.x13, g.x14, g.x15, g.x16, .slice A n c])) : g.one := by
  simp only [Value.okWide, Tryz.underlying32] at hv
  obtain ⟨cs, e, _, ts, _, _, hc⟩ := hv
  injection e with e
  subst e
  have hx : ∀ (i : Nat) (v : Value), (#[Value.string g.gc, Value.int .i64 g.Y, Value.int .i64 g.M, Value.int .i64 g.N, g.x0, g.x1, g.x2, g.x3, g.x4, g.x5, g.x6, g.x7, g.x8, g.x9, g.x10, g.x11, g.x12, g.x13, g.x14, g.x15, g.x16, .slice A n c] : Array Value)[i]? = some v -> v.oneCell' = true := fun i v h => by
    obtain ⟨u, _, ho⟩ := hc i v h
    exact one_of_okWide ho
  clear hc
  intro v hm
  have hm' : v = Value.string g.gc ∨ v = Value.int .i64 g.Y ∨ v = Value.int .i64 g.M ∨ v = Value.int .i64 g.N ∨ v = g.x0 ∨ v = g.x1 ∨ v = g.x2 ∨ v = g.x3 ∨ v = g.x4 ∨ v = g.x5 ∨ v = g.x6 ∨ v = g.x7 ∨ v = g.x8 ∨ v = g.x9 ∨ v = g.x10 ∨ v = g.x11 ∨ v = g.x12 ∨ v = g.x13 ∨ v = g.x14 ∨ v = g.x15 ∨ v = g.x16 := by simpa using hm
  rcases hm' with h | h | h | h | h | h | h | h | h | h | h | h | h | h | h | h | h | h | h | h | h
  · rw [h]; exact hx 0 _ rfl
  · rw [h]; exact hx 1 _ rfl
  · rw [h]; exact hx 2 _ rfl
  · rw [h]; exact hx 3 _ rfl
  · rw [h]; exact hx 4 _ rfl
  · rw [h]; exact hx 5 _ rfl
  · rw [h]; exact hx 6 _ rfl
  · rw [h]; exact hx 7 _ rfl
  · rw [h]; exact hx 8 _ rfl
  · rw [h]; exact hx 9 _ rfl
  · rw [h]; exact hx 10 _ rfl
  · rw [h]; exact hx 11 _ rfl
  · rw [h]; exact hx 12 _ rfl
  · rw [h]; exact hx 13 _ rfl
  · rw [h]; exact hx 14 _ rfl
  · rw [h]; exact hx 15 _ rfl
  · rw [h]; exact hx 16 _ rfl
  · rw [h]; exact hx 17 _ rfl
  · rw [h]; exact hx 18 _ rfl
  · rw [h]; exact hx 19 _ rfl
  · rw [h]; exact hx 20 _ rfl
section
variable {H : Type} {enc : TypeId × Value -> H} {w : World} {spare : Nat -> Bool} {held : Bool}
theorem cellsP : Tryz.prog.cellsOf 34 = 3 := by kernel_rfl
theorem pair_read {r : Reach} {b0 : Nat} {v : Value} {d : DataW H} {p : List MemPlace} (hv : Value.okWide Tryz.prog w r b0 34 v) (h : DataW.Trod enc Tryz.prog w 0 spare held 34 v d p) :
    ∃ (a b : ByteArray) (n : Int), v = .agg #[.string a, .string b, .int .i64 n] /\ a.size <= maxLen /\ b.size <= maxLen /\ (Lit.int .i64 n).wf = true := by
  obtain ⟨cs, rfl, hsz⟩ := okWide_struct Tryz.underlying34 hv
  rw [cellsP] at hsz
  obtain ⟨cs⟩ := cs
  match cs, hsz with
  | [c0, c1, c2], _ =>
    obtain ⟨fuel, hf⟩ := h
    simp only [Value.cells] at hf
    obtain ⟨_, _, h0⟩ := field_read Tryz.underlying34 hf 0 9 0 rfl
    obtain ⟨_, _, h1⟩ := field_read Tryz.underlying34 hf 1 9 1 rfl
    obtain ⟨_, _, h2⟩ := field_read Tryz.underlying34 hf 2 3 2 rfl
    simp only [cells1, cells3, List.drop_zero, List.drop_succ_cons, List.take_succ_cons, List.take_zero] at h0 h1 h2
    obtain ⟨s, rfl, hs⟩ := cell_of_trod_string Tryz.underlying9 h0
    obtain ⟨t, rfl, ht⟩ := cell_of_trod_string Tryz.underlying9 h1
    obtain ⟨n, rfl, hn⟩ := cell_of_trod_int Tryz.underlying3 h2
    exact ⟨s, t, n, rfl, hs, ht, hn⟩
theorem rate_arg {r : Reach} {b0 : Nat} {v : Value} {d : DataW H} {p : List MemPlace} (hv : Value.okWide Tryz.prog w r b0 59 v) (h : DataW.Trod enc Tryz.prog w 0 spare held 59 v d p) :
    ∃ r : Rt, v = r.v /\ r.wf := by
  obtain ⟨cs, rfl, hsz⟩ := okWide_struct Tryz.underlying59 hv
  rw [cellsR] at hsz
  obtain ⟨fuel, hf⟩ := h
  simp only [Value.cells] at hf
  obtain ⟨r, hr, e⟩ := rate_read hf (by simpa using hsz)
  refine ⟨r, ?_, hr⟩
  have : cs = r.cells.toArray := by rw [<- e]
  rw [this]; rfl
theorem books_none {g : Grp} {A : Option Addr} {n c : Nat} {d : DataW H} {p : List MemPlace} (h : DataW.Trod enc Tryz.prog w 0 spare held 32 (.agg #[.string g.gc, .int .i64 g.Y, .int .i64 g.M, .int .i64 g.N, g.x0, g.x1, g.x2, g.x3, g.x4, g.x5, g.x6, g.x7, g.x8, g.x9, g.x10, g.x11, g.x12, g.x13, g.x14, g.x15, g.x16, .slice A n c]) d p) : A = none -> n = 0 /\ c = 0 := by
  rintro rfl
  obtain ⟨fuel, hf⟩ := h
  simp only [Value.cells] at hf
  obtain ⟨_, _, hR⟩ := field_read Tryz.underlying32 hf 1 30 21 rfl
  simp only [cellsS, List.drop_zero, List.drop_succ_cons, List.take_succ_cons, List.take_zero] at hR
  rcases open_slice Tryz.underlying30 hR with ⟨hcs, _⟩ | ⟨a, len, cap, m, k, D, Pl, hcs, _⟩
  · simp at hcs; exact hcs
  · simp at hcs
end
end Go.Proofs.YtalfikdjclineaaGreatDoor
