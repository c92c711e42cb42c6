/- The arguments of the laws: books, read into plain rates. -/
import Derived.Test.YtbbbiioojgnpdaaLawSpot
import Derived.Test.YtbbbiioojgnpdaaRows
import Derived.ProofKit
import Derived.OpenShut
import Derived.ShutString
import Derived.ChangeOld
import Derived.Deep.Slices
namespace Go.Proofs.Ytbbbiioojgnpdaa
open Go.ChangeShapes Go.WideShapes Go.ChangeAt Go.RowKit Go.Deep

section
variable {H : Type} {enc : TypeId × Value → H} {P : Program} {w : World} {base : Nat} {spare : Nat → Bool} {held : Bool}
/-- The field j of a struct that was read. -/
theorem field_read {t : TypeId} {fs : Array Field} {fuel : Nat} {cs : List Value} {x : DataW H × List MemPlace} (ht : P.underlying t = some (.struct fs)) (h : DataW.trod enc P w base spare held fuel t cs = some x) (j : Nat) (T : TypeId) (o : Nat) (hf : (fs[j]?).map (fun f => (f.type, f.offset)) = some (T, o)) :
    ∃ n y, DataW.trod enc P w base spare held n T ((cs.drop o).take (P.cellsOf T)) = some y := by
  obtain ⟨xs, n, _, _, _, hlen, hg⟩ := DataW.trod_struct ht h
  rw [Option.map_eq_some_iff] at hf
  obtain ⟨f, hf, e⟩ := hf
  cases e
  have hj : j < fs.size := (Array.getElem?_eq_some_iff.1 hf).1
  exact ⟨n, xs[j]'(by omega), (hg j f hf).trans (List.getElem?_eq_getElem (by omega))⟩

theorem cell_of_trod_int {t : TypeId} {k : IntKind} {fuel : Nat} {v : Value} {x : DataW H × List MemPlace} (ht : P.underlying t = some (.int k)) (h : DataW.trod enc P w base spare held fuel t [v] = some x) : ∃ n, v = .int k n ∧ (Lit.int k n).wf = true := by
  obtain ⟨n, e, _, hw⟩ := DataW.trod_int ht h
  exact ⟨n, by simpa using e, hw⟩
theorem cell_of_trod_string {t : TypeId} {fuel : Nat} {v : Value} {x : DataW H × List MemPlace} (ht : P.underlying t = some .string) (h : DataW.trod enc P w base spare held fuel t [v] = some x) : ∃ s : ByteArray, v = .string s ∧ s.size ≤ maxLen := by
  obtain ⟨s, e, _, hw⟩ := DataW.trod_string ht h
  exact ⟨s, by simpa using e, hw⟩
end

theorem cells1 : Try.prog.cellsOf 9 = 1 := by kernel_rfl
theorem cells3 : Try.prog.cellsOf 3 = 1 := by kernel_rfl
theorem cellsR : Try.prog.cellsOf 39 = 4 := by kernel_rfl
theorem cellsG : Try.prog.cellsOf 29 = 21 := by kernel_rfl
theorem cellsB : Try.prog.cellsOf 32 = 22 := by kernel_rfl
theorem cellsC : Try.prog.cellsOf 23 = 3 := by kernel_rfl
theorem cellsS : Try.prog.cellsOf 30 = 1 := by kernel_rfl

section
variable {H : Type} {enc : TypeId × Value → H} {w : World} {spare : Nat → Bool} {held : Bool}
/-- One rate out of its four cells. -/
theorem rate_read {fuel : Nat} {cs : List Value} {x : DataW H × List MemPlace} (h : DataW.trod enc Try.prog w 0 spare held fuel 39 cs = some x) (hl : cs.length = 4) :
    ∃ r : Rt, r.wf ∧ cs = r.cells := by
  match cs, hl with
  | [c0, c1, c2, c3], _ =>
    obtain ⟨_, _, h0⟩ := field_read Try.underlying39 h 0 9 0 rfl
    obtain ⟨_, _, h1⟩ := field_read Try.underlying39 h 1 3 1 rfl
    obtain ⟨_, _, h2⟩ := field_read Try.underlying39 h 2 3 2 rfl
    obtain ⟨_, _, h3⟩ := field_read Try.underlying39 h 3 3 3 rfl
    simp only [cells1, cells3, List.drop_zero, List.drop_succ_cons, List.take_succ_cons, List.take_zero] at h0 h1 h2 h3
    obtain ⟨s, rfl, hs⟩ := cell_of_trod_string Try.underlying9 h0
    obtain ⟨a, rfl, ha⟩ := cell_of_trod_int Try.underlying3 h1
    obtain ⟨b, rfl, hb⟩ := cell_of_trod_int Try.underlying3 h2
    obtain ⟨c, rfl, hc⟩ := cell_of_trod_int Try.underlying3 h3
    exact ⟨⟨s, a, b, c⟩, ⟨hs, ha, hb, hc⟩, rfl⟩
/-- A slice of rates. -/
theorem rates_read {fuel : Nat} {v : Value} {x : DataW H × List MemPlace} (h : DataW.trod enc Try.prog w 0 spare held fuel 30 [v] = some x) :
    ∃ (A : Option Addr) (n c : Nat) (rs : List Rt), v = .slice A n c ∧ rs.length = n ∧ n ≤ maxLen ∧ (∀ r ∈ rs, r.wf) ∧ RatesAt w w.heap.size A rs := by
  rcases open_slice Try.underlying30 h with ⟨hcs, _⟩ | ⟨a, len, cap, m, n, D, Pl, hcs, _, hl, hm, hmm, _, hi⟩
  · exact ⟨none, 0, 0, [], by simpa using hcs, rfl, by unfold maxLen; omega, by simp, .inl rfl⟩
  · have hlm : len ≤ m := by rw [hmm]; split <;> omega
    have hex : ∀ i, i < len → ∃ r : Rt, r.wf ∧ ∀ j u, r.cells[j]? = some u → w.cell? (a.add (i * 4 + j)) = some u := by
      intro i hil
      obtain ⟨cs', hc, ht⟩ := hi i (by omega)
      rw [cellsR] at hc
      obtain ⟨_, hcl, hat⟩ := World.cells?_some hc
      obtain ⟨r, hr, e⟩ := rate_read ht hcl
      refine ⟨r, hr, fun j u hj => ?_⟩
      have hj4 : j < 4 := by have := (List.getElem?_eq_some_iff.1 hj).1; simpa [Rt.cells] using this
      have := hat j hj4
      rw [e, hj] at this
      rw [← Go.Deep.add_add]; exact this
    have hch : ∃ f : Nat → Rt, ∀ i, i < len → (f i).wf ∧ ∀ j u, (f i).cells[j]? = some u → w.cell? (a.add (i * 4 + j)) = some u := by
      refine ⟨fun i => if hil : i < len then Classical.choose (hex i hil) else Rt.zero, fun i hil => ?_⟩
      simp only [hil, dite_true]
      exact Classical.choose_spec (hex i hil)
    obtain ⟨f, hf⟩ := hch
    refine ⟨some a, len, cap, (List.range len).map f, by simpa using hcs, by simp, by omega, ?_, ?_⟩
    · intro r hr
      simp only [List.mem_map, List.mem_range] at hr
      obtain ⟨i, hil, rfl⟩ := hr
      exact (hf i hil).1
    · rcases Nat.eq_zero_or_pos len with h0 | hpos
      · left; rw [h0]; rfl
      · right
        obtain ⟨b, off, spot⟩ := a
        have h0 := (hf 0 hpos).2 0 _ rfl
        have hspot : spot = none := by simpa [Addr.add] using World.cell?_spot h0
        subst hspot
        refine ⟨b, off, rfl, block_lt_of_cell (by simpa [Addr.add] using h0), fun k hk => ?_⟩
        have hk' : k < len := by simpa using hk
        have e : ((List.range len).map f)[k] = f k := by simp
        rw [e]
        have h1 := (hf k hk').2
        have c0 := h1 0 _ rfl
        have c1 := h1 1 _ rfl
        have c2 := h1 2 _ rfl
        have c3 := h1 3 _ rfl
        rw [Go.WideShapes.add_plain] at c0 c1 c2 c3
        exact ⟨c0, c1, c2, c3⟩

set_option maxRecDepth 100000 in
/-- Books. -/
theorem books_read {r : Reach} {b0 : Nat} {v : Value} {d : DataW H} {p : List MemPlace} (hv : Value.okWide Try.prog w r b0 32 v) (h : DataW.Trod enc Try.prog w 0 spare held 32 v d p) :
    ∃ (g : Grp) (A : Option Addr) (n c : Nat) (rs : List Rt), v = .agg #[.string g.gc, .int .i64 g.Y, .int .i64 g.M, .int .i64 g.N, g.x0, g.x1, g.x2, g.x3, g.x4, g.x5, g.x6, g.x7, g.x8, g.x9, g.x10, g.x11, g.x12, g.x13, g.x14, g.x15, g.x16, .slice A n c] ∧ g.gc.size ≤ maxLen ∧ (Lit.int .i64 g.Y).wf = true ∧ (Lit.int .i64 g.M).wf = true ∧ (Lit.int .i64 g.N).wf = true ∧ rs.length = n ∧ n ≤ maxLen ∧ (∀ r ∈ rs, r.wf) ∧ RatesAt w w.heap.size A rs := by
  obtain ⟨cs, rfl, hsz⟩ := okWide_struct Try.underlying32 hv
  rw [cellsB] at hsz
  obtain ⟨cs⟩ := cs
  match cs, hsz with
  | [c0, c1, c2, c3, c4, c5, c6, c7, c8, c9, c10, c11, c12, c13, c14, c15, c16, c17, c18, c19, c20, c21], _ =>
    obtain ⟨fuel, hf⟩ := h
    simp only [Value.cells] at hf
    obtain ⟨_, _, hG⟩ := field_read Try.underlying32 hf 0 29 0 rfl
    obtain ⟨_, _, hR⟩ := field_read Try.underlying32 hf 1 30 21 rfl
    simp only [cellsG, cellsS, List.drop_zero, List.drop_succ_cons, List.take_succ_cons, List.take_zero] at hG hR
    obtain ⟨_, _, hS⟩ := field_read Try.underlying29 hG 0 9 0 rfl
    obtain ⟨_, _, hC⟩ := field_read Try.underlying29 hG 1 23 1 rfl
    simp only [cells1, cellsC, List.drop_zero, List.drop_succ_cons, List.take_succ_cons, List.take_zero] at hS hC
    obtain ⟨_, _, h1⟩ := field_read Try.underlying23 hC 0 3 0 rfl
    obtain ⟨_, _, h2⟩ := field_read Try.underlying23 hC 1 3 1 rfl
    obtain ⟨_, _, h3⟩ := field_read Try.underlying23 hC 2 3 2 rfl
    simp only [cells3, List.drop_zero, List.drop_succ_cons, List.take_succ_cons, List.take_zero] at h1 h2 h3
    obtain ⟨s, rfl, hs⟩ := cell_of_trod_string Try.underlying9 hS
    obtain ⟨Y, rfl, hY⟩ := cell_of_trod_int Try.underlying3 h1
    obtain ⟨M, rfl, hM⟩ := cell_of_trod_int Try.underlying3 h2
    obtain ⟨N, rfl, hN⟩ := cell_of_trod_int Try.underlying3 h3
    obtain ⟨A, n, c, rs, rfl, k1, k2, k3, k4⟩ := rates_read hR
    exact ⟨⟨s, Y, M, N, c4, c5, c6, c7, c8, c9, c10, c11, c12, c13, c14, c15, c16, c17, c18, c19, c20⟩, A, n, c, rs, rfl, hs, hY, hM, hN, k1, k2, k3, k4⟩
end
end Go.Proofs.Ytbbbiioojgnpdaa
