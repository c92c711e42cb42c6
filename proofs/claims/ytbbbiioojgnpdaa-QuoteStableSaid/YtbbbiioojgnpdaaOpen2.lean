/- The other arguments of the laws: pairs, rates, two ints. -/
import Derived.Test.YtbbbiioojgnpdaaOpen
import Derived.Test.YtbbbiioojgnpdaaWith
namespace Go.Proofs.Ytbbbiioojgnpdaa
open Go.ChangeShapes Go.WideShapes Go.ChangeAt Go.RowKit Go.Deep

theorem one_of_okWide {P : Program} {w : World} {r : Reach} {b : Nat} {t : TypeId} {v : Value} (h : Cell.okWide P w r b t v) : v.oneCell' = true := by
  cases v <;> first
    | rfl
    | (exfalso
       unfold Cell.okWide at h
       split at h
       all_goals first | contradiction | (unfold Cell.ok at h; split at h <;> first | contradiction | simp_all))
set_option maxRecDepth 100000 in
theorem books_one {w : World} {r : Reach} {b0 : Nat} {g : Grp} {A : Option Addr} {n c : Nat} (hv : Value.okWide Try.prog w r b0 32 (.agg #[.string g.gc, .int .i64 g.Y, .int .i64 g.M, .int .i64 g.N, g.x0, g.x1, g.x2, g.x3, g.x4, g.x5, g.x6, g.x7, g.x8, g.x9, g.x10, g.x11, g.x12, g.x13, g.x14, g.x15, g.x16, .slice A n c])) : g.one := by
  simp only [Value.okWide, Try.underlying32] at hv
  obtain ⟨cs, e, _, ts, _, _, hc⟩ := hv
  injection e with e
  subst e
  have hx : ∀ (i : Nat) (v : Value), (#[Value.string g.gc, Value.int .i64 g.Y, Value.int .i64 g.M, Value.int .i64 g.N, g.x0, g.x1, g.x2, g.x3, g.x4, g.x5, g.x6, g.x7, g.x8, g.x9, g.x10, g.x11, g.x12, g.x13, g.x14, g.x15, g.x16, .slice A n c] : Array Value)[i]? = some v → v.oneCell' = true := fun i v h => by
    obtain ⟨u, _, ho⟩ := hc i v h
    exact one_of_okWide ho
  clear hc
  intro v hm
  have hm' : v = Value.string g.gc ∨ v = Value.int .i64 g.Y ∨ v = Value.int .i64 g.M ∨ v = Value.int .i64 g.N ∨ v = g.x0 ∨ v = g.x1 ∨ v = g.x2 ∨ v = g.x3 ∨ v = g.x4 ∨ v = g.x5 ∨ v = g.x6 ∨ v = g.x7 ∨ v = g.x8 ∨ v = g.x9 ∨ v = g.x10 ∨ v = g.x11 ∨ v = g.x12 ∨ v = g.x13 ∨ v = g.x14 ∨ v = g.x15 ∨ v = g.x16 := by simpa using hm
  rcases hm' with h | h | h | h | h | h | h | h | h | h | h | h | h | h | h | h | h | h | h | h | h
  · rw [h]; exact hx 0 _ rfl
  · rw [h]; exact hx 1 _ rfl
  · rw [h]; exact hx 2 _ rfl
  · rw [h]; exact hx 3 _ rfl
  · rw [h]; exact hx 4 _ rfl
  · rw [h]; exact hx 5 _ rfl
  · rw [h]; exact hx 6 _ rfl
  · rw [h]; exact hx 7 _ rfl
  · rw [h]; exact hx 8 _ rfl
  · rw [h]; exact hx 9 _ rfl
  · rw [h]; exact hx 10 _ rfl
  · rw [h]; exact hx 11 _ rfl
  · rw [h]; exact hx 12 _ rfl
  · rw [h]; exact hx 13 _ rfl
  · rw [h]; exact hx 14 _ rfl
  · rw [h]; exact hx 15 _ rfl
  · rw [h]; exact hx 16 _ rfl
  · rw [h]; exact hx 17 _ rfl
  · rw [h]; exact hx 18 _ rfl
  · rw [h]; exact hx 19 _ rfl
  · rw [h]; exact hx 20 _ rfl
section
variable {H : Type} {enc : TypeId × Value → H} {w : World} {spare : Nat → Bool} {held : Bool}
theorem cellsP : Try.prog.cellsOf 47 = 3 := by kernel_rfl
theorem cellsCP : Try.prog.cellsOf 53 = 2 := by kernel_rfl
theorem cellsA2 : Try.prog.cellsOf 58 = 2 := by kernel_rfl

set_option maxRecDepth 100000 in
theorem pair_read {r : Reach} {b0 : Nat} {v : Value} {d : DataW H} {p : List MemPlace} (hv : Value.okWide Try.prog w r b0 47 v) (h : DataW.Trod enc Try.prog w 0 spare held 47 v d p) :
    ∃ (a b : ByteArray) (n : Int), v = .agg #[.string a, .string b, .int .i64 n] ∧ a.size ≤ maxLen ∧ b.size ≤ maxLen ∧ (Lit.int .i64 n).wf = true := by
  obtain ⟨cs, rfl, hsz⟩ := okWide_struct Try.underlying47 hv
  rw [cellsP] at hsz
  obtain ⟨cs⟩ := cs
  match cs, hsz with
  | [c0, c1, c2], _ =>
    obtain ⟨fuel, hf⟩ := h
    simp only [Value.cells] at hf
    obtain ⟨_, _, h0⟩ := field_read Try.underlying47 hf 0 9 0 rfl
    obtain ⟨_, _, h1⟩ := field_read Try.underlying47 hf 1 9 1 rfl
    obtain ⟨_, _, h2⟩ := field_read Try.underlying47 hf 2 3 2 rfl
    simp only [cells1, cells3, List.drop_zero, List.drop_succ_cons, List.take_succ_cons, List.take_zero] at h0 h1 h2
    obtain ⟨s, rfl, hs⟩ := cell_of_trod_string Try.underlying9 h0
    obtain ⟨t, rfl, ht⟩ := cell_of_trod_string Try.underlying9 h1
    obtain ⟨n, rfl, hn⟩ := cell_of_trod_int Try.underlying3 h2
    exact ⟨s, t, n, rfl, hs, ht, hn⟩
set_option maxRecDepth 100000 in
theorem cp_read {r : Reach} {b0 : Nat} {v : Value} {d : DataW H} {p : List MemPlace} (hv : Value.okWide Try.prog w r b0 53 v) (h : DataW.Trod enc Try.prog w 0 spare held 53 v d p) :
    ∃ (a : ByteArray) (n : Int), v = .agg #[.string a, .int .i64 n] ∧ a.size ≤ maxLen ∧ (Lit.int .i64 n).wf = true := by
  obtain ⟨cs, rfl, hsz⟩ := okWide_struct Try.underlying53 hv
  rw [cellsCP] at hsz
  obtain ⟨cs⟩ := cs
  match cs, hsz with
  | [c0, c1], _ =>
    obtain ⟨fuel, hf⟩ := h
    simp only [Value.cells] at hf
    obtain ⟨_, _, h0⟩ := field_read Try.underlying53 hf 0 9 0 rfl
    obtain ⟨_, _, h2⟩ := field_read Try.underlying53 hf 1 3 1 rfl
    simp only [cells1, cells3, List.drop_zero, List.drop_succ_cons, List.take_succ_cons, List.take_zero] at h0 h2
    obtain ⟨s, rfl, hs⟩ := cell_of_trod_string Try.underlying9 h0
    obtain ⟨n, rfl, hn⟩ := cell_of_trod_int Try.underlying3 h2
    exact ⟨s, n, rfl, hs, hn⟩
set_option maxRecDepth 100000 in
theorem rate_arg {r : Reach} {b0 : Nat} {v : Value} {d : DataW H} {p : List MemPlace} (hv : Value.okWide Try.prog w r b0 39 v) (h : DataW.Trod enc Try.prog w 0 spare held 39 v d p) :
    ∃ r : Rt, v = r.v ∧ r.wf := by
  obtain ⟨cs, rfl, hsz⟩ := okWide_struct Try.underlying39 hv
  rw [cellsR] at hsz
  obtain ⟨fuel, hf⟩ := h
  simp only [Value.cells] at hf
  obtain ⟨r, hr, e⟩ := rate_read hf (by simpa using hsz)
  refine ⟨r, ?_, hr⟩
  have : cs = r.cells.toArray := by rw [← e]
  rw [this]; rfl
set_option maxRecDepth 100000 in
theorem arr2_read {r : Reach} {b0 : Nat} {v : Value} {d : DataW H} {p : List MemPlace} (hv : Value.okWide Try.prog w r b0 58 v) (h : DataW.Trod enc Try.prog w 0 spare held 58 v d p) :
    ∃ a b : Int, v = .agg #[.int .i64 a, .int .i64 b] ∧ (Lit.int .i64 a).wf = true ∧ (Lit.int .i64 b).wf = true := by
  simp only [Value.okWide, Try.underlying58] at hv
  obtain ⟨cs, rfl, hsz, _⟩ := hv
  rw [cellsA2] at hsz
  obtain ⟨cs⟩ := cs
  match cs, hsz with
  | [c0, c1], _ =>
    obtain ⟨fuel, hf⟩ := h
    simp only [Value.cells] at hf
    obtain ⟨xs, m, _, _, _, hlen, hg⟩ := DataW.trod_array Try.underlying58 hf
    have h0 := hg 0 (by omega)
    have h1 := hg 1 (by omega)
    simp only [cells3, Nat.zero_mul, Nat.one_mul, List.drop_zero, List.drop_succ_cons, List.take_succ_cons, List.take_zero] at h0 h1
    rw [List.getElem?_eq_getElem (by omega)] at h0 h1
    obtain ⟨a, rfl, ha⟩ := cell_of_trod_int Try.underlying3 h0
    obtain ⟨b, rfl, hb⟩ := cell_of_trod_int Try.underlying3 h1
    exact ⟨a, b, rfl, ha, hb⟩
set_option maxRecDepth 100000 in
/-- A nil slice of rates has no length and no room. -/
theorem books_none {g : Grp} {A : Option Addr} {n c : Nat} {d : DataW H} {p : List MemPlace} (h : DataW.Trod enc Try.prog w 0 spare held 32 (.agg #[.string g.gc, .int .i64 g.Y, .int .i64 g.M, .int .i64 g.N, g.x0, g.x1, g.x2, g.x3, g.x4, g.x5, g.x6, g.x7, g.x8, g.x9, g.x10, g.x11, g.x12, g.x13, g.x14, g.x15, g.x16, .slice A n c]) d p) : A = none → n = 0 ∧ c = 0 := by
  rintro rfl
  obtain ⟨fuel, hf⟩ := h
  simp only [Value.cells] at hf
  obtain ⟨_, _, hR⟩ := field_read Try.underlying32 hf 1 30 21 rfl
  simp only [cellsS, List.drop_zero, List.drop_succ_cons, List.take_succ_cons, List.take_zero] at hR
  rcases open_slice Try.underlying30 hR with ⟨hcs, _⟩ | ⟨a, len, cap, m, k, D, Pl, hcs, _⟩
  · simp at hcs; exact hcs
  · simp at hcs
end
end Go.Proofs.Ytbbbiioojgnpdaa
