/- My texts OpenU. -/
import Derived.Test.YtobnfmneeabomaaGreatK39
set_option linter.unusedVariables false
set_option linter.unusedSimpArgs false
set_option maxRecDepth 100000
set_option maxHeartbeats 8000000
namespace Go.Proofs.YtobnfmneeabomaaGreat
open Go.ChangeShapes Go.WideShapes Go.ChangeAt Go.RowKit
theorem cU16 : Tryz.prog.cellsOf 23 = 1 := by kernel_rfl
theorem cPairU : Tryz.prog.cellsOf 24 = 2 := by kernel_rfl
section
variable {H : Type} {enc : TypeId × Value -> H} {w : World} {spare : Nat -> Bool} {held : Bool}
theorem pairu_cells {fuel : Nat} {c0 c1 : Value} {x : DataW H × List MemPlace} (h : DataW.trod enc Tryz.prog w 0 spare held fuel 24 [c0, c1] = some x) :
  ∃ a b : Int, c0 = .int .u16 a /\ c1 = .int .u16 b /\ (Lit.int .u16 a).wf = true /\ (Lit.int .u16 b).wf = true := by
 obtain ⟨xs, m, _, _, _, hlen, hg⟩ := DataW.trod_array Tryz.underlying24 h
 have h0 := hg 0 (by omega)
 have h1 := hg 1 (by omega)
 simp only [cU16, Nat.zero_mul, Nat.one_mul, List.drop_zero, List.drop_succ_cons, List.take_succ_cons, List.take_zero] at h0 h1
 rw [List.getElem?_eq_getElem (by omega)] at h0 h1
 obtain ⟨a, rfl, ha⟩ := cell_of_trod_int Tryz.underlying23 h0
 obtain ⟨b, rfl, hb⟩ := cell_of_trod_int Tryz.underlying23 h1
 exact ⟨a, b, rfl, rfl, ha, hb⟩
theorem u16_of_wf {x : Int} (h : (Lit.int .u16 x).wf = true) : 0 <= x /\ x < 65536 := by
 have h1 : IntKind.u16.min = 0 := rfl
 have h2 : IntKind.u16.max = 65535 := rfl
 simp only [Lit.wf, Bool.and_eq_true, decide_eq_true_eq] at h
 omega
theorem arr2u_arg {r : Reach} {b0 : Nat} {v : Value} {d : DataW H} {p : List MemPlace} (hv : Value.okWide Tryz.prog w r b0 24 v) (h : DataW.Trod enc Tryz.prog w 0 spare held 24 v d p) :
  ∃ a b : Int, v = .agg #[.int .u16 a, .int .u16 b] /\ (0 <= a /\ a < 65536) /\ 0 <= b /\ b < 65536 := by
 simp only [Value.okWide, Tryz.underlying24] at hv
 obtain ⟨cs, rfl, hsz, _⟩ := hv
 rw [cPairU] at hsz
 obtain ⟨cs⟩ := cs
 match cs, hsz with
 | [c0, c1], _ =>
  obtain ⟨fuel, hf⟩ := h
  simp only [Value.cells] at hf
  obtain ⟨a, b, rfl, rfl, ha, hb⟩ := pairu_cells hf
  refine ⟨a, b, rfl, ?_, ?_⟩
  ·exact u16_of_wf ha
  ·exact u16_of_wf hb
end
end Go.Proofs.YtobnfmneeabomaaGreat
