/- My texts OthP, OthM. -/
import Derived.Test.YtobnfmneeabomaaGreatK39
import Derived.Test.YtobnfmneeabomaaGreatK43
import Derived.Test.YtobnfmneeabomaaGreatK46
import Derived.Test.YtobnfmneeabomaaGreatP61
import Derived.Test.YtobnfmneeabomaaGreatP64
set_option linter.unusedVariables false
set_option linter.unusedSimpArgs false
set_option maxRecDepth 100000
set_option maxHeartbeats 8000000
namespace Go.Proofs.YtobnfmneeabomaaGreat
open Go.RowKit
def othPair (y : Int) : List Itm := [⟨0, 0, 0, 1010, -1, 0, y⟩, ⟨0, 0, 0, 2000, -1, 0, -y⟩]
theorem Smp.oth39 {g : Grp} (h : Smp.Is g) : ((Gr.isResult g 1010 = false /\ Gr.isResult g 2000 = false) /\ Gr.isEquity g 1010 = false /\ Gr.isEquity g 2000 = false) /\ g.r12 ≠ g.r6 /\ g.r12 ≠ g.r5 /\ g.r6 ≠ g.r5 := by
 obtain ⟨A, c, eA, ec, x0, x1, x2, x3, rfl⟩ := h
 refine ⟨⟨⟨by kernel_rfl, by kernel_rfl⟩, by kernel_rfl, by kernel_rfl⟩, ?_, ?_, ?_⟩ <;> (simp only [Smp.grp]; decide)
namespace Gr
theorem sum_pair {P : Int -> Bool} (h1 : P 1010 = false) (h2 : P 2000 = false) (l : List Itm) (y : Int) : sumOf P (l ++ othPair y) = sumOf P l := by
 rw [sumOf_append]; simp [othPair, sumOf, h1, h2]
theorem all_pair (l : List Itm) (y : Int) : sumAll (l ++ othPair y) = sumAll l := by
 unfold sumAll
 rw [sumOf_append]; simp [othPair, sumOf]; omega
theorem minor_pair {g : Grp} {m m' : List Cnt} {x y : Int} (hr : (isResult g 1010 = false /\ isResult g 2000 = false) /\ isEquity g 1010 = false /\ isEquity g 2000 = false) (h : Cn.cfind m' x = (Cn.cfind m x).map (fun a => { a with its := a.its ++ othPair y })) : minor g m' x = minor g m x := by
 unfold minor
 rw [h]
 cases Cn.cfind m x with
 | none => rfl
 | some a =>
  simp only [Option.map_some]
  rw [sum_pair hr.1.1 hr.1.2, sum_pair hr.2.1 hr.2.2, all_pair]
theorem mpost_pair {g : Grp} {m m' : List Cnt} {x y : Int} (hr : (isResult g 1010 = false /\ isResult g 2000 = false) /\ isEquity g 1010 = false /\ isEquity g 2000 = false) (h : Cn.cfind m' x = (Cn.cfind m x).map (fun a => { a with its := a.its ++ othPair y })) : mpost g m' x = mpost g m x := by
 unfold mpost
 rw [minor_pair hr h]
theorem pl_okm {r : List Prt × Int} (h : r.2 = 0) : Po.pl r = r.1 := by
 by_cases h1 : Po.none_ r
 ·rw [Po.pl_yes h1]
  rcases h1 with h2 | h2
  ·exact absurd h h2
  ·rw [h2]
 ·exact Po.pl_no h1
theorem mpost_three {g : Grp} {m : List Cnt} {x : Int} (hd : g.r12 ≠ g.r6 /\ g.r12 ≠ g.r5 /\ g.r6 ≠ g.r5)
  (hb : (-1100000000000001 <= (minor g m x).1.2.2.1 /\ (minor g m x).1.2.2.1 <= 1100000000000001) /\ -1100000000000001 <= (minor g m x).1.2.2.2 /\ (minor g m x).1.2.2.2 <= 1100000000000001) :
  (-1100000000000001 <= Po.part (Po.pl (mpost g m x)) g.r12 /\ Po.part (Po.pl (mpost g m x)) g.r12 <= 1100000000000001) /\ (-1100000000000001 <= Po.part (Po.pl (mpost g m x)) g.r6 /\ Po.part (Po.pl (mpost g m x)) g.r6 <= 1100000000000001) /\
   Po.part (Po.pl (mpost g m x)) g.r12 + Po.part (Po.pl (mpost g m x)) g.r6 + Po.part (Po.pl (mpost g m x)) g.r5 = 0 := by
 obtain ⟨d1, d2, d3⟩ := hd
 by_cases h : (mpost g m x).2 = 0
 ·have h0 : (minor g m x).2 = 0 := by
   by_cases h1 : (minor g m x).2 = 0
   ·exact h1
   ·unfold mpost at h
    rw [if_pos h1] at h
    exact h
  have hc : mpost g m x = Po.clean [⟨g.r12, -(minor g m x).1.2.2.1⟩, ⟨g.r6, -(minor g m x).1.2.2.2⟩, ⟨g.r5, (minor g m x).1.2.2.1 + (minor g m x).1.2.2.2⟩] := by
   unfold mpost; rw [if_neg (by rw [h0]; simp)]
  rw [pl_okm h]
  rw [hc] at h ⊢
  have e1 : Po.part (Po.clean [⟨g.r12, -(minor g m x).1.2.2.1⟩, ⟨g.r6, -(minor g m x).1.2.2.2⟩, ⟨g.r5, (minor g m x).1.2.2.1 + (minor g m x).1.2.2.2⟩]).1 g.r12 = -(minor g m x).1.2.2.1 := by
   rw [Po.part_clean h]; simp [Po.sum, d1, d2, d3, Ne.symm d1, Ne.symm d2, Ne.symm d3]
  have e2 : Po.part (Po.clean [⟨g.r12, -(minor g m x).1.2.2.1⟩, ⟨g.r6, -(minor g m x).1.2.2.2⟩, ⟨g.r5, (minor g m x).1.2.2.1 + (minor g m x).1.2.2.2⟩]).1 g.r6 = -(minor g m x).1.2.2.2 := by
   rw [Po.part_clean h]; simp [Po.sum, d1, d2, d3, Ne.symm d1, Ne.symm d2, Ne.symm d3]
  have e3 : Po.part (Po.clean [⟨g.r12, -(minor g m x).1.2.2.1⟩, ⟨g.r6, -(minor g m x).1.2.2.2⟩, ⟨g.r5, (minor g m x).1.2.2.1 + (minor g m x).1.2.2.2⟩]).1 g.r5 = (minor g m x).1.2.2.1 + (minor g m x).1.2.2.2 := by
   rw [Po.part_clean h]; simp [Po.sum, d1, d2, d3, Ne.symm d1, Ne.symm d2, Ne.symm d3]
  rw [e1, e2, e3]
  omega
 ·rw [Po.pl_yes (.inl h)]
  simp [Po.part_nil]
end Gr
theorem grown_set9 (w : World) (X j : Nat) (v : Value) : w.grownBy (w.setCell ⟨X, j, none⟩ v) (some X) :=
 ⟨rfl, rfl, rfl, by simp [World.setCell], fun k hk hne => heap_setCell_other w _ _ _ (fun e => hne (by rw [e]))⟩
theorem wpList_own_itms (w : World) {ops : Array Oper} {rest : List Oper} {o : Oper} {a : Act} {Q : Exit -> Act -> World -> Prop} (hgd : o.guard = none) (s x : Operand) (t : TypeId)
  (ho : o.op = .call { callee := .builtin .append, args := #[s, x], argTypes := #[t, t] }) (ht : Tryz.prog.underlying t = some (.slice 61))
  (g : Nat) (hs : a.eval s = .slice (some ⟨g, 0, none⟩) 0 0) (hg : w.heap[g]? = some (.cells #[] 61 (0, 0)))
  (A : Option Addr) (m c : Nat) (l : List Itm) (hx : a.eval x = .slice A m c) (hl : l.length = m) (hm : m <= 50) (h : ItmsAt w w.heap.size A l)
  (hK : ∀ v' w', w'.ownsRow g 61 7 v' m (l.flatMap Itm.cells) -> w.grownBy w' (some g) -> wpList Tryz.prog ops Q rest (a.put o.dst v') w') : wpList Tryz.prog ops Q (o :: rest) a w := by
 obtain ⟨i0, hi, hz0, hz1, hz2⟩ := info_parts itmInfo
 have hown0 : w.ownsRow g 61 7 (.slice (some ⟨g, 0, none⟩) 0 0) 0 [] := ⟨rfl, .inr ⟨g, 0, #[], rfl, Nat.le_refl _, hg, Nat.le_refl _, Nat.zero_le _, rfl, rfl⟩⟩
 by_cases h0 : l = []
 ·subst h0
  subst hl
  refine wpList_plain hgd fun K hK' => ?_
  have hrun := run_append_zero (P := Tryz.prog) (w := w) t o.type _ i0 ht hi g A c
  have hk := hK' _ _ (hK _ w hown0 (grown_self w _))
  unfold Oper.wp execOp
  simp only [ho, resolve, invoke, builtin, Sem.run_bind, Sem.run_pure, Result.andThen_ok, List.map_toArray, List.map_cons, List.map_nil, hs, hx, List.length_nil, hrun]
  exact hk
 ·rcases h with h | ⟨b, off, rfl, hb, hr⟩
  ·exact absurd h h0
  have hnews : ∀ j u, (l.flatMap Itm.cells)[j]? = some u -> w.cell? ((⟨b, off, none⟩ : Addr).add j) = some u := by
   intro j u hj
   have hjl : j < l.length * 7 := by have := (List.getElem?_eq_some_iff.1 hj).1; rw [itms_len] at this; exact this
   have hk : j / 7 < l.length := by omega
   have e := flat_get Itm.cells 7 l (fun _ _ => rfl) (j / 7) hk (j % 7) (by omega)
   rw [show j / 7 * 7 + j % 7 = j by omega] at e
   have := hr (j / 7) hk (j % 7) u (e.symm.trans hj)
   rw [Addr.add_mid]
   rw [show off + j / 7 * 7 + j % 7 = off + j by omega] at this
   exact this
  refine wpList_append_own _ hgd s x t ho g _ i0 _ 7 56 ht hi hz0 hz1 hz2 rfl (by decide) _ 0 [] hs hown0 ⟨b, off, none⟩ m c (l.flatMap Itm.cells) hx (by rw [itms_len, hl]) hnews (by
   intro u hu
   rw [List.mem_flatMap] at hu
   obtain ⟨y, _, hy⟩ := hu
   simp [Itm.cells] at hy
   rcases hy with h | h | h | h | h | h | h <;> (rw [h]; rfl)) (by unfold maxLen; omega) (by omega) (Nat.le_of_lt (some_lt hg)) ?_
  intro v' w' ho' hg' hnil
  rw [Nat.zero_add, List.nil_append] at ho'
  exact hK v' w' ho' hg'
def OnlyAt (w : World) (x y : Int) (m : List Raw) (v : Value) : Prop :=
 (v = .slice none 0 0 /\ ∀ a ∈ m, a.ent ≠ x) ∨ ∃ A c m1 a m2 z, v = .slice A 1 c /\ m = m1 ++ a :: m2 /\ (∀ b ∈ m1, b.ent ≠ x) /\ a.ent = x /\ RawsAt w w.heap.size A [z] /\ z.At w w.heap.size /\ z.its = a.its ++ othPair y /\ z = { a with iA := z.iA, im := z.im, ic := z.ic, its := z.its }
namespace OnlyAt
variable {w w' : World} {x y : Int} {m : List Raw} {v : Value}
theorem start : OnlyAt w x y [] (.slice none 0 0) := .inl ⟨rfl, fun a h => by cases h⟩
theorem at_ (h : OnlyAt w x y m v) (hb : Below w.heap.size w w') : OnlyAt w' x y m v := by
 rcases h with h | ⟨A, c, m1, a, m2, z, h1, h2, h3, h4, h5, h6, h7, h8⟩
 ·exact .inl h
 ·exact .inr ⟨A, c, m1, a, m2, z, h1, h2, h3, h4, RowsAt.at_ h5 hb, (h6.below hb (Nat.le_refl _)).more hb.size, h7, h8⟩
theorem other (h : OnlyAt w x y m v) {b : Raw} (hb : b.ent ≠ x) : OnlyAt w x y (m ++ [b]) v := by
 rcases h with ⟨h1, h2⟩ | ⟨A, c, m1, a, m2, z, h1, h2, h3⟩
 ·refine .inl ⟨h1, fun a ha => ?_⟩
  rw [List.mem_append, List.mem_singleton] at ha
  rcases ha with ha | rfl
  ·exact h2 a ha
  ·exact hb
 ·exact .inr ⟨A, c, m1, a, m2 ++ [b], z, h1, by rw [h2]; simp, h3⟩
theorem more {A : Option Addr} {c : Nat} (h : OnlyAt w x y m (.slice A 1 c)) (b : Raw) : OnlyAt w x y (m ++ [b]) (.slice A 1 c) := by
 rcases h with ⟨h1, h2⟩ | ⟨A, c, m1, a, m2, z, h1, h2, h3⟩
 ·cases h1
 ·exact .inr ⟨A, c, m1, a, m2 ++ [b], z, h1, by rw [h2]; simp, h3⟩
theorem split (h : OnlyAt w x y m v) : (v = .slice none 0 0 /\ ∀ a ∈ m, a.ent ≠ x) ∨ ∃ A c, v = .slice A 1 c := by
 rcases h with h | ⟨A, c, m1, a, m2, z, h1, _⟩
 ·exact .inl h
 ·exact .inr ⟨A, c, h1⟩
theorem done (h : OnlyAt w x y m v) (hy : -1000000000000 <= y /\ y <= 1000000000000) (hok : ∀ a ∈ m, a.ok = true) (hwf : ∀ a ∈ m, ∀ z ∈ a.its, (Lit.int .i64 z.acct).wf = true) :
  ∃ A n c R, v = .slice A n c /\ R.length = n /\ n <= 1 /\ RawsAt w w.heap.size A R /\ (∀ a ∈ R, a.At w w.heap.size) /\ (∀ a ∈ R, a.wide) /\ (∀ q ∈ R.map Raw.cnt, ∀ z ∈ q.its, (Lit.int .i64 z.acct).wf = true) /\
   Cn.cfind (R.map Raw.cnt) x = (Cn.cfind (m.map Raw.cnt) x).map (fun a => { a with its := a.its ++ othPair y }) := by
 rcases h with ⟨rfl, h2⟩ | ⟨A, c, m1, a, m2, z, rfl, rfl, h3, h4, h5, h6, h7, h8⟩
 ·refine ⟨none, 0, 0, [], rfl, rfl, Nat.zero_le _, .inl rfl, fun a h => (by cases h), fun a h => (by cases h), fun a h => (by cases h), ?_⟩
  have e : Cn.cfind (m.map Raw.cnt) x = none := by
   unfold Cn.cfind
   rw [List.find?_eq_none]
   intro q hq
   rw [List.mem_map] at hq
   obtain ⟨b, hb, rfl⟩ := hq
   have := h2 b hb
   simpa [Raw.cnt] using this
  rw [e]; rfl
 ·have ham : a ∈ m1 ++ a :: m2 := by simp
  refine ⟨A, 1, c, [z], rfl, rfl, Nat.le_refl _, h5, fun b hb => ?_, fun b hb => ?_, fun q hq => ?_, ?_⟩
  ·rw [List.mem_singleton] at hb; subst hb; exact h6
  ·rw [List.mem_singleton] at hb; subst hb
   obtain ⟨k1, k2, k3, k4, k5⟩ := Raw.ok_wide (hok a ham)
   have k6 := (Raw.few_ok (Raw.ok_parts (hok a ham)).2.2.1).1
   refine ⟨by rw [h8]; exact k1, by rw [h8]; exact k2, ⟨by rw [h7, List.length_append]; simp [othPair]; omega, fun q hq => ?_⟩, by rw [h8]; exact k4, by rw [h8]; exact k5⟩
   rw [h7, List.mem_append] at hq
   rcases hq with hq | hq
   ·exact k3.2 q hq
   ·simp [othPair] at hq
    rcases hq with rfl | rfl
    ·exact hy
    ·unfold Itm.small; simp only []; omega
  ·simp only [List.map_cons, List.map_nil, List.mem_singleton] at hq
   subst hq
   intro u hu
   have hu' : u ∈ z.its := hu
   rw [h7, List.mem_append] at hu'
   rcases hu' with hu' | hu'
   ·exact hwf a ham u hu'
   ·simp [othPair] at hu'
    rcases hu' with rfl | rfl <;> rfl
  ·have e1 : Cn.cfind ((m1 ++ a :: m2).map Raw.cnt) x = some a.cnt := by
    unfold Cn.cfind
    rw [List.map_append, List.find?_append]
    have e : (m1.map Raw.cnt).find? (fun q => q.ent == x) = none := by
     rw [List.find?_eq_none]
     intro q hq
     rw [List.mem_map] at hq
     obtain ⟨b, hb, rfl⟩ := hq
     have := h3 b hb
     simpa [Raw.cnt] using this
    rw [e, List.map_cons, List.find?_cons_of_pos (by simp [Raw.cnt, h4])]
    rfl
   have e2 : Cn.cfind ([z].map Raw.cnt) x = some z.cnt := by
    unfold Cn.cfind
    have : z.ent = x := by rw [h8]; exact h4
    rw [List.map_cons, List.find?_cons_of_pos (by simp [Raw.cnt, this])]
   rw [e1, e2, Option.map_some]
   have : z.cnt = { a.cnt with its := a.cnt.its ++ othPair y } := by
    rw [h8]
    unfold Raw.cnt
    rw [h7]
   rw [this]
end OnlyAt
end Go.Proofs.YtobnfmneeabomaaGreat
