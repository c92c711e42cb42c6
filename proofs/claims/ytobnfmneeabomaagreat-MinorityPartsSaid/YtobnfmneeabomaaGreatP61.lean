/- My texts PostSame, LineC, SetF. -/
import Derived.Test.YtobnfmneeabomaaGreatG40
import Derived.Test.YtobnfmneeabomaaGreatK39
set_option linter.unusedVariables false
set_option linter.unusedSimpArgs false
set_option maxRecDepth 100000
set_option maxHeartbeats 8000000
namespace Go.Proofs.YtobnfmneeabomaaGreat
namespace Po
theorem sum_mem {l : List Prt} {a : Int} (h : sum a l ≠ 0) : a ∈ asc l := by
 by_cases ha : a ∈ asc l
 ·exact ha
 ·exact absurd (sum_none a l fun x hx e => ha ((mem_asc a l).2 ⟨x, hx, e⟩)) h
theorem mem_keep {l : List Prt} {a : Int} : a ∈ keep l ↔ sum a l ≠ 0 := by
 unfold keep
 rw [List.mem_filter]
 constructor
 ·intro h; simpa using h.2
 ·intro h; exact ⟨sum_mem h, by simpa using h⟩
theorem bad_iff {l : List Prt} : bad l = true ↔ ∃ a, okAmt (sum a l) = false := by
 unfold bad
 rw [List.any_eq_true]
 constructor
 ·rintro ⟨a, _, h⟩; exact ⟨a, by simpa using h⟩
 ·rintro ⟨a, h⟩
  refine ⟨a, ?_, by simp [h]⟩
  by_cases h0 : sum a l = 0
  ·rw [h0] at h; simp [okAmt] at h
  ·exact sum_mem h0
theorem clean_eq {l l' : List Prt} (h : ∀ a, sum a l = sum a l') : clean l = clean l' := by
 have hk : keep l = keep l' := eq_of_mem (keep_lt l) (keep_lt l') fun a => by rw [mem_keep, mem_keep, h a]
 have hb : bad l = bad l' := by
  have : bad l = true ↔ bad l' = true := by
   rw [bad_iff, bad_iff]
   constructor <;> rintro ⟨a, h1⟩ <;> exact ⟨a, by first | rwa [<- h a] | rwa [h a]⟩
  cases h1 : bad l <;> cases h2 : bad l' <;> simp_all
 unfold clean parts
 rw [hb, hk]
 have : (keep l').map (fun a => (⟨a, sum a l⟩ : Prt)) = (keep l').map (fun a => ⟨a, sum a l'⟩) := List.map_congr_left fun a _ => by rw [h a]
 rw [this]
end Po
end Go.Proofs.YtobnfmneeabomaaGreat
namespace Go.Proofs.YtobnfmneeabomaaGreat
open Go.RowKit
theorem grown_self (w : World) (row : Option Nat) : w.grownBy w row := ⟨rfl, rfl, rfl, Nat.le_refl _, fun _ _ _ => rfl⟩
def rawRow (l : List Raw) : List Value := l.flatMap Raw.cells
theorem rawRow_length : ∀ (l : List Raw), (rawRow l).length = l.length * 9
 | [] => rfl
 | a :: l => by unfold rawRow; rw [List.flatMap_cons, List.length_append, show (List.flatMap Raw.cells l).length = l.length * 9 from rawRow_length l]; simp [Raw.cells]; omega
theorem rawInfo : (Tryz.prog.info? 45).map (fun i => (i.zero, i.size, i.bytes)) = some (some (.agg #[.int .i64 0, .int .i64 0, .int .i64 0, .int .i64 0, .int .i64 0, .int .i64 0, .int .i64 0, .slice none 0 0, .slice none 0 0]), 9, 104) := by kernel_rfl
def Raw.sh (p q : Int) (x : Raw) : Raw := { x with s0 := p, s1 := q }
theorem Raw.sh_at {w : World} {B : Nat} {p q : Int} {x : Raw} (h : x.At w B) : (x.sh p q).At w B := ⟨h.hil, h.him, h.hiA, h.hhl, h.hhm, h.hhA⟩
theorem rawRow_set (p q : Int) : ∀ (L : List Raw) (i : Nat) (hi : i < L.length), ((rawRow L).set (i * 9 + 3) (.int .i64 p)).set (i * 9 + 4) (.int .i64 q) = rawRow (L.set i (L[i].sh p q))
 | x :: L, 0, _ => by simp [rawRow, Raw.cells, Raw.sh]
 | x :: L, i + 1, hi => by
  have ih := rawRow_set p q L i (by simpa using hi)
  unfold rawRow at ih ⊢
  rw [List.flatMap_cons, List.set_cons_succ, List.flatMap_cons]
  have hx : x.cells.length = 9 := rfl
  rw [List.set_append_right _ _ (by rw [hx]; omega), List.set_append_right _ _ (by rw [hx]; omega), hx]
  rw [show (i + 1) * 9 + 3 - 9 = i * 9 + 3 by omega, show (i + 1) * 9 + 4 - 9 = i * 9 + 4 by omega]
  simp only [List.getElem_cons_succ]
  rw [ih]
theorem wpList_copy_raws (w : World) {ops : Array Oper} {rest : List Oper} {o : Oper} {a : Act} {Q : Exit -> Act -> World -> Prop} (hgd : o.guard = none) (s x : Operand) (t : TypeId)
  (ho : o.op = .call { callee := .builtin .append, args := #[s, x], argTypes := #[t, t] }) (ht : Tryz.prog.underlying t = some (.slice 45))
  (g : Nat) (hs : a.eval s = .slice (some ⟨g, 0, none⟩) 0 0) (hg : w.heap[g]? = some (.cells #[] 45 (0, 0)))
  (A : Option Addr) (m c : Nat) (l : List Raw) (hx : a.eval x = .slice A m c) (hl : l.length = m) (hm : m * 104 <= 140737488355328) (h : RawsAt w w.heap.size A l)
  (hK : ∀ G cap w', w'.ownsRow g 45 9 (.slice (some ⟨G, 0, none⟩) m cap) m (rawRow l) -> w.grownBy w' (some g) -> wpList Tryz.prog ops Q rest (a.put o.dst (.slice (some ⟨G, 0, none⟩) m cap)) w') : wpList Tryz.prog ops Q (o :: rest) a w := by
 obtain ⟨i0, hi, hz0, hz1, hz2⟩ := info_parts rawInfo
 have hown0 : w.ownsRow g 45 9 (.slice (some ⟨g, 0, none⟩) 0 0) 0 [] := ⟨rfl, .inr ⟨g, 0, #[], rfl, Nat.le_refl _, hg, Nat.le_refl _, Nat.zero_le _, rfl, rfl⟩⟩
 by_cases h0 : l = []
 ·subst h0
  subst hl
  refine wpList_plain hgd fun K hK' => ?_
  have hrun := run_append_zero (P := Tryz.prog) (w := w) t o.type _ i0 ht hi g A c
  have hk := hK' _ _ (hK g 0 w hown0 (grown_self w _))
  unfold Oper.wp execOp
  simp only [ho, resolve, invoke, builtin, Sem.run_bind, Sem.run_pure, Result.andThen_ok, List.map_toArray, List.map_cons, List.map_nil, hs, hx, List.length_nil, hrun]
  exact hk
 ·rcases h with h | ⟨b, off, rfl, hb, hr⟩
  ·exact absurd h h0
  have hnews : ∀ j u, (rawRow l)[j]? = some u -> w.cell? ((⟨b, off, none⟩ : Addr).add j) = some u := by
   intro j u hj
   have hjl : j < l.length * 9 := by have := (List.getElem?_eq_some_iff.1 hj).1; rw [rawRow_length] at this; exact this
   have hk : j / 9 < l.length := by omega
   have e := flat_get Raw.cells 9 l (fun _ _ => rfl) (j / 9) hk (j % 9) (by omega)
   rw [show j / 9 * 9 + j % 9 = j by omega] at e
   have := hr (j / 9) hk (j % 9) u (e.symm.trans hj)
   rw [Addr.add_mid]
   rw [show off + j / 9 * 9 + j % 9 = off + j by omega] at this
   exact this
  refine wpList_append_own _ hgd s x t ho g _ i0 _ 9 104 ht hi hz0 hz1 hz2 rfl (by decide) _ 0 [] hs hown0 ⟨b, off, none⟩ m c (rawRow l) hx (by rw [rawRow_length, hl]) hnews (by
   intro u hu
   unfold rawRow at hu
   rw [List.mem_flatMap] at hu
   obtain ⟨y, _, hy⟩ := hu
   simp [Raw.cells] at hy
   rcases hy with h | h | h | h | h | h | h | h | h <;> (rw [h]; rfl)) (by unfold maxLen; omega) (by omega) (Nat.le_of_lt (some_lt hg)) ?_
  intro v' w' ho' hg' hnil
  rw [Nat.zero_add, List.nil_append] at ho'
  rcases ho'.2 with ⟨rfl, hm0⟩ | ⟨G, cap, cur, rfl, rest⟩
  ·have := (hnil.1 rfl).1
   cases this
  ·exact hK G cap w' ho' hg'
end Go.Proofs.YtobnfmneeabomaaGreat
namespace Go.Proofs.YtobnfmneeabomaaGreat
open Go.RowKit
theorem rawRow_set2 (c1 c2 : Nat) (v1 v2 : Value) (h1 : c1 < 9) (h2 : c2 < 9) (y : Raw) : ∀ (L : List Raw) (i : Nat) (hi : i < L.length), (L[i].cells.set c1 v1).set c2 v2 = y.cells -> ((rawRow L).set (i * 9 + c1) v1).set (i * 9 + c2) v2 = rawRow (L.set i y)
 | x :: L, 0, _, h => by
  have hx : x.cells.length = 9 := rfl
  unfold rawRow
  rw [List.flatMap_cons, Nat.zero_mul, Nat.zero_add, Nat.zero_add, List.set_append_left _ _ (by rw [hx]; exact h1), List.set_append_left _ _ (by rw [List.length_set, hx]; exact h2), List.set_cons_zero, List.flatMap_cons]
  simp only [List.getElem_cons_zero] at h
  rw [h]
 | x :: L, i + 1, hi, h => by
  have ih := rawRow_set2 c1 c2 v1 v2 h1 h2 y L i (by simpa using hi) (by simpa using h)
  unfold rawRow at ih ⊢
  rw [List.flatMap_cons, List.set_cons_succ, List.flatMap_cons]
  have hx : x.cells.length = 9 := rfl
  rw [List.set_append_right _ _ (by rw [hx]; omega), List.set_append_right _ _ (by rw [hx]; omega), hx]
  rw [show (i + 1) * 9 + c1 - 9 = i * 9 + c1 by omega, show (i + 1) * 9 + c2 - 9 = i * 9 + c2 by omega]
  rw [ih]
def SetF (F : Raw -> Raw) (l : List Raw) (G i : Nat) (W wr : World) : Prop :=
 ∃ (L : List Raw) (cur : Array Value), L.length = l.length /\ (∀ k (hk : k < L.length) (hk' : k < l.length), L[k] = if k < i then F l[k] else l[k]) /\ wr.heap[G]? = some (.cells cur 45 (0, 0)) /\ cur.toList.take (l.length * 9) = rawRow L /\ W.grownBy wr (some G)
namespace SetF
variable {F : Raw -> Raw} {l : List Raw} {G i : Nat} {W wr : World}
theorem start {g n cap : Nat} {w : World} (hl : l.length = n) (h : w.ownsRow g 45 9 (.slice (some ⟨G, 0, none⟩) n cap) n (rawRow l)) : SetF F l G 0 w w := by
 rcases h.2 with ⟨h, _⟩ | ⟨G', c', cur, h, hb, hh, h1, h2, h3, h4⟩
 ·cases h
 ·cases h
  exact ⟨l, cur, rfl, fun k hk hk' => by rw [if_neg (by omega)], hh, by rw [hl]; exact h4, grown_self _ _⟩
theorem look (h : SetF F l G i W wr) (hi : i < l.length) : (∀ j v, j < 9 -> l[i].cells[j]? = some v -> wr.cell? ⟨G, i * 9 + j, none⟩ = some v) /\ (∀ j, wr.frozen? ⟨G, j, none⟩ = false) /\ G < wr.heap.size := by
 obtain ⟨L, cur, hL, hk, hc, ht, hg⟩ := h
 have hget : ∀ (j : Nat) (v : Value), (rawRow L)[j]? = some v -> cur[j]? = some v := by
  intro j v hv
  rw [<- ht, List.getElem?_take] at hv
  split at hv
  ·simpa using hv
  ·cases hv
 have hiL : i < L.length := by omega
 have hLi : L[i] = l[i] := by rw [hk i hiL hi, if_neg (by omega)]
 refine ⟨fun j v hj hv => ?_, fun j => frozen_of_row _ _ j _ _ hc, some_lt hc⟩
 rw [cell_of_row _ _ _ _ _ _ hc]
 refine hget _ _ ?_
 rw [<- hLi] at hv
 exact (flat_get Raw.cells 9 L (fun _ _ => rfl) i hiL j hj).trans hv
theorem step (h : SetF F l G i W wr) (hi : i < l.length) (c1 c2 : Nat) (v1 v2 : Value) (h1 : c1 < 9) (h2 : c2 < 9) (hy : (l[i].cells.set c1 v1).set c2 v2 = (F l[i]).cells) :
  SetF F l G (i + 1) W ((wr.setCell ⟨G, i * 9 + c1, none⟩ v1).setCell ⟨G, i * 9 + c2, none⟩ v2) := by
 obtain ⟨L, cur, hL, hk, hc, ht, hg⟩ := h
 have hiL : i < L.length := by omega
 have hLi : L[i] = l[i] := by rw [hk i hiL hi, if_neg (by omega)]
 have e1 := heap_setCell_same wr G (i * 9 + c1) _ _ v1 hc
 have e2 := heap_setCell_same _ G (i * 9 + c2) _ _ v2 e1
 refine ⟨L.set i (F l[i]), _, by simp [hL], fun k hk1 hk2 => ?_, e2, ?_, ?_⟩
 ·have hkL : k < L.length := by simpa using hk1
  rw [List.getElem_set]
  have := hk k hkL hk2
  by_cases e : i = k
  ·subst e
   rw [if_pos rfl, if_pos (by omega)]
  ·rw [if_neg e, this]
   by_cases e2 : k < i
   ·rw [if_pos e2, if_pos (by omega)]
   ·rw [if_neg e2, if_neg (by omega)]
 ·rw [<- rawRow_set2 c1 c2 v1 v2 h1 h2 (F l[i]) L i hiL (by rw [hLi]; exact hy), <- ht]
  simp [List.take_set]
 ·exact ⟨hg.os, hg.tape, hg.output, by simpa [World.setCell] using hg.size, fun k hk hne => by
   have hne' : k ≠ G := fun e => hne (by rw [e])
   rw [heap_setCell_other _ _ _ _ hne', heap_setCell_other _ _ _ _ hne']
   exact hg.block k hk hne⟩
theorem keep (h : SetF F l G i W wr) (hi : i < l.length) (hy : F l[i] = l[i]) : SetF F l G (i + 1) W wr := by
 obtain ⟨L, cur, hL, hk, hc, ht, hg⟩ := h
 refine ⟨L, cur, hL, fun k hk1 hk2 => ?_, hc, ht, hg⟩
 rw [hk k hk1 hk2]
 by_cases e : k = i
 ·subst e; rw [if_neg (by omega), if_pos (by omega), hy]
 ·by_cases e2 : k < i
  ·rw [if_pos e2, if_pos (by omega)]
  ·rw [if_neg e2, if_neg (by omega)]
theorem grown (h : SetF F l G i W wr) : W.grownBy wr (some G) := by obtain ⟨_, _, _, _, _, _, h⟩ := h; exact h
theorem done (h : SetF F l G l.length W wr) : RawsAt wr wr.heap.size (some ⟨G, 0, none⟩) (l.map F) := by
 obtain ⟨L, cur, hL, hk, hc, ht, hg⟩ := h
 have e : L = l.map F := by
  apply List.ext_getElem (by simp [hL])
  intro k h1 h2
  have h3 : k < l.length := by simpa using h2
  rw [hk k h1 h3, if_pos h3, List.getElem_map]
 refine .inr ⟨G, 0, rfl, some_lt hc, fun k hkk j v hj => ?_⟩
 have hkl : k < l.length := by simpa using hkk
 have hjl : j < 9 := by have := (List.getElem?_eq_some_iff.1 hj).1; simpa [Raw.cells] using this
 rw [Nat.zero_add, cell_of_row _ _ _ _ _ _ hc]
 have hf := flat_get Raw.cells 9 (l.map F) (fun _ _ => rfl) k hkk j hjl
 rw [hj] at hf
 have : (cur.toList.take (l.length * 9))[k * 9 + j]? = some v := by rw [ht, e]; exact hf
 rw [List.getElem?_take, if_pos (by omega)] at this
 simpa using this
end SetF
end Go.Proofs.YtobnfmneeabomaaGreat
