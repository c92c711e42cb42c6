/- My texts SetF, ShadP, PostX, LawS41. -/
import Derived.Test.YtcblobokjhhboaaGreatG14
import Derived.Test.YtcblobokjhhboaaGreatH46
import Derived.Test.YtcblobokjhhboaaGreatH48
import Derived.Test.YtcblobokjhhboaaGreatH50
set_option linter.unusedVariables false
set_option linter.unusedSimpArgs false
set_option maxRecDepth 100000
set_option maxHeartbeats 8000000
namespace Go.Proofs.YtcblobokjhhboaaGreat
open Go.RowKit
theorem rawRow_set2 (c1 c2 : Nat) (v1 v2 : Value) (h1 : c1 < 9) (h2 : c2 < 9) (y : Raw) : ∀ (L : List Raw) (i : Nat) (hi : i < L.length), (L[i].cells.set c1 v1).set c2 v2 = y.cells -> ((rawRow L).set (i * 9 + c1) v1).set (i * 9 + c2) v2 = rawRow (L.set i y)
 | x :: L, 0, _, h => by
  have hx : x.cells.length = 9 := rfl
  unfold rawRow
  rw [List.flatMap_cons, Nat.zero_mul, Nat.zero_add, Nat.zero_add, List.set_append_left _ _ (by rw [hx]; exact h1), List.set_append_left _ _ (by rw [List.length_set, hx]; exact h2), List.set_cons_zero, List.flatMap_cons]
  simp only [List.getElem_cons_zero] at h
  rw [h]
 | x :: L, i + 1, hi, h => by
  have ih := rawRow_set2 c1 c2 v1 v2 h1 h2 y L i (by simpa using hi) (by simpa using h)
  unfold rawRow at ih ⊢
  rw [List.flatMap_cons, List.set_cons_succ, List.flatMap_cons]
  have hx : x.cells.length = 9 := rfl
  rw [List.set_append_right _ _ (by rw [hx]; omega), List.set_append_right _ _ (by rw [hx]; omega), hx]
  rw [show (i + 1) * 9 + c1 - 9 = i * 9 + c1 by omega, show (i + 1) * 9 + c2 - 9 = i * 9 + c2 by omega]
  rw [ih]
def SetF (F : Raw -> Raw) (l : List Raw) (G i : Nat) (W wr : World) : Prop :=
 ∃ (L : List Raw) (cur : Array Value), L.length = l.length /\ (∀ k (hk : k < L.length) (hk' : k < l.length), L[k] = if k < i then F l[k] else l[k]) /\ wr.heap[G]? = some (.cells cur 57 (0, 0)) /\ cur.toList.take (l.length * 9) = rawRow L /\ W.grownBy wr (some G)
namespace SetF
variable {F : Raw -> Raw} {l : List Raw} {G i : Nat} {W wr : World}
theorem start {g n cap : Nat} {w : World} (hl : l.length = n) (h : w.ownsRow g 57 9 (.slice (some ⟨G, 0, none⟩) n cap) n (rawRow l)) : SetF F l G 0 w w := by
 rcases h.2 with ⟨h, _⟩ | ⟨G', c', cur, h, hb, hh, h1, h2, h3, h4⟩
 ·cases h
 ·cases h
  exact ⟨l, cur, rfl, fun k hk hk' => by rw [if_neg (by omega)], hh, by rw [hl]; exact h4, grown_self _ _⟩
theorem look (h : SetF F l G i W wr) (hi : i < l.length) : (∀ j v, j < 9 -> l[i].cells[j]? = some v -> wr.cell? ⟨G, i * 9 + j, none⟩ = some v) /\ (∀ j, wr.frozen? ⟨G, j, none⟩ = false) /\ G < wr.heap.size := by
 obtain ⟨L, cur, hL, hk, hc, ht, hg⟩ := h
 have hget : ∀ (j : Nat) (v : Value), (rawRow L)[j]? = some v -> cur[j]? = some v := by
  intro j v hv
  rw [<- ht, List.getElem?_take] at hv
  split at hv
  ·simpa using hv
  ·cases hv
 have hiL : i < L.length := by omega
 have hLi : L[i] = l[i] := by rw [hk i hiL hi, if_neg (by omega)]
 refine ⟨fun j v hj hv => ?_, fun j => frozen_of_row _ _ j _ _ hc, some_lt hc⟩
 rw [cell_of_row _ _ _ _ _ _ hc]
 refine hget _ _ ?_
 rw [<- hLi] at hv
 exact (flat_get Raw.cells 9 L (fun _ _ => rfl) i hiL j hj).trans hv
theorem step (h : SetF F l G i W wr) (hi : i < l.length) (c1 c2 : Nat) (v1 v2 : Value) (h1 : c1 < 9) (h2 : c2 < 9) (hy : (l[i].cells.set c1 v1).set c2 v2 = (F l[i]).cells) :
  SetF F l G (i + 1) W ((wr.setCell ⟨G, i * 9 + c1, none⟩ v1).setCell ⟨G, i * 9 + c2, none⟩ v2) := by
 obtain ⟨L, cur, hL, hk, hc, ht, hg⟩ := h
 have hiL : i < L.length := by omega
 have hLi : L[i] = l[i] := by rw [hk i hiL hi, if_neg (by omega)]
 have e1 := heap_setCell_same wr G (i * 9 + c1) _ _ v1 hc
 have e2 := heap_setCell_same _ G (i * 9 + c2) _ _ v2 e1
 refine ⟨L.set i (F l[i]), _, by simp [hL], fun k hk1 hk2 => ?_, e2, ?_, ?_⟩
 ·have hkL : k < L.length := by simpa using hk1
  rw [List.getElem_set]
  have := hk k hkL hk2
  by_cases e : i = k
  ·subst e
   rw [if_pos rfl, if_pos (by omega)]
  ·rw [if_neg e, this]
   by_cases e2 : k < i
   ·rw [if_pos e2, if_pos (by omega)]
   ·rw [if_neg e2, if_neg (by omega)]
 ·rw [<- rawRow_set2 c1 c2 v1 v2 h1 h2 (F l[i]) L i hiL (by rw [hLi]; exact hy), <- ht]
  simp [List.take_set]
 ·exact ⟨hg.os, hg.tape, hg.output, by simpa [World.setCell] using hg.size, fun k hk hne => by
   have hne' : k ≠ G := fun e => hne (by rw [e])
   rw [heap_setCell_other _ _ _ _ hne', heap_setCell_other _ _ _ _ hne']
   exact hg.block k hk hne⟩
theorem keep (h : SetF F l G i W wr) (hi : i < l.length) (hy : F l[i] = l[i]) : SetF F l G (i + 1) W wr := by
 obtain ⟨L, cur, hL, hk, hc, ht, hg⟩ := h
 refine ⟨L, cur, hL, fun k hk1 hk2 => ?_, hc, ht, hg⟩
 rw [hk k hk1 hk2]
 by_cases e : k = i
 ·subst e; rw [if_neg (by omega), if_pos (by omega), hy]
 ·by_cases e2 : k < i
  ·rw [if_pos e2, if_pos (by omega)]
  ·rw [if_neg e2, if_neg (by omega)]
theorem grown (h : SetF F l G i W wr) : W.grownBy wr (some G) := by obtain ⟨_, _, _, _, _, _, h⟩ := h; exact h
theorem done (h : SetF F l G l.length W wr) : RawsAt wr wr.heap.size (some ⟨G, 0, none⟩) (l.map F) := by
 obtain ⟨L, cur, hL, hk, hc, ht, hg⟩ := h
 have e : L = l.map F := by
  apply List.ext_getElem (by simp [hL])
  intro k h1 h2
  have h3 : k < l.length := by simpa using h2
  rw [hk k h1 h3, if_pos h3, List.getElem_map]
 refine .inr ⟨G, 0, rfl, some_lt hc, fun k hkk j v hj => ?_⟩
 have hkl : k < l.length := by simpa using hkk
 have hjl : j < 9 := by have := (List.getElem?_eq_some_iff.1 hj).1; simpa [Raw.cells] using this
 rw [Nat.zero_add, cell_of_row _ _ _ _ _ _ hc]
 have hf := flat_get Raw.cells 9 (l.map F) (fun _ _ => rfl) k hkk j hjl
 rw [hj] at hf
 have : (cur.toList.take (l.length * 9))[k * 9 + j]? = some v := by rw [ht, e]; exact hf
 rw [List.getElem?_take, if_pos (by omega)] at this
 simpa using this
end SetF
namespace Gr
def keepsh (g : Grp) (z : Itm) : Bool := decide (3 <= kind g z.acct) && decide (z.acct ≠ g.r7)
def left (g : Grp) (l : List Itm) : List Itm := l.filter (keepsh g)
theorem left_take (g : Grp) {l : List Itm} {k : Nat} (hk : k < l.length) : left g (l.take (k + 1)) = left g (l.take k) ++ (if keepsh g l[k] = true then [l[k]] else []) := by
 unfold left
 rw [List.take_succ_eq_append_getElem hk, List.filter_append, List.filter_cons, List.filter_nil]
theorem left_length (g : Grp) (l : List Itm) : (left g l).length <= l.length := List.length_filter_le _ _
theorem sumOf_left {g : Grp} {P : Int -> Bool} (h : ∀ z : Itm, P z.acct = true -> keepsh g z = true) : ∀ l : List Itm, sumOf P (left g l) = sumOf P l
 | [] => rfl
 | z :: l => by
  have ih := sumOf_left h l
  unfold left at ih ⊢
  by_cases hk : keepsh g z = true
  ·rw [List.filter_cons_of_pos hk]; simp only [sumOf, ih]
  ·have hp : P z.acct ≠ true := fun e => hk (h z e)
   rw [List.filter_cons_of_neg hk]; simp only [sumOf, ih, if_neg hp]; omega
theorem left_result {g : Grp} (h7 : kind g g.r7 = 3) (l : List Itm) : sumOf (isResult g) (left g l) = sumOf (isResult g) l := sumOf_left (fun z h => by
 unfold isResult at h
 simp only [Bool.or_eq_true, decide_eq_true_eq] at h
 unfold keepsh
 simp only [Bool.and_eq_true, decide_eq_true_eq]
 refine ⟨by omega, fun e => ?_⟩
 rw [e, h7] at h; omega) l
theorem left_equity {g : Grp} (l : List Itm) : sumOf (isEquity g) (left g l) = sumOf (isEquity g) l := sumOf_left (fun z h => by
 unfold isEquity at h
 simp only [Bool.and_eq_true, decide_eq_true_eq] at h
 unfold keepsh
 simp only [Bool.and_eq_true, decide_eq_true_eq]
 exact ⟨by omega, h.2⟩) l
end Gr
def Cnt.shad (g : Grp) (y : Cnt) : Cnt := { y with its := [], shs := Gr.left g y.shs }
theorem Cn.cfind_shad (g : Grp) (x : Int) : ∀ m : List Cnt, Cn.cfind (m.map (Cnt.shad g)) x = (Cn.cfind m x).map (Cnt.shad g)
 | [] => rfl
 | y :: m => by
  have ih := Cn.cfind_shad g x m
  unfold Cn.cfind at ih ⊢
  rw [List.map_cons]
  by_cases h : y.ent = x
  ·rw [List.find?_cons_of_pos (by simp [Cnt.shad, h]), List.find?_cons_of_pos (by simp [h])]; rfl
  ·rw [List.find?_cons_of_neg (by simp [Cnt.shad, h]), List.find?_cons_of_neg (by simp [h]), ih]
theorem Gr.assoc_shad {g : Grp} (h7 : Gr.kind g g.r7 = 3) (m : List Cnt) (x : Int) : Gr.assoc g (m.map (Cnt.shad g)) x = Gr.assoc g m x := by
 unfold Gr.assoc
 rw [Cn.cfind_shad]
 split
 ·rfl
 ·cases Cn.cfind m x with
  | none => rfl
  | some y =>
   simp only [Option.map_some]
   have e1 : (Cnt.shad g y).meth = y.meth := rfl
   have e2 : (Cnt.shad g y).shs = Gr.left g y.shs := rfl
   have e3 : (Cnt.shad g y).sN = y.sN := rfl
   have e4 : (Cnt.shad g y).sD = y.sD := rfl
   rw [e1, e2, e3, e4, Gr.left_result h7, Gr.left_equity]
theorem Gr.apost_shad {g : Grp} (h7 : Gr.kind g g.r7 = 3) (m : List Cnt) (x : Int) : Gr.apost g (m.map (Cnt.shad g)) x = Gr.apost g m x := by
 unfold Gr.apost; rw [Gr.assoc_shad h7]
structure Shd (g : Grp) (G : Nat) (w : World) (x y : Raw) : Prop where
 h0 : y = { x with iA := none, im := 0, ic := 0, its := [], hA := y.hA, hm := y.hm, hc := y.hc, shs := Gr.left g x.shs }
 hl : y.shs.length = y.hm
 hA : ItmsAt w w.heap.size y.hA y.shs
 hne : y.shs ≠ [] -> ∀ ad, y.hA = some ad -> ad.block ≠ G
theorem RowsAt.set_at {α : Type} {f : α -> List Value} {sz : Nat} {w : World} {A : Option Addr} {l : List α} (h : RowsAt f sz w w.heap.size A l) {b j : Nat} {v : Value} (hne : l ≠ [] -> ∀ ad, A = some ad -> ad.block ≠ b) : RowsAt f sz (w.setCell ⟨b, j, none⟩ v) (w.setCell ⟨b, j, none⟩ v).heap.size A l := by
 rcases h with h | ⟨b', o, e, hl, hc⟩
 ·exact .inl h
 ·by_cases h0 : l = []
  ·exact .inl h0
  ·have hn : b' ≠ b := hne h0 _ e
   exact .inr ⟨b', o, e, by simpa [World.setCell] using hl, fun k hk i u hu => (World.cell?_of_block (w := w) (heap_setCell_other w _ _ _ hn)).trans (hc k hk i u hu)⟩
theorem Shd.set {g : Grp} {G j : Nat} {w : World} {x y : Raw} {v : Value} (h : Shd g G w x y) : Shd g G (w.setCell ⟨G, j, none⟩ v) x y :=
 ⟨h.h0, h.hl, RowsAt.set_at h.hA h.hne, h.hne⟩
theorem Shd.at_ {g : Grp} {G : Nat} {w w' : World} {x y : Raw} (h : Shd g G w x y) (hb : Below w.heap.size w w') : Shd g G w' x y :=
 ⟨h.h0, h.hl, RowsAt.at_ h.hA hb, h.hne⟩
def Shading (g : Grp) (l : List Raw) (G i : Nat) (W wr : World) : Prop :=
 ∃ (L : List Raw) (cur : Array Value), L.length = l.length /\ (∀ k (hk : k < L.length) (hk' : k < l.length), (k < i -> Shd g G wr l[k] L[k]) /\ (i <= k -> L[k] = l[k])) /\ wr.heap[G]? = some (.cells cur 57 (0, 0)) /\ cur.toList.take (l.length * 9) = rawRow L /\ Below W.heap.size W wr
namespace Shading
variable {g : Grp} {l : List Raw} {G i : Nat} {W wr : World}
theorem start {n cap b : Nat} {w : World} (hl : l.length = n) (h : w.ownsRow b 57 9 (.slice (some ⟨G, 0, none⟩) n cap) n (rawRow l)) (hb : Below W.heap.size W w) : Shading g l G 0 W w := by
 rcases h.2 with ⟨h, _⟩ | ⟨G', c', cur, h, _, hh, h1, h2, h3, h4⟩
 ·cases h
 ·cases h
  exact ⟨l, cur, rfl, fun k hk hk' => ⟨fun h => by omega, fun _ => rfl⟩, hh, by rw [hl]; exact h4, hb⟩
theorem below (h : Shading g l G i W wr) : Below W.heap.size W wr := by obtain ⟨_, _, _, _, _, _, h⟩ := h; exact h
theorem lt (h : Shading g l G i W wr) : G < wr.heap.size := by obtain ⟨_, _, _, _, h, _⟩ := h; exact some_lt h
theorem look (h : Shading g l G i W wr) (hi : i < l.length) : (∃ v, wr.cell? ⟨G, i * 9 + 7, none⟩ = some v) /\ (∃ v, wr.cell? ⟨G, i * 9 + 8, none⟩ = some v) /\ (∀ j, wr.frozen? ⟨G, j, none⟩ = false) := by
 obtain ⟨L, cur, hL, hk, hc, ht, hg⟩ := h
 have hget : ∀ (j : Nat) (v : Value), (rawRow L)[j]? = some v -> cur[j]? = some v := by
  intro j v hv
  rw [<- ht, List.getElem?_take] at hv
  split at hv
  ·simpa using hv
  ·cases hv
 have hiL : i < L.length := by omega
 refine ⟨⟨.slice L[i].iA L[i].im L[i].ic, ?_⟩, ⟨.slice L[i].hA L[i].hm L[i].hc, ?_⟩, fun j => frozen_of_row _ _ j _ _ hc⟩
 ·rw [cell_of_row _ _ _ _ _ _ hc]
  exact hget _ _ ((flat_get Raw.cells 9 L (fun _ _ => rfl) i hiL 7 (by omega)).trans rfl)
 ·rw [cell_of_row _ _ _ _ _ _ hc]
  exact hget _ _ ((flat_get Raw.cells 9 L (fun _ _ => rfl) i hiL 8 (by omega)).trans rfl)
theorem step (h : Shading g l G i W wr) (hi : i < l.length) (hWG : W.heap.size <= G) {w2 : World} (hb : Below (wr.setCell ⟨G, i * 9 + 7, none⟩ (.slice none 0 0)).heap.size (wr.setCell ⟨G, i * 9 + 7, none⟩ (.slice none 0 0)) w2)
  {A : Option Addr} {c : Nat} (hA : ItmsAt w2 w2.heap.size A (Gr.left g l[i].shs)) (hf : ∀ ad, A = some ad -> wr.heap.size <= ad.block) :
  Shading g l G (i + 1) W (w2.setCell ⟨G, i * 9 + 8, none⟩ (.slice A (Gr.left g l[i].shs).length c)) := by
 obtain ⟨L, cur, hL, hk, hc, ht, hg⟩ := h
 have hiL : i < L.length := by omega
 have hLi : L[i] = l[i] := (hk i hiL hi).2 (Nat.le_refl _)
 have hGw := some_lt hc
 have e1 := heap_setCell_same wr G (i * 9 + 7) _ _ (.slice none 0 0) hc
 have e2 := gbox e1 hb (some_lt e1)
 have e3 := heap_setCell_same w2 G (i * 9 + 8) _ _ (.slice A (Gr.left g l[i].shs).length c) e2
 obtain ⟨y, hy⟩ : ∃ y : Raw, y = { l[i] with iA := none, im := 0, ic := 0, its := [], hA := A, hm := (Gr.left g l[i].shs).length, hc := c, shs := Gr.left g l[i].shs } := ⟨_, rfl⟩
 have hne : y.shs ≠ [] -> ∀ ad, y.hA = some ad -> ad.block ≠ G := fun _ ad e => by
  have : wr.heap.size <= ad.block := hf ad (by rw [<- e, hy])
  omega
 have hsh : Shd g G w2 l[i] y := ⟨by rw [hy], by rw [hy], by rw [hy]; exact hA, hne⟩
 refine ⟨L.set i y, _, by simp [hL], fun k hk1 hk2 => ?_, e3, ?_, ?_⟩
 ·have hkL : k < L.length := by simpa using hk1
  rw [List.getElem_set]
  have := hk k hkL hk2
  by_cases e : i = k
  ·subst e
   rw [if_pos rfl]
   exact ⟨fun _ => hsh.set, fun h => by omega⟩
  ·rw [if_neg e]
   exact ⟨fun h => ((this.1 (by omega)).set.at_ hb).set, fun h => this.2 (by omega)⟩
 ·rw [<- rawRow_set2 7 8 (.slice none 0 0) (.slice A (Gr.left g l[i].shs).length c) (by omega) (by omega) y L i hiL (by rw [hLi, hy]; rfl), <- ht]
  simp [List.take_set]
 ·exact ((hg.setCell (p := ⟨G, i * 9 + 7, none⟩) hWG (.slice none 0 0)).trans (hb.mono (by have := hg.size; simpa [World.setCell] using this))).setCell (p := ⟨G, i * 9 + 8, none⟩) hWG _
theorem done (h : Shading g l G l.length W wr) (hm : ∀ a ∈ l, a.At wr wr.heap.size) (hok : ∀ a ∈ l, a.ok = true) :
  ∃ L : List Raw, L.length = l.length /\ RawsAt wr wr.heap.size (some ⟨G, 0, none⟩) L /\ (∀ a ∈ L, a.At wr wr.heap.size) /\ (∀ a ∈ L, a.ok = true) /\ L.map Raw.cnt = (l.map Raw.cnt).map (Cnt.shad g) := by
 obtain ⟨L, cur, hL, hk, hc, ht, hg⟩ := h
 have hs : ∀ k (h1 : k < L.length) (h2 : k < l.length), Shd g G wr l[k] L[k] := fun k h1 h2 => (hk k h1 h2).1 h2
 refine ⟨L, hL, ?_, ?_, ?_, ?_⟩
 ·refine .inr ⟨G, 0, rfl, some_lt hc, fun k hkk j v hj => ?_⟩
  have hjl : j < 9 := by have := (List.getElem?_eq_some_iff.1 hj).1; simpa [Raw.cells] using this
  rw [Nat.zero_add, cell_of_row _ _ _ _ _ _ hc]
  have hf := flat_get Raw.cells 9 L (fun _ _ => rfl) k hkk j hjl
  rw [hj] at hf
  have : (cur.toList.take (l.length * 9))[k * 9 + j]? = some v := by rw [ht]; exact hf
  rw [List.getElem?_take, if_pos (by omega)] at this
  simpa using this
 ·intro a ha
  obtain ⟨k, hk1, rfl⟩ := List.getElem_of_mem ha
  have s := hs k hk1 (by omega)
  have ha := hm l[k] (List.getElem_mem (by omega))
  refine ⟨by rw [s.h0]; rfl, by rw [s.h0]; exact Nat.zero_le _, by rw [s.h0]; exact .inl rfl, s.hl, ?_, s.hA⟩
  have h1 : L[k].shs = Gr.left g l[k].shs := by rw [s.h0]
  have h2 := Gr.left_length g l[k].shs
  have h3 := s.hl
  have h4 := ha.hhl
  have h5 := ha.hhm
  rw [h1] at h3
  omega
 ·intro a ha
  obtain ⟨k, hk1, rfl⟩ := List.getElem_of_mem ha
  have s := hs k hk1 (by omega)
  have ho := hok l[k] (List.getElem_mem (by omega))
  unfold Raw.ok at ho ⊢
  simp only [Bool.and_eq_true] at ho ⊢
  rw [s.h0]
  refine ⟨⟨ho.1.1, by simp [Raw.few]⟩, ?_⟩
  have h2 := Gr.left_length g l[k].shs
  have h6 := ho.2
  unfold Raw.few at h6 ⊢
  simp only [Bool.and_eq_true, List.all_eq_true, decide_eq_true_eq] at h6 ⊢
  exact ⟨fun z hz => h6.1 z (List.mem_filter.1 hz).1, by show (Gr.left g l[k].shs).length <= 40; omega⟩
 ·apply List.ext_getElem (by simp [hL])
  intro k h1 h2
  have h3 : k < L.length := by simpa using h1
  have h4 : k < l.length := by simpa using h2
  rw [List.getElem_map, List.getElem_map, List.getElem_map, (hs k h3 h4).h0]
  rfl
end Shading
section
variable (w : World)
theorem isnan_any (x : Int) : Calls Tryz.prog 131 #[.int .i64 x] w fun e w' => e = .returned (.bool false) /\ w' = w := by
 go_enter Tryz.func131, Tryz.ntmps131
 have hb : (x != x) = false := by simp
 go_wp2
 go_ret
 exact ⟨rfl, rfl⟩
theorem cmp_same (x : Int) : Calls Tryz.prog 93 #[.int .i64 x, .int .i64 x] w fun e w' => e = .returned (.int .i64 0) /\ w' = w := by
 go_enter Tryz.func93, Tryz.ntmps93
 go_wp2_with (fail)
 refine (isnan_any w x).mono ?_
 rintro e w2 ⟨rfl, hw2⟩
 subst w2
 go_wp2_with (fail)
 refine (isnan_any w x).mono ?_
 rintro e w2 ⟨rfl, hw2⟩
 subst w2
 have h1 : ¬ x < x := by omega
 go_wp2
 go_ret
 exact ⟨rfl, rfl⟩
theorem or_zero (b : Nat) (n c : Nat) (hb : b < w.heap.size) (hn : n <= 1000) (h : ∀ k, k < n -> w.cell? ⟨b, k, none⟩ = some (.int .i64 0)) :
  Calls Tryz.prog 92 #[.slice (some ⟨b, 0, none⟩) n c] w fun e w' => e = .returned (.int .i64 0) /\ w' = w := by
 have H := Lib.hid h
 clear h
 go_enter Tryz.func92, Tryz.ntmps92
 go_wp2
 go_loopw [8] (fun i wr => ∃ k : Nat, k <= n /\ i = .int .i64 k /\ wr = w) (fun i _ => n - (intOf i).toNat)
 case atStart => exact ⟨0, Nat.zero_le _, rfl, rfl⟩
 case round =>
  obtain ⟨k, hk, rfl, hwr⟩ := hrel
  subst wr
  by_cases hlt : k < n
  ·have hk0 : (0 : Int) <= (k : Int) := by omega
   have hkn : (k : Int) < n := by omega
   have hc := H.out k hlt
   go_wp2
   go_roundw
   case rel => exact ⟨k + 1, by omega, by go_num, by simp⟩
   case measure => simp [intOf]; omega
  ·obtain rfl : k = n := by omega
   go_wp2
   go_ret
   exact ⟨rfl, rfl⟩
theorem eqparts_same (A A' : Option Addr) (n c c' : Nat) (l : List Prt) (hl : l.length = n) (hn : n <= 100000) (h : PrtsAt w w.heap.size A l) (h' : PrtsAt w w.heap.size A' l) :
  Calls Tryz.prog 64 #[.slice A n c, .slice A' n c'] w fun e w' => e = .returned (.bool true) /\ Below w.heap.size w w' := by
 have H := Lib.hid h
 have H' := Lib.hid h'
 have Hl := Lib.hid hl
 clear h h' hl
 go_enter Tryz.func64, Tryz.ntmps64
 have hnn : ((n : Int) != (n : Int)) = false := by simp
 go_wp2
 go_loopw [13] (fun i wr => ∃ k : Nat, k <= n /\ i = .int .i64 k /\ Below w.heap.size w wr) (fun i _ => n - (intOf i).toNat)
 case atStart => exact ⟨0, Nat.zero_le _, rfl, Below.refl _ _⟩
 case round =>
  obtain ⟨k, hk, rfl, hbr⟩ := hrel
  have hq := hbr.size
  by_cases hlt : k < n
  ·have hkl : k < l.length := by have := Hl.out; omega
   obtain ⟨b, o, hAe, hbB, hr⟩ := RowsAt.look (RowsAt.below H.out hbr (Nat.le_refl _)) hkl
   obtain ⟨b', o', hAe', hbB', hr'⟩ := RowsAt.look (RowsAt.below H'.out hbr (Nat.le_refl _)) hkl
   have hk0 : (0 : Int) <= (k : Int) := by omega
   have hkn : (k : Int) < n := by omega
   obtain ⟨y, hy⟩ : ∃ y, y = l[k] := ⟨_, rfl⟩
   rw [<- hy] at hr hr'
   obtain ⟨u, hu⟩ : ∃ u, u = y.acct := ⟨_, rfl⟩
   obtain ⟨v, hv⟩ : ∃ v, v = y.amt := ⟨_, rfl⟩
   have hcells : y.cells = [.int .i64 u, .int .i64 v] := by rw [hu, hv]; rfl
   rw [hcells] at hr hr'
   have Hr := Lib.hid hr
   have Hr' := Lib.hid hr'
   have HA := Lib.hid hAe
   have HA' := Lib.hid hAe'
   clear hy hu hv hcells hr hr' hAe hAe'
   have hV0 : Below wr.heap.size wr wr.drew := below_drawn (Below.refl _ _) 1
   go_upto_region 6 with (fail)
   refine wp_region_held (S := Below wr.heap.size wr) (by kernel_rfl) ?_
   change wpAnyH _ _ _ _ _ _ _ _ (World.drew wr)
   obtain ⟨W0, hWd⟩ : ∃ W0, W0 = wr.drew := ⟨_, rfl⟩
   rw [<- hWd] at hV0 ⊢
   clear hWd
   refine wpAnyH_take (i := 0) (v := .slice A n c) rfl (by kernel_rfl) (by kernel_rfl) (by kernel_rfl) (fun _ _ _ h => h) (.inl ⟨by rfl, fun W' hS' => by go_simp⟩) hV0 ?_
   try simp only [Act.put, z]
   refine wpAnyH_take (i := 1) (v := .int .i64 k) rfl (by kernel_rfl) (by kernel_rfl) (by kernel_rfl) (fun _ _ _ h => h) (.inl ⟨by rfl, fun W' hS' => by go_simp⟩) hV0 ?_
   try simp only [Act.put, z]
   refine wpAnyH_take (i := 2) (v := .pointer (some ⟨b, o + k * 2, none⟩)) rfl (by kernel_rfl) (by kernel_rfl) (by kernel_rfl) (fun _ _ _ h => h) (.inl ⟨by rfl, fun W' hS' => by have he := HA.out; rw [he]; go_simp⟩) hV0 ?_
   try simp only [Act.put, z]
   refine wpAnyH_take (i := 3) (v := .agg #[.int .i64 u, .int .i64 v]) rfl (by kernel_rfl) (by kernel_rfl) (by kernel_rfl) (fun _ _ _ h => h) (yieldsIf_load_mid (by rfl) 106 _ rfl b (o + k * 2) rfl [.int .i64 u, .int .i64 v] _ (fun W' hS' => range_below Hr.out hS' (show b < wr.heap.size by omega)) Tryz.underlying106 rfl prtSize) hV0 ?_
   try simp only [Act.put, z]
   refine wpAnyH_take (i := 4) (v := .slice A' n c') rfl (by kernel_rfl) (by kernel_rfl) (by kernel_rfl) (fun _ _ _ h => h) (.inl ⟨by rfl, fun W' hS' => by go_simp⟩) hV0 ?_
   try simp only [Act.put, z]
   refine wpAnyH_take (i := 5) (v := .int .i64 k) rfl (by kernel_rfl) (by kernel_rfl) (by kernel_rfl) (fun _ _ _ h => h) (.inl ⟨by rfl, fun W' hS' => by go_simp⟩) hV0 ?_
   try simp only [Act.put, z]
   refine wpAnyH_take (i := 6) (v := .pointer (some ⟨b', o' + k * 2, none⟩)) rfl (by kernel_rfl) (by kernel_rfl) (by kernel_rfl) (fun _ _ _ h => h) (.inl ⟨by rfl, fun W' hS' => by have he := HA'.out; rw [he]; go_simp⟩) hV0 ?_
   try simp only [Act.put, z]
   refine wpAnyH_take (i := 7) (v := .agg #[.int .i64 u, .int .i64 v]) rfl (by kernel_rfl) (by kernel_rfl) (by kernel_rfl) (fun _ _ _ h => h) (yieldsIf_load_mid (by rfl) 106 _ rfl b' (o' + k * 2) rfl [.int .i64 u, .int .i64 v] _ (fun W' hS' => range_below Hr'.out hS' (show b' < wr.heap.size by omega)) Tryz.underlying106 rfl prtSize) hV0 ?_
   try simp only [Act.put, z]
   refine wpAnyH_take (i := 8) (v := .bool false) rfl (by kernel_rfl) (by kernel_rfl) (by kernel_rfl) (fun _ _ _ h => h) (.inl ⟨by rfl, fun W' hS' => by (go_simp; try simp)⟩) hV0 ?_
   try simp only [Act.put, z]
   refine wpAnyH_done (by kernel_rfl) ?_ _
   try simp only [Act.put, z]
   have hbz := hbr.trans (hV0.mono hq)
   go_wp2
   go_roundw
   case rel => exact ⟨k + 1, by omega, by go_num, hbz⟩
   case measure => simp [intOf]; omega
  ·obtain rfl : k = n := by omega
   go_wp2
   go_ret
   exact ⟨rfl, hbr⟩
theorem comparepost_same (k x o r : Int) (A A' : Option Addr) (n c c' : Nat) :
  Calls Tryz.prog 63 #[.agg #[.int .i64 k, .int .i64 x, .int .i64 o, .int .i64 r, .slice A n c], .agg #[.int .i64 k, .int .i64 x, .int .i64 o, .int .i64 r, .slice A' n c']] w fun e w' => e = .returned (.int .i64 0) /\ Below w.heap.size w w' := by
 obtain ⟨hB0, hb0, hb1, hz⟩ := row_new2 w #[.int .i64 k, .int .i64 x, .int .i64 o, .int .i64 r, .slice A n c] #[.int .i64 k, .int .i64 x, .int .i64 o, .int .i64 r, .slice A' n c'] 49 49
 obtain ⟨W1, hW1⟩ : ∃ W1, W1 = ((w.alloc (.cells #[.int .i64 k, .int .i64 x, .int .i64 o, .int .i64 r, .slice A n c] 49)).alloc (.cells #[.int .i64 k, .int .i64 x, .int .i64 o, .int .i64 r, .slice A' n c'] 49)) := ⟨_, rfl⟩
 rw [<- hW1] at hB0 hb0 hb1 hz
 have HW := Lib.hid hW1
 have s1 : w.heap.size < W1.heap.size := by omega
 have s1' : w.heap.size + 1 < W1.heap.size := by omega
 have hr0 := range_row (cs := [.int .i64 k, .int .i64 x, .int .i64 o, .int .i64 r, .slice A n c]) hb0
 have hr1 := range_row (cs := [.int .i64 k, .int .i64 x, .int .i64 o, .int .i64 r, .slice A' n c']) hb1
 have R0 := Lib.hid hr0
 have R1' := Lib.hid hr1
 clear hW1 hz hb0 hb1 hr0 hr1
 go_enter Tryz.func63, Tryz.ntmps63
 go_upto_region 1 with (fail)
 rw [<- HW.out]
 have hV0 : Below W1.heap.size W1 W1.drew := below_drawn (Below.refl _ _) 1
 refine wp_region_held (S := Below W1.heap.size W1) (by kernel_rfl) ?_
 change wpAnyH _ _ _ _ _ _ _ _ (World.drew W1)
 obtain ⟨W0, hWd⟩ : ∃ W0, W0 = W1.drew := ⟨_, rfl⟩
 rw [<- hWd] at hV0 ⊢
 clear hWd
 refine wpAnyH_take (i := 0) (v := .pointer (some ⟨w.heap.size, 0, none⟩)) rfl (by kernel_rfl) (by kernel_rfl) (by kernel_rfl) (fun _ _ _ h => h) (.inl ⟨by rfl, fun W' hS' => by go_simp⟩) hV0 ?_
 try simp only [Act.put, z]
 refine wpAnyH_take (i := 1) (v := .int .i64 k) rfl (by kernel_rfl) (by kernel_rfl) (by kernel_rfl) (fun _ _ _ h => h) (.inl ⟨by rfl, fun W' hS' => by have hc := (hS'.cell (p := ⟨w.heap.size, 0, none⟩) s1).trans (R0.out 0 _ rfl); go_simp⟩) hV0 ?_
 try simp only [Act.put, z]
 refine wpAnyH_take (i := 2) (v := .pointer (some ⟨w.heap.size + 1, 0, none⟩)) rfl (by kernel_rfl) (by kernel_rfl) (by kernel_rfl) (fun _ _ _ h => h) (.inl ⟨by rfl, fun W' hS' => by go_simp⟩) hV0 ?_
 try simp only [Act.put, z]
 refine wpAnyH_take (i := 3) (v := .int .i64 k) rfl (by kernel_rfl) (by kernel_rfl) (by kernel_rfl) (fun _ _ _ h => h) (.inl ⟨by rfl, fun W' hS' => by have hc := (hS'.cell (p := ⟨w.heap.size + 1, 0, none⟩) s1').trans (R1'.out 0 _ rfl); go_simp⟩) hV0 ?_
 try simp only [Act.put, z]
 refine wpAnyH_take (i := 5) (v := .pointer (some ⟨w.heap.size, 1, none⟩)) rfl (by kernel_rfl) (by kernel_rfl) (by kernel_rfl) (fun _ _ _ h => h) (.inl ⟨by rfl, fun W' hS' => by go_simp⟩) hV0 ?_
 try simp only [Act.put, z]
 refine wpAnyH_take (i := 6) (v := .int .i64 x) rfl (by kernel_rfl) (by kernel_rfl) (by kernel_rfl) (fun _ _ _ h => h) (.inl ⟨by rfl, fun W' hS' => by have hc := (hS'.cell (p := ⟨w.heap.size, 1, none⟩) s1).trans (R0.out 1 _ rfl); go_simp⟩) hV0 ?_
 try simp only [Act.put, z]
 refine wpAnyH_take (i := 7) (v := .pointer (some ⟨w.heap.size + 1, 1, none⟩)) rfl (by kernel_rfl) (by kernel_rfl) (by kernel_rfl) (fun _ _ _ h => h) (.inl ⟨by rfl, fun W' hS' => by go_simp⟩) hV0 ?_
 try simp only [Act.put, z]
 refine wpAnyH_take (i := 8) (v := .int .i64 x) rfl (by kernel_rfl) (by kernel_rfl) (by kernel_rfl) (fun _ _ _ h => h) (.inl ⟨by rfl, fun W' hS' => by have hc := (hS'.cell (p := ⟨w.heap.size + 1, 1, none⟩) s1').trans (R1'.out 1 _ rfl); go_simp⟩) hV0 ?_
 try simp only [Act.put, z]
 refine wpAnyH_take (i := 10) (v := .pointer (some ⟨w.heap.size, 2, none⟩)) rfl (by kernel_rfl) (by kernel_rfl) (by kernel_rfl) (fun _ _ _ h => h) (.inl ⟨by rfl, fun W' hS' => by go_simp⟩) hV0 ?_
 try simp only [Act.put, z]
 refine wpAnyH_take (i := 11) (v := .int .i64 o) rfl (by kernel_rfl) (by kernel_rfl) (by kernel_rfl) (fun _ _ _ h => h) (.inl ⟨by rfl, fun W' hS' => by have hc := (hS'.cell (p := ⟨w.heap.size, 2, none⟩) s1).trans (R0.out 2 _ rfl); go_simp⟩) hV0 ?_
 try simp only [Act.put, z]
 refine wpAnyH_take (i := 12) (v := .pointer (some ⟨w.heap.size + 1, 2, none⟩)) rfl (by kernel_rfl) (by kernel_rfl) (by kernel_rfl) (fun _ _ _ h => h) (.inl ⟨by rfl, fun W' hS' => by go_simp⟩) hV0 ?_
 try simp only [Act.put, z]
 refine wpAnyH_take (i := 13) (v := .int .i64 o) rfl (by kernel_rfl) (by kernel_rfl) (by kernel_rfl) (fun _ _ _ h => h) (.inl ⟨by rfl, fun W' hS' => by have hc := (hS'.cell (p := ⟨w.heap.size + 1, 2, none⟩) s1').trans (R1'.out 2 _ rfl); go_simp⟩) hV0 ?_
 try simp only [Act.put, z]
 refine wpAnyH_take (i := 15) (v := .pointer (some ⟨w.heap.size, 3, none⟩)) rfl (by kernel_rfl) (by kernel_rfl) (by kernel_rfl) (fun _ _ _ h => h) (.inl ⟨by rfl, fun W' hS' => by go_simp⟩) hV0 ?_
 try simp only [Act.put, z]
 refine wpAnyH_take (i := 16) (v := .int .i64 r) rfl (by kernel_rfl) (by kernel_rfl) (by kernel_rfl) (fun _ _ _ h => h) (.inl ⟨by rfl, fun W' hS' => by have hc := (hS'.cell (p := ⟨w.heap.size, 3, none⟩) s1).trans (R0.out 3 _ rfl); go_simp⟩) hV0 ?_
 try simp only [Act.put, z]
 refine wpAnyH_take (i := 17) (v := .pointer (some ⟨w.heap.size + 1, 3, none⟩)) rfl (by kernel_rfl) (by kernel_rfl) (by kernel_rfl) (fun _ _ _ h => h) (.inl ⟨by rfl, fun W' hS' => by go_simp⟩) hV0 ?_
 try simp only [Act.put, z]
 refine wpAnyH_take (i := 18) (v := .int .i64 r) rfl (by kernel_rfl) (by kernel_rfl) (by kernel_rfl) (fun _ _ _ h => h) (.inl ⟨by rfl, fun W' hS' => by have hc := (hS'.cell (p := ⟨w.heap.size + 1, 3, none⟩) s1').trans (R1'.out 3 _ rfl); go_simp⟩) hV0 ?_
 try simp only [Act.put, z]
 refine wpAnyH_ready (rs := [4]) (by kernel_rfl) (by simp) (AllReadyH.cons rfl (fun K hK => ?_) AllReadyH.nil)
 go_simp
 refine (cmp_same W0 k).mono ?_
 rintro e V ⟨rfl, hVW⟩
 subst V
 refine hK.out _ _ hV0 (fun _ => ?_)
 clear hK K
 try simp only [Act.put, z]
 refine wpAnyH_ready (rs := [9]) (by kernel_rfl) (by simp) (AllReadyH.cons rfl (fun K hK => ?_) AllReadyH.nil)
 go_simp
 refine (cmp_same W0 x).mono ?_
 rintro e V ⟨rfl, hVW⟩
 subst V
 refine hK.out _ _ hV0 (fun _ => ?_)
 clear hK K
 try simp only [Act.put, z]
 refine wpAnyH_ready (rs := [14]) (by kernel_rfl) (by simp) (AllReadyH.cons rfl (fun K hK => ?_) AllReadyH.nil)
 go_simp
 refine (cmp_same W0 o).mono ?_
 rintro e V ⟨rfl, hVW⟩
 subst V
 refine hK.out _ _ hV0 (fun _ => ?_)
 clear hK K
 try simp only [Act.put, z]
 refine wpAnyH_ready (rs := [19]) (by kernel_rfl) (by simp) (AllReadyH.cons rfl (fun K hK => ?_) AllReadyH.nil)
 go_simp
 refine (cmp_same W0 r).mono ?_
 rintro e V ⟨rfl, hVW⟩
 subst V
 refine hK.out _ _ hV0 (fun _ => ?_)
 clear hK K
 try simp only [Act.put, z]
 refine wpAnyH_ready (rs := [20]) (by kernel_rfl) (by simp) (AllReadyH.cons rfl (fun K hK => ?_) AllReadyH.nil)
 obtain ⟨hBa, hrw, hsz⟩ := row_new W0 #[.int .i64 0, .int .i64 0, .int .i64 0, .int .i64 0] 3
 go_simp
 obtain ⟨V1, hWn⟩ : ∃ V1, V1 = W0.alloc (.cells #[.int .i64 0, .int .i64 0, .int .i64 0, .int .i64 0] 3) := ⟨_, rfl⟩
 rw [<- hWn] at hBa hrw hsz ⊢
 clear hWn
 have hVa := hV0.trans (hBa.mono hV0.size)
 refine hK.out _ _ hVa (fun _ => ?_)
 clear hK K
 try simp only [Act.put, z]
 refine wpAnyH_ready (rs := [21]) (by kernel_rfl) (by simp) (AllReadyH.cons rfl (fun K hK => ?_) AllReadyH.nil)
 go_simp
 have hcs : ∀ j, j < 4 -> V1.cell? ⟨W0.heap.size, j, none⟩ = some (.int .i64 0) := by
  intro j hj
  rw [cell_of_row _ _ _ _ _ _ hrw]
  match j, hj with
  | 0, _ => rfl
  | 1, _ => rfl
  | 2, _ => rfl
  | 3, _ => rfl
 refine (or_zero V1 W0.heap.size 4 4 (some_lt hrw) (by omega) hcs).mono ?_
 rintro e V ⟨rfl, hVW⟩
 subst V
 refine hK.out _ _ hVa (fun _ => ?_)
 clear hK K
 try simp only [Act.put, z]
 refine wpAnyH_ready (rs := [22]) (by kernel_rfl) (by simp) (AllReadyH.cons rfl (fun K hK => ?_) AllReadyH.nil)
 go_simp
 refine hK.out _ _ hVa (fun _ => ?_)
 clear hK K
 try simp only [Act.put, z]
 refine wpAnyH_done (by kernel_rfl) ?_ _
 try simp only [Act.put, z]
 go_wp2
 go_ret
 exact ⟨rfl, hB0.trans (hVa.mono hB0.size)⟩
theorem equald_same (k x o r : Int) (A A' : Option Addr) (n c c' : Nat) (l : List Prt) (hl : l.length = n) (hn : n <= 100000) (h : PrtsAt w w.heap.size A l) (h' : PrtsAt w w.heap.size A' l) :
  Calls Tryz.prog 35 #[.agg #[.int .i64 k, .int .i64 x, .int .i64 o, .int .i64 r, .slice A n c], .agg #[.int .i64 k, .int .i64 x, .int .i64 o, .int .i64 r, .slice A' n c']] w fun e w' => e = .returned (.bool true) /\ Below w.heap.size w w' := by
 obtain ⟨hB0, hb0, hb1, hz⟩ := row_new2 w #[.int .i64 k, .int .i64 x, .int .i64 o, .int .i64 r, .slice A n c] #[.int .i64 k, .int .i64 x, .int .i64 o, .int .i64 r, .slice A' n c'] 49 49
 obtain ⟨W1, hW1⟩ : ∃ W1, W1 = ((w.alloc (.cells #[.int .i64 k, .int .i64 x, .int .i64 o, .int .i64 r, .slice A n c] 49)).alloc (.cells #[.int .i64 k, .int .i64 x, .int .i64 o, .int .i64 r, .slice A' n c'] 49)) := ⟨_, rfl⟩
 rw [<- hW1] at hB0 hb0 hb1 hz
 have HW := Lib.hid hW1
 have s1 : w.heap.size < W1.heap.size := by omega
 have s1' : w.heap.size + 1 < W1.heap.size := by omega
 have Hb0 := Lib.hid hb0
 have Hb1 := Lib.hid hb1
 have r0 := Lib.hid (range_row (cs := [.int .i64 k, .int .i64 x, .int .i64 o, .int .i64 r, .slice A n c]) hb0)
 have r1 := Lib.hid (range_row (cs := [.int .i64 k, .int .i64 x, .int .i64 o, .int .i64 r, .slice A' n c']) hb1)
 have H := Lib.hid (RowsAt.at_ h hB0)
 have H' := Lib.hid (RowsAt.at_ h' hB0)
 have Hl := Lib.hid hl
 clear hW1 hz hb0 hb1 h h' hl
 go_enter Tryz.func35, Tryz.ntmps35
 go_upto_region 1 with (fail)
 rw [<- HW.out]
 go_wp2_with (first | (refine wpList_load_mid rfl 49 (.tmp 2) rfl w.heap.size 0 rfl [.int .i64 k, .int .i64 x, .int .i64 o, .int .i64 r, .slice A n c] _ r0.out Tryz.underlying49 rfl postSize ?_) | (refine wpList_load_mid rfl 49 (.tmp 3) rfl (w.heap.size + 1) 0 rfl [.int .i64 k, .int .i64 x, .int .i64 o, .int .i64 r, .slice A' n c'] _ r1.out Tryz.underlying49 rfl postSize ?_))
 refine (comparepost_same W1 k x o r A A' n c c').mono ?_
 rintro e W2 ⟨rfl, hB2⟩
 have c0 := gbox Hb0.out hB2 s1
 have c1 := gbox Hb1.out hB2 s1'
 have a0 := cell_of_row _ _ 4 _ _ _ c0
 have a1 := cell_of_row _ _ 4 _ _ _ c1
 simp at a0 a1
 have s2 := some_lt c0
 have s2' := some_lt c1
 have hB02 := hB0.trans (hB2.mono hB0.size)
 clear c0 c1
 go_wp2_with (fail)
 refine (eqparts_same W2 A A' n c c' l Hl.out hn (RowsAt.at_ H.out hB2) (RowsAt.at_ H'.out hB2)).mono ?_
 rintro e W3 ⟨rfl, hB3⟩
 go_wp2
 go_ret
 exact ⟨rfl, hB02.trans (hB3.mono hB02.size)⟩
end
theorem grown_of_below_s {a b : World} (h : Below a.heap.size a b) : a.grownBy b none := ⟨h.os, h.tape, h.output, h.size, fun i hi _ => h.block i hi⟩
theorem Smp.acquired3 {g : Grp} (h : Smp.Is g) : Gr.kind g g.r7 = 3 := by
 obtain ⟨A, c, eA, ec, x0, x1, x2, x3, rfl⟩ := h
 kernel_rfl
theorem Shading.row {g : Grp} {l : List Raw} {G i : Nat} {W wr : World} (h : Shading g l G i W wr) : ∃ cur, wr.heap[G]? = some (.cells cur 57 (0, 0)) /\ l.length * 9 <= cur.size := by
 obtain ⟨L, cur, hL, hk, hc, ht, hg⟩ := h
 refine ⟨cur, hc, ?_⟩
 have := congrArg List.length ht
 rw [rawRow_length, List.length_take] at this
 have e : cur.toList.length = cur.size := rfl
 omega
section
variable (w : World)
theorem law_shadow (A : Option Addr) (n c : Nat) (l : List Raw) (x : Int) (hl : l.length = n) (hn : n * 104 <= 140737488355328) (hr : RawsAt w w.heap.size A l) (hx : ∀ a ∈ l, a.At w w.heap.size) :
  Calls Tryz.prog 10 #[.slice A n c, .int .i64 x] w fun e w' => e = .returned (.bool true) /\ Below w.heap.size w w' := by
 have Hl := Lib.hid hl
 have Hr := Lib.hid hr
 have Hx := Lib.hid hx
 have Hn := Lib.hid hn
 clear hl hr hx hn
 go_enter Tryz.func10, Tryz.ntmps10
 go_wp2_with (fail)
 refine (awake41_any w).mono ?_
 rintro e W2 ⟨rfl, hB2⟩
 have Hr2 := Lib.hid (RowsAt.at_ Hr.out hB2)
 have Hx2 := Lib.hid (fun a ha => ((Hx.out a ha).below hB2 (Nat.le_refl _)).more hB2.size : ∀ a ∈ l, a.At W2 W2.heap.size)
 go_wp2_with (fail)
 refine (contrr_any W2 A n c l Hl.out (by have := Hn.out; omega) Hr2.out Hx2.out).mono ?_
 rintro e W3 ⟨hB3, v, ok, rfl, hok⟩
 have hB03 := hB2.trans (hB3.mono hB2.size)
 have Hr3 := Lib.hid (RowsAt.at_ Hr2.out hB3)
 have Hx3 := Lib.hid (fun a ha => ((Hx2.out a ha).below hB3 (Nat.le_refl _)).more hB3.size : ∀ a ∈ l, a.At W3 W3.heap.size)
 cases ok with
 | false =>
  clear hok
  go_wp2
  go_ret
  exact ⟨rfl, hB03⟩
 | true =>
 obtain ⟨h8, hall, Ar, cr, cs, rfl, hcl, hcs, hho⟩ := hok rfl
 have H8 := Lib.hid h8
 have Hall := Lib.hid hall
 clear hok h8 hall hcl hcs hho
 go_wp2_with (fail)
 refine (sample_any W3).mono ?_
 rintro e W4 ⟨hB4, g, rfl, hg, hgs⟩
 have hB04 := hB03.trans (hB4.mono hB03.size)
 obtain ⟨hB5, hb5, hz5⟩ := row_new W4 #[.string g.cur, .int .i64 g.Y, .int .i64 g.M, .int .i64 g.N, .slice g.cA g.cn g.cc, .int .i64 g.r0, .int .i64 g.r1, .int .i64 g.r2, .int .i64 g.r3, .int .i64 g.r4, .int .i64 g.r5, .int .i64 g.r6, .int .i64 g.r7, .int .i64 g.r8, .int .i64 g.r9, .int .i64 g.r10, .int .i64 g.r11, .int .i64 g.r12, .int .i64 g.r13, .int .i64 g.r14, .slice g.eA g.en g.ec] 29
 obtain ⟨W5, hW5⟩ : ∃ W5, W5 = W4.alloc (.cells #[.string g.cur, .int .i64 g.Y, .int .i64 g.M, .int .i64 g.N, .slice g.cA g.cn g.cc, .int .i64 g.r0, .int .i64 g.r1, .int .i64 g.r2, .int .i64 g.r3, .int .i64 g.r4, .int .i64 g.r5, .int .i64 g.r6, .int .i64 g.r7, .int .i64 g.r8, .int .i64 g.r9, .int .i64 g.r10, .int .i64 g.r11, .int .i64 g.r12, .int .i64 g.r13, .int .i64 g.r14, .slice g.eA g.en g.ec] 29) := ⟨_, rfl⟩
 rw [<- hW5] at hB5 hb5 hz5
 have HW5 := Lib.hid hW5
 have hB35 := hB4.trans (hB5.mono hB4.size)
 have hB05 := hB04.trans (hB5.mono hB04.size)
 have Hga := Lib.hid (hg.at_ hB5)
 have Hb5 := Lib.hid hb5
 have s5 : W4.heap.size < W5.heap.size := by omega
 have Hr5 := Lib.hid (RowsAt.at_ Hr3.out hB35)
 have Hx5 := Lib.hid (fun a ha => ((Hx3.out a ha).below hB35 (Nat.le_refl _)).more hB35.size : ∀ a ∈ l, a.At W5 W5.heap.size)
 have h73 := Smp.acquired3 hgs
 obtain ⟨kk, hK0⟩ : ∃ kk, kk = Po.pk 7 (Gr.apost g (l.map Raw.cnt) x) := ⟨_, rfl⟩
 obtain ⟨ee, hE0⟩ : ∃ ee, ee = Po.pk x (Gr.apost g (l.map Raw.cnt) x) := ⟨_, rfl⟩
 obtain ⟨oo, hO0⟩ : ∃ oo, oo = Po.pk (-1) (Gr.apost g (l.map Raw.cnt) x) := ⟨_, rfl⟩
 obtain ⟨er, her0⟩ : ∃ er, er = (Gr.apost g (l.map Raw.cnt) x).2 := ⟨_, rfl⟩
 obtain ⟨ps, hps0⟩ : ∃ ps, ps = Po.pl (Gr.apost g (l.map Raw.cnt) x) := ⟨_, rfl⟩
 obtain ⟨np, hnp0⟩ : ∃ np, np = ps.length := ⟨_, rfl⟩
 have hnp3 : np <= 3 := by rw [hnp0, hps0]; exact Nat.le_trans (Po.pl_length _) (Gr.apost_len _ _ _)
 have has : (Po.pk 7 (Gr.apost g (l.map Raw.cnt) x) = kk /\ Po.pk x (Gr.apost g (l.map Raw.cnt) x) = ee /\ Po.pk (-1) (Gr.apost g (l.map Raw.cnt) x) = oo) /\ (Gr.apost g (l.map Raw.cnt) x).2 = er /\ Po.pl (Gr.apost g (l.map Raw.cnt) x) = ps := ⟨⟨hK0.symm, hE0.symm, hO0.symm⟩, her0.symm, hps0.symm⟩
 have HAS := Lib.hid has
 have H73 := Lib.hid h73
 have HNP := Lib.hid hnp0
 have HN3 := Lib.hid hnp3
 have h1c : ∀ v ∈ (#[.string g.cur, .int .i64 g.Y, .int .i64 g.M, .int .i64 g.N, .slice g.cA g.cn g.cc, .int .i64 g.r0, .int .i64 g.r1, .int .i64 g.r2, .int .i64 g.r3, .int .i64 g.r4, .int .i64 g.r5, .int .i64 g.r6, .int .i64 g.r7, .int .i64 g.r8, .int .i64 g.r9, .int .i64 g.r10, .int .i64 g.r11, .int .i64 g.r12, .int .i64 g.r13, .int .i64 g.r14, .slice g.eA g.en g.ec] : Array Value).toList, v.oneCell' = true := by simp [Value.oneCell']
 clear hg hgs hW5 hb5 hz5 has hK0 hE0 hO0 her0 hps0 hnp0 hnp3 h73
 go_upto_region 7 with (refine wpList_store_new rfl 29 _ _ rfl 29 _ #[.string g.cur, .int .i64 g.Y, .int .i64 g.M, .int .i64 g.N, .slice g.cA g.cn g.cc, .int .i64 g.r0, .int .i64 g.r1, .int .i64 g.r2, .int .i64 g.r3, .int .i64 g.r4, .int .i64 g.r5, .int .i64 g.r6, .int .i64 g.r7, .int .i64 g.r8, .int .i64 g.r9, .int .i64 g.r10, .int .i64 g.r11, .int .i64 g.r12, .int .i64 g.r13, .int .i64 g.r14, .slice g.eA g.en g.ec] rfl rfl rfl h1c grpSize ?_)
 clear h1c
 rw [<- HW5.out]
 obtain ⟨hB6, h6, hz6⟩ := row_new W5 #[] 57
 obtain ⟨W6, hW6⟩ : ∃ W6, W6 = W5.alloc (.cells #[] 57) := ⟨_, rfl⟩
 rw [<- hW6] at hB6 h6 hz6
 have HW6 := Lib.hid hW6
 have H6 := Lib.hid h6
 have Hr6 := Lib.hid (RowsAt.at_ Hr5.out hB6)
 have hq6 := hB6.size
 have HB6 := Lib.hid hB6
 clear hW6 h6 hz6 hB6
 have tok : True := trivial
 go_upto_region 8 with (at_builtin; have _t := tok; rw [<- HW6.out]; refine wpList_copy_raws W6 rfl _ _ 30 rfl Tryz.underlying30 W5.heap.size rfl H6.out A n c l rfl Hl.out Hn.out Hr6.out ?_; intro G cap W7 ho7 hg7; clear _t tok)
 have hG : W5.heap.size <= G := by
  rcases ho7.2 with ⟨h, _⟩ | ⟨G', c', cur, h, hb, _⟩
  ·cases h
  ·cases h; exact hb
 have hB57 : Below W5.heap.size W5 W7 := HB6.out.grown hg7 hq6 (fun k hk => by cases hk; exact Nat.le_refl _)
 have hst0 : Shading g l G 0 W5 W7 := Shading.start Hl.out ho7 hB57
 have HB57 := Lib.hid hB57
 have Hst0 := Lib.hid hst0
 clear ho7 hg7 hst0
 go_wp2
 go_loopw [9, 10, 11] (fun s _ _ wr => ∃ i : Nat, i <= n /\ s = .int .i64 i /\ Shading g l G i W5 wr) (fun s _ _ _ => n - (intOf s).toNat)
 case atStart => exact ⟨0, Nat.zero_le _, rfl, Hst0.out⟩
 case round =>
  obtain ⟨i, hi, rfl, hst⟩ := hrel
  have Hst := Lib.hid hst
  have hB5r := hst.below
  have hGr := hst.lt
  have hnb := Hn.out
  clear hst
  by_cases hlt : i < n
  ·have hil : i < l.length := by rw [Hl.out]; exact hlt
   obtain ⟨⟨v7, c7⟩, ⟨v8, c8⟩, cf⟩ := Hst.out.look hil
   obtain ⟨cur, hcur, hcs⟩ := Hst.out.row
   have hi0 : (0 : Int) <= (i : Int) := by omega
   have hin : (i : Int) < n := by omega
   have hrowa := heap_setCell_same wr G (i * 9 + 7) _ _ (.slice none 0 0) hcur
   have hB5a := hB5r.setCell (p := ⟨G, i * 9 + 7, none⟩) hG (.slice none 0 0)
   have hsza : (wr.setCell ⟨G, i * 9 + 7, none⟩ (.slice none 0 0)).heap.size = wr.heap.size := by simp [World.setCell]
   have hstep : ∀ (w2 : World), Below (wr.setCell ⟨G, i * 9 + 7, none⟩ (.slice none 0 0)).heap.size (wr.setCell ⟨G, i * 9 + 7, none⟩ (.slice none 0 0)) w2 -> ∀ (A : Option Addr) (c : Nat), ItmsAt w2 w2.heap.size A (Gr.left g l[i].shs) -> (∀ ad, A = some ad -> (wr.setCell ⟨G, i * 9 + 7, none⟩ (.slice none 0 0)).heap.size <= ad.block) -> Shading g l G (i + 1) W5 (w2.setCell ⟨G, i * 9 + 8, none⟩ (.slice A (Gr.left g l[i].shs).length c)) :=
    fun w2 hb A c hA hf => Hst.out.step hil hG hb hA (fun ad e => by have := hf ad e; rw [hsza] at this; exact this)
   obtain ⟨Wa, hWa⟩ : ∃ Wa, Wa = wr.setCell ⟨G, i * 9 + 7, none⟩ (.slice none 0 0) := ⟨_, rfl⟩
   rw [<- hWa] at hrowa hB5a hstep hsza
   have HWa := Lib.hid hWa
   have Hstep := Lib.hid hstep
   have Hrowa := Lib.hid hrowa
   have HB5a := Lib.hid hB5a
   obtain ⟨xi, hxi⟩ : ∃ xi, xi = l[i] := ⟨_, rfl⟩
   have Hxi := Lib.hid hxi
   have hxat := ((Hx5.out l[i] (List.getElem_mem hil)).below hB5a (Nat.le_refl _)).more hB5a.size
   rw [<- hxi] at hxat
   have Hxa := Lib.hid hxat
   have hfew : xi.shs.length <= 40 := by rw [hxi]; exact (Raw.few_ok (Raw.ok_parts (Hall.out l[i] (List.getElem_mem hil))).2.2.2).1
   have hhl := hxat.hhl
   obtain ⟨b, o, rfl, hbB, hrw⟩ := RowsAt.look (RowsAt.below Hr5.out hB5a (Nat.le_refl _)) hil
   rw [<- hxi] at hrw
   have r8 : Wa.cell? ⟨b, o + i * 9 + 8, none⟩ = some (.slice xi.hA xi.hm xi.hc) := hrw 8 _ rfl
   have R8 := Lib.hid r8
   have sba : b < Wa.heap.size := by have := hB5a.size; omega
   have sga : W4.heap.size < Wa.heap.size := by have := hB5a.size; omega
   have sGa : G < Wa.heap.size := by rw [hsza]; exact hGr
   have Hga3 := Lib.hid (Hga.out.at_ hB5a)
   have Hba := Lib.hid (gbox Hb5.out hB5a s5)
   have hbytes : xi.hm * 56 <= 140737488355328 := by omega
   have own0 : Wa.ownsRow Wa.heap.size 90 7 (.slice none 0 0) (Gr.left g (xi.shs.take 0)).length ((Gr.left g (xi.shs.take 0)).flatMap Itm.cells) := ⟨rfl, .inl ⟨rfl, rfl⟩⟩
   have Own0 := Lib.hid own0
   obtain ⟨i0, hi9, hz0, hz1, hz2⟩ := info_parts itmInfo
   clear hrowa hB5a hstep hxi hxat hrw own0 hcur hsza hWa r8
   go_upto_region 12 with (fail)
   rw [<- HWa.out]
   clear c7 c8 v7 v8 cf
   have r8 := R8.out
   go_wp2
   clear r8
   go_loopw [10, 11] (fun v s wq => ∃ (v' : Value) (k : Nat), v' = v /\ k <= xi.hm /\ s = .int .i64 k /\ wq.ownsRow Wa.heap.size 90 7 v' (Gr.left g (xi.shs.take k)).length ((Gr.left g (xi.shs.take k)).flatMap Itm.cells) /\ Below Wa.heap.size Wa wq) (fun _ s _ => xi.hm - (intOf s).toNat)
   case atStart => exact ⟨_, 0, rfl, Nat.zero_le _, rfl, Own0.out, Below.refl _ _⟩
   case round =>
    obtain ⟨v', k, hv, hk, rfl, hown, hbq⟩ := hrel
    subst hv
    have Hown := Lib.hid hown
    have hqq := hbq.size
    have r8 := (hbq.cell (p := ⟨b, o + i * 9 + 8, none⟩) sba).trans R8.out
    have sbq : b < wr.heap.size := by omega
    have hbytes2 : (Gr.left g (xi.shs.take k)).length <= 40 := by
     have h1 := Gr.left_length g (xi.shs.take k)
     rw [List.length_take] at h1; omega
    clear hown
    by_cases hlk : k < xi.hm
    ·have hkl : k < xi.shs.length := by omega
     obtain ⟨b2, o2, hA2, hb2B, hr2⟩ := RowsAt.look (RowsAt.below Hxa.out.hhA hbq (Nat.le_refl _)) hkl
     obtain ⟨zi, hzi⟩ : ∃ zi, zi = xi.shs[k] := ⟨_, rfl⟩
     have hlt1 := Gr.left_take g hkl
     rw [<- hzi] at hr2 hlt1
     have Hr2 := Lib.hid hr2
     have Hlt1 := Lib.hid hlt1
     have HA2 := Lib.hid hA2
     have hb2w : b2 < wr.heap.size := by omega
     have hk0 : (0 : Int) <= (k : Int) := by omega
     have hkn : (k : Int) < xi.hm := by omega
     rw [hA2] at r8
     obtain ⟨hBb, hbb, hzb⟩ := row_new wr #[.int .i64 zi.ent0, .int .i64 zi.lin, .int .i64 zi.ent, .int .i64 zi.acct, .int .i64 zi.partner, .int .i64 zi.date, .int .i64 zi.amt] 90
     have hownb := Hown.out.alloc (.cells #[.int .i64 zi.ent0, .int .i64 zi.lin, .int .i64 zi.ent, .int .i64 zi.acct, .int .i64 zi.partner, .int .i64 zi.date, .int .i64 zi.amt] 90)
     obtain ⟨Wb, hWb⟩ : ∃ Wb, Wb = wr.alloc (.cells #[.int .i64 zi.ent0, .int .i64 zi.lin, .int .i64 zi.ent, .int .i64 zi.acct, .int .i64 zi.partner, .int .i64 zi.date, .int .i64 zi.amt] 90) := ⟨_, rfl⟩
     rw [<- hWb] at hBb hbb hzb hownb
     have HWb := Lib.hid hWb
     have hbab := hbq.trans (hBb.mono hqq)
     have Hbb := Lib.hid hbb
     have HBab := Lib.hid hbab
     have HOb := Lib.hid hownb
     have HGb := Lib.hid (gbox Hba.out hbab sga)
     have hrgb := Lib.hid (grp_range HGb.out)
     have sgb := some_lt HGb.out
     have Hgab := Lib.hid (Hga3.out.at_ hbab)
     have y3 := cell_of_row _ _ 3 _ _ _ hbb
     simp at y3
     obtain ⟨ac, hac⟩ : ∃ ac, ac = zi.acct := ⟨_, rfl⟩
     rw [<- hac] at y3
     have Hac := Lib.hid hac
     have sb : wr.heap.size < Wb.heap.size := by omega
     have HKD : Hid (Gr.keepsh g zi = (decide (3 <= Gr.kind g ac) && decide (ac ≠ g.r7))) := by show _ = _; rw [Gr.keepsh, <- hac]
     clear hzi hr2 hlt1 hA2 hWb hbb hzb hownb hbab hac
     go_upto_region 17 with (refine wpList_load_mid rfl 90 (.tmp 56) rfl b2 (o2 + k * 7) rfl [.int .i64 zi.ent0, .int .i64 zi.lin, .int .i64 zi.ent, .int .i64 zi.acct, .int .i64 zi.partner, .int .i64 zi.date, .int .i64 zi.amt] _ Hr2.out Tryz.underlying90 rfl itmSize ?_)
     rw [<- HWb.out]
     go_wp2_with (refine wpList_load_mid rfl 29 (.tmp 7) rfl W4.heap.size 0 rfl [.string g.cur, .int .i64 g.Y, .int .i64 g.M, .int .i64 g.N, .slice g.cA g.cn g.cc, .int .i64 g.r0, .int .i64 g.r1, .int .i64 g.r2, .int .i64 g.r3, .int .i64 g.r4, .int .i64 g.r5, .int .i64 g.r6, .int .i64 g.r7, .int .i64 g.r8, .int .i64 g.r9, .int .i64 g.r10, .int .i64 g.r11, .int .i64 g.r12, .int .i64 g.r13, .int .i64 g.r14, .slice g.eA g.en g.ec] _ hrgb.out Tryz.underlying29 rfl grpSize ?_)
     refine (kind_any Wb g ac Hgab.out).mono ?_
     rintro e Wc ⟨rfl, hBc⟩
     obtain ⟨kd, hkd⟩ : ∃ kd, kd = Gr.kind g ac := ⟨_, rfl⟩
     rw [<- hkd] at HKD ⊢
     have hbc := gbox Hbb.out hBc sb
     have hgc := gbox HGb.out hBc sgb
     have y3 := cell_of_row _ _ 3 _ _ _ hbc
     have g12 := cell_of_row _ _ 12 _ _ _ hgc
     simp at y3 g12
     have Hrz := Lib.hid (range_row (cs := [.int .i64 zi.ent0, .int .i64 zi.lin, .int .i64 zi.ent, .int .i64 zi.acct, .int .i64 zi.partner, .int .i64 zi.date, .int .i64 zi.amt]) hbc)
     have sc := some_lt hbc
     have sgc := some_lt hgc
     have HOc := Lib.hid (HOb.out.kept (grown_of_below_s hBc) (by cases v'.ownBlock <;> simp))
     have HBc := Lib.hid (HBab.out.trans (hBc.mono HBab.out.size))
     rw [<- Hac.out] at y3
     clear hkd hbc hgc
     by_cases h3 : 3 <= kd
     ·by_cases h7 : ac = g.r7
      ·have h7b : (ac != g.r7) = false := by simp [h7]
       have HK2 : Hid (Gr.left g (xi.shs.take (k + 1)) = Gr.left g (xi.shs.take k)) := by show _ = _; rw [Hlt1.out, HKD.out, h7]; simp
       clear h7
       go_wp2
       go_roundw
       case rel => exact ⟨_, k + 1, rfl, by omega, by go_num, by rw [HK2.out]; exact HOc.out, HBc.out⟩
       case measure => simp [intOf]; omega
      ·have h7b : (ac != g.r7) = true := by simp [h7]
       have HK2 : Hid (Gr.left g (xi.shs.take (k + 1)) = Gr.left g (xi.shs.take k) ++ [zi]) := by show _ = _; rw [Hlt1.out, HKD.out]; simp [h3, h7]
       clear h7
       have hownd := HOc.out.alloc (.cells #[.int .i64 zi.ent0, .int .i64 zi.lin, .int .i64 zi.ent, .int .i64 zi.acct, .int .i64 zi.partner, .int .i64 zi.date, .int .i64 zi.amt] 90)
       have hnew := cells_new Wc (Itm.cells zi) 90
       have hone : ∀ u ∈ Itm.cells zi, u.oneCell' = true := by
        intro u hu
        simp [Itm.cells] at hu
        rcases hu with h | h | h | h | h | h | h <;> (rw [h]; rfl)
       go_wp2_with (first | (refine wpList_load_mid rfl 90 (.tmp 12) rfl wr.heap.size 0 rfl [.int .i64 zi.ent0, .int .i64 zi.lin, .int .i64 zi.ent, .int .i64 zi.acct, .int .i64 zi.partner, .int .i64 zi.date, .int .i64 zi.amt] _ Hrz.out Tryz.underlying90 rfl itmSize ?_) | (at_builtin; refine wpList_append_own _ rfl _ _ 55 rfl Wa.heap.size 90 i0 (.agg #[.int .i64 0, .int .i64 0, .int .i64 0, .int .i64 0, .int .i64 0, .int .i64 0, .int .i64 0]) 7 56 Tryz.underlying55 hi9 hz0 hz1 hz2 rfl (by decide) _ _ _ rfl hownd ⟨Wc.heap.size, 0, none⟩ 1 1 (Itm.cells zi) rfl rfl hnew hone (by unfold maxLen; omega) (by omega) (by have := HBc.out.size; simp; omega) ?_))
       intro v2 w9 hown' hgrow _
       have hb9 := (HBc.out.alloc HBc.out.size (.cells #[.int .i64 zi.ent0, .int .i64 zi.lin, .int .i64 zi.ent, .int .i64 zi.acct, .int .i64 zi.partner, .int .i64 zi.date, .int .i64 zi.amt] 90)).grown hgrow (by have := HBc.out.size; simp; omega) (own_base HOc.out)
       go_wp2
       go_roundw
       case rel => exact ⟨_, k + 1, rfl, by omega, by go_num, by rw [HK2.out, List.length_append, List.flatMap_append]; simpa using hown', hb9⟩
       case measure => simp [intOf]; omega
     ·have HK2 : Hid (Gr.left g (xi.shs.take (k + 1)) = Gr.left g (xi.shs.take k)) := by show _ = _; rw [Hlt1.out, HKD.out]; simp [h3]
      go_wp2
      go_roundw
      case rel => exact ⟨_, k + 1, rfl, by omega, by go_num, by rw [HK2.out]; exact HOc.out, HBc.out⟩
      case measure => simp [intOf]; omega
    ·obtain rfl : k = xi.hm := by omega
     have hown := Hown.out
     have htk : xi.shs.take xi.hm = xi.shs := List.take_of_length_le (by omega)
     rw [htk] at hown
     obtain ⟨Al, cl, hve, hAl⟩ := own_flat (f := Itm.cells) (by omega) (fun _ => rfl) hown rfl
     subst hve
     have hfr := own_fresh hown
     have hs := Hstep.out wr hbq Al cl (by rw [<- Hxi.out]; exact hAl) hfr
     rw [<- Hxi.out] at hs
     have Hs := Lib.hid hs
     have hrq := gbox Hrowa.out hbq sGa
     have hcf := fun j => frozen_of_row _ _ j _ _ hrq
     have hsz8 : i * 9 + 8 < (cur.setIfInBounds (i * 9 + 7) (.slice none 0 0)).size := by simp; omega
     have hc8 := cell_of_row _ _ (i * 9 + 8) _ _ _ hrq
     rw [Array.getElem?_eq_getElem hsz8] at hc8
     have sGq : G < wr.heap.size := some_lt hrq
     clear hown htk hs hAl hrq
     go_wp2
     go_roundw
     case rel => exact ⟨i + 1, by omega, by go_num, Hs.out⟩
     case measure => simp [intOf]; omega
  ·obtain rfl : i = n := by omega
   have hst := Hst.out
   rw [<- Hl.out] at hst
   have hxr := (fun a ha => ((Hx5.out a ha).below hB5r (Nat.le_refl _)).more hB5r.size : ∀ a ∈ l, a.At wr wr.heap.size)
   obtain ⟨ms, hmlen, hraws, hmx, hmo, hmc⟩ := hst.done hxr Hall.out
   have hml : ms.length = i := by rw [hmlen]; exact Hl.out
   have Hmc := Lib.hid hmc
   have Hmo := Lib.hid hmo
   have Hxmb := Lib.hid hmx
   have Hml := Lib.hid hml
   have Hrmb := Lib.hid hraws
   have Hxb := Lib.hid hxr
   have Hrb := Lib.hid (RowsAt.at_ Hr5.out hB5r)
   have Hgab := Lib.hid (Hga.out.at_ hB5r)
   have Hbb := Lib.hid (gbox Hb5.out hB5r s5)
   have HB0r := Lib.hid (hB05.trans (hB5r.mono hB05.size))
   obtain ⟨ln, hln⟩ : ∃ ln, ln = l.length := ⟨_, rfl⟩
   have Hln := Lib.hid hln
   have Hli := Lib.hid (show ms.length = ln by rw [hmlen, hln])
   have sg11 := some_lt Hbb.out
   have hrgb := Lib.hid (grp_range Hbb.out)
   rw [<- hln]
   have HP2 : Hid (Gr.apost g (ms.map Raw.cnt) x = Gr.apost g (l.map Raw.cnt) x) := by show _ = _; rw [Hmc.out, Gr.apost_shad H73.out]
   clear hst hxr hmlen hraws hmx hmo hmc hml hln hB5r
   go_upto_region 20 with (fail)
   have hV0 : Below wr.heap.size wr wr.drew := below_drawn (Below.refl _ _) 1
   refine wp_region_held (S := Below wr.heap.size wr) (by kernel_rfl) ?_
   change wpAnyH _ _ _ _ _ _ _ _ (World.drew wr)
   obtain ⟨U0A, hWd⟩ : ∃ U0A, U0A = wr.drew := ⟨_, rfl⟩
   rw [<- hWd] at hV0 ⊢
   clear hWd
   refine wpAnyH_take (i := 0) (v := .agg #[.string g.cur, .int .i64 g.Y, .int .i64 g.M, .int .i64 g.N, .slice g.cA g.cn g.cc, .int .i64 g.r0, .int .i64 g.r1, .int .i64 g.r2, .int .i64 g.r3, .int .i64 g.r4, .int .i64 g.r5, .int .i64 g.r6, .int .i64 g.r7, .int .i64 g.r8, .int .i64 g.r9, .int .i64 g.r10, .int .i64 g.r11, .int .i64 g.r12, .int .i64 g.r13, .int .i64 g.r14, .slice g.eA g.en g.ec]) rfl (by kernel_rfl) (by kernel_rfl) (by kernel_rfl) (fun _ _ _ h => h) (yieldsIf_load_mid (by rfl) 29 _ rfl W4.heap.size 0 rfl [.string g.cur, .int .i64 g.Y, .int .i64 g.M, .int .i64 g.N, .slice g.cA g.cn g.cc, .int .i64 g.r0, .int .i64 g.r1, .int .i64 g.r2, .int .i64 g.r3, .int .i64 g.r4, .int .i64 g.r5, .int .i64 g.r6, .int .i64 g.r7, .int .i64 g.r8, .int .i64 g.r9, .int .i64 g.r10, .int .i64 g.r11, .int .i64 g.r12, .int .i64 g.r13, .int .i64 g.r14, .slice g.eA g.en g.ec] _ (fun W' hS' => range_below hrgb.out hS' sg11) Tryz.underlying29 rfl grpSize) hV0 ?_
   try simp only [Act.put, z]
   refine wpAnyH_take (i := 1) (v := .slice A i c) rfl (by kernel_rfl) (by kernel_rfl) (by kernel_rfl) (fun _ _ _ h => h) (.inl ⟨by rfl, fun W' hS' => by go_simp⟩) hV0 ?_
   try simp only [Act.put, z]
   refine wpAnyH_take (i := 3) (v := .int .i64 x) rfl (by kernel_rfl) (by kernel_rfl) (by kernel_rfl) (fun _ _ _ h => h) (.inl ⟨by rfl, fun W' hS' => by go_simp⟩) hV0 ?_
   try simp only [Act.put, z]
   refine wpAnyH_letters fun mdA opsA QA aA hlmA hloA hlqA hlaA => ?_
   have finA : ∀ (W' : World) (Ao : Option Addr) (co p : Nat) (Ap : Option Addr) (cp : Nat), Below wr.heap.size wr W' -> PrtsAt W' W'.heap.size Ap ps -> (ps ≠ [] -> ∀ ad, Ap = some ad -> ad.block ≠ p) -> wr.heap.size <= p -> W'.heap[p]? = some (.cells #[.int .i64 0, .int .i64 0, .int .i64 0, .int .i64 0, .slice none 0 0] 49 (0, 0)) -> wpAnyH Tryz.prog mdA opsA QA (Below wr.heap.size wr) 2 #[true, true, true, true, true, true, true, true, true, false, false] ((((((aA.put (some 83) (.slice Ao ln co)).put (some 85) (.tuple #[.agg #[.int .i64 kk, .int .i64 ee, .int .i64 oo, .int .i64 0, .slice Ap np cp], .int .i64 er])).put (some 80) (.tuple #[.agg #[.int .i64 kk, .int .i64 ee, .int .i64 oo, .int .i64 0, .slice Ap np cp], .int .i64 er])).put (some 86) (.agg #[.int .i64 kk, .int .i64 ee, .int .i64 oo, .int .i64 0, .slice Ap np cp])).put (some 87) (.int .i64 er)).put (some 13) (.pointer (some ⟨p, 0, none⟩))) W' := by
    intro W' Aq cq pA ApA cpA hS hPa hne hpA hrw
    subst hlmA hloA hlqA hlaA
    try simp only [Act.put, z]
    refine wpAnyH_ready (rs := [9]) (by kernel_rfl) (by simp) (AllReadyH.cons rfl (fun K hK => ?_) AllReadyH.nil)
    rw [if_pos (by rfl)]
    refine wp_store_row 49 _ _ none rfl rfl pA 49 _ #[.int .i64 kk, .int .i64 ee, .int .i64 oo, .int .i64 0, .slice ApA np cpA] rfl rfl hrw rfl postSize (by simp [Value.oneCell']) ?_
    have hPb := RowsAt.stored hPa hne #[.int .i64 kk, .int .i64 ee, .int .i64 oo, .int .i64 0, .slice ApA np cpA]
    have hrw2 := setRow_heap W' pA _ #[.int .i64 kk, .int .i64 ee, .int .i64 oo, .int .i64 0, .slice ApA np cpA] _ _ hrw
    have hS2 := below_setRow hS hpA #[.int .i64 kk, .int .i64 ee, .int .i64 oo, .int .i64 0, .slice ApA np cpA]
    refine hK.out _ _ hS2 (fun _ => ?_)
    clear hK K
    try simp only [Act.put, z]
    refine wpAnyH_ready (rs := [10]) (by kernel_rfl) (by simp) (AllReadyH.cons rfl (fun K hK => ?_) AllReadyH.nil)
    go_simp
    refine hK.out _ _ hS2 (fun _ => ?_)
    clear hK K
    try simp only [Act.put, z]
    refine wpAnyH_done (by kernel_rfl) ?_ _
    try simp only [Act.put, z]
    obtain ⟨VA, hVV⟩ : ∃ VA, VA = W'.setRow pA #[.int .i64 kk, .int .i64 ee, .int .i64 oo, .int .i64 0, .slice ApA np cpA] := ⟨_, rfl⟩
    rw [<- hVV] at hrw2 hS2 hPb ⊢
    clear hVV hS hrw hPa hne
    have HSA := Lib.hid hS2
    have HFA := Lib.hid hrw2
    have HPPA := Lib.hid hPb
    have spA := some_lt hrw2
    clear hS2 hrw2 hPb
    have HgaA := Lib.hid (Hgab.out.at_ HSA.out)
    have HbA := Lib.hid (gbox Hbb.out HSA.out sg11)
    have sgA := some_lt HbA.out
    have hrgA := Lib.hid (grp_range HbA.out)
    have HrmA := Lib.hid (RowsAt.at_ Hrmb.out HSA.out)
    have HxmA := Lib.hid (fun a ha => ((Hxmb.out a ha).below HSA.out (Nat.le_refl _)).more HSA.out.size : ∀ a ∈ ms, a.At VA VA.heap.size)
    go_upto_region 21 with (fail)
    have hV0 : Below VA.heap.size VA VA.drew := below_drawn (Below.refl _ _) 1
    refine wp_region_held (S := Below VA.heap.size VA) (by kernel_rfl) ?_
    change wpAnyH _ _ _ _ _ _ _ _ (World.drew VA)
    obtain ⟨U0B, hWd⟩ : ∃ U0B, U0B = VA.drew := ⟨_, rfl⟩
    rw [<- hWd] at hV0 ⊢
    clear hWd
    refine wpAnyH_take (i := 0) (v := .agg #[.string g.cur, .int .i64 g.Y, .int .i64 g.M, .int .i64 g.N, .slice g.cA g.cn g.cc, .int .i64 g.r0, .int .i64 g.r1, .int .i64 g.r2, .int .i64 g.r3, .int .i64 g.r4, .int .i64 g.r5, .int .i64 g.r6, .int .i64 g.r7, .int .i64 g.r8, .int .i64 g.r9, .int .i64 g.r10, .int .i64 g.r11, .int .i64 g.r12, .int .i64 g.r13, .int .i64 g.r14, .slice g.eA g.en g.ec]) rfl (by kernel_rfl) (by kernel_rfl) (by kernel_rfl) (fun _ _ _ h => h) (yieldsIf_load_mid (by rfl) 29 _ rfl W4.heap.size 0 rfl [.string g.cur, .int .i64 g.Y, .int .i64 g.M, .int .i64 g.N, .slice g.cA g.cn g.cc, .int .i64 g.r0, .int .i64 g.r1, .int .i64 g.r2, .int .i64 g.r3, .int .i64 g.r4, .int .i64 g.r5, .int .i64 g.r6, .int .i64 g.r7, .int .i64 g.r8, .int .i64 g.r9, .int .i64 g.r10, .int .i64 g.r11, .int .i64 g.r12, .int .i64 g.r13, .int .i64 g.r14, .slice g.eA g.en g.ec] _ (fun W' hS' => range_below hrgA.out hS' sgA) Tryz.underlying29 rfl grpSize) hV0 ?_
    try simp only [Act.put, z]
    refine wpAnyH_take (i := 1) (v := .slice (some ⟨G, 0, none⟩) i cap) rfl (by kernel_rfl) (by kernel_rfl) (by kernel_rfl) (fun _ _ _ h => h) (.inl ⟨by rfl, fun W' hS' => by go_simp⟩) hV0 ?_
    try simp only [Act.put, z]
    refine wpAnyH_take (i := 3) (v := .int .i64 x) rfl (by kernel_rfl) (by kernel_rfl) (by kernel_rfl) (fun _ _ _ h => h) (.inl ⟨by rfl, fun W' hS' => by go_simp⟩) hV0 ?_
    try simp only [Act.put, z]
    refine wpAnyH_letters fun mdB opsB QB aB hlmB hloB hlqB hlaB => ?_
    have finB : ∀ (W' : World) (Ao : Option Addr) (co p : Nat) (Ap : Option Addr) (cp : Nat), Below VA.heap.size VA W' -> PrtsAt W' W'.heap.size Ap ps -> (ps ≠ [] -> ∀ ad, Ap = some ad -> ad.block ≠ p) -> VA.heap.size <= p -> W'.heap[p]? = some (.cells #[.int .i64 0, .int .i64 0, .int .i64 0, .int .i64 0, .slice none 0 0] 49 (0, 0)) -> wpAnyH Tryz.prog mdB opsB QB (Below VA.heap.size VA) 2 #[true, true, true, true, true, true, true, true, true, false, false] ((((((aB.put (some 91) (.slice Ao ln co)).put (some 93) (.tuple #[.agg #[.int .i64 kk, .int .i64 ee, .int .i64 oo, .int .i64 0, .slice Ap np cp], .int .i64 er])).put (some 88) (.tuple #[.agg #[.int .i64 kk, .int .i64 ee, .int .i64 oo, .int .i64 0, .slice Ap np cp], .int .i64 er])).put (some 94) (.agg #[.int .i64 kk, .int .i64 ee, .int .i64 oo, .int .i64 0, .slice Ap np cp])).put (some 95) (.int .i64 er)).put (some 15) (.pointer (some ⟨p, 0, none⟩))) W' := by
     intro W' Aq cq pB ApB cpB hS hPa hne hpB hrw
     subst hlmB hloB hlqB hlaB
     try simp only [Act.put, z]
     refine wpAnyH_ready (rs := [9]) (by kernel_rfl) (by simp) (AllReadyH.cons rfl (fun K hK => ?_) AllReadyH.nil)
     rw [if_pos (by rfl)]
     refine wp_store_row 49 _ _ none rfl rfl pB 49 _ #[.int .i64 kk, .int .i64 ee, .int .i64 oo, .int .i64 0, .slice ApB np cpB] rfl rfl hrw rfl postSize (by simp [Value.oneCell']) ?_
     have hPb := RowsAt.stored hPa hne #[.int .i64 kk, .int .i64 ee, .int .i64 oo, .int .i64 0, .slice ApB np cpB]
     have hrw2 := setRow_heap W' pB _ #[.int .i64 kk, .int .i64 ee, .int .i64 oo, .int .i64 0, .slice ApB np cpB] _ _ hrw
     have hS2 := below_setRow hS hpB #[.int .i64 kk, .int .i64 ee, .int .i64 oo, .int .i64 0, .slice ApB np cpB]
     refine hK.out _ _ hS2 (fun _ => ?_)
     clear hK K
     try simp only [Act.put, z]
     refine wpAnyH_ready (rs := [10]) (by kernel_rfl) (by simp) (AllReadyH.cons rfl (fun K hK => ?_) AllReadyH.nil)
     go_simp
     refine hK.out _ _ hS2 (fun _ => ?_)
     clear hK K
     try simp only [Act.put, z]
     refine wpAnyH_done (by kernel_rfl) ?_ _
     try simp only [Act.put, z]
     obtain ⟨VB, hVV⟩ : ∃ VB, VB = W'.setRow pB #[.int .i64 kk, .int .i64 ee, .int .i64 oo, .int .i64 0, .slice ApB np cpB] := ⟨_, rfl⟩
     rw [<- hVV] at hrw2 hS2 hPb ⊢
     clear hVV hS hrw hPa hne
     have HSB := Lib.hid hS2
     have HFB := Lib.hid hrw2
     have HPPB := Lib.hid hPb
     have spB := some_lt hrw2
     clear hS2 hrw2 hPb
     have hBz := HSA.out.trans (HSB.out.mono HSA.out.size)
     have hB0z := HB0r.out.trans (hBz.mono HB0r.out.size)
     have HfA := Lib.hid (gbox HFA.out HSB.out spA)
     have spa := some_lt HfA.out
     have rA := Lib.hid (range_row (cs := [.int .i64 kk, .int .i64 ee, .int .i64 oo, .int .i64 0, .slice ApA np cpA]) HfA.out)
     have rB := Lib.hid (range_row (cs := [.int .i64 kk, .int .i64 ee, .int .i64 oo, .int .i64 0, .slice ApB np cpB]) HFB.out)
     have Hpa := Lib.hid (RowsAt.at_ HPPA.out HSB.out)
     go_wp2_with (first | (refine wpList_load_want (by rfl) 49 (.tmp 13) rfl pA 0 rfl [.int .i64 kk, .int .i64 ee, .int .i64 oo, .int .i64 0, .slice ApA np cpA] _ rA.out Tryz.underlying49 rfl postSize ?_) | (refine wpList_load_want (by rfl) 49 (.tmp 15) rfl pB 0 rfl [.int .i64 kk, .int .i64 ee, .int .i64 oo, .int .i64 0, .slice ApB np cpB] _ rB.out Tryz.underlying49 rfl postSize ?_))
     refine (equald_same VB kk ee oo 0 ApA ApB np cpA cpB ps HNP.out.symm (by have := HN3.out; omega) Hpa.out HPPB.out).mono ?_
     rintro e W9 ⟨rfl, hB9⟩
     go_wp2
     go_ret
     exact ⟨rfl, hB0z.trans (hB9.mono hB0z.size)⟩
    subst hlmB hloB hlqB hlaB
    refine wpAnyH_ready (rs := [2, 8]) (by kernel_rfl) (by simp) (AllReadyH.cons rfl (fun K hK => ?_) (AllReadyH.cons rfl (fun K hK => ?_) AllReadyH.nil))
    ·skip
     have Hown := Lib.hid (own41_any U0B (some ⟨G, 0, none⟩) i cap ms Hml.out (by have := Hml.out; have := Hli.out; have := Hln.out; have := H8.out; omega) (RowsAt.at_ HrmA.out hV0) (fun a ha => ((HxmA.out a ha).below hV0 (Nat.le_refl _)).more hV0.size) Hmo.out)
     go_simp
     refine Hown.out.mono ?_
     rintro e V1 ⟨hBo, Ao, co, ds, rfl, hdl, hds, hdo⟩
     rw [Hli.out]
     have hVo := hV0.trans (hBo.mono hV0.size)
     clear Hown
     refine hK.out _ _ hVo (fun _ => ?_)
     clear hK K
     try simp only [Act.put, z]
     refine wpAnyH_ready (rs := [4, 8]) (by kernel_rfl) (by simp) (AllReadyH.cons rfl (fun K hK => ?_) (AllReadyH.cons rfl (fun K hK => ?_) AllReadyH.nil))
     ·skip
      have Hof := Lib.hid (apostd_any V1 g Ao ln co ds (ms.map Raw.cnt) x (hdl.trans Hli.out) (by have := Hln.out; have := H8.out; omega) hds hdo (HgaA.out.at_ hVo))
      go_simp
      refine Hof.out.mono ?_
      rintro e V2 hpp
      obtain ⟨hBf, Ap, cp, hfp, rfl, hPp⟩ := PostingPost.one hpp
      clear hpp
      have HH := HAS.out
      rw [HP2.out] at hPp
      rw [HP2.out]
      rw [HH.2.2] at hPp
      rw [HH.1.1, HH.1.2.1, HH.1.2.2, HH.2.1, HH.2.2, <- HNP.out]
      have hVf := hVo.trans (hBf.mono hVo.size)
      clear Hof HH
      refine hK.out _ _ hVf (fun _ => ?_)
      clear hK K
      try simp only [Act.put, z]
      refine wpAnyH_take (i := 5) (v := .tuple #[.agg #[.int .i64 kk, .int .i64 ee, .int .i64 oo, .int .i64 0, .slice Ap np cp], .int .i64 er]) rfl (by kernel_rfl) (by kernel_rfl) (by kernel_rfl) (fun _ _ _ h => h) (.inl ⟨by rfl, fun W' hS' => by go_simp⟩) hVf ?_
      try simp only [Act.put, z]
      refine wpAnyH_take (i := 6) (v := .agg #[.int .i64 kk, .int .i64 ee, .int .i64 oo, .int .i64 0, .slice Ap np cp]) rfl (by kernel_rfl) (by kernel_rfl) (by kernel_rfl) (fun _ _ _ h => h) (.inl ⟨by rfl, fun W' hS' => by go_simp⟩) hVf ?_
      try simp only [Act.put, z]
      refine wpAnyH_take (i := 7) (v := .int .i64 er) rfl (by kernel_rfl) (by kernel_rfl) (by kernel_rfl) (fun _ _ _ h => h) (.inl ⟨by rfl, fun W' hS' => by go_simp⟩) hVf ?_
      try simp only [Act.put, z]
      refine wpAnyH_ready (rs := [8]) (by kernel_rfl) (by simp) (AllReadyH.cons rfl (fun K hK => ?_) AllReadyH.nil)
      obtain ⟨hBa, hrw, _⟩ := row_new V2 #[.int .i64 0, .int .i64 0, .int .i64 0, .int .i64 0, .slice none 0 0] 49
      go_simp
      obtain ⟨V3, hWn⟩ : ∃ V3, V3 = V2.alloc (.cells #[.int .i64 0, .int .i64 0, .int .i64 0, .int .i64 0, .slice none 0 0] 49) := ⟨_, rfl⟩
      rw [<- hWn] at hBa hrw ⊢
      clear hWn
      have hVa := hVf.trans (hBa.mono hVf.size)
      refine hK.out _ _ hVa (fun _ => ?_)
      clear hK K
      try simp only [Act.put, z]
      have hn := finB V3 Ao co V2.heap.size Ap cp hVa (RowsAt.at_ hPp hBa) (fun h ad e => Nat.ne_of_lt (RowsAt.lt hPp h ad e)) hVf.size hrw
      try simp only [Act.put, z] at hn
      exact hn
     ·skip
      obtain ⟨hBa, hrw, _⟩ := row_new V1 #[.int .i64 0, .int .i64 0, .int .i64 0, .int .i64 0, .slice none 0 0] 49
      go_simp
      obtain ⟨V2, hWn⟩ : ∃ V2, V2 = V1.alloc (.cells #[.int .i64 0, .int .i64 0, .int .i64 0, .int .i64 0, .slice none 0 0] 49) := ⟨_, rfl⟩
      rw [<- hWn] at hBa hrw ⊢
      clear hWn
      have hVa := hVo.trans (hBa.mono hVo.size)
      refine hK.out _ _ hVa (fun _ => ?_)
      clear hK K
      try simp only [Act.put, z]
      refine wpAnyH_ready (rs := [4]) (by kernel_rfl) (by simp) (AllReadyH.cons rfl (fun K hK => ?_) AllReadyH.nil)
      have Hof := Lib.hid (apostd_any V2 g Ao ln co ds (ms.map Raw.cnt) x (hdl.trans Hli.out) (by have := Hln.out; have := H8.out; omega) (RowsAt.at_ hds hBa) (hdo.imp (Q := fun a b => a.Holds SD V2 V2.heap.size b) fun _ _ h => h.atD hBa) (HgaA.out.at_ hVa))
      go_simp
      refine Hof.out.mono ?_
      rintro e V3 hpp
      obtain ⟨hBf, Ap, cp, hfp, rfl, hPp⟩ := PostingPost.one hpp
      clear hpp
      have HH := HAS.out
      rw [HP2.out] at hPp
      rw [HP2.out]
      rw [HH.2.2] at hPp
      rw [HH.1.1, HH.1.2.1, HH.1.2.2, HH.2.1, HH.2.2, <- HNP.out]
      have hVf := hVa.trans (hBf.mono hVa.size)
      clear Hof HH
      refine hK.out _ _ hVf (fun _ => ?_)
      clear hK K
      try simp only [Act.put, z]
      refine wpAnyH_take (i := 5) (v := .tuple #[.agg #[.int .i64 kk, .int .i64 ee, .int .i64 oo, .int .i64 0, .slice Ap np cp], .int .i64 er]) rfl (by kernel_rfl) (by kernel_rfl) (by kernel_rfl) (fun _ _ _ h => h) (.inl ⟨by rfl, fun W' hS' => by go_simp⟩) hVf ?_
      try simp only [Act.put, z]
      refine wpAnyH_take (i := 6) (v := .agg #[.int .i64 kk, .int .i64 ee, .int .i64 oo, .int .i64 0, .slice Ap np cp]) rfl (by kernel_rfl) (by kernel_rfl) (by kernel_rfl) (fun _ _ _ h => h) (.inl ⟨by rfl, fun W' hS' => by go_simp⟩) hVf ?_
      try simp only [Act.put, z]
      refine wpAnyH_take (i := 7) (v := .int .i64 er) rfl (by kernel_rfl) (by kernel_rfl) (by kernel_rfl) (fun _ _ _ h => h) (.inl ⟨by rfl, fun W' hS' => by go_simp⟩) hVf ?_
      try simp only [Act.put, z]
      have hn := finB V3 Ao co V1.heap.size Ap cp hVf hPp (fun _ ad e => Nat.ne_of_gt (Nat.lt_of_lt_of_le (some_lt hrw) (hfp ad e))) hVo.size (gbox hrw hBf (some_lt hrw))
      try simp only [Act.put, z] at hn
      exact hn
    ·skip
     obtain ⟨hBa, hrw, _⟩ := row_new U0B #[.int .i64 0, .int .i64 0, .int .i64 0, .int .i64 0, .slice none 0 0] 49
     go_simp
     obtain ⟨V1, hWn⟩ : ∃ V1, V1 = U0B.alloc (.cells #[.int .i64 0, .int .i64 0, .int .i64 0, .int .i64 0, .slice none 0 0] 49) := ⟨_, rfl⟩
     rw [<- hWn] at hBa hrw ⊢
     clear hWn
     have hVa := hV0.trans (hBa.mono hV0.size)
     refine hK.out _ _ hVa (fun _ => ?_)
     clear hK K
     try simp only [Act.put, z]
     refine wpAnyH_ready (rs := [2]) (by kernel_rfl) (by simp) (AllReadyH.cons rfl (fun K hK => ?_) AllReadyH.nil)
     have Hown := Lib.hid (own41_any V1 (some ⟨G, 0, none⟩) i cap ms Hml.out (by have := Hml.out; have := Hli.out; have := Hln.out; have := H8.out; omega) (RowsAt.at_ HrmA.out hVa) (fun a ha => ((HxmA.out a ha).below hVa (Nat.le_refl _)).more hVa.size) Hmo.out)
     go_simp
     refine Hown.out.mono ?_
     rintro e V2 ⟨hBo, Ao, co, ds, rfl, hdl, hds, hdo⟩
     rw [Hli.out]
     have hVo := hVa.trans (hBo.mono hVa.size)
     clear Hown
     refine hK.out _ _ hVo (fun _ => ?_)
     clear hK K
     try simp only [Act.put, z]
     refine wpAnyH_ready (rs := [4]) (by kernel_rfl) (by simp) (AllReadyH.cons rfl (fun K hK => ?_) AllReadyH.nil)
     have Hof := Lib.hid (apostd_any V2 g Ao ln co ds (ms.map Raw.cnt) x (hdl.trans Hli.out) (by have := Hln.out; have := H8.out; omega) hds hdo (HgaA.out.at_ hVo))
     go_simp
     refine Hof.out.mono ?_
     rintro e V3 hpp
     obtain ⟨hBf, Ap, cp, hfp, rfl, hPp⟩ := PostingPost.one hpp
     clear hpp
     have HH := HAS.out
     rw [HP2.out] at hPp
     rw [HP2.out]
     rw [HH.2.2] at hPp
     rw [HH.1.1, HH.1.2.1, HH.1.2.2, HH.2.1, HH.2.2, <- HNP.out]
     have hVf := hVo.trans (hBf.mono hVo.size)
     clear Hof HH
     refine hK.out _ _ hVf (fun _ => ?_)
     clear hK K
     try simp only [Act.put, z]
     refine wpAnyH_take (i := 5) (v := .tuple #[.agg #[.int .i64 kk, .int .i64 ee, .int .i64 oo, .int .i64 0, .slice Ap np cp], .int .i64 er]) rfl (by kernel_rfl) (by kernel_rfl) (by kernel_rfl) (fun _ _ _ h => h) (.inl ⟨by rfl, fun W' hS' => by go_simp⟩) hVf ?_
     try simp only [Act.put, z]
     refine wpAnyH_take (i := 6) (v := .agg #[.int .i64 kk, .int .i64 ee, .int .i64 oo, .int .i64 0, .slice Ap np cp]) rfl (by kernel_rfl) (by kernel_rfl) (by kernel_rfl) (fun _ _ _ h => h) (.inl ⟨by rfl, fun W' hS' => by go_simp⟩) hVf ?_
     try simp only [Act.put, z]
     refine wpAnyH_take (i := 7) (v := .int .i64 er) rfl (by kernel_rfl) (by kernel_rfl) (by kernel_rfl) (fun _ _ _ h => h) (.inl ⟨by rfl, fun W' hS' => by go_simp⟩) hVf ?_
     try simp only [Act.put, z]
     have hn := finB V3 Ao co U0B.heap.size Ap cp hVf hPp (fun _ ad e => Nat.ne_of_gt (Nat.lt_of_lt_of_le (some_lt (gbox hrw hBo (some_lt hrw))) (hfp ad e))) hV0.size (gbox (gbox hrw hBo (some_lt hrw)) hBf (some_lt (gbox hrw hBo (some_lt hrw))))
     try simp only [Act.put, z] at hn
     exact hn
   subst hlmA hloA hlqA hlaA
   refine wpAnyH_ready (rs := [2, 8]) (by kernel_rfl) (by simp) (AllReadyH.cons rfl (fun K hK => ?_) (AllReadyH.cons rfl (fun K hK => ?_) AllReadyH.nil))
   ·skip
    have Hown := Lib.hid (own41_any U0A A i c l Hl.out (by have := Hl.out; have := H8.out; omega) (RowsAt.at_ Hrb.out hV0) (fun a ha => ((Hxb.out a ha).below hV0 (Nat.le_refl _)).more hV0.size) Hall.out)
    go_simp
    refine Hown.out.mono ?_
    rintro e V1 ⟨hBo, Ao, co, ds, rfl, hdl, hds, hdo⟩
    rw [<- Hln.out]
    have hVo := hV0.trans (hBo.mono hV0.size)
    clear Hown
    refine hK.out _ _ hVo (fun _ => ?_)
    clear hK K
    try simp only [Act.put, z]
    refine wpAnyH_ready (rs := [4, 8]) (by kernel_rfl) (by simp) (AllReadyH.cons rfl (fun K hK => ?_) (AllReadyH.cons rfl (fun K hK => ?_) AllReadyH.nil))
    ·skip
     have Hof := Lib.hid (apostd_any V1 g Ao ln co ds (l.map Raw.cnt) x (hdl.trans Hln.out.symm) (by have := Hln.out; have := H8.out; omega) hds hdo (Hgab.out.at_ hVo))
     go_simp
     refine Hof.out.mono ?_
     rintro e V2 hpp
     obtain ⟨hBf, Ap, cp, hfp, rfl, hPp⟩ := PostingPost.one hpp
     clear hpp
     have HH := HAS.out
     rw [HH.2.2] at hPp
     rw [HH.1.1, HH.1.2.1, HH.1.2.2, HH.2.1, HH.2.2, <- HNP.out]
     have hVf := hVo.trans (hBf.mono hVo.size)
     clear Hof HH
     refine hK.out _ _ hVf (fun _ => ?_)
     clear hK K
     try simp only [Act.put, z]
     refine wpAnyH_take (i := 5) (v := .tuple #[.agg #[.int .i64 kk, .int .i64 ee, .int .i64 oo, .int .i64 0, .slice Ap np cp], .int .i64 er]) rfl (by kernel_rfl) (by kernel_rfl) (by kernel_rfl) (fun _ _ _ h => h) (.inl ⟨by rfl, fun W' hS' => by go_simp⟩) hVf ?_
     try simp only [Act.put, z]
     refine wpAnyH_take (i := 6) (v := .agg #[.int .i64 kk, .int .i64 ee, .int .i64 oo, .int .i64 0, .slice Ap np cp]) rfl (by kernel_rfl) (by kernel_rfl) (by kernel_rfl) (fun _ _ _ h => h) (.inl ⟨by rfl, fun W' hS' => by go_simp⟩) hVf ?_
     try simp only [Act.put, z]
     refine wpAnyH_take (i := 7) (v := .int .i64 er) rfl (by kernel_rfl) (by kernel_rfl) (by kernel_rfl) (fun _ _ _ h => h) (.inl ⟨by rfl, fun W' hS' => by go_simp⟩) hVf ?_
     try simp only [Act.put, z]
     refine wpAnyH_ready (rs := [8]) (by kernel_rfl) (by simp) (AllReadyH.cons rfl (fun K hK => ?_) AllReadyH.nil)
     obtain ⟨hBa, hrw, _⟩ := row_new V2 #[.int .i64 0, .int .i64 0, .int .i64 0, .int .i64 0, .slice none 0 0] 49
     go_simp
     obtain ⟨V3, hWn⟩ : ∃ V3, V3 = V2.alloc (.cells #[.int .i64 0, .int .i64 0, .int .i64 0, .int .i64 0, .slice none 0 0] 49) := ⟨_, rfl⟩
     rw [<- hWn] at hBa hrw ⊢
     clear hWn
     have hVa := hVf.trans (hBa.mono hVf.size)
     refine hK.out _ _ hVa (fun _ => ?_)
     clear hK K
     try simp only [Act.put, z]
     have hn := finA V3 Ao co V2.heap.size Ap cp hVa (RowsAt.at_ hPp hBa) (fun h ad e => Nat.ne_of_lt (RowsAt.lt hPp h ad e)) hVf.size hrw
     try simp only [Act.put, z] at hn
     exact hn
    ·skip
     obtain ⟨hBa, hrw, _⟩ := row_new V1 #[.int .i64 0, .int .i64 0, .int .i64 0, .int .i64 0, .slice none 0 0] 49
     go_simp
     obtain ⟨V2, hWn⟩ : ∃ V2, V2 = V1.alloc (.cells #[.int .i64 0, .int .i64 0, .int .i64 0, .int .i64 0, .slice none 0 0] 49) := ⟨_, rfl⟩
     rw [<- hWn] at hBa hrw ⊢
     clear hWn
     have hVa := hVo.trans (hBa.mono hVo.size)
     refine hK.out _ _ hVa (fun _ => ?_)
     clear hK K
     try simp only [Act.put, z]
     refine wpAnyH_ready (rs := [4]) (by kernel_rfl) (by simp) (AllReadyH.cons rfl (fun K hK => ?_) AllReadyH.nil)
     have Hof := Lib.hid (apostd_any V2 g Ao ln co ds (l.map Raw.cnt) x (hdl.trans Hln.out.symm) (by have := Hln.out; have := H8.out; omega) (RowsAt.at_ hds hBa) (hdo.imp (Q := fun a b => a.Holds SD V2 V2.heap.size b) fun _ _ h => h.atD hBa) (Hgab.out.at_ hVa))
     go_simp
     refine Hof.out.mono ?_
     rintro e V3 hpp
     obtain ⟨hBf, Ap, cp, hfp, rfl, hPp⟩ := PostingPost.one hpp
     clear hpp
     have HH := HAS.out
     rw [HH.2.2] at hPp
     rw [HH.1.1, HH.1.2.1, HH.1.2.2, HH.2.1, HH.2.2, <- HNP.out]
     have hVf := hVa.trans (hBf.mono hVa.size)
     clear Hof HH
     refine hK.out _ _ hVf (fun _ => ?_)
     clear hK K
     try simp only [Act.put, z]
     refine wpAnyH_take (i := 5) (v := .tuple #[.agg #[.int .i64 kk, .int .i64 ee, .int .i64 oo, .int .i64 0, .slice Ap np cp], .int .i64 er]) rfl (by kernel_rfl) (by kernel_rfl) (by kernel_rfl) (fun _ _ _ h => h) (.inl ⟨by rfl, fun W' hS' => by go_simp⟩) hVf ?_
     try simp only [Act.put, z]
     refine wpAnyH_take (i := 6) (v := .agg #[.int .i64 kk, .int .i64 ee, .int .i64 oo, .int .i64 0, .slice Ap np cp]) rfl (by kernel_rfl) (by kernel_rfl) (by kernel_rfl) (fun _ _ _ h => h) (.inl ⟨by rfl, fun W' hS' => by go_simp⟩) hVf ?_
     try simp only [Act.put, z]
     refine wpAnyH_take (i := 7) (v := .int .i64 er) rfl (by kernel_rfl) (by kernel_rfl) (by kernel_rfl) (fun _ _ _ h => h) (.inl ⟨by rfl, fun W' hS' => by go_simp⟩) hVf ?_
     try simp only [Act.put, z]
     have hn := finA V3 Ao co V1.heap.size Ap cp hVf hPp (fun _ ad e => Nat.ne_of_gt (Nat.lt_of_lt_of_le (some_lt hrw) (hfp ad e))) hVo.size (gbox hrw hBf (some_lt hrw))
     try simp only [Act.put, z] at hn
     exact hn
   ·skip
    obtain ⟨hBa, hrw, _⟩ := row_new U0A #[.int .i64 0, .int .i64 0, .int .i64 0, .int .i64 0, .slice none 0 0] 49
    go_simp
    obtain ⟨V1, hWn⟩ : ∃ V1, V1 = U0A.alloc (.cells #[.int .i64 0, .int .i64 0, .int .i64 0, .int .i64 0, .slice none 0 0] 49) := ⟨_, rfl⟩
    rw [<- hWn] at hBa hrw ⊢
    clear hWn
    have hVa := hV0.trans (hBa.mono hV0.size)
    refine hK.out _ _ hVa (fun _ => ?_)
    clear hK K
    try simp only [Act.put, z]
    refine wpAnyH_ready (rs := [2]) (by kernel_rfl) (by simp) (AllReadyH.cons rfl (fun K hK => ?_) AllReadyH.nil)
    have Hown := Lib.hid (own41_any V1 A i c l Hl.out (by have := Hl.out; have := H8.out; omega) (RowsAt.at_ Hrb.out hVa) (fun a ha => ((Hxb.out a ha).below hVa (Nat.le_refl _)).more hVa.size) Hall.out)
    go_simp
    refine Hown.out.mono ?_
    rintro e V2 ⟨hBo, Ao, co, ds, rfl, hdl, hds, hdo⟩
    rw [<- Hln.out]
    have hVo := hVa.trans (hBo.mono hVa.size)
    clear Hown
    refine hK.out _ _ hVo (fun _ => ?_)
    clear hK K
    try simp only [Act.put, z]
    refine wpAnyH_ready (rs := [4]) (by kernel_rfl) (by simp) (AllReadyH.cons rfl (fun K hK => ?_) AllReadyH.nil)
    have Hof := Lib.hid (apostd_any V2 g Ao ln co ds (l.map Raw.cnt) x (hdl.trans Hln.out.symm) (by have := Hln.out; have := H8.out; omega) hds hdo (Hgab.out.at_ hVo))
    go_simp
    refine Hof.out.mono ?_
    rintro e V3 hpp
    obtain ⟨hBf, Ap, cp, hfp, rfl, hPp⟩ := PostingPost.one hpp
    clear hpp
    have HH := HAS.out
    rw [HH.2.2] at hPp
    rw [HH.1.1, HH.1.2.1, HH.1.2.2, HH.2.1, HH.2.2, <- HNP.out]
    have hVf := hVo.trans (hBf.mono hVo.size)
    clear Hof HH
    refine hK.out _ _ hVf (fun _ => ?_)
    clear hK K
    try simp only [Act.put, z]
    refine wpAnyH_take (i := 5) (v := .tuple #[.agg #[.int .i64 kk, .int .i64 ee, .int .i64 oo, .int .i64 0, .slice Ap np cp], .int .i64 er]) rfl (by kernel_rfl) (by kernel_rfl) (by kernel_rfl) (fun _ _ _ h => h) (.inl ⟨by rfl, fun W' hS' => by go_simp⟩) hVf ?_
    try simp only [Act.put, z]
    refine wpAnyH_take (i := 6) (v := .agg #[.int .i64 kk, .int .i64 ee, .int .i64 oo, .int .i64 0, .slice Ap np cp]) rfl (by kernel_rfl) (by kernel_rfl) (by kernel_rfl) (fun _ _ _ h => h) (.inl ⟨by rfl, fun W' hS' => by go_simp⟩) hVf ?_
    try simp only [Act.put, z]
    refine wpAnyH_take (i := 7) (v := .int .i64 er) rfl (by kernel_rfl) (by kernel_rfl) (by kernel_rfl) (fun _ _ _ h => h) (.inl ⟨by rfl, fun W' hS' => by go_simp⟩) hVf ?_
    try simp only [Act.put, z]
    have hn := finA V3 Ao co U0A.heap.size Ap cp hVf hPp (fun _ ad e => Nat.ne_of_gt (Nat.lt_of_lt_of_le (some_lt (gbox hrw hBo (some_lt hrw))) (hfp ad e))) hV0.size (gbox (gbox hrw hBo (some_lt hrw)) hBf (some_lt (gbox hrw hBo (some_lt hrw))))
    try simp only [Act.put, z] at hn
    exact hn
end
end Go.Proofs.YtcblobokjhhboaaGreat
