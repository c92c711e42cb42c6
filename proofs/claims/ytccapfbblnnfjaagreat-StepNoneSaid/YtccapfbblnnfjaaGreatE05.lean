/- My texts LineC, SetF, NonP, NonM. -/
import Derived.Test.YtccapfbblnnfjaaGreatG42
import Derived.Test.YtccapfbblnnfjaaGreatD52
set_option linter.unusedVariables false
set_option linter.unusedSimpArgs false
set_option maxRecDepth 100000
set_option maxHeartbeats 8000000
namespace Go.Proofs.YtccapfbblnnfjaaGreat
open Go.RowKit
theorem grown_self (w : World) (row : Option Nat) : w.grownBy w row := ⟨rfl, rfl, rfl, Nat.le_refl _, fun _ _ _ => rfl⟩
def rawRow (l : List Raw) : List Value := l.flatMap Raw.cells
theorem rawRow_length : ∀ (l : List Raw), (rawRow l).length = l.length * 9
 | [] => rfl
 | a :: l => by unfold rawRow; rw [List.flatMap_cons, List.length_append, show (List.flatMap Raw.cells l).length = l.length * 9 from rawRow_length l]; simp [Raw.cells]; omega
theorem rawInfo : (Tryz.prog.info? 78).map (fun i => (i.zero, i.size, i.bytes)) = some (some (.agg #[.int .i64 0, .int .i64 0, .int .i64 0, .int .i64 0, .int .i64 0, .int .i64 0, .int .i64 0, .slice none 0 0, .slice none 0 0]), 9, 104) := by kernel_rfl
def Raw.sh (p q : Int) (x : Raw) : Raw := { x with s0 := p, s1 := q }
theorem wpList_copy_raws (w : World) {ops : Array Oper} {rest : List Oper} {o : Oper} {a : Act} {Q : Exit -> Act -> World -> Prop} (hgd : o.guard = none) (s x : Operand) (t : TypeId)
  (ho : o.op = .call { callee := .builtin .append, args := #[s, x], argTypes := #[t, t] }) (ht : Tryz.prog.underlying t = some (.slice 78))
  (g : Nat) (hs : a.eval s = .slice (some ⟨g, 0, none⟩) 0 0) (hg : w.heap[g]? = some (.cells #[] 78 (0, 0)))
  (A : Option Addr) (m c : Nat) (l : List Raw) (hx : a.eval x = .slice A m c) (hl : l.length = m) (hm : m * 104 <= 140737488355328) (h : RawsAt w w.heap.size A l)
  (hK : ∀ G cap w', w'.ownsRow g 78 9 (.slice (some ⟨G, 0, none⟩) m cap) m (rawRow l) -> w.grownBy w' (some g) -> wpList Tryz.prog ops Q rest (a.put o.dst (.slice (some ⟨G, 0, none⟩) m cap)) w') : wpList Tryz.prog ops Q (o :: rest) a w := by
 obtain ⟨i0, hi, hz0, hz1, hz2⟩ := info_parts rawInfo
 have hown0 : w.ownsRow g 78 9 (.slice (some ⟨g, 0, none⟩) 0 0) 0 [] := ⟨rfl, .inr ⟨g, 0, #[], rfl, Nat.le_refl _, hg, Nat.le_refl _, Nat.zero_le _, rfl, rfl⟩⟩
 by_cases h0 : l = []
 ·subst h0
  subst hl
  refine wpList_plain hgd fun K hK' => ?_
  have hrun := run_append_zero (P := Tryz.prog) (w := w) t o.type _ i0 ht hi g A c
  have hk := hK' _ _ (hK g 0 w hown0 (grown_self w _))
  unfold Oper.wp execOp
  simp only [ho, resolve, invoke, builtin, Sem.run_bind, Sem.run_pure, Result.andThen_ok, List.map_toArray, List.map_cons, List.map_nil, hs, hx, List.length_nil, hrun]
  exact hk
 ·rcases h with h | ⟨b, off, rfl, hb, hr⟩
  ·exact absurd h h0
  have hnews : ∀ j u, (rawRow l)[j]? = some u -> w.cell? ((⟨b, off, none⟩ : Addr).add j) = some u := by
   intro j u hj
   have hjl : j < l.length * 9 := by have := (List.getElem?_eq_some_iff.1 hj).1; rw [rawRow_length] at this; exact this
   have hk : j / 9 < l.length := by omega
   have e := flat_get Raw.cells 9 l (fun _ _ => rfl) (j / 9) hk (j % 9) (by omega)
   rw [show j / 9 * 9 + j % 9 = j by omega] at e
   have := hr (j / 9) hk (j % 9) u (e.symm.trans hj)
   rw [Addr.add_mid]
   rw [show off + j / 9 * 9 + j % 9 = off + j by omega] at this
   exact this
  refine wpList_append_own _ hgd s x t ho g _ i0 _ 9 104 ht hi hz0 hz1 hz2 rfl (by decide) _ 0 [] hs hown0 ⟨b, off, none⟩ m c (rawRow l) hx (by rw [rawRow_length, hl]) hnews (by
   intro u hu
   unfold rawRow at hu
   rw [List.mem_flatMap] at hu
   obtain ⟨y, _, hy⟩ := hu
   simp [Raw.cells] at hy
   rcases hy with h | h | h | h | h | h | h | h | h <;> (rw [h]; rfl)) (by unfold maxLen; omega) (by omega) (Nat.le_of_lt (some_lt hg)) ?_
  intro v' w' ho' hg' hnil
  rw [Nat.zero_add, List.nil_append] at ho'
  rcases ho'.2 with ⟨rfl, hm0⟩ | ⟨G, cap, cur, rfl, rest⟩
  ·have := (hnil.1 rfl).1
   cases this
  ·exact hK G cap w' ho' hg'
theorem rawRow_set2 (c1 c2 : Nat) (v1 v2 : Value) (h1 : c1 < 9) (h2 : c2 < 9) (y : Raw) : ∀ (L : List Raw) (i : Nat) (hi : i < L.length), (L[i].cells.set c1 v1).set c2 v2 = y.cells -> ((rawRow L).set (i * 9 + c1) v1).set (i * 9 + c2) v2 = rawRow (L.set i y)
 | x :: L, 0, _, h => by
  have hx : x.cells.length = 9 := rfl
  unfold rawRow
  rw [List.flatMap_cons, Nat.zero_mul, Nat.zero_add, Nat.zero_add, List.set_append_left _ _ (by rw [hx]; exact h1), List.set_append_left _ _ (by rw [List.length_set, hx]; exact h2), List.set_cons_zero, List.flatMap_cons]
  simp only [List.getElem_cons_zero] at h
  rw [h]
 | x :: L, i + 1, hi, h => by
  have ih := rawRow_set2 c1 c2 v1 v2 h1 h2 y L i (by simpa using hi) (by simpa using h)
  unfold rawRow at ih ⊢
  rw [List.flatMap_cons, List.set_cons_succ, List.flatMap_cons]
  have hx : x.cells.length = 9 := rfl
  rw [List.set_append_right _ _ (by rw [hx]; omega), List.set_append_right _ _ (by rw [hx]; omega), hx]
  rw [show (i + 1) * 9 + c1 - 9 = i * 9 + c1 by omega, show (i + 1) * 9 + c2 - 9 = i * 9 + c2 by omega]
  rw [ih]
def SetF (F : Raw -> Raw) (l : List Raw) (G i : Nat) (W wr : World) : Prop :=
 ∃ (L : List Raw) (cur : Array Value), L.length = l.length /\ (∀ k (hk : k < L.length) (hk' : k < l.length), L[k] = if k < i then F l[k] else l[k]) /\ wr.heap[G]? = some (.cells cur 78 (0, 0)) /\ cur.toList.take (l.length * 9) = rawRow L /\ W.grownBy wr (some G)
namespace SetF
variable {F : Raw -> Raw} {l : List Raw} {G i : Nat} {W wr : World}
theorem start {g n cap : Nat} {w : World} (hl : l.length = n) (h : w.ownsRow g 78 9 (.slice (some ⟨G, 0, none⟩) n cap) n (rawRow l)) : SetF F l G 0 w w := by
 rcases h.2 with ⟨h, _⟩ | ⟨G', c', cur, h, hb, hh, h1, h2, h3, h4⟩
 ·cases h
 ·cases h
  exact ⟨l, cur, rfl, fun k hk hk' => by rw [if_neg (by omega)], hh, by rw [hl]; exact h4, grown_self _ _⟩
theorem look (h : SetF F l G i W wr) (hi : i < l.length) : (∀ j v, j < 9 -> l[i].cells[j]? = some v -> wr.cell? ⟨G, i * 9 + j, none⟩ = some v) /\ (∀ j, wr.frozen? ⟨G, j, none⟩ = false) /\ G < wr.heap.size := by
 obtain ⟨L, cur, hL, hk, hc, ht, hg⟩ := h
 have hget : ∀ (j : Nat) (v : Value), (rawRow L)[j]? = some v -> cur[j]? = some v := by
  intro j v hv
  rw [<- ht, List.getElem?_take] at hv
  split at hv
  ·simpa using hv
  ·cases hv
 have hiL : i < L.length := by omega
 have hLi : L[i] = l[i] := by rw [hk i hiL hi, if_neg (by omega)]
 refine ⟨fun j v hj hv => ?_, fun j => frozen_of_row _ _ j _ _ hc, some_lt hc⟩
 rw [cell_of_row _ _ _ _ _ _ hc]
 refine hget _ _ ?_
 rw [<- hLi] at hv
 exact (flat_get Raw.cells 9 L (fun _ _ => rfl) i hiL j hj).trans hv
theorem step (h : SetF F l G i W wr) (hi : i < l.length) (c1 c2 : Nat) (v1 v2 : Value) (h1 : c1 < 9) (h2 : c2 < 9) (hy : (l[i].cells.set c1 v1).set c2 v2 = (F l[i]).cells) :
  SetF F l G (i + 1) W ((wr.setCell ⟨G, i * 9 + c1, none⟩ v1).setCell ⟨G, i * 9 + c2, none⟩ v2) := by
 obtain ⟨L, cur, hL, hk, hc, ht, hg⟩ := h
 have hiL : i < L.length := by omega
 have hLi : L[i] = l[i] := by rw [hk i hiL hi, if_neg (by omega)]
 have e1 := heap_setCell_same wr G (i * 9 + c1) _ _ v1 hc
 have e2 := heap_setCell_same _ G (i * 9 + c2) _ _ v2 e1
 refine ⟨L.set i (F l[i]), _, by simp [hL], fun k hk1 hk2 => ?_, e2, ?_, ?_⟩
 ·have hkL : k < L.length := by simpa using hk1
  rw [List.getElem_set]
  have := hk k hkL hk2
  by_cases e : i = k
  ·subst e
   rw [if_pos rfl, if_pos (by omega)]
  ·rw [if_neg e, this]
   by_cases e2 : k < i
   ·rw [if_pos e2, if_pos (by omega)]
   ·rw [if_neg e2, if_neg (by omega)]
 ·rw [<- rawRow_set2 c1 c2 v1 v2 h1 h2 (F l[i]) L i hiL (by rw [hLi]; exact hy), <- ht]
  simp [List.take_set]
 ·exact ⟨hg.os, hg.tape, hg.output, by simpa [World.setCell] using hg.size, fun k hk hne => by
   have hne' : k ≠ G := fun e => hne (by rw [e])
   rw [heap_setCell_other _ _ _ _ hne', heap_setCell_other _ _ _ _ hne']
   exact hg.block k hk hne⟩
theorem keep (h : SetF F l G i W wr) (hi : i < l.length) (hy : F l[i] = l[i]) : SetF F l G (i + 1) W wr := by
 obtain ⟨L, cur, hL, hk, hc, ht, hg⟩ := h
 refine ⟨L, cur, hL, fun k hk1 hk2 => ?_, hc, ht, hg⟩
 rw [hk k hk1 hk2]
 by_cases e : k = i
 ·subst e; rw [if_neg (by omega), if_pos (by omega), hy]
 ·by_cases e2 : k < i
  ·rw [if_pos e2, if_pos (by omega)]
  ·rw [if_neg e2, if_neg (by omega)]
theorem grown (h : SetF F l G i W wr) : W.grownBy wr (some G) := by obtain ⟨_, _, _, _, _, _, h⟩ := h; exact h
theorem done (h : SetF F l G l.length W wr) : RawsAt wr wr.heap.size (some ⟨G, 0, none⟩) (l.map F) := by
 obtain ⟨L, cur, hL, hk, hc, ht, hg⟩ := h
 have e : L = l.map F := by
  apply List.ext_getElem (by simp [hL])
  intro k h1 h2
  have h3 : k < l.length := by simpa using h2
  rw [hk k h1 h3, if_pos h3, List.getElem_map]
 refine .inr ⟨G, 0, rfl, some_lt hc, fun k hkk j v hj => ?_⟩
 have hkl : k < l.length := by simpa using hkk
 have hjl : j < 9 := by have := (List.getElem?_eq_some_iff.1 hj).1; simpa [Raw.cells] using this
 rw [Nat.zero_add, cell_of_row _ _ _ _ _ _ hc]
 have hf := flat_get Raw.cells 9 (l.map F) (fun _ _ => rfl) k hkk j hjl
 rw [hj] at hf
 have : (cur.toList.take (l.length * 9))[k * 9 + j]? = some v := by rw [ht, e]; exact hf
 rw [List.getElem?_take, if_pos (by omega)] at this
 simpa using this
end SetF
def Itm.stays (b : Bool) (d : Int) (z : Itm) : Bool := decide (z.acct ≠ 1500) || b || decide (z.date <= d)
def Cnt.non (b : Bool) (d : Int) (y : Cnt) : Cnt := { y with sN := y.fN, sD := y.fD, its := y.its.filter (Itm.stays b d) }
theorem Cn.cfind_non (b : Bool) (d x : Int) : ∀ m : List Cnt, Cn.cfind (m.map (Cnt.non b d)) x = (Cn.cfind m x).map (Cnt.non b d)
 | [] => rfl
 | y :: m => by
  have ih := Cn.cfind_non b d x m
  unfold Cn.cfind at ih ⊢
  rw [List.map_cons]
  by_cases h : y.ent = x
  ·rw [List.find?_cons_of_pos (by simp [Cnt.non, h]), List.find?_cons_of_pos (by simp [h])]; rfl
  ·rw [List.find?_cons_of_neg (by simp [Cnt.non, h]), List.find?_cons_of_neg (by simp [h]), ih]
namespace Po
theorem two_len {a b L : Int} (hab : a ≠ b) (h : (clean [⟨a, -L⟩, ⟨b, L⟩]).2 = 0) : (clean [⟨a, -L⟩, ⟨b, L⟩]).1.length = 0 ∨ (clean [⟨a, -L⟩, ⟨b, L⟩]).1.length = 2 := by
 by_cases hL : L = 0
 ·left
  rw [Gr.clean_zero (fun c => by simp [sum, hL])]; rfl
 ·right
  unfold clean at h ⊢
  split at h
  ·cases h
  ·rename_i hb
   rw [if_neg hb]
   show (parts _).length = 2
   have e : (parts [⟨a, -L⟩, ⟨b, L⟩]).length = (keep [⟨a, -L⟩, ⟨b, L⟩]).length := by unfold parts; exact List.length_map ..
   rw [e]
   have h2 : (keep [⟨a, -L⟩, ⟨b, L⟩]).length <= 2 := keep_length _
   have ha : a ∈ keep [⟨a, -L⟩, ⟨b, L⟩] := mem_keep.2 (by simp [sum, hab, Ne.symm hab]; omega)
   have hb2 : b ∈ keep [⟨a, -L⟩, ⟨b, L⟩] := mem_keep.2 (by simp [sum, hab, Ne.symm hab]; omega)
   generalize keep [⟨a, -L⟩, ⟨b, L⟩] = K at h2 ha hb2 ⊢
   match K, h2, ha, hb2 with
   | [], _, ha, _ => cases ha
   | [c], _, ha, hb2 => exact absurd ((List.mem_singleton.1 ha).trans (List.mem_singleton.1 hb2).symm) hab
   | [_, _], _, _, _ => rfl
   | _ :: _ :: _ :: _, h2, _, _ => simp at h2
end Po
namespace Gr
theorem elim_non (b : Bool) (d x : Int) (m : List Cnt) : elim (m.map (Cnt.non b d)) x = (elim m x).map (Cnt.non b d) := by
 unfold elim
 rw [Cn.cfind_non]
 cases Cn.cfind m x with
 | none => rfl
 | some y =>
  simp only [Option.map_some]
  have e : (Cnt.non b d y).meth = y.meth := rfl
  rw [e]
  split <;> rfl
theorem sumIf_non (g : Grp) (h0 : g.r0 = 1500) (p d : Int) : ∀ l : List Itm, sumIf (invest1 g p d true) (l.filter (Itm.stays false d)) = 0
 | [] => rfl
 | z :: l => by
  have ih := sumIf_non g h0 p d l
  by_cases hk : Itm.stays false d z = true
  ·rw [List.filter_cons_of_pos hk]
   simp only [sumIf, ih]
   have : invest1 g p d true z = false := by
    unfold Itm.stays at hk
    unfold invest1
    rw [h0]
    simp only [Bool.or_false, Bool.or_eq_true, decide_eq_true_eq] at hk
    rcases hk with h | h
    ·simp [h]
    ·have : ¬ d < z.date := by omega
     simp [this]
   rw [this]; simp
  ·rw [List.filter_cons_of_neg hk]; exact ih
theorem invest_non (g : Grp) (h0 : g.r0 = 1500) (p d : Int) : ∀ m : List Cnt, invest g p d true (m.map (Cnt.non false d)) = 0
 | [] => rfl
 | y :: m => by
  rw [List.map_cons, invest, invest_non g h0 p d m]
  have e : (Cnt.non false d y).its = y.its.filter (Itm.stays false d) := rfl
  rw [e, sumIf_non g h0]
  split <;> rfl
theorem elim_cfind {m : List Cnt} {x : Int} {y : Cnt} (h : elim m x = some y) : Cn.cfind m x = some y /\ (y.meth = 3 ∨ y.meth = 2) := by
 unfold elim at h
 cases hc : Cn.cfind m x with
 | none => rw [hc] at h; cases h
 | some z =>
  rw [hc] at h
  simp only [] at h
  split at h
  ·rename_i h1
   cases h; exact ⟨rfl, h1.2⟩
  ·cases h
theorem step_non {g : Grp} {m : List Cnt} {x : Int} {y : Cnt} {b : Bool} (he : elim m x = some y) :
  (step g (m.map (Cnt.non b y.since)) x).1.2.1 = (step g (m.map (Cnt.non b y.since)) x).1.2.2 /\ (b = false -> g.r0 = 1500 -> (step g (m.map (Cnt.non b y.since)) x).1.1 = 0) := by
 unfold step
 split
 ·exact ⟨rfl, fun _ _ => rfl⟩
 ·rw [elim_non, he]
  simp only [Option.map_some]
  have e1 : (Cnt.non b y.since y).since = y.since := rfl
  have e2 : (Cnt.non b y.since y).sN = (Cnt.non b y.since y).fN := rfl
  have e3 : (Cnt.non b y.since y).sD = (Cnt.non b y.since y).fD := rfl
  rw [e1, e2, e3]
  split
  ·exact ⟨rfl, fun hb h0 => by subst hb; exact invest_non g h0 x y.since m⟩
  ·exact ⟨rfl, fun hb h0 => by subst hb; exact invest_non g h0 x y.since m⟩
theorem spost_part_bd {g : Grp} {m : List Cnt} {x : Int} (h : (spost g m x).2 = 0) (a : Int) : -1000000000000 <= Po.part (Po.pl (spost g m x)) a /\ Po.part (Po.pl (spost g m x)) a <= 1000000000000 := by
 rw [pl_ok h]
 obtain ⟨l, hl⟩ : ∃ l, spost g m x = Po.clean l := by
  have h2 := spost_ok h
  unfold spost
  rw [if_neg (by rw [h2]; simp)]
  exact ⟨_, rfl⟩
 rw [hl] at h ⊢
 rw [Po.part_clean h]
 have hb : ¬ Po.bad l = true := by
  intro hb
  unfold Po.clean at h
  rw [if_pos hb] at h; cases h
 rw [Po.bad_iff] at hb
 have ho : Po.okAmt (Po.sum a l) = true := by
  cases ho : Po.okAmt (Po.sum a l)
  ·exact absurd ⟨a, ho⟩ hb
  ·rfl
 unfold Po.okAmt at ho
 simp only [Bool.and_eq_true, decide_eq_true_eq] at ho
 exact ho
theorem spost_non_empty {g : Grp} {m : List Cnt} {x : Int} {y : Cnt} (he : elim m x = some y) (h0 : g.r0 = 1500) : Po.pl (spost g (m.map (Cnt.non false y.since)) x) = [] := by
 obtain ⟨h1, h2⟩ := step_non (g := g) (b := false) he
 have h3 := h2 rfl h0
 by_cases hs : (step g (m.map (Cnt.non false y.since)) x).2 = 0
 ·refine Po.pl_yes (.inr ?_)
  unfold spost
  rw [if_neg (by rw [hs]; simp), h3, h1, clean_zero (fun a => by simp only [Po.sum]; split <;> split <;> split <;> omega)]
 ·refine Po.pl_yes (.inl ?_)
  unfold spost
  rw [if_pos hs]; exact hs
theorem spost_non_two {g : Grp} {m : List Cnt} {x : Int} {y : Cnt} {b : Bool} (hd : (g.r0 ≠ g.r5 /\ g.r0 ≠ g.r8 /\ g.r0 ≠ g.r1) /\ (g.r5 ≠ g.r8 /\ g.r5 ≠ g.r1) /\ g.r8 ≠ g.r1) (he : elim m x = some y) (h : (spost g (m.map (Cnt.non b y.since)) x).2 = 0) :
  Po.part (Po.pl (spost g (m.map (Cnt.non b y.since)) x)) (if y.meth = 2 then g.r1 else g.r8) = -Po.part (Po.pl (spost g (m.map (Cnt.non b y.since)) x)) g.r0 /\ ((Po.pl (spost g (m.map (Cnt.non b y.since)) x)).length = 0 ∨ (Po.pl (spost g (m.map (Cnt.non b y.since)) x)).length = 2) := by
 obtain ⟨p0, p5, pr⟩ := spost_parts hd h
 have hs : srest g (m.map (Cnt.non b y.since)) x = if y.meth = 2 then g.r1 else g.r8 := by
  unfold srest prop
  rw [Cn.cfind_non, (elim_cfind he).1]
  simp only [Option.map_some]
  show (if decide (y.meth = 2) = true then g.r1 else g.r8) = _
  by_cases h2 : y.meth = 2 <;> simp [h2]
 have h1 := (step_non (g := g) (b := b) he).1
 refine ⟨?_, ?_⟩
 ·rw [<- hs, pr, p0]; omega
 ·have h2 := spost_ok h
  rw [pl_ok h]
  obtain ⟨L, hL⟩ : ∃ L, L = (step g (m.map (Cnt.non b y.since)) x).1.1 := ⟨_, rfl⟩
  obtain ⟨rs, hrs⟩ : ∃ rs, rs = srest g (m.map (Cnt.non b y.since)) x := ⟨_, rfl⟩
  have hne : g.r0 ≠ rs := by
   rw [hrs]
   rcases srest_or g (m.map (Cnt.non b y.since)) x with e | e <;> rw [e]
   ·exact hd.1.2.2
   ·exact hd.1.2.1
  have hc : spost g (m.map (Cnt.non b y.since)) x = Po.clean [⟨g.r0, -L⟩, ⟨rs, L⟩] := by
   unfold spost
   rw [if_neg (by rw [h2]; simp), h1, <- hL, <- hrs]
   refine Po.clean_eq fun a => ?_
   simp only [Po.sum]
   split <;> split <;> split <;> omega
  rw [hc] at h ⊢
  exact Po.two_len hne h
end Gr
theorem Smp.invest1500 {g : Grp} (h : Smp.Is g) : g.r0 = 1500 := by
 obtain ⟨a, b, d, e, x0, x1, x2, x3, rfl⟩ := h
 rfl
def Raw.its' (b : Bool) (d : Int) (x : Raw) : List Itm := x.its.filter (Itm.stays b d)
structure Non (b : Bool) (d : Int) (G : Nat) (w : World) (x y : Raw) : Prop where
 h0 : y = { x with s0 := x.f0, s1 := x.f1, iA := y.iA, im := y.im, ic := y.ic, its := x.its' b d }
 hl : y.its.length = y.im
 hA : ItmsAt w w.heap.size y.iA y.its
 hne : y.its ≠ [] -> ∀ ad, y.iA = some ad -> ad.block ≠ G
theorem RowsAt.set_atN {α : Type} {f : α -> List Value} {sz : Nat} {w : World} {A : Option Addr} {l : List α} (h : RowsAt f sz w w.heap.size A l) {b j : Nat} {v : Value} (hne : l ≠ [] -> ∀ ad, A = some ad -> ad.block ≠ b) : RowsAt f sz (w.setCell ⟨b, j, none⟩ v) (w.setCell ⟨b, j, none⟩ v).heap.size A l := by
 rcases h with h | ⟨b', o, e, hl, hc⟩
 ·exact .inl h
 ·by_cases h0 : l = []
  ·exact .inl h0
  ·have hn : b' ≠ b := hne h0 _ e
   exact .inr ⟨b', o, e, by simpa [World.setCell] using hl, fun k hk i u hu => (World.cell?_of_block (w := w) (heap_setCell_other w _ _ _ hn)).trans (hc k hk i u hu)⟩
theorem Non.set {b : Bool} {d : Int} {G j : Nat} {w : World} {x y : Raw} {v : Value} (h : Non b d G w x y) : Non b d G (w.setCell ⟨G, j, none⟩ v) x y :=
 ⟨h.h0, h.hl, RowsAt.set_atN h.hA h.hne, h.hne⟩
theorem Non.at_ {b : Bool} {d : Int} {G : Nat} {w w' : World} {x y : Raw} (h : Non b d G w x y) (hb : Below w.heap.size w w') : Non b d G w' x y :=
 ⟨h.h0, h.hl, RowsAt.at_ h.hA hb, h.hne⟩
def Noning (b : Bool) (d : Int) (l : List Raw) (G i : Nat) (W wr : World) : Prop :=
 ∃ (L : List Raw) (cur : Array Value), L.length = l.length /\ (∀ k (hk : k < L.length) (hk' : k < l.length), (k < i -> Non b d G wr l[k] L[k]) /\ (i <= k -> L[k] = l[k])) /\ wr.heap[G]? = some (.cells cur 78 (0, 0)) /\ cur.toList.take (l.length * 9) = rawRow L /\ Below W.heap.size W wr
theorem rawRow_set3 (v3 v4 v7 : Value) (y : Raw) : ∀ (L : List Raw) (i : Nat) (hi : i < L.length), y.cells = ((L[i].cells.set 3 v3).set 4 v4).set 7 v7 -> (((rawRow L).set (i * 9 + 3) v3).set (i * 9 + 4) v4).set (i * 9 + 7) v7 = rawRow (L.set i y)
 | x :: L, 0, _, h => by
  have hx : x.cells.length = 9 := rfl
  simp only [rawRow, List.flatMap_cons, List.set_cons_zero, Nat.zero_mul, Nat.zero_add]
  rw [h]
  simp [List.set_append, hx]
 | x :: L, i + 1, hi, h => by
  have ih := rawRow_set3 v3 v4 v7 y L i (by simpa using hi) (by simpa using h)
  have hx : x.cells.length = 9 := rfl
  simp only [rawRow, List.flatMap_cons, List.set_cons_succ] at ih ⊢
  rw [<- ih]
  have e (c : Nat) : (i + 1) * 9 + c = x.cells.length + (i * 9 + c) := by rw [hx]; omega
  rw [e, e, e, List.set_append_right _ _ (by omega), List.set_append_right _ _ (by omega), List.set_append_right _ _ (by omega)]
  simp
namespace Noning
variable {b : Bool} {d : Int} {l : List Raw} {G i : Nat} {W wr : World}
theorem start {n cap bb : Nat} {w : World} (hl : l.length = n) (h : w.ownsRow bb 78 9 (.slice (some ⟨G, 0, none⟩) n cap) n (rawRow l)) (hb : Below W.heap.size W w) : Noning b d l G 0 W w := by
 rcases h.2 with ⟨h, _⟩ | ⟨G', c', cur, h, _, hh, h1, h2, h3, h4⟩
 ·cases h
 ·cases h
  exact ⟨l, cur, rfl, fun k hk hk' => ⟨fun h => by omega, fun _ => rfl⟩, hh, by rw [hl]; exact h4, hb⟩
theorem below (h : Noning b d l G i W wr) : Below W.heap.size W wr := by obtain ⟨_, _, _, _, _, _, h⟩ := h; exact h
theorem lt (h : Noning b d l G i W wr) : G < wr.heap.size := by obtain ⟨_, _, _, _, h, _⟩ := h; exact some_lt h
theorem look (h : Noning b d l G i W wr) (hi : i < l.length) : ∃ cur, wr.heap[G]? = some (.cells cur 78 (0, 0)) /\ l.length * 9 <= cur.size /\ ∀ j v, j < 9 -> l[i].cells[j]? = some v -> cur[i * 9 + j]? = some v := by
 obtain ⟨L, cur, hL, hk, hc, ht, hg⟩ := h
 have hiL : i < L.length := by omega
 have hLi : L[i] = l[i] := (hk i hiL hi).2 (Nat.le_refl _)
 refine ⟨cur, hc, ?_, fun j v hj hv => ?_⟩
 ·have := congrArg List.length ht
  rw [rawRow_length, List.length_take] at this
  have e : cur.toList.length = cur.size := rfl
  omega
 ·have hf := flat_get Raw.cells 9 L (fun _ _ => rfl) i hiL j hj
  rw [hLi, hv] at hf
  have h2 : (cur.toList.take (l.length * 9))[i * 9 + j]? = some v := by rw [ht]; exact hf
  rw [List.getElem?_take] at h2
  split at h2
  ·simpa using h2
  ·cases h2
theorem step (h : Noning b d l G i W wr) (hi : i < l.length) (hWG : W.heap.size <= G) {w1 w2 : World} (e1 : w1 = (wr.setCell ⟨G, i * 9 + 3, none⟩ (.int .i64 l[i].f0)).setCell ⟨G, i * 9 + 4, none⟩ (.int .i64 l[i].f1)) (hb : Below w1.heap.size w1 w2)
  {A : Option Addr} {c : Nat} (hA : ItmsAt w2 w2.heap.size A (l[i].its' b d)) (hf : ∀ ad, A = some ad -> w1.heap.size <= ad.block) :
  Noning b d l G (i + 1) W (w2.setCell ⟨G, i * 9 + 7, none⟩ (.slice A (l[i].its' b d).length c)) := by
 obtain ⟨L, cur, hL, hk, hc, ht, hg⟩ := h
 have hiL : i < L.length := by omega
 have hLi : L[i] = l[i] := (hk i hiL hi).2 (Nat.le_refl _)
 have hGw := some_lt hc
 have c1 := heap_setCell_same wr G (i * 9 + 3) _ _ (.int .i64 l[i].f0) hc
 have c2 := heap_setCell_same _ G (i * 9 + 4) _ _ (.int .i64 l[i].f1) c1
 rw [<- e1] at c2
 have hz1 : w1.heap.size = wr.heap.size := by rw [e1]; simp [World.setCell]
 have c3 := gbox c2 hb (some_lt c2)
 have c4 := heap_setCell_same w2 G (i * 9 + 7) _ _ (.slice A (l[i].its' b d).length c) c3
 obtain ⟨y, hy⟩ : ∃ y : Raw, y = { l[i] with s0 := l[i].f0, s1 := l[i].f1, iA := A, im := (l[i].its' b d).length, ic := c, its := l[i].its' b d } := ⟨_, rfl⟩
 have hne : y.its ≠ [] -> ∀ ad, y.iA = some ad -> ad.block ≠ G := fun _ ad e => by
  have : w1.heap.size <= ad.block := hf ad (by rw [<- e, hy])
  omega
 have hsh : Non b d G w2 l[i] y := ⟨by rw [hy], by rw [hy], by rw [hy]; exact hA, hne⟩
 refine ⟨L.set i y, _, by simp [hL], fun k hk1 hk2 => ?_, c4, ?_, ?_⟩
 ·have hkL : k < L.length := by simpa using hk1
  rw [List.getElem_set]
  have := hk k hkL hk2
  by_cases e : i = k
  ·subst e
   rw [if_pos rfl]
   exact ⟨fun _ => hsh.set, fun h => by omega⟩
  ·rw [if_neg e]
   refine ⟨fun h => ?_, fun h => this.2 (by omega)⟩
   have h1 := ((this.1 (by omega)).set (j := i * 9 + 3) (v := .int .i64 l[i].f0)).set (j := i * 9 + 4) (v := .int .i64 l[i].f1)
   rw [<- e1] at h1
   exact (h1.at_ hb).set
 ·rw [<- rawRow_set3 (.int .i64 l[i].f0) (.int .i64 l[i].f1) (.slice A (l[i].its' b d).length c) y L i hiL (by rw [hLi, hy]; rfl), <- ht]
  simp [List.take_set]
 ·have g1 := (hg.setCell (p := ⟨G, i * 9 + 3, none⟩) hWG (.int .i64 l[i].f0)).setCell (p := ⟨G, i * 9 + 4, none⟩) hWG (.int .i64 l[i].f1)
  rw [<- e1] at g1
  exact (g1.trans (hb.mono g1.size)).setCell (p := ⟨G, i * 9 + 7, none⟩) hWG _
theorem done (h : Noning b d l G l.length W wr) (hm : ∀ a ∈ l, a.At wr wr.heap.size) (hok : ∀ a ∈ l, a.ok = true) :
  ∃ L : List Raw, L.length = l.length /\ RawsAt wr wr.heap.size (some ⟨G, 0, none⟩) L /\ (∀ a ∈ L, a.At wr wr.heap.size) /\ (∀ a ∈ L, a.ok = true) /\ L.map Raw.cnt = (l.map Raw.cnt).map (Cnt.non b d) := by
 obtain ⟨L, cur, hL, hk, hc, ht, hg⟩ := h
 have hs : ∀ k (h1 : k < L.length) (h2 : k < l.length), Non b d G wr l[k] L[k] := fun k h1 h2 => (hk k h1 h2).1 h2
 have hfl : ∀ x : Raw, (x.its' b d).length <= x.its.length := fun x => List.length_filter_le _ _
 refine ⟨L, hL, ?_, ?_, ?_, ?_⟩
 ·refine .inr ⟨G, 0, rfl, some_lt hc, fun k hkk j v hj => ?_⟩
  have hjl : j < 9 := by have := (List.getElem?_eq_some_iff.1 hj).1; simpa [Raw.cells] using this
  rw [Nat.zero_add, cell_of_row _ _ _ _ _ _ hc]
  have hf := flat_get Raw.cells 9 L (fun _ _ => rfl) k hkk j hjl
  rw [hj] at hf
  have : (cur.toList.take (l.length * 9))[k * 9 + j]? = some v := by rw [ht]; exact hf
  rw [List.getElem?_take, if_pos (by omega)] at this
  simpa using this
 ·intro a ha
  obtain ⟨k, hk1, rfl⟩ := List.getElem_of_mem ha
  have s := hs k hk1 (by omega)
  have ha := hm l[k] (List.getElem_mem (by omega))
  obtain ⟨a1, a2, a3, a4, a5, a6⟩ := ha
  have h1 : L[k].its = l[k].its' b d := by rw [s.h0]
  have h2 := hfl l[k]
  have h3 := s.hl
  rw [h1] at h3
  refine ⟨s.hl, by omega, s.hA, ?_, ?_, ?_⟩
  ·rw [s.h0]; exact a4
  ·rw [s.h0]; exact a5
  ·rw [s.h0]; exact a6
 ·intro a ha
  obtain ⟨k, hk1, rfl⟩ := List.getElem_of_mem ha
  have s := hs k hk1 (by omega)
  have ho := hok l[k] (List.getElem_mem (by omega))
  unfold Raw.ok at ho ⊢
  simp only [Bool.and_eq_true] at ho ⊢
  rw [s.h0]
  refine ⟨⟨⟨ho.1.1.2, ho.1.1.2⟩, ?_⟩, ho.2⟩
  have h2 := hfl l[k]
  have h6 := ho.1.2
  unfold Raw.few at h6 ⊢
  simp only [Bool.and_eq_true, List.all_eq_true, decide_eq_true_eq] at h6 ⊢
  exact ⟨fun z hz => h6.1 z (List.mem_filter.1 hz).1, by show (l[k].its' b d).length <= 40; omega⟩
 ·apply List.ext_getElem (by simp [hL])
  intro k h1 h2
  have h3 : k < L.length := by simpa using h1
  have h4 : k < l.length := by simpa using h2
  rw [List.getElem_map, List.getElem_map, List.getElem_map, (hs k h3 h4).h0]
  rfl
end Noning
end Go.Proofs.YtccapfbblnnfjaaGreat
