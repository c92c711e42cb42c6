/- My texts SetF, RestP, LawR41. -/
import Derived.Test.YtcblobokjhhboaaGreatH48
import Derived.Test.YtcblobokjhhboaaGreatH50
import Derived.Test.YtcblobokjhhboaaGreatR34
set_option linter.unusedVariables false
set_option linter.unusedSimpArgs false
set_option maxRecDepth 100000
set_option maxHeartbeats 8000000
namespace Go.Proofs.YtcblobokjhhboaaGreat
open Go.RowKit
theorem rawRow_set2 (c1 c2 : Nat) (v1 v2 : Value) (h1 : c1 < 9) (h2 : c2 < 9) (y : Raw) : ∀ (L : List Raw) (i : Nat) (hi : i < L.length), (L[i].cells.set c1 v1).set c2 v2 = y.cells -> ((rawRow L).set (i * 9 + c1) v1).set (i * 9 + c2) v2 = rawRow (L.set i y)
 | x :: L, 0, _, h => by
  have hx : x.cells.length = 9 := rfl
  unfold rawRow
  rw [List.flatMap_cons, Nat.zero_mul, Nat.zero_add, Nat.zero_add, List.set_append_left _ _ (by rw [hx]; exact h1), List.set_append_left _ _ (by rw [List.length_set, hx]; exact h2), List.set_cons_zero, List.flatMap_cons]
  simp only [List.getElem_cons_zero] at h
  rw [h]
 | x :: L, i + 1, hi, h => by
  have ih := rawRow_set2 c1 c2 v1 v2 h1 h2 y L i (by simpa using hi) (by simpa using h)
  unfold rawRow at ih ⊢
  rw [List.flatMap_cons, List.set_cons_succ, List.flatMap_cons]
  have hx : x.cells.length = 9 := rfl
  rw [List.set_append_right _ _ (by rw [hx]; omega), List.set_append_right _ _ (by rw [hx]; omega), hx]
  rw [show (i + 1) * 9 + c1 - 9 = i * 9 + c1 by omega, show (i + 1) * 9 + c2 - 9 = i * 9 + c2 by omega]
  rw [ih]
def SetF (F : Raw -> Raw) (l : List Raw) (G i : Nat) (W wr : World) : Prop :=
 ∃ (L : List Raw) (cur : Array Value), L.length = l.length /\ (∀ k (hk : k < L.length) (hk' : k < l.length), L[k] = if k < i then F l[k] else l[k]) /\ wr.heap[G]? = some (.cells cur 57 (0, 0)) /\ cur.toList.take (l.length * 9) = rawRow L /\ W.grownBy wr (some G)
namespace SetF
variable {F : Raw -> Raw} {l : List Raw} {G i : Nat} {W wr : World}
theorem start {g n cap : Nat} {w : World} (hl : l.length = n) (h : w.ownsRow g 57 9 (.slice (some ⟨G, 0, none⟩) n cap) n (rawRow l)) : SetF F l G 0 w w := by
 rcases h.2 with ⟨h, _⟩ | ⟨G', c', cur, h, hb, hh, h1, h2, h3, h4⟩
 ·cases h
 ·cases h
  exact ⟨l, cur, rfl, fun k hk hk' => by rw [if_neg (by omega)], hh, by rw [hl]; exact h4, grown_self _ _⟩
theorem look (h : SetF F l G i W wr) (hi : i < l.length) : (∀ j v, j < 9 -> l[i].cells[j]? = some v -> wr.cell? ⟨G, i * 9 + j, none⟩ = some v) /\ (∀ j, wr.frozen? ⟨G, j, none⟩ = false) /\ G < wr.heap.size := by
 obtain ⟨L, cur, hL, hk, hc, ht, hg⟩ := h
 have hget : ∀ (j : Nat) (v : Value), (rawRow L)[j]? = some v -> cur[j]? = some v := by
  intro j v hv
  rw [<- ht, List.getElem?_take] at hv
  split at hv
  ·simpa using hv
  ·cases hv
 have hiL : i < L.length := by omega
 have hLi : L[i] = l[i] := by rw [hk i hiL hi, if_neg (by omega)]
 refine ⟨fun j v hj hv => ?_, fun j => frozen_of_row _ _ j _ _ hc, some_lt hc⟩
 rw [cell_of_row _ _ _ _ _ _ hc]
 refine hget _ _ ?_
 rw [<- hLi] at hv
 exact (flat_get Raw.cells 9 L (fun _ _ => rfl) i hiL j hj).trans hv
theorem step (h : SetF F l G i W wr) (hi : i < l.length) (c1 c2 : Nat) (v1 v2 : Value) (h1 : c1 < 9) (h2 : c2 < 9) (hy : (l[i].cells.set c1 v1).set c2 v2 = (F l[i]).cells) :
  SetF F l G (i + 1) W ((wr.setCell ⟨G, i * 9 + c1, none⟩ v1).setCell ⟨G, i * 9 + c2, none⟩ v2) := by
 obtain ⟨L, cur, hL, hk, hc, ht, hg⟩ := h
 have hiL : i < L.length := by omega
 have hLi : L[i] = l[i] := by rw [hk i hiL hi, if_neg (by omega)]
 have e1 := heap_setCell_same wr G (i * 9 + c1) _ _ v1 hc
 have e2 := heap_setCell_same _ G (i * 9 + c2) _ _ v2 e1
 refine ⟨L.set i (F l[i]), _, by simp [hL], fun k hk1 hk2 => ?_, e2, ?_, ?_⟩
 ·have hkL : k < L.length := by simpa using hk1
  rw [List.getElem_set]
  have := hk k hkL hk2
  by_cases e : i = k
  ·subst e
   rw [if_pos rfl, if_pos (by omega)]
  ·rw [if_neg e, this]
   by_cases e2 : k < i
   ·rw [if_pos e2, if_pos (by omega)]
   ·rw [if_neg e2, if_neg (by omega)]
 ·rw [<- rawRow_set2 c1 c2 v1 v2 h1 h2 (F l[i]) L i hiL (by rw [hLi]; exact hy), <- ht]
  simp [List.take_set]
 ·exact ⟨hg.os, hg.tape, hg.output, by simpa [World.setCell] using hg.size, fun k hk hne => by
   have hne' : k ≠ G := fun e => hne (by rw [e])
   rw [heap_setCell_other _ _ _ _ hne', heap_setCell_other _ _ _ _ hne']
   exact hg.block k hk hne⟩
theorem keep (h : SetF F l G i W wr) (hi : i < l.length) (hy : F l[i] = l[i]) : SetF F l G (i + 1) W wr := by
 obtain ⟨L, cur, hL, hk, hc, ht, hg⟩ := h
 refine ⟨L, cur, hL, fun k hk1 hk2 => ?_, hc, ht, hg⟩
 rw [hk k hk1 hk2]
 by_cases e : k = i
 ·subst e; rw [if_neg (by omega), if_pos (by omega), hy]
 ·by_cases e2 : k < i
  ·rw [if_pos e2, if_pos (by omega)]
  ·rw [if_neg e2, if_neg (by omega)]
theorem grown (h : SetF F l G i W wr) : W.grownBy wr (some G) := by obtain ⟨_, _, _, _, _, _, h⟩ := h; exact h
theorem done (h : SetF F l G l.length W wr) : RawsAt wr wr.heap.size (some ⟨G, 0, none⟩) (l.map F) := by
 obtain ⟨L, cur, hL, hk, hc, ht, hg⟩ := h
 have e : L = l.map F := by
  apply List.ext_getElem (by simp [hL])
  intro k h1 h2
  have h3 : k < l.length := by simpa using h2
  rw [hk k h1 h3, if_pos h3, List.getElem_map]
 refine .inr ⟨G, 0, rfl, some_lt hc, fun k hkk j v hj => ?_⟩
 have hkl : k < l.length := by simpa using hkk
 have hjl : j < 9 := by have := (List.getElem?_eq_some_iff.1 hj).1; simpa [Raw.cells] using this
 rw [Nat.zero_add, cell_of_row _ _ _ _ _ _ hc]
 have hf := flat_get Raw.cells 9 (l.map F) (fun _ _ => rfl) k hkk j hjl
 rw [hj] at hf
 have : (cur.toList.take (l.length * 9))[k * 9 + j]? = some v := by rw [ht, e]; exact hf
 rw [List.getElem?_take, if_pos (by omega)] at this
 simpa using this
end SetF
end Go.Proofs.YtcblobokjhhboaaGreat
namespace Go.Proofs.YtcblobokjhhboaaGreat
def Raw.full (x : Raw) : Raw := if x.meth = 1 then { x with meth := 3, iA := x.hA, im := x.hm, ic := x.hc, its := x.shs } else x
def Cnt.full (y : Cnt) : Cnt := if y.meth = 1 then { y with meth := 3, its := y.shs } else y
theorem Raw.full_cnt (x : Raw) : x.full.cnt = x.cnt.full := by
 unfold Raw.full Cnt.full
 by_cases h : x.meth = 1
 ·rw [if_pos h, if_pos (show x.cnt.meth = 1 from h)]; rfl
 ·rw [if_neg h, if_neg (show ¬ x.cnt.meth = 1 from h)]
theorem Raw.full_at {w : World} {B : Nat} {x : Raw} (h : x.At w B) : x.full.At w B := by
 unfold Raw.full
 split
 ·exact ⟨h.hhl, h.hhm, h.hhA, h.hhl, h.hhm, h.hhA⟩
 ·exact h
theorem Raw.full_ok {x : Raw} (h : x.ok = true) : x.full.ok = true := by
 unfold Raw.full
 split
 ·unfold Raw.ok at h ⊢
  simp only [Bool.and_eq_true] at h ⊢
  exact ⟨⟨h.1.1, h.2⟩, h.2⟩
 ·exact h
theorem Raw.full_its {x : Raw} {P : Itm -> Prop} (h1 : ∀ z ∈ x.its, P z) (h2 : ∀ z ∈ x.shs, P z) : ∀ z ∈ x.full.cnt.its, P z := by
 unfold Raw.full
 split
 ·exact h2
 ·exact h1
theorem Cnt.full_ent (y : Cnt) : y.full.ent = y.ent := by unfold Cnt.full; split <;> rfl
theorem Cn.cfind_full (x : Int) : ∀ m : List Cnt, Cn.cfind (m.map Cnt.full) x = (Cn.cfind m x).map Cnt.full
 | [] => rfl
 | y :: m => by
  have ih := Cn.cfind_full x m
  unfold Cn.cfind at ih ⊢
  rw [List.map_cons]
  by_cases h : y.ent = x
  ·rw [List.find?_cons_of_pos (by simp [Cnt.full_ent, h]), List.find?_cons_of_pos (by simp [h])]; rfl
  ·rw [List.find?_cons_of_neg (by simp [Cnt.full_ent, h]), List.find?_cons_of_neg (by simp [h]), ih]
namespace Gr
theorem assoc_err (g : Grp) (m : List Cnt) (x : Int) : (assoc g m x).2 = check g x := by
 unfold assoc
 split
 ·rfl
 ·rename_i h
  have h0 : check g x = 0 := by simpa using h
  split
  ·exact h0.symm
  ·split <;> exact h0.symm
theorem minor_err (g : Grp) (m : List Cnt) (x : Int) : (minor g m x).2 = check g x := by
 unfold minor
 split
 ·rfl
 ·rename_i h
  have h0 : check g x = 0 := by simpa using h
  split
  ·exact h0.symm
  ·split <;> exact h0.symm
theorem assoc_zero {g : Grp} {m : List Cnt} {x fa fb fc fd er : Int} (h : assoc g m x = ((fa, fb, fc, fd), er)) (hn : er ≠ 0 ∨ Cn.cfind m x = none ∨ x = 0 ∨ ∃ y, Cn.cfind m x = some y /\ y.meth ≠ 1) : fa = 0 /\ fb = 0 /\ fc = 0 /\ fd = 0 := by
 unfold assoc at h
 split at h
 ·cases h; simp
 ·cases hf : Cn.cfind m x with
  | none => rw [hf] at h; cases h; simp
  | some y =>
   rw [hf] at h
   simp only [] at h
   split at h
   ·cases h; simp
   ·rename_i hc
    cases h
    rcases hn with h1 | h1 | h1 | ⟨z, h1, h2⟩
    ·exact absurd rfl h1
    ·rw [hf] at h1; cases h1
    ·exact absurd (.inl h1) hc
    ·rw [hf] at h1; cases h1; exact absurd (.inr h2) hc
theorem rest {g : Grp} {m : List Cnt} {x fa fb fc fd ha hb hc hd er : Int} {y : Cnt} (h : assoc g m x = ((fa, fb, fc, fd), 0)) (h2 : minor g (m.map Cnt.full) x = ((ha, hb, hc, hd), er)) (hy : Cn.cfind m x = some y) (hx : x ≠ 0) (hm : y.meth = 1) :
  ha = fa /\ fc + hc = fa /\ (sumAll y.shs = 0 -> fb = hb /\ fd + hd = fb) := by
 have hck : check g x = 0 := by rw [<- assoc_err g m x, h]
 unfold assoc at h
 rw [if_neg (by rw [hck]; simp), hy] at h
 simp only [] at h
 rw [if_neg (by simp [hx, hm])] at h
 unfold minor at h2
 rw [if_neg (by rw [hck]; simp), Cn.cfind_full, hy] at h2
 have e : y.full = { y with meth := 3, its := y.shs } := by unfold Cnt.full; rw [if_pos hm]
 simp only [Option.map_some] at h2
 rw [e] at h2
 simp only [] at h2
 rw [if_neg (by simp [hx])] at h2
 cases h
 cases h2
 refine ⟨rfl, by omega, fun h0 => ?_⟩
 rw [h0]
 simp only [Int.neg_zero, Int.add_zero]
 exact ⟨trivial, by omega⟩
end Gr
end Go.Proofs.YtcblobokjhhboaaGreat
namespace Go.Proofs.YtcblobokjhhboaaGreat
open Go.RowKit
section
variable (w : World)
theorem law_rest (A : Option Addr) (n c : Nat) (l : List Raw) (x : Int) (hl : l.length = n) (hn : n * 104 <= 140737488355328) (hr : RawsAt w w.heap.size A l) (hx : ∀ a ∈ l, a.At w w.heap.size) (hwa : ∀ a ∈ l, (∀ z ∈ a.its, (Lit.int .i64 z.acct).wf = true) /\ ∀ z ∈ a.shs, (Lit.int .i64 z.acct).wf = true) :
  Calls Tryz.prog 12 #[.slice A n c, .int .i64 x] w fun e w' => e = .returned (.bool true) /\ Below w.heap.size w w' := by
 have Hl := Lib.hid hl
 have Hr := Lib.hid hr
 have Hx := Lib.hid hx
 have Hn := Lib.hid hn
 have Hwf : Hid (∀ y ∈ (l.map Raw.cnt).map Cnt.full, ∀ z ∈ y.its, (Lit.int .i64 z.acct).wf = true) := Lib.hid fun y hy => by
  rw [List.map_map, List.mem_map] at hy
  obtain ⟨a, ha, rfl⟩ := hy
  show ∀ z ∈ a.cnt.full.its, _
  rw [<- Raw.full_cnt]
  exact Raw.full_its (hwa a ha).1 (hwa a ha).2
 clear hl hr hx hn hwa
 go_enter Tryz.func12, Tryz.ntmps12
 go_wp2_with (fail)
 refine (awake41_any w).mono ?_
 rintro e W2 ⟨rfl, hB2⟩
 have Hr2 := Lib.hid (RowsAt.at_ Hr.out hB2)
 have Hx2 := Lib.hid (fun a ha => ((Hx.out a ha).below hB2 (Nat.le_refl _)).more hB2.size : ∀ a ∈ l, a.At W2 W2.heap.size)
 go_wp2_with (fail)
 refine (contrr_any W2 A n c l Hl.out (by have := Hn.out; omega) Hr2.out Hx2.out).mono ?_
 rintro e W3 ⟨hB3, v, ok, rfl, hok⟩
 have hB03 := hB2.trans (hB3.mono hB2.size)
 have Hr3 := Lib.hid (RowsAt.at_ Hr2.out hB3)
 have Hx3 := Lib.hid (fun a ha => ((Hx2.out a ha).below hB3 (Nat.le_refl _)).more hB3.size : ∀ a ∈ l, a.At W3 W3.heap.size)
 cases ok with
 | false =>
  clear hok
  go_wp2
  go_ret
  exact ⟨rfl, hB03⟩
 | true =>
 obtain ⟨h8, hall, Ar, cr, cs, rfl, hcl, hcs, hho⟩ := hok rfl
 have H8 := Lib.hid h8
 have Hall := Lib.hid hall
 clear hok h8 hall hcl hcs hho
 go_wp2_with (fail)
 refine (sample_any W3).mono ?_
 rintro e W4 ⟨hB4, g, rfl, hg, hgs⟩
 have hB04 := hB03.trans (hB4.mono hB03.size)
 obtain ⟨hB5, hb5, hz5⟩ := row_new W4 #[.string g.cur, .int .i64 g.Y, .int .i64 g.M, .int .i64 g.N, .slice g.cA g.cn g.cc, .int .i64 g.r0, .int .i64 g.r1, .int .i64 g.r2, .int .i64 g.r3, .int .i64 g.r4, .int .i64 g.r5, .int .i64 g.r6, .int .i64 g.r7, .int .i64 g.r8, .int .i64 g.r9, .int .i64 g.r10, .int .i64 g.r11, .int .i64 g.r12, .int .i64 g.r13, .int .i64 g.r14, .slice g.eA g.en g.ec] 29
 obtain ⟨W5, hW5⟩ : ∃ W5, W5 = W4.alloc (.cells #[.string g.cur, .int .i64 g.Y, .int .i64 g.M, .int .i64 g.N, .slice g.cA g.cn g.cc, .int .i64 g.r0, .int .i64 g.r1, .int .i64 g.r2, .int .i64 g.r3, .int .i64 g.r4, .int .i64 g.r5, .int .i64 g.r6, .int .i64 g.r7, .int .i64 g.r8, .int .i64 g.r9, .int .i64 g.r10, .int .i64 g.r11, .int .i64 g.r12, .int .i64 g.r13, .int .i64 g.r14, .slice g.eA g.en g.ec] 29) := ⟨_, rfl⟩
 rw [<- hW5] at hB5 hb5 hz5
 have HW5 := Lib.hid hW5
 have hB35 := hB4.trans (hB5.mono hB4.size)
 have hB05 := hB04.trans (hB5.mono hB04.size)
 have Hga := Lib.hid (hg.at_ hB5)
 have Hb5 := Lib.hid hb5
 have s5 : W4.heap.size < W5.heap.size := by omega
 have Hr5 := Lib.hid (RowsAt.at_ Hr3.out hB35)
 have Hx5 := Lib.hid (fun a ha => ((Hx3.out a ha).below hB35 (Nat.le_refl _)).more hB35.size : ∀ a ∈ l, a.At W5 W5.heap.size)
 obtain ⟨⟨⟨fa, fb, fc, fd⟩, er⟩, has⟩ : ∃ r, Gr.assoc g (l.map Raw.cnt) x = r := ⟨_, rfl⟩
 obtain ⟨⟨⟨ha, hb, hc, hd⟩, er2⟩, hmn⟩ : ∃ r, Gr.minor g ((l.map Raw.cnt).map Cnt.full) x = r := ⟨_, rfl⟩
 have hee : er2 = er := by
  have h1 := Gr.assoc_err g (l.map Raw.cnt) x
  have h2 := Gr.minor_err g ((l.map Raw.cnt).map Cnt.full) x
  rw [has] at h1
  rw [hmn] at h2
  exact h2.trans h1.symm
 subst hee
 have HAS := Lib.hid has
 have HMN := Lib.hid hmn
 have h1c : ∀ v ∈ (#[.string g.cur, .int .i64 g.Y, .int .i64 g.M, .int .i64 g.N, .slice g.cA g.cn g.cc, .int .i64 g.r0, .int .i64 g.r1, .int .i64 g.r2, .int .i64 g.r3, .int .i64 g.r4, .int .i64 g.r5, .int .i64 g.r6, .int .i64 g.r7, .int .i64 g.r8, .int .i64 g.r9, .int .i64 g.r10, .int .i64 g.r11, .int .i64 g.r12, .int .i64 g.r13, .int .i64 g.r14, .slice g.eA g.en g.ec] : Array Value).toList, v.oneCell' = true := by simp [Value.oneCell']
 clear hg hgs hW5 hb5 hz5 has hmn
 go_upto_region 7 with (refine wpList_store_new rfl 29 _ _ rfl 29 _ #[.string g.cur, .int .i64 g.Y, .int .i64 g.M, .int .i64 g.N, .slice g.cA g.cn g.cc, .int .i64 g.r0, .int .i64 g.r1, .int .i64 g.r2, .int .i64 g.r3, .int .i64 g.r4, .int .i64 g.r5, .int .i64 g.r6, .int .i64 g.r7, .int .i64 g.r8, .int .i64 g.r9, .int .i64 g.r10, .int .i64 g.r11, .int .i64 g.r12, .int .i64 g.r13, .int .i64 g.r14, .slice g.eA g.en g.ec] rfl rfl rfl h1c grpSize ?_)
 clear h1c
 rw [<- HW5.out]
 obtain ⟨hB6, h6, hz6⟩ := row_new W5 #[] 57
 obtain ⟨W6, hW6⟩ : ∃ W6, W6 = W5.alloc (.cells #[] 57) := ⟨_, rfl⟩
 rw [<- hW6] at hB6 h6 hz6
 have HW6 := Lib.hid hW6
 have H6 := Lib.hid h6
 have Hr6 := Lib.hid (RowsAt.at_ Hr5.out hB6)
 have hq6 := hB6.size
 have HB6 := Lib.hid hB6
 clear hW6 h6 hz6 hB6
 have tok : True := trivial
 go_upto_region 8 with (at_builtin; have _t := tok; rw [<- HW6.out]; refine wpList_copy_raws W6 rfl _ _ 30 rfl Tryz.underlying30 W5.heap.size rfl H6.out A n c l rfl Hl.out Hn.out Hr6.out ?_; intro G cap W7 ho7 hg7; clear _t tok)
 have hG : W5.heap.size <= G := by
  rcases ho7.2 with ⟨h, _⟩ | ⟨G', c', cur, h, hb, _⟩
  ·cases h
  ·cases h; exact hb
 have hst0 : SetF Raw.full l G 0 W7 W7 := SetF.start Hl.out ho7
 have hB57 : Below W5.heap.size W5 W7 := HB6.out.grown hg7 hq6 (fun k hk => by cases hk; exact Nat.le_refl _)
 have HB57 := Lib.hid hB57
 have Hst0 := Lib.hid hst0
 clear ho7 hg7 hst0
 go_wp2
 go_loopw [9] (fun s wr => ∃ i : Nat, i <= n /\ s = .int .i64 i /\ SetF Raw.full l G i W7 wr) (fun s _ => n - (intOf s).toNat)
 case atStart => exact ⟨0, Nat.zero_le _, rfl, Hst0.out⟩
 case round =>
  obtain ⟨i, hi, rfl, hst⟩ := hrel
  have Hst := Lib.hid hst
  have Hgr := Lib.hid hst.grown
  have hnb := Hn.out
  clear hst
  by_cases hlt : i < n
  ·have hil : i < l.length := by rw [Hl.out]; exact hlt
   obtain ⟨hcell, cf, hGl⟩ := Hst.out.look hil
   have c1 : wr.cell? ⟨G, i * 9 + 1, none⟩ = some (.int .i64 l[i].meth) := hcell 1 _ (by omega) rfl
   have c7 : wr.cell? ⟨G, i * 9 + 7, none⟩ = some (.slice l[i].iA l[i].im l[i].ic) := hcell 7 _ (by omega) rfl
   have c8 : wr.cell? ⟨G, i * 9 + 8, none⟩ = some (.slice l[i].hA l[i].hm l[i].hc) := hcell 8 _ (by omega) rfl
   obtain ⟨mt, hmt⟩ : ∃ mt, mt = l[i].meth := ⟨_, rfl⟩
   rw [<- hmt] at c1
   have hi0 : (0 : Int) <= (i : Int) := by omega
   have hin : (i : Int) < n := by omega
   by_cases h1 : mt = 1
   ·have h1b : (mt == 1) = true := by simp [h1]
    have Hs2' := Lib.hid (Hst.out.step hil 1 7 (.int .i64 3) (.slice l[i].hA l[i].hm l[i].hc) (by omega) (by omega) (by unfold Raw.full; rw [if_pos (by rw [<- hmt]; exact h1)]; rfl))
    clear hcell hmt h1
    go_wp2
    go_roundw
    case rel => exact ⟨i + 1, by omega, by go_num, Hs2'.out⟩
    case measure => simp [intOf]; omega
   ·have h1b : (mt == 1) = false := by simp [h1]
    have Hs2' := Lib.hid (Hst.out.keep hil (by unfold Raw.full; rw [if_neg (by rw [<- hmt]; exact h1)]))
    clear hcell hmt h1
    go_wp2
    go_roundw
    case rel => exact ⟨i + 1, by omega, by go_num, Hs2'.out⟩
    case measure => simp [intOf]; omega
  ·obtain rfl : i = n := by omega
   have hst := Hst.out
   rw [<- Hl.out] at hst
   have hraws := hst.done
   have hB5r : Below W5.heap.size W5 wr := HB57.out.grown Hgr.out HB57.out.size (fun k hk => by cases hk; exact hG)
   obtain ⟨ms, hms⟩ : ∃ ms, ms = l.map Raw.full := ⟨_, rfl⟩
   rw [<- hms] at hraws
   have hxr := (fun a ha => ((Hx5.out a ha).below hB5r (Nat.le_refl _)).more hB5r.size : ∀ a ∈ l, a.At wr wr.heap.size)
   have hmx : ∀ a ∈ ms, a.At wr wr.heap.size := by
    intro a ha
    rw [hms, List.mem_map] at ha
    obtain ⟨y, hy, rfl⟩ := ha
    exact Raw.full_at (hxr y hy)
   have hml : ms.length = i := by rw [hms, List.length_map]; exact Hl.out
   have hmo : ∀ a ∈ ms, a.ok = true := by
    intro a ha
    rw [hms, List.mem_map] at ha
    obtain ⟨y, hy, rfl⟩ := ha
    exact Raw.full_ok (Hall.out y hy)
   have hmc : ms.map Raw.cnt = (l.map Raw.cnt).map Cnt.full := by
    rw [hms, List.map_map, List.map_map]
    exact List.map_congr_left fun a _ => Raw.full_cnt a
   have Hmc := Lib.hid hmc
   have Hmo := Lib.hid hmo
   have Hmx := Lib.hid hmx
   have Hml := Lib.hid hml
   have Hraws := Lib.hid hraws
   have Hxr := Lib.hid hxr
   have Hrr := Lib.hid (RowsAt.at_ Hr5.out hB5r)
   have Hgar := Lib.hid (Hga.out.at_ hB5r)
   have Hbr := Lib.hid (gbox Hb5.out hB5r s5)
   have hB0r := hB05.trans (hB5r.mono hB05.size)
   obtain ⟨ln, hln⟩ : ∃ ln, ln = l.length := ⟨_, rfl⟩
   have Hln := Lib.hid hln
   have hli : ms.length = ln := by rw [hml, hln, Hl.out]
   have Hli := Lib.hid hli
   have Hown := Lib.hid (own41_any wr A i c l Hl.out (by have := Hl.out; have := H8.out; omega) Hrr.out Hxr.out Hall.out)
   clear hst hraws hms hmx hml hmo hmc hxr hln hli
   go_wp2_with (fail)
   refine Hown.out.mono ?_
   rintro e W9 ⟨hB9, Ao, co, ds, rfl, hdl, hds, hdo⟩
   rw [<- Hln.out]
   have hBr9 := hB9
   have HD := Lib.hid (Cn.find_hold (P := fun a b => a.Holds SD W9 W9.heap.size b) (fun _ _ h => h.he) x hdo)
   have Hfnd := Lib.hid (confd_any W9 Ao ln co ds x (hdl.trans Hln.out.symm) (by have := Hln.out; have := H8.out; omega) hds)
   clear hdl hds hdo Hown
   go_wp2_with (fail)
   refine Hfnd.out.mono ?_
   rintro e W10 ⟨rfl, hB10⟩
   obtain ⟨x0, hx0⟩ : ∃ x0, x0 = Cn.found ds x := ⟨_, rfl⟩
   obtain ⟨ok, hok⟩ : ∃ ok, ok = Cn.has ds x := ⟨_, rfl⟩
   rw [<- hx0, <- hok]
   have HX := Lib.hid hx0
   have HK := Lib.hid hok
   obtain ⟨hB11, hb11, hz11⟩ := row_new W10 #[.int .i64 x0.ent, .int .i64 x0.meth, .int .i64 x0.since, .bool x0.sg1, .slice x0.sA1 x0.sn1 x0.sc1, .bool x0.sg2, .slice x0.sA2 x0.sn2 x0.sc2, .bool x0.fg1, .slice x0.fA1 x0.fn1 x0.fc1, .bool x0.fg2, .slice x0.fA2 x0.fn2 x0.fc2, .slice x0.iA x0.im x0.ic, .slice x0.hA x0.hm x0.hc] 101
   obtain ⟨W11, hW11⟩ : ∃ W11, W11 = W10.alloc (.cells #[.int .i64 x0.ent, .int .i64 x0.meth, .int .i64 x0.since, .bool x0.sg1, .slice x0.sA1 x0.sn1 x0.sc1, .bool x0.sg2, .slice x0.sA2 x0.sn2 x0.sc2, .bool x0.fg1, .slice x0.fA1 x0.fn1 x0.fc1, .bool x0.fg2, .slice x0.fA2 x0.fn2 x0.fc2, .slice x0.iA x0.im x0.ic, .slice x0.hA x0.hm x0.hc] 101) := ⟨_, rfl⟩
   rw [<- hW11] at hB11 hb11 hz11
   have HW11 := Lib.hid hW11
   have hB9b := hB10.trans (hB11.mono hB10.size)
   have hBrb := hBr9.trans (hB9b.mono hBr9.size)
   have Hcb := Lib.hid hb11
   have HBrb := Lib.hid hBrb
   have HB9b := Lib.hid hB9b
   have HB0r := Lib.hid hB0r
   have s11 : W10.heap.size < W11.heap.size := by omega
   have Hgab := Lib.hid (Hgar.out.at_ hBrb)
   have Hbb := Lib.hid (gbox Hbr.out hBrb (some_lt Hbr.out))
   have sg11 := some_lt Hbb.out
   have Hrb := Lib.hid (RowsAt.at_ Hrr.out hBrb)
   have Hxb := Lib.hid (fun a ha => ((Hxr.out a ha).below hBrb (Nat.le_refl _)).more hBrb.size : ∀ a ∈ l, a.At W11 W11.heap.size)
   have Hrmb := Lib.hid (RowsAt.at_ Hraws.out hBrb)
   have Hxmb := Lib.hid (fun a ha => ((Hmx.out a ha).below hBrb (Nat.le_refl _)).more hBrb.size : ∀ a ∈ ms, a.At W11 W11.heap.size)
   have hrgb := Lib.hid (grp_range Hbb.out)
   clear hx0 hok hb11 hz11 hW11 hB9 hBr9 hB10 hB11 hB9b hBrb hB5r hB0r Hfnd
   go_upto_region 14 with (fail)
   rw [<- HW11.out]
   have hV0 : Below W11.heap.size W11 W11.drew := below_drawn (Below.refl _ _) 1
   refine wp_region_held (S := Below W11.heap.size W11) (by kernel_rfl) ?_
   change wpAnyH _ _ _ _ _ _ _ _ (World.drew W11)
   obtain ⟨U0A, hWd⟩ : ∃ U0A, U0A = W11.drew := ⟨_, rfl⟩
   rw [<- hWd] at hV0 ⊢
   clear hWd
   refine wpAnyH_take (i := 0) (v := .agg #[.string g.cur, .int .i64 g.Y, .int .i64 g.M, .int .i64 g.N, .slice g.cA g.cn g.cc, .int .i64 g.r0, .int .i64 g.r1, .int .i64 g.r2, .int .i64 g.r3, .int .i64 g.r4, .int .i64 g.r5, .int .i64 g.r6, .int .i64 g.r7, .int .i64 g.r8, .int .i64 g.r9, .int .i64 g.r10, .int .i64 g.r11, .int .i64 g.r12, .int .i64 g.r13, .int .i64 g.r14, .slice g.eA g.en g.ec]) rfl (by kernel_rfl) (by kernel_rfl) (by kernel_rfl) (fun _ _ _ h => h) (yieldsIf_load_mid (by rfl) 29 _ rfl W4.heap.size 0 rfl [.string g.cur, .int .i64 g.Y, .int .i64 g.M, .int .i64 g.N, .slice g.cA g.cn g.cc, .int .i64 g.r0, .int .i64 g.r1, .int .i64 g.r2, .int .i64 g.r3, .int .i64 g.r4, .int .i64 g.r5, .int .i64 g.r6, .int .i64 g.r7, .int .i64 g.r8, .int .i64 g.r9, .int .i64 g.r10, .int .i64 g.r11, .int .i64 g.r12, .int .i64 g.r13, .int .i64 g.r14, .slice g.eA g.en g.ec] _ (fun W' hS' => range_below hrgb.out hS' sg11) Tryz.underlying29 rfl grpSize) hV0 ?_
   try simp only [Act.put, z]
   refine wpAnyH_take (i := 1) (v := .slice A i c) rfl (by kernel_rfl) (by kernel_rfl) (by kernel_rfl) (fun _ _ _ h => h) (.inl ⟨by rfl, fun W' hS' => by go_simp⟩) hV0 ?_
   try simp only [Act.put, z]
   refine wpAnyH_take (i := 3) (v := .int .i64 x) rfl (by kernel_rfl) (by kernel_rfl) (by kernel_rfl) (fun _ _ _ h => h) (.inl ⟨by rfl, fun W' hS' => by go_simp⟩) hV0 ?_
   try simp only [Act.put, z]
   refine wpAnyH_letters fun mdA opsA QA aA hlmA hloA hlqA hlaA => ?_
   have finA : ∀ (W' : World) (Ao : Option Addr) (co p : Nat), Below W11.heap.size W11 W' -> W11.heap.size <= p -> W'.heap[p]? = some (.cells #[.int .i64 0, .int .i64 0, .int .i64 0, .int .i64 0] 37 (0, 0)) -> wpAnyH Tryz.prog mdA opsA QA (Below W11.heap.size W11) 2 #[true, true, true, true, true, true, true, true, true, false, false] ((((((aA.put (some 66) (.slice Ao ln co)).put (some 68) (.tuple #[.agg #[.int .i64 fa, .int .i64 fb, .int .i64 fc, .int .i64 fd], .int .i64 er2])).put (some 63) (.tuple #[.agg #[.int .i64 fa, .int .i64 fb, .int .i64 fc, .int .i64 fd], .int .i64 er2])).put (some 69) (.agg #[.int .i64 fa, .int .i64 fb, .int .i64 fc, .int .i64 fd])).put (some 70) (.int .i64 er2)).put (some 12) (.pointer (some ⟨p, 0, none⟩))) W' := by
    intro W' Aq cq pA hS hpA hrw
    subst hlmA hloA hlqA hlaA
    try simp only [Act.put, z]
    refine wpAnyH_ready (rs := [9]) (by kernel_rfl) (by simp) (AllReadyH.cons rfl (fun K hK => ?_) AllReadyH.nil)
    rw [if_pos (by rfl)]
    refine wp_store_row 37 _ _ none rfl rfl pA 37 _ #[.int .i64 fa, .int .i64 fb, .int .i64 fc, .int .i64 fd] rfl rfl hrw rfl figdSize (by simp [Value.oneCell']) ?_
    have hrw2 := setRow_heap W' pA _ #[.int .i64 fa, .int .i64 fb, .int .i64 fc, .int .i64 fd] _ _ hrw
    have hS2 := below_setRow hS hpA #[.int .i64 fa, .int .i64 fb, .int .i64 fc, .int .i64 fd]
    refine hK.out _ _ hS2 (fun _ => ?_)
    clear hK K
    try simp only [Act.put, z]
    refine wpAnyH_ready (rs := [10]) (by kernel_rfl) (by simp) (AllReadyH.cons rfl (fun K hK => ?_) AllReadyH.nil)
    go_simp
    refine hK.out _ _ hS2 (fun _ => ?_)
    clear hK K
    try simp only [Act.put, z]
    refine wpAnyH_done (by kernel_rfl) ?_ _
    try simp only [Act.put, z]
    obtain ⟨VA, hVV⟩ : ∃ VA, VA = W'.setRow pA #[.int .i64 fa, .int .i64 fb, .int .i64 fc, .int .i64 fd] := ⟨_, rfl⟩
    rw [<- hVV] at hrw2 hS2 ⊢
    clear hVV hS hrw
    have HSA := Lib.hid hS2
    have HFA := Lib.hid hrw2
    have spA := some_lt hrw2
    clear hS2 hrw2
    have HgaA := Lib.hid (Hgab.out.at_ HSA.out)
    have HbA := Lib.hid (gbox Hbb.out HSA.out sg11)
    have sgA := some_lt HbA.out
    have hrgA := Lib.hid (grp_range HbA.out)
    have HrmA := Lib.hid (RowsAt.at_ Hrmb.out HSA.out)
    have HxmA := Lib.hid (fun a ha => ((Hxmb.out a ha).below HSA.out (Nat.le_refl _)).more HSA.out.size : ∀ a ∈ ms, a.At VA VA.heap.size)
    have HcA := Lib.hid (gbox Hcb.out HSA.out s11)
    go_upto_region 15 with (fail)
    have hV0 : Below VA.heap.size VA VA.drew := below_drawn (Below.refl _ _) 1
    refine wp_region_held (S := Below VA.heap.size VA) (by kernel_rfl) ?_
    change wpAnyH _ _ _ _ _ _ _ _ (World.drew VA)
    obtain ⟨U0B, hWd⟩ : ∃ U0B, U0B = VA.drew := ⟨_, rfl⟩
    rw [<- hWd] at hV0 ⊢
    clear hWd
    refine wpAnyH_take (i := 0) (v := .agg #[.string g.cur, .int .i64 g.Y, .int .i64 g.M, .int .i64 g.N, .slice g.cA g.cn g.cc, .int .i64 g.r0, .int .i64 g.r1, .int .i64 g.r2, .int .i64 g.r3, .int .i64 g.r4, .int .i64 g.r5, .int .i64 g.r6, .int .i64 g.r7, .int .i64 g.r8, .int .i64 g.r9, .int .i64 g.r10, .int .i64 g.r11, .int .i64 g.r12, .int .i64 g.r13, .int .i64 g.r14, .slice g.eA g.en g.ec]) rfl (by kernel_rfl) (by kernel_rfl) (by kernel_rfl) (fun _ _ _ h => h) (yieldsIf_load_mid (by rfl) 29 _ rfl W4.heap.size 0 rfl [.string g.cur, .int .i64 g.Y, .int .i64 g.M, .int .i64 g.N, .slice g.cA g.cn g.cc, .int .i64 g.r0, .int .i64 g.r1, .int .i64 g.r2, .int .i64 g.r3, .int .i64 g.r4, .int .i64 g.r5, .int .i64 g.r6, .int .i64 g.r7, .int .i64 g.r8, .int .i64 g.r9, .int .i64 g.r10, .int .i64 g.r11, .int .i64 g.r12, .int .i64 g.r13, .int .i64 g.r14, .slice g.eA g.en g.ec] _ (fun W' hS' => range_below hrgA.out hS' sgA) Tryz.underlying29 rfl grpSize) hV0 ?_
    try simp only [Act.put, z]
    refine wpAnyH_take (i := 1) (v := .slice (some ⟨G, 0, none⟩) i cap) rfl (by kernel_rfl) (by kernel_rfl) (by kernel_rfl) (fun _ _ _ h => h) (.inl ⟨by rfl, fun W' hS' => by go_simp⟩) hV0 ?_
    try simp only [Act.put, z]
    refine wpAnyH_take (i := 3) (v := .int .i64 x) rfl (by kernel_rfl) (by kernel_rfl) (by kernel_rfl) (fun _ _ _ h => h) (.inl ⟨by rfl, fun W' hS' => by go_simp⟩) hV0 ?_
    try simp only [Act.put, z]
    refine wpAnyH_letters fun mdB opsB QB aB hlmB hloB hlqB hlaB => ?_
    have finB : ∀ (W' : World) (Ao : Option Addr) (co p : Nat), Below VA.heap.size VA W' -> VA.heap.size <= p -> W'.heap[p]? = some (.cells #[.int .i64 0, .int .i64 0, .int .i64 0, .int .i64 0] 62 (0, 0)) -> wpAnyH Tryz.prog mdB opsB QB (Below VA.heap.size VA) 2 #[true, true, true, true, true, true, true, true, true, false, false] ((((((aB.put (some 74) (.slice Ao ln co)).put (some 76) (.tuple #[.agg #[.int .i64 ha, .int .i64 hb, .int .i64 hc, .int .i64 hd], .int .i64 er2])).put (some 71) (.tuple #[.agg #[.int .i64 ha, .int .i64 hb, .int .i64 hc, .int .i64 hd], .int .i64 er2])).put (some 77) (.agg #[.int .i64 ha, .int .i64 hb, .int .i64 hc, .int .i64 hd])).put (some 78) (.int .i64 er2)).put (some 14) (.pointer (some ⟨p, 0, none⟩))) W' := by
     intro W' Aq cq pB hS hpB hrw
     subst hlmB hloB hlqB hlaB
     try simp only [Act.put, z]
     refine wpAnyH_ready (rs := [9]) (by kernel_rfl) (by simp) (AllReadyH.cons rfl (fun K hK => ?_) AllReadyH.nil)
     rw [if_pos (by rfl)]
     refine wp_store_row 62 _ _ none rfl rfl pB 62 _ #[.int .i64 ha, .int .i64 hb, .int .i64 hc, .int .i64 hd] rfl rfl hrw rfl figmSize (by simp [Value.oneCell']) ?_
     have hrw2 := setRow_heap W' pB _ #[.int .i64 ha, .int .i64 hb, .int .i64 hc, .int .i64 hd] _ _ hrw
     have hS2 := below_setRow hS hpB #[.int .i64 ha, .int .i64 hb, .int .i64 hc, .int .i64 hd]
     refine hK.out _ _ hS2 (fun _ => ?_)
     clear hK K
     try simp only [Act.put, z]
     refine wpAnyH_ready (rs := [10]) (by kernel_rfl) (by simp) (AllReadyH.cons rfl (fun K hK => ?_) AllReadyH.nil)
     go_simp
     refine hK.out _ _ hS2 (fun _ => ?_)
     clear hK K
     try simp only [Act.put, z]
     refine wpAnyH_done (by kernel_rfl) ?_ _
     try simp only [Act.put, z]
     obtain ⟨VB, hVV⟩ : ∃ VB, VB = W'.setRow pB #[.int .i64 ha, .int .i64 hb, .int .i64 hc, .int .i64 hd] := ⟨_, rfl⟩
     rw [<- hVV] at hrw2 hS2 ⊢
     clear hVV hS hrw
     have HSB := Lib.hid hS2
     have HFB := Lib.hid hrw2
     have spB := some_lt hrw2
     clear hS2 hrw2
     have hBz := HSA.out.trans (HSB.out.mono HSA.out.size)
     have hBrz := HBrb.out.trans (hBz.mono HBrb.out.size)
     have hB0z := HB0r.out.trans (hBrz.mono HB0r.out.size)
     have HfA := Lib.hid (gbox HFA.out HSB.out spA)
     have HcB := Lib.hid (gbox HcA.out HSB.out (some_lt HcA.out))
     have rA := Lib.hid (range_row (cs := [.int .i64 fa, .int .i64 fb, .int .i64 fc, .int .i64 fd]) HfA.out)
     have x1 := cell_of_row _ _ 1 _ _ _ HcB.out
     simp at x1
     have s10 := some_lt HcB.out
     have spa := some_lt HfA.out
     by_cases he : er2 = 0
     case neg =>
      have heb : (er2 != 0) = true := by simp [he]
      obtain ⟨rfl, rfl, rfl, rfl⟩ := Gr.assoc_zero HAS.out (.inl he)
      clear he
      go_wp2_with (refine wpList_load_mid rfl 37 (.tmp 12) rfl pA 0 rfl [.int .i64 0, .int .i64 0, .int .i64 0, .int .i64 0] _ rA.out Tryz.underlying37 rfl figdSize ?_)
      go_ret
      exact ⟨by simp, hB0z⟩
     subst he
     by_cases hko : ok = true
     case neg =>
      have hko' : ok = false := by simpa using hko
      have hnf : Cn.cfind (l.map Raw.cnt) x = none := by
       rcases HD.out with ⟨h1, h2⟩ | ⟨a, b, h1, h2, h3⟩
       ·exact h2
       ·have := HK.out; rw [hko', Cn.has, h1] at this; simp at this
      rw [hko']
      obtain ⟨rfl, rfl, rfl, rfl⟩ := Gr.assoc_zero HAS.out (.inr (.inl hnf))
      clear hko hko' hnf
      go_wp2_with (refine wpList_load_mid rfl 37 (.tmp 12) rfl pA 0 rfl [.int .i64 0, .int .i64 0, .int .i64 0, .int .i64 0] _ rA.out Tryz.underlying37 rfl figdSize ?_)
      go_ret
      exact ⟨by simp, hB0z⟩
     subst hko
     have hB9z := HB9b.out.trans (hBz.mono HB9b.out.size)
     obtain ⟨y, hyf, hyh⟩ : ∃ y, Cn.cfind (l.map Raw.cnt) x = some y /\ x0.Holds SD VB VB.heap.size y := by
      rcases HD.out with ⟨h1, h2⟩ | ⟨a, b, h1, h2, h3⟩
      ·have := HK.out; rw [Cn.has, h1] at this; simp at this
      ·refine ⟨b, h2, ?_⟩
       have e : x0 = a := by rw [HX.out, Cn.found, h1]; rfl
       rw [e]
       exact h3.atD hB9z
     have HYF := Lib.hid hyf
     have HY := Lib.hid hyh
     have hme := hyh.hm
     clear hyf hyh
     by_cases hmt : x0.meth = 1
     case neg =>
      have hmb : (x0.meth != 1) = true := by simp [hmt]
      obtain ⟨rfl, rfl, rfl, rfl⟩ := Gr.assoc_zero HAS.out (.inr (.inr (.inr ⟨y, HYF.out, by rw [<- hme]; exact hmt⟩)))
      clear hmt hme
      go_wp2_with (refine wpList_load_mid rfl 37 (.tmp 12) rfl pA 0 rfl [.int .i64 0, .int .i64 0, .int .i64 0, .int .i64 0] _ rA.out Tryz.underlying37 rfl figdSize ?_)
      go_ret
      exact ⟨by simp, hB0z⟩
     have hmb : (x0.meth != 1) = false := by simp [hmt]
     by_cases hx : x = 0
     case pos =>
      have hxb : (x == 0) = true := by simp [hx]
      obtain ⟨rfl, rfl, rfl, rfl⟩ := Gr.assoc_zero HAS.out (.inr (.inr (.inl hx)))
      clear hx hme hmt
      go_wp2_with (refine wpList_load_mid rfl 37 (.tmp 12) rfl pA 0 rfl [.int .i64 0, .int .i64 0, .int .i64 0, .int .i64 0] _ rA.out Tryz.underlying37 rfl figdSize ?_)
      go_ret
      exact ⟨by simp, hB0z⟩
     have hxb : (x == 0) = false := by simp [hx]
     obtain ⟨e1, e2, e3⟩ := Gr.rest HAS.out HMN.out HYF.out hx (by rw [<- hme]; exact hmt)
     have hsm := Gr.assoc_small (g := g) (x := x) (R := SD) (w := VB) (B := VB.heap.size) (l := [x0]) (m := [y]) ⟨HY.out, trivial⟩
     obtain ⟨⟨c0, c1⟩, d0, d1⟩ : (-1000000000000001 <= fc /\ fc <= 1000000000000001) /\ -1000000000000001 <= fd /\ fd <= 1000000000000001 := by
      have hff : Gr.assoc g [y] x = ((fa, fb, fc, fd), 0) := by
       have h1 := HAS.out
       unfold Gr.assoc at h1 ⊢
       have h2 : Cn.cfind [y] x = some y := by
        have h3 := List.find?_some HYF.out
        unfold Cn.cfind
        exact List.find?_cons_of_pos (p := fun a : Cnt => a.ent == x) h3
       rw [HYF.out] at h1
       rw [h2]
       exact h1
      rw [hff] at hsm
      exact hsm
     skip
     have Hsum := Lib.hid e3
     obtain ⟨b0, b1⟩ : -100000000000000 <= fa /\ fa <= 100000000000000 := by
      have h1 := HAS.out
      have hck : Gr.check g x = 0 := by rw [<- Gr.assoc_err g (l.map Raw.cnt) x, h1]
      unfold Gr.assoc at h1
      rw [if_neg (by rw [hck]; simp), HYF.out] at h1
      simp only [] at h1
      rw [if_neg (by rw [<- hme]; simp [hx, hmt])] at h1
      cases h1
      have hb := Gr.sumOf_bd (Gr.isResult g) y.shs HY.out.hhx
      have h2 := HY.out.hhl
      have h3 := HY.out.hhn
      omega
     have hhlen := Lib.hid HY.out.hhl
     have hhn := HY.out.hhn
     have x12 := cell_of_row _ _ 12 _ _ _ HcB.out
     simp at x12
     have X12 := Lib.hid x12
     clear hx hmt hme e3 hsm
     go_wp2
     clear x1 x12
     go_loopw [16, 17] (fun s i wr => ∃ k : Nat, k <= x0.hm /\ i = .int .i64 k /\ s = .int .i64 (Gr.sumAll (y.shs.take k)) /\ Below VB.heap.size VB wr) (fun _ i _ => x0.hm - (intOf i).toNat)
     case atStart => exact ⟨0, Nat.zero_le _, rfl, rfl, Below.refl _ _⟩
     case round =>
      obtain ⟨k, hk, rfl, rfl, hbr⟩ := hrel
      obtain ⟨s, hs⟩ : ∃ s, s = Gr.sumAll (y.shs.take k) := ⟨_, rfl⟩
      obtain ⟨lo, hi2⟩ := Gr.sumAll_small k hhlen.out (by omega) HY.out.hhx
      rw [<- hs] at lo hi2 ⊢
      have Hs := Lib.hid hs
      have hqr := hbr.size
      have x12 := (hbr.cell (p := ⟨W10.heap.size, 12, none⟩) s10).trans X12.out
      have s10r : W10.heap.size < wr.heap.size := by omega
      clear hs
      by_cases hlt : k < x0.hm
      ·have hkl : k < y.shs.length := by have := hhlen.out; omega
       obtain ⟨b, o, hAe, hbB, hr, c3, c6⟩ := ItmsAt.seven (RowsAt.below HY.out.hhA hbr (Nat.le_refl _)) hkl
       rw [hAe] at x12
       have hbw : b < wr.heap.size := by omega
       have hk0 : (0 : Int) <= (k : Int) := by omega
       have hkn : (k : Int) < x0.hm := by omega
       obtain ⟨sl, sh⟩ := HY.out.hhx _ (List.getElem_mem hkl)
       obtain ⟨am, ham⟩ : ∃ am, am = y.shs[k].amt := ⟨_, rfl⟩
       rw [<- ham] at c6 sl sh
       have HN : Hid (Gr.sumAll (y.shs.take (k + 1)) = s + am) := by show _ = _; rw [Gr.sumAll_take hkl, <- Hs.out, <- ham]
       clear ham hr c3 hAe
       go_wp2
       go_roundw
       case rel => exact ⟨k + 1, by omega, by go_num, by rw [HN.out], hbr⟩
       case measure => simp [intOf]; omega
      ·obtain rfl : k = x0.hm := by omega
       have hse : Gr.sumAll y.shs = s := by
        have h1 := Hs.out
        rw [<- hhlen.out, List.take_length] at h1
        exact h1.symm
       have hfA := gbox HfA.out hbr spa
       have hfB := gbox HFB.out hbr spB
       have p0 := cell_of_row _ _ 0 _ _ _ hfA
       have p1 := cell_of_row _ _ 1 _ _ _ hfA
       have p2 := cell_of_row _ _ 2 _ _ _ hfA
       have p3 := cell_of_row _ _ 3 _ _ _ hfA
       have q0 := cell_of_row _ _ 0 _ _ _ hfB
       have q1 := cell_of_row _ _ 1 _ _ _ hfB
       have q2 := cell_of_row _ _ 2 _ _ _ hfB
       have q3 := cell_of_row _ _ 3 _ _ _ hfB
       simp at p0 p1 p2 p3 q0 q1 q2 q3
       have spr := some_lt hfA
       have sqr := some_lt hfB
       have t1 : (fa != ha) = false := by simp [e1]
       have t2 : (fc + hc != fa) = false := by simp [e2]
       have hcb : -1200000000000001 <= hc /\ hc <= 1200000000000001 := by omega
       have hB0f := hB0z.trans (hbr.mono hB0z.size)
       clear hfA hfB
       by_cases h0 : s = 0
       ·have h0b : (s != 0) = false := by simp [h0]
        obtain ⟨e4, e5⟩ := Hsum.out (by rw [hse]; exact h0)
        have t3 : (fb == hb) = true := by simp [e4]
        have t4 : (fd + hd == fb) = true := by simp [e5]
        obtain ⟨f0, f1⟩ : -100000000000000 <= fb /\ fb <= 100000000000000 := by
         have h1 := HAS.out
         have hck : Gr.check g x = 0 := by rw [<- Gr.assoc_err g (l.map Raw.cnt) x, h1]
         unfold Gr.assoc at h1
         rw [if_neg (by rw [hck]; simp), HYF.out] at h1
         simp only [] at h1
         have hx' : x ≠ 0 := by simpa using hxb
         have hm' : y.meth = 1 := by have := HY.out.hm; rw [<- this]; simpa using hmb
         rw [if_neg (by simp [hx', hm'])] at h1
         cases h1
         have hb := Gr.sumOf_bd (Gr.isEquity g) y.shs HY.out.hhx
         have h2 := HY.out.hhl
         have h3 := HY.out.hhn
         omega
        have hdb : -1200000000000001 <= hd /\ hd <= 1200000000000001 := by omega
        clear h0 hse e1 e2 e4 e5
        go_wp2
        go_ret
        exact ⟨rfl, hB0f⟩
       have h0b : (s != 0) = true := by simp [h0]
       clear h0 hse e1 e2
       go_wp2
       go_ret
       exact ⟨rfl, hB0f⟩
    subst hlmB hloB hlqB hlaB
    refine wpAnyH_ready (rs := [2, 8]) (by kernel_rfl) (by simp) (AllReadyH.cons rfl (fun K hK => ?_) (AllReadyH.cons rfl (fun K hK => ?_) AllReadyH.nil))
    ·skip
     have Hown := Lib.hid (own41_any U0B (some ⟨G, 0, none⟩) i cap ms Hml.out (by have := Hml.out; have := Hli.out; have := Hln.out; have := H8.out; omega) (RowsAt.at_ HrmA.out hV0) (fun a ha => ((HxmA.out a ha).below hV0 (Nat.le_refl _)).more hV0.size) Hmo.out)
     go_simp
     refine Hown.out.mono ?_
     rintro e V1 ⟨hBo, Ao, co, ds, rfl, hdl, hds, hdo⟩
     rw [Hli.out]
     have hVo := hV0.trans (hBo.mono hV0.size)
     clear Hown
     refine hK.out _ _ hVo (fun _ => ?_)
     clear hK K
     try simp only [Act.put, z]
     refine wpAnyH_ready (rs := [4, 8]) (by kernel_rfl) (by simp) (AllReadyH.cons rfl (fun K hK => ?_) (AllReadyH.cons rfl (fun K hK => ?_) AllReadyH.nil))
     ·skip
      have Hof := Lib.hid (minord_any V1 g Ao ln co ds (ms.map Raw.cnt) x (hdl.trans Hli.out) (by have := Hln.out; have := H8.out; omega) hds hdo (HgaA.out.at_ hVo) (by rw [Hmc.out]; exact Hwf.out))
      go_simp
      refine Hof.out.mono ?_
      rintro e V2 ⟨ra, rb, rc, rd, re, hra, rfl, hBf⟩
      rw [Hmc.out, HMN.out] at hra
      cases hra
      have hVf := hVo.trans (hBf.mono hVo.size)
      clear Hof
      refine hK.out _ _ hVf (fun _ => ?_)
      clear hK K
      try simp only [Act.put, z]
      refine wpAnyH_take (i := 5) (v := .tuple #[.agg #[.int .i64 ha, .int .i64 hb, .int .i64 hc, .int .i64 hd], .int .i64 er2]) rfl (by kernel_rfl) (by kernel_rfl) (by kernel_rfl) (fun _ _ _ h => h) (.inl ⟨by rfl, fun W' hS' => by go_simp⟩) hVf ?_
      try simp only [Act.put, z]
      refine wpAnyH_take (i := 6) (v := .agg #[.int .i64 ha, .int .i64 hb, .int .i64 hc, .int .i64 hd]) rfl (by kernel_rfl) (by kernel_rfl) (by kernel_rfl) (fun _ _ _ h => h) (.inl ⟨by rfl, fun W' hS' => by go_simp⟩) hVf ?_
      try simp only [Act.put, z]
      refine wpAnyH_take (i := 7) (v := .int .i64 er2) rfl (by kernel_rfl) (by kernel_rfl) (by kernel_rfl) (fun _ _ _ h => h) (.inl ⟨by rfl, fun W' hS' => by go_simp⟩) hVf ?_
      try simp only [Act.put, z]
      refine wpAnyH_ready (rs := [8]) (by kernel_rfl) (by simp) (AllReadyH.cons rfl (fun K hK => ?_) AllReadyH.nil)
      obtain ⟨hBa, hrw, _⟩ := row_new V2 #[.int .i64 0, .int .i64 0, .int .i64 0, .int .i64 0] 62
      go_simp
      obtain ⟨V3, hWn⟩ : ∃ V3, V3 = V2.alloc (.cells #[.int .i64 0, .int .i64 0, .int .i64 0, .int .i64 0] 62) := ⟨_, rfl⟩
      rw [<- hWn] at hBa hrw ⊢
      clear hWn
      have hVa := hVf.trans (hBa.mono hVf.size)
      refine hK.out _ _ hVa (fun _ => ?_)
      clear hK K
      try simp only [Act.put, z]
      have hn := finB V3 Ao co V2.heap.size hVa hVf.size hrw
      try simp only [Act.put, z] at hn
      exact hn
     ·skip
      obtain ⟨hBa, hrw, _⟩ := row_new V1 #[.int .i64 0, .int .i64 0, .int .i64 0, .int .i64 0] 62
      go_simp
      obtain ⟨V2, hWn⟩ : ∃ V2, V2 = V1.alloc (.cells #[.int .i64 0, .int .i64 0, .int .i64 0, .int .i64 0] 62) := ⟨_, rfl⟩
      rw [<- hWn] at hBa hrw ⊢
      clear hWn
      have hVa := hVo.trans (hBa.mono hVo.size)
      refine hK.out _ _ hVa (fun _ => ?_)
      clear hK K
      try simp only [Act.put, z]
      refine wpAnyH_ready (rs := [4]) (by kernel_rfl) (by simp) (AllReadyH.cons rfl (fun K hK => ?_) AllReadyH.nil)
      have Hof := Lib.hid (minord_any V2 g Ao ln co ds (ms.map Raw.cnt) x (hdl.trans Hli.out) (by have := Hln.out; have := H8.out; omega) (RowsAt.at_ hds hBa) (hdo.imp (Q := fun a b => a.Holds SD V2 V2.heap.size b) fun _ _ h => h.atD hBa) (HgaA.out.at_ hVa) (by rw [Hmc.out]; exact Hwf.out))
      go_simp
      refine Hof.out.mono ?_
      rintro e V3 ⟨ra, rb, rc, rd, re, hra, rfl, hBf⟩
      rw [Hmc.out, HMN.out] at hra
      cases hra
      have hVf := hVa.trans (hBf.mono hVa.size)
      clear Hof
      refine hK.out _ _ hVf (fun _ => ?_)
      clear hK K
      try simp only [Act.put, z]
      refine wpAnyH_take (i := 5) (v := .tuple #[.agg #[.int .i64 ha, .int .i64 hb, .int .i64 hc, .int .i64 hd], .int .i64 er2]) rfl (by kernel_rfl) (by kernel_rfl) (by kernel_rfl) (fun _ _ _ h => h) (.inl ⟨by rfl, fun W' hS' => by go_simp⟩) hVf ?_
      try simp only [Act.put, z]
      refine wpAnyH_take (i := 6) (v := .agg #[.int .i64 ha, .int .i64 hb, .int .i64 hc, .int .i64 hd]) rfl (by kernel_rfl) (by kernel_rfl) (by kernel_rfl) (fun _ _ _ h => h) (.inl ⟨by rfl, fun W' hS' => by go_simp⟩) hVf ?_
      try simp only [Act.put, z]
      refine wpAnyH_take (i := 7) (v := .int .i64 er2) rfl (by kernel_rfl) (by kernel_rfl) (by kernel_rfl) (fun _ _ _ h => h) (.inl ⟨by rfl, fun W' hS' => by go_simp⟩) hVf ?_
      try simp only [Act.put, z]
      have hn := finB V3 Ao co V1.heap.size hVf hVo.size (gbox hrw hBf (some_lt hrw))
      try simp only [Act.put, z] at hn
      exact hn
    ·skip
     obtain ⟨hBa, hrw, _⟩ := row_new U0B #[.int .i64 0, .int .i64 0, .int .i64 0, .int .i64 0] 62
     go_simp
     obtain ⟨V1, hWn⟩ : ∃ V1, V1 = U0B.alloc (.cells #[.int .i64 0, .int .i64 0, .int .i64 0, .int .i64 0] 62) := ⟨_, rfl⟩
     rw [<- hWn] at hBa hrw ⊢
     clear hWn
     have hVa := hV0.trans (hBa.mono hV0.size)
     refine hK.out _ _ hVa (fun _ => ?_)
     clear hK K
     try simp only [Act.put, z]
     refine wpAnyH_ready (rs := [2]) (by kernel_rfl) (by simp) (AllReadyH.cons rfl (fun K hK => ?_) AllReadyH.nil)
     have Hown := Lib.hid (own41_any V1 (some ⟨G, 0, none⟩) i cap ms Hml.out (by have := Hml.out; have := Hli.out; have := Hln.out; have := H8.out; omega) (RowsAt.at_ HrmA.out hVa) (fun a ha => ((HxmA.out a ha).below hVa (Nat.le_refl _)).more hVa.size) Hmo.out)
     go_simp
     refine Hown.out.mono ?_
     rintro e V2 ⟨hBo, Ao, co, ds, rfl, hdl, hds, hdo⟩
     rw [Hli.out]
     have hVo := hVa.trans (hBo.mono hVa.size)
     clear Hown
     refine hK.out _ _ hVo (fun _ => ?_)
     clear hK K
     try simp only [Act.put, z]
     refine wpAnyH_ready (rs := [4]) (by kernel_rfl) (by simp) (AllReadyH.cons rfl (fun K hK => ?_) AllReadyH.nil)
     have Hof := Lib.hid (minord_any V2 g Ao ln co ds (ms.map Raw.cnt) x (hdl.trans Hli.out) (by have := Hln.out; have := H8.out; omega) hds hdo (HgaA.out.at_ hVo) (by rw [Hmc.out]; exact Hwf.out))
     go_simp
     refine Hof.out.mono ?_
     rintro e V3 ⟨ra, rb, rc, rd, re, hra, rfl, hBf⟩
     rw [Hmc.out, HMN.out] at hra
     cases hra
     have hVf := hVo.trans (hBf.mono hVo.size)
     clear Hof
     refine hK.out _ _ hVf (fun _ => ?_)
     clear hK K
     try simp only [Act.put, z]
     refine wpAnyH_take (i := 5) (v := .tuple #[.agg #[.int .i64 ha, .int .i64 hb, .int .i64 hc, .int .i64 hd], .int .i64 er2]) rfl (by kernel_rfl) (by kernel_rfl) (by kernel_rfl) (fun _ _ _ h => h) (.inl ⟨by rfl, fun W' hS' => by go_simp⟩) hVf ?_
     try simp only [Act.put, z]
     refine wpAnyH_take (i := 6) (v := .agg #[.int .i64 ha, .int .i64 hb, .int .i64 hc, .int .i64 hd]) rfl (by kernel_rfl) (by kernel_rfl) (by kernel_rfl) (fun _ _ _ h => h) (.inl ⟨by rfl, fun W' hS' => by go_simp⟩) hVf ?_
     try simp only [Act.put, z]
     refine wpAnyH_take (i := 7) (v := .int .i64 er2) rfl (by kernel_rfl) (by kernel_rfl) (by kernel_rfl) (fun _ _ _ h => h) (.inl ⟨by rfl, fun W' hS' => by go_simp⟩) hVf ?_
     try simp only [Act.put, z]
     have hn := finB V3 Ao co U0B.heap.size hVf hV0.size (gbox (gbox hrw hBo (some_lt hrw)) hBf (some_lt (gbox hrw hBo (some_lt hrw))))
     try simp only [Act.put, z] at hn
     exact hn
   subst hlmA hloA hlqA hlaA
   refine wpAnyH_ready (rs := [2, 8]) (by kernel_rfl) (by simp) (AllReadyH.cons rfl (fun K hK => ?_) (AllReadyH.cons rfl (fun K hK => ?_) AllReadyH.nil))
   ·skip
    have Hown := Lib.hid (own41_any U0A A i c l Hl.out (by have := Hl.out; have := H8.out; omega) (RowsAt.at_ Hrb.out hV0) (fun a ha => ((Hxb.out a ha).below hV0 (Nat.le_refl _)).more hV0.size) Hall.out)
    go_simp
    refine Hown.out.mono ?_
    rintro e V1 ⟨hBo, Ao, co, ds, rfl, hdl, hds, hdo⟩
    rw [<- Hln.out]
    have hVo := hV0.trans (hBo.mono hV0.size)
    clear Hown
    refine hK.out _ _ hVo (fun _ => ?_)
    clear hK K
    try simp only [Act.put, z]
    refine wpAnyH_ready (rs := [4, 8]) (by kernel_rfl) (by simp) (AllReadyH.cons rfl (fun K hK => ?_) (AllReadyH.cons rfl (fun K hK => ?_) AllReadyH.nil))
    ·skip
     have Hof := Lib.hid (assocd_any V1 g Ao ln co ds (l.map Raw.cnt) x (hdl.trans Hln.out.symm) (by have := Hln.out; have := H8.out; omega) hds hdo (Hgab.out.at_ hVo))
     go_simp
     refine Hof.out.mono ?_
     rintro e V2 ⟨ra, rb, rc, rd, re, hra, rfl, hBf⟩
     rw [HAS.out] at hra
     cases hra
     have hVf := hVo.trans (hBf.mono hVo.size)
     clear Hof
     refine hK.out _ _ hVf (fun _ => ?_)
     clear hK K
     try simp only [Act.put, z]
     refine wpAnyH_take (i := 5) (v := .tuple #[.agg #[.int .i64 fa, .int .i64 fb, .int .i64 fc, .int .i64 fd], .int .i64 er2]) rfl (by kernel_rfl) (by kernel_rfl) (by kernel_rfl) (fun _ _ _ h => h) (.inl ⟨by rfl, fun W' hS' => by go_simp⟩) hVf ?_
     try simp only [Act.put, z]
     refine wpAnyH_take (i := 6) (v := .agg #[.int .i64 fa, .int .i64 fb, .int .i64 fc, .int .i64 fd]) rfl (by kernel_rfl) (by kernel_rfl) (by kernel_rfl) (fun _ _ _ h => h) (.inl ⟨by rfl, fun W' hS' => by go_simp⟩) hVf ?_
     try simp only [Act.put, z]
     refine wpAnyH_take (i := 7) (v := .int .i64 er2) rfl (by kernel_rfl) (by kernel_rfl) (by kernel_rfl) (fun _ _ _ h => h) (.inl ⟨by rfl, fun W' hS' => by go_simp⟩) hVf ?_
     try simp only [Act.put, z]
     refine wpAnyH_ready (rs := [8]) (by kernel_rfl) (by simp) (AllReadyH.cons rfl (fun K hK => ?_) AllReadyH.nil)
     obtain ⟨hBa, hrw, _⟩ := row_new V2 #[.int .i64 0, .int .i64 0, .int .i64 0, .int .i64 0] 37
     go_simp
     obtain ⟨V3, hWn⟩ : ∃ V3, V3 = V2.alloc (.cells #[.int .i64 0, .int .i64 0, .int .i64 0, .int .i64 0] 37) := ⟨_, rfl⟩
     rw [<- hWn] at hBa hrw ⊢
     clear hWn
     have hVa := hVf.trans (hBa.mono hVf.size)
     refine hK.out _ _ hVa (fun _ => ?_)
     clear hK K
     try simp only [Act.put, z]
     have hn := finA V3 Ao co V2.heap.size hVa hVf.size hrw
     try simp only [Act.put, z] at hn
     exact hn
    ·skip
     obtain ⟨hBa, hrw, _⟩ := row_new V1 #[.int .i64 0, .int .i64 0, .int .i64 0, .int .i64 0] 37
     go_simp
     obtain ⟨V2, hWn⟩ : ∃ V2, V2 = V1.alloc (.cells #[.int .i64 0, .int .i64 0, .int .i64 0, .int .i64 0] 37) := ⟨_, rfl⟩
     rw [<- hWn] at hBa hrw ⊢
     clear hWn
     have hVa := hVo.trans (hBa.mono hVo.size)
     refine hK.out _ _ hVa (fun _ => ?_)
     clear hK K
     try simp only [Act.put, z]
     refine wpAnyH_ready (rs := [4]) (by kernel_rfl) (by simp) (AllReadyH.cons rfl (fun K hK => ?_) AllReadyH.nil)
     have Hof := Lib.hid (assocd_any V2 g Ao ln co ds (l.map Raw.cnt) x (hdl.trans Hln.out.symm) (by have := Hln.out; have := H8.out; omega) (RowsAt.at_ hds hBa) (hdo.imp (Q := fun a b => a.Holds SD V2 V2.heap.size b) fun _ _ h => h.atD hBa) (Hgab.out.at_ hVa))
     go_simp
     refine Hof.out.mono ?_
     rintro e V3 ⟨ra, rb, rc, rd, re, hra, rfl, hBf⟩
     rw [HAS.out] at hra
     cases hra
     have hVf := hVa.trans (hBf.mono hVa.size)
     clear Hof
     refine hK.out _ _ hVf (fun _ => ?_)
     clear hK K
     try simp only [Act.put, z]
     refine wpAnyH_take (i := 5) (v := .tuple #[.agg #[.int .i64 fa, .int .i64 fb, .int .i64 fc, .int .i64 fd], .int .i64 er2]) rfl (by kernel_rfl) (by kernel_rfl) (by kernel_rfl) (fun _ _ _ h => h) (.inl ⟨by rfl, fun W' hS' => by go_simp⟩) hVf ?_
     try simp only [Act.put, z]
     refine wpAnyH_take (i := 6) (v := .agg #[.int .i64 fa, .int .i64 fb, .int .i64 fc, .int .i64 fd]) rfl (by kernel_rfl) (by kernel_rfl) (by kernel_rfl) (fun _ _ _ h => h) (.inl ⟨by rfl, fun W' hS' => by go_simp⟩) hVf ?_
     try simp only [Act.put, z]
     refine wpAnyH_take (i := 7) (v := .int .i64 er2) rfl (by kernel_rfl) (by kernel_rfl) (by kernel_rfl) (fun _ _ _ h => h) (.inl ⟨by rfl, fun W' hS' => by go_simp⟩) hVf ?_
     try simp only [Act.put, z]
     have hn := finA V3 Ao co V1.heap.size hVf hVo.size (gbox hrw hBf (some_lt hrw))
     try simp only [Act.put, z] at hn
     exact hn
   ·skip
    obtain ⟨hBa, hrw, _⟩ := row_new U0A #[.int .i64 0, .int .i64 0, .int .i64 0, .int .i64 0] 37
    go_simp
    obtain ⟨V1, hWn⟩ : ∃ V1, V1 = U0A.alloc (.cells #[.int .i64 0, .int .i64 0, .int .i64 0, .int .i64 0] 37) := ⟨_, rfl⟩
    rw [<- hWn] at hBa hrw ⊢
    clear hWn
    have hVa := hV0.trans (hBa.mono hV0.size)
    refine hK.out _ _ hVa (fun _ => ?_)
    clear hK K
    try simp only [Act.put, z]
    refine wpAnyH_ready (rs := [2]) (by kernel_rfl) (by simp) (AllReadyH.cons rfl (fun K hK => ?_) AllReadyH.nil)
    have Hown := Lib.hid (own41_any V1 A i c l Hl.out (by have := Hl.out; have := H8.out; omega) (RowsAt.at_ Hrb.out hVa) (fun a ha => ((Hxb.out a ha).below hVa (Nat.le_refl _)).more hVa.size) Hall.out)
    go_simp
    refine Hown.out.mono ?_
    rintro e V2 ⟨hBo, Ao, co, ds, rfl, hdl, hds, hdo⟩
    rw [<- Hln.out]
    have hVo := hVa.trans (hBo.mono hVa.size)
    clear Hown
    refine hK.out _ _ hVo (fun _ => ?_)
    clear hK K
    try simp only [Act.put, z]
    refine wpAnyH_ready (rs := [4]) (by kernel_rfl) (by simp) (AllReadyH.cons rfl (fun K hK => ?_) AllReadyH.nil)
    have Hof := Lib.hid (assocd_any V2 g Ao ln co ds (l.map Raw.cnt) x (hdl.trans Hln.out.symm) (by have := Hln.out; have := H8.out; omega) hds hdo (Hgab.out.at_ hVo))
    go_simp
    refine Hof.out.mono ?_
    rintro e V3 ⟨ra, rb, rc, rd, re, hra, rfl, hBf⟩
    rw [HAS.out] at hra
    cases hra
    have hVf := hVo.trans (hBf.mono hVo.size)
    clear Hof
    refine hK.out _ _ hVf (fun _ => ?_)
    clear hK K
    try simp only [Act.put, z]
    refine wpAnyH_take (i := 5) (v := .tuple #[.agg #[.int .i64 fa, .int .i64 fb, .int .i64 fc, .int .i64 fd], .int .i64 er2]) rfl (by kernel_rfl) (by kernel_rfl) (by kernel_rfl) (fun _ _ _ h => h) (.inl ⟨by rfl, fun W' hS' => by go_simp⟩) hVf ?_
    try simp only [Act.put, z]
    refine wpAnyH_take (i := 6) (v := .agg #[.int .i64 fa, .int .i64 fb, .int .i64 fc, .int .i64 fd]) rfl (by kernel_rfl) (by kernel_rfl) (by kernel_rfl) (fun _ _ _ h => h) (.inl ⟨by rfl, fun W' hS' => by go_simp⟩) hVf ?_
    try simp only [Act.put, z]
    refine wpAnyH_take (i := 7) (v := .int .i64 er2) rfl (by kernel_rfl) (by kernel_rfl) (by kernel_rfl) (fun _ _ _ h => h) (.inl ⟨by rfl, fun W' hS' => by go_simp⟩) hVf ?_
    try simp only [Act.put, z]
    have hn := finA V3 Ao co U0A.heap.size hVf hV0.size (gbox (gbox hrw hBo (some_lt hrw)) hBf (some_lt (gbox hrw hBo (some_lt hrw))))
    try simp only [Act.put, z] at hn
    exact hn
end
end Go.Proofs.YtcblobokjhhboaaGreat
