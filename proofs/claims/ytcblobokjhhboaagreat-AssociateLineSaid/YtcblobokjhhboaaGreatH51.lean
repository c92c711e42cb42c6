/- My texts LawL41. -/
import Derived.Test.YtcblobokjhhboaaGreatH37
import Derived.Test.YtcblobokjhhboaaGreatH50
import Derived.Test.YtcblobokjhhboaaGreatH44
import Derived.Test.YtcblobokjhhboaaGreatH48
set_option linter.unusedVariables false
set_option linter.unusedSimpArgs false
set_option maxRecDepth 100000
set_option maxHeartbeats 8000000
namespace Go.Proofs.YtcblobokjhhboaaGreat
open Go.RowKit
def Setting (l : List Raw) (p q : Int) (G cap i : Nat) (W wr : World) : Prop :=
 ∃ (L : List Raw) (cur : Array Value), L.length = l.length /\ (∀ k (hk : k < L.length) (hk' : k < l.length), L[k] = if k < i then l[k].sh p q else l[k]) /\ wr.heap[G]? = some (.cells cur 57 (0, 0)) /\ cur.toList.take (l.length * 9) = rawRow L /\ W.grownBy wr (some G)
theorem Setting.cell {l : List Raw} {p q : Int} {G cap i : Nat} {W wr : World} (h : Setting l p q G cap i W wr) (hi : i < l.length) :
  (∃ a b : Int, wr.cell? ⟨G, i * 9 + 3, none⟩ = some (.int .i64 a) /\ wr.cell? ⟨G, i * 9 + 4, none⟩ = some (.int .i64 b)) /\ (∀ j, wr.frozen? ⟨G, j, none⟩ = false) /\ G < wr.heap.size := by
 obtain ⟨L, cur, hL, hk, hc, ht, hg⟩ := h
 have hget : ∀ (j : Nat) (v : Value), (rawRow L)[j]? = some v -> cur[j]? = some v := by
  intro j v hv
  rw [<- ht, List.getElem?_take] at hv
  split at hv
  ·simpa using hv
  ·cases hv
 have hiL : i < L.length := by omega
 refine ⟨⟨L[i].s0, L[i].s1, ?_, ?_⟩, fun j => frozen_of_row _ _ j _ _ hc, some_lt hc⟩
 ·rw [cell_of_row _ _ _ _ _ _ hc]
  exact hget _ _ (flat_get Raw.cells 9 L (fun _ _ => rfl) i hiL 3 (by omega))
 ·rw [cell_of_row _ _ _ _ _ _ hc]
  exact hget _ _ (flat_get Raw.cells 9 L (fun _ _ => rfl) i hiL 4 (by omega))
theorem Setting.step {l : List Raw} {p q : Int} {G cap i : Nat} {W wr : World} (h : Setting l p q G cap i W wr) (hi : i < l.length) :
  Setting l p q G cap (i + 1) W ((wr.setCell ⟨G, i * 9 + 3, none⟩ (.int .i64 p)).setCell ⟨G, i * 9 + 4, none⟩ (.int .i64 q)) := by
 obtain ⟨L, cur, hL, hk, hc, ht, hg⟩ := h
 have hiL : i < L.length := by omega
 have h1 := heap_setCell_same wr G (i * 9 + 3) _ _ (.int .i64 p) hc
 have h2 := heap_setCell_same _ G (i * 9 + 4) _ _ (.int .i64 q) h1
 refine ⟨L.set i (L[i].sh p q), _, by simp [hL], fun k hk1 hk2 => ?_, h2, ?_, ?_⟩
 ·have hkL : k < L.length := by simpa using hk1
  rw [List.getElem_set]
  have := hk k hkL hk2
  by_cases e : i = k
  ·subst e
   rw [if_pos rfl, if_pos (by omega), this, if_neg (by omega)]
  ·rw [if_neg e, this]
   by_cases e2 : k < i
   ·rw [if_pos e2, if_pos (by omega)]
   ·rw [if_neg e2, if_neg (by omega)]
 ·rw [<- rawRow_set p q L i hiL, <- ht]
  simp [List.take_set]
 ·exact ⟨hg.os, hg.tape, hg.output, by simpa [World.setCell] using hg.size, fun k hk hne => by
   have hne' : k ≠ G := fun e => hne (by rw [e])
   rw [heap_setCell_other _ _ _ _ hne', heap_setCell_other _ _ _ _ hne']
   exact hg.block k hk hne⟩
theorem Setting.done {l : List Raw} {p q : Int} {G cap : Nat} {W wr : World} (h : Setting l p q G cap l.length W wr) : RawsAt wr wr.heap.size (some ⟨G, 0, none⟩) (l.map (Raw.sh p q)) := by
 obtain ⟨L, cur, hL, hk, hc, ht, hg⟩ := h
 have e : L = l.map (Raw.sh p q) := by
  apply List.ext_getElem (by simp [hL])
  intro k h1 h2
  have h3 : k < l.length := by simpa using h2
  rw [hk k h1 h3, if_pos h3, List.getElem_map]
 refine .inr ⟨G, 0, rfl, some_lt hc, fun k hkk j v hj => ?_⟩
 have hkl : k < l.length := by simpa using hkk
 have hjl : j < 9 := by have := (List.getElem?_eq_some_iff.1 hj).1; simpa [Raw.cells] using this
 rw [Nat.zero_add, cell_of_row _ _ _ _ _ _ hc]
 have hf := flat_get Raw.cells 9 (l.map (Raw.sh p q)) (fun _ _ => rfl) k hkk j hjl
 rw [hj] at hf
 have : (cur.toList.take (l.length * 9))[k * 9 + j]? = some v := by rw [ht, e]; exact hf
 rw [List.getElem?_take, if_pos (by omega)] at this
 simpa using this
section
variable (w : World)
theorem law_line (A : Option Addr) (n c : Nat) (l : List Raw) (x p q : Int) (hl : l.length = n) (hn : n * 104 <= 140737488355328) (hr : RawsAt w w.heap.size A l) (hx : ∀ a ∈ l, a.At w w.heap.size) :
  Calls Tryz.prog 5 #[.slice A n c, .int .i64 x, .agg #[.int .i64 p, .int .i64 q]] w fun e w' => e = .returned (.bool true) /\ Below w.heap.size w w' := by
 obtain ⟨hB0, hb0, hz⟩ := row_new w #[.int .i64 p, .int .i64 q] 54
 obtain ⟨W1, hW1⟩ : ∃ W1, W1 = (w.alloc (.cells #[.int .i64 p, .int .i64 q] 54)) := ⟨_, rfl⟩
 rw [<- hW1] at hB0 hb0 hz
 have HW := Lib.hid hW1
 have Hb0 := Lib.hid hb0
 have s1 : w.heap.size < W1.heap.size := by omega
 have Hl := Lib.hid hl
 have Hr := Lib.hid hr
 have Hx := Lib.hid hx
 have Hn := Lib.hid hn
 clear hW1 hz hb0 hl hr hx hn
 go_enter Tryz.func5, Tryz.ntmps5
 go_upto_region 1 with (fail)
 rw [<- HW.out]
 go_wp2_with (fail)
 refine (awake41_any W1).mono ?_
 rintro e W2 ⟨rfl, hB2⟩
 have hB02 := hB0.trans (hB2.mono hB0.size)
 have hb2 := gbox Hb0.out hB2 s1
 have s2 := some_lt hb2
 obtain ⟨hB3, h3, hz3⟩ := row_new W2 #[] 57
 obtain ⟨W3, hW3⟩ : ∃ W3, W3 = W2.alloc (.cells #[] 57) := ⟨_, rfl⟩
 rw [<- hW3] at hB3 h3 hz3
 have HW3 := Lib.hid hW3
 have H3 := Lib.hid h3
 have hB03 := hB02.trans (hB3.mono hB02.size)
 have Hb3 := Lib.hid (gbox hb2 hB3 s2)
 have Hr3 := Lib.hid ((RowsAt.below Hr.out hB03 (Nat.le_refl _)).more hB03.size)
 have Hx3 := Lib.hid (fun a ha => ((Hx.out a ha).below hB03 (Nat.le_refl _)).more hB03.size : ∀ a ∈ l, a.At W3 W3.heap.size)
 have HB3 := Lib.hid hB3
 have Hs2 := Lib.hid s2
 clear hW3 h3 hz3 hb2 hB3
 have tok : True := trivial
 go_upto_region 4 with (at_builtin; have _t := tok; rw [<- HW3.out]; refine wpList_copy_raws W3 rfl _ _ 30 rfl Tryz.underlying30 W2.heap.size rfl H3.out A n c l rfl Hl.out Hn.out Hr3.out ?_; intro G cap W4 ho4 hg4; clear _t tok)
 have hG : W2.heap.size <= G := by
  rcases ho4.2 with ⟨h, _⟩ | ⟨G', c', cur, h, hb, _⟩
  ·cases h
  ·cases h; exact hb
 have hst0 : Setting l p q G cap 0 W4 W4 := by
  rcases ho4.2 with ⟨h, _⟩ | ⟨G', c', cur, h, hb, hh, h1, h2, h3, h4⟩
  ·cases h
  ·cases h
   exact ⟨l, cur, rfl, fun k hk hk' => by rw [if_neg (by omega)], hh, by rw [Hl.out]; exact h4, grown_self _ _⟩
 have hB04 : Below w.heap.size w W4 := hB03.grown hg4 (by have := HB3.out.size; have := hB02.size; omega) (fun k hk => by cases hk; exact hB02.size)
 have hb4 : W4.heap[w.heap.size]? = some (.cells #[.int .i64 p, .int .i64 q] 54 (0, 0)) := (hg4.block _ (some_lt Hb3.out) (by simp; have := Hs2.out; omega)).trans Hb3.out
 have HG : w.heap.size < G := by have := Hs2.out; omega
 have HB04 := Lib.hid hB04
 have Hb4 := Lib.hid hb4
 have Hst0 := Lib.hid hst0
 clear ho4 hg4 hst0 hB04 hb4 hG
 go_wp2
 go_loopw [8] (fun s wr => ∃ i : Nat, i <= n /\ s = .int .i64 i /\ Setting l p q G cap i W4 wr) (fun s _ => n - (intOf s).toNat)
 case atStart => exact ⟨0, Nat.zero_le _, rfl, Hst0.out⟩
 case round =>
  obtain ⟨i, hi, rfl, hst⟩ := hrel
  have Hst := Lib.hid hst
  have hgr : W4.grownBy wr (some G) := by obtain ⟨_, _, _, _, _, _, h⟩ := hst; exact h
  have hbx := (hgr.block _ (some_lt Hb4.out) (by simp; omega)).trans Hb4.out
  have hb0 := cell_of_row _ _ 0 _ _ _ hbx
  have hb1 := cell_of_row _ _ 1 _ _ _ hbx
  simp at hb0 hb1
  have hsz := HB04.out.size
  have hsz2 := hgr.size
  have hwl := some_lt hbx
  have Hgr := Lib.hid hgr
  have Hbx := Lib.hid hbx
  clear hst hgr hbx
  by_cases hlt : i < n
  ·have hbn : (i : Int) <= 1400000000000 := by have := Hn.out; omega
   obtain ⟨⟨a, b, c3, c4⟩, cf, hGl⟩ := Hst.out.cell (by rw [Hl.out]; exact hlt)
   have Hs2' := Lib.hid (Hst.out.step (by rw [Hl.out]; exact hlt))
   go_wp2
   go_roundw
   case rel => exact ⟨i + 1, by omega, by go_num, Hs2'.out⟩
   case measure => simp [intOf]; omega
  ·obtain rfl : i = n := by omega
   have hst := Hst.out
   rw [<- Hl.out] at hst
   have hraws := hst.done
   have hB0r : Below w.heap.size w wr := HB04.out.grown Hgr.out hsz (fun k hk => by cases hk; exact Nat.le_of_lt HG)
   obtain ⟨ms, hms⟩ : ∃ ms, ms = l.map (Raw.sh p q) := ⟨_, rfl⟩
   rw [<- hms] at hraws
   have hmx : ∀ a ∈ ms, a.At wr wr.heap.size := by
    intro a ha
    rw [hms, List.mem_map] at ha
    obtain ⟨y, hy, rfl⟩ := ha
    exact Raw.sh_at (((Hx.out y hy).below hB0r (Nat.le_refl _)).more hB0r.size)
   have hml : ms.length = i := by rw [hms, List.length_map]; exact Hl.out
   have hmq : ∀ a ∈ ms, a.s0 = p /\ a.s1 = q := by
    intro a ha
    rw [hms, List.mem_map] at ha
    obtain ⟨y, _, rfl⟩ := ha
    exact ⟨rfl, rfl⟩
   have Hmq := Lib.hid hmq
   have Hmx := Lib.hid hmx
   have Hml := Lib.hid hml
   have Hraws := Lib.hid hraws
   have HB0r := Lib.hid hB0r
   have hn63 : i <= 9223372036854775807 := by have := Hn.out; omega
   have Hcon := Lib.hid (contrr_any wr (some ⟨G, 0, none⟩) i cap ms hml hn63 hraws hmx)
   clear hst hraws hB0r hms hmx hml hmq hb0 hb1 hsz hsz2 hwl hn63
   go_wp2_with (fail)
   refine Hcon.out.mono ?_
   rintro e W6 ⟨hB6, v, ok, rfl, hok⟩
   have hB06 := HB0r.out.trans (hB6.mono HB0r.out.size)
   cases ok with
   | false =>
    clear hok
    go_wp2
    go_ret
    exact ⟨rfl, hB06⟩
   | true =>
   obtain ⟨h8, hall, _⟩ := hok rfl
   have H8 := Lib.hid h8
   have Hall := Lib.hid hall
   have Hraw6 := Lib.hid (RowsAt.at_ Hraws.out hB6)
   have Hmx6 := Lib.hid (fun a ha => ((Hmx.out a ha).below hB6 (Nat.le_refl _)).more hB6.size : ∀ a ∈ ms, a.At W6 W6.heap.size)
   have Hbx6 := Lib.hid (gbox Hbx.out hB6 (some_lt Hbx.out))
   clear hok h8 hall
   go_upto_region 11 with (fail)
   go_wp2_with (fail)
   refine (sample_any W6).mono ?_
   rintro e W7 ⟨hB7, g, rfl, hg, hgs⟩
   have hB07 := hB06.trans (hB7.mono hB06.size)
   have hrd : g.r10 ≠ g.r6 /\ g.r10 ≠ g.r2 /\ g.r6 ≠ g.r2 := by
    obtain ⟨a, b, d, e, x0, x1, x2, x3, he⟩ := hgs
    rw [he]
    refine ⟨?_, ?_, ?_⟩ <;> (simp only [Smp.grp]; decide)
   obtain ⟨hB8, hb8, hz8⟩ := row_new W7 #[.string g.cur, .int .i64 g.Y, .int .i64 g.M, .int .i64 g.N, .slice g.cA g.cn g.cc, .int .i64 g.r0, .int .i64 g.r1, .int .i64 g.r2, .int .i64 g.r3, .int .i64 g.r4, .int .i64 g.r5, .int .i64 g.r6, .int .i64 g.r7, .int .i64 g.r8, .int .i64 g.r9, .int .i64 g.r10, .int .i64 g.r11, .int .i64 g.r12, .int .i64 g.r13, .int .i64 g.r14, .slice g.eA g.en g.ec] 29
   obtain ⟨W8, hW8⟩ : ∃ W8, W8 = W7.alloc (.cells #[.string g.cur, .int .i64 g.Y, .int .i64 g.M, .int .i64 g.N, .slice g.cA g.cn g.cc, .int .i64 g.r0, .int .i64 g.r1, .int .i64 g.r2, .int .i64 g.r3, .int .i64 g.r4, .int .i64 g.r5, .int .i64 g.r6, .int .i64 g.r7, .int .i64 g.r8, .int .i64 g.r9, .int .i64 g.r10, .int .i64 g.r11, .int .i64 g.r12, .int .i64 g.r13, .int .i64 g.r14, .slice g.eA g.en g.ec] 29) := ⟨_, rfl⟩
   rw [<- hW8] at hB8 hb8 hz8
   have HW8 := Lib.hid hW8
   have hB08 := hB07.trans (hB8.mono hB07.size)
   have Hg8 := Lib.hid (hg.at_ hB8)
   have Hgb := Lib.hid hb8
   have hrg8 := Lib.hid (grp_range hb8)
   have Hraw8 := Lib.hid (RowsAt.at_ (RowsAt.at_ Hraw6.out hB7) hB8)
   have Hmx8 := Lib.hid (fun a ha => ((((Hmx6.out a ha).below hB7 (Nat.le_refl _)).more hB7.size).below hB8 (Nat.le_refl _)).more hB8.size : ∀ a ∈ ms, a.At W8 W8.heap.size)
   have hbx7 := gbox Hbx6.out hB7 (some_lt Hbx6.out)
   have Hbx8 := Lib.hid (gbox hbx7 hB8 (some_lt hbx7))
   have h1c : ∀ v ∈ (#[.string g.cur, .int .i64 g.Y, .int .i64 g.M, .int .i64 g.N, .slice g.cA g.cn g.cc, .int .i64 g.r0, .int .i64 g.r1, .int .i64 g.r2, .int .i64 g.r3, .int .i64 g.r4, .int .i64 g.r5, .int .i64 g.r6, .int .i64 g.r7, .int .i64 g.r8, .int .i64 g.r9, .int .i64 g.r10, .int .i64 g.r11, .int .i64 g.r12, .int .i64 g.r13, .int .i64 g.r14, .slice g.eA g.en g.ec] : Array Value).toList, v.oneCell' = true := by simp [Value.oneCell']
   have s8 := some_lt hb8
   obtain ⟨⟨⟨fa, fb, fc, fd⟩, er⟩, has⟩ : ∃ r, Gr.assoc g (ms.map Raw.cnt) x = r := ⟨_, rfl⟩
   obtain ⟨kk, hK0⟩ : ∃ kk, kk = Po.pk 7 (Gr.apost g (ms.map Raw.cnt) x) := ⟨_, rfl⟩
   obtain ⟨ee, hE0⟩ : ∃ ee, ee = Po.pk x (Gr.apost g (ms.map Raw.cnt) x) := ⟨_, rfl⟩
   obtain ⟨oo, hO0⟩ : ∃ oo, oo = Po.pk (-1) (Gr.apost g (ms.map Raw.cnt) x) := ⟨_, rfl⟩
   obtain ⟨ep, her0⟩ : ∃ ep, ep = (Gr.apost g (ms.map Raw.cnt) x).2 := ⟨_, rfl⟩
   obtain ⟨ps, hps0⟩ : ∃ ps, ps = Po.pl (Gr.apost g (ms.map Raw.cnt) x) := ⟨_, rfl⟩
   obtain ⟨np, hnp0⟩ : ∃ np, np = ps.length := ⟨_, rfl⟩
   have HN3 : Hid (np <= 3) := by show _ <= _; rw [hnp0, hps0]; exact Nat.le_trans (Po.pl_length _) (Gr.apost_len _ _ _)
   have HAP := Lib.hid (show (Po.pk 7 (Gr.apost g (ms.map Raw.cnt) x) = kk /\ Po.pk x (Gr.apost g (ms.map Raw.cnt) x) = ee /\ Po.pk (-1) (Gr.apost g (ms.map Raw.cnt) x) = oo) /\ (Gr.apost g (ms.map Raw.cnt) x).2 = ep /\ Po.pl (Gr.apost g (ms.map Raw.cnt) x) = ps from ⟨⟨hK0.symm, hE0.symm, hO0.symm⟩, her0.symm, hps0.symm⟩)
   have HNP := Lib.hid hnp0
   have HAS := Lib.hid has
   have HERR : Hid (er ≠ 0 ∨ ep ≠ 0 -> np = 0) := Lib.hid (fun h => by
    have h2 : Po.pl (Gr.apost g (ms.map Raw.cnt) x) = [] := Gr.line_error (by rw [has]; rw [her0] at h; exact h)
    rw [hnp0, hps0, h2]; rfl)
   have HLN : Hid (er = 0 -> ep = 0 -> Po.part ps g.r10 = fc /\ Po.part ps g.r6 = fd /\ Po.part ps g.r2 = -(fc + fd) /\ (fc = 0 -> fd = 0 -> ps = [])) := Lib.hid (fun h1 h2 => Gr.line_parts (p := 0) (q := 0) (er := 0) (by rw [has, h1]) (by rw [<- her0, h2]) hps0.symm hrd)
   have hqpos : ms.map Raw.cnt ≠ [] -> 0 < q := fun h => by
    match ms, h with
    | y :: ys, _ =>
     have h1 := Hall.out y List.mem_cons_self
     have h2 := (Raw.ok_parts h1).1
     rw [(Hmq.out y List.mem_cons_self).1, (Hmq.out y List.mem_cons_self).2] at h2
     exact (Raw.quot_ok h2).1
   have hshd : Gr.Shared p q (ms.map Raw.cnt) := by
    intro y hy
    rw [List.mem_map] at hy
    obtain ⟨a, ha, rfl⟩ := hy
    obtain ⟨h1, h2⟩ := Hmq.out a ha
    exact ⟨by show Int.tdiv a.s0 _ = _; rw [h1, h2], by show Int.tdiv a.s1 _ = _; rw [h1, h2]⟩
   have hbdd := Gr.assoc_bd (g := g) (x := x) (m := ms.map Raw.cnt) (by
    intro y hy
    rw [List.mem_map] at hy
    obtain ⟨a, ha, rfl⟩ := hy
    obtain ⟨k1, k2, k3, k4⟩ := Raw.ok_parts (Hall.out a ha)
    have k5 := Raw.few_ok k4
    exact ⟨Raw.red_ok (Raw.quot_ok k1), k5.1, k5.2⟩)
   rw [has] at hbdd
   have HBD := Lib.hid hbdd
   have hSH := Gr.assoc_shared (g := g) (x := x) (p := p) (q := q) hshd hqpos
   rw [has] at hSH
   have HSH := Lib.hid hSH
   clear hg hgs hrd hb8 hz8 hW8 hbx7 has hK0 hE0 hO0 her0 hps0 hnp0 hqpos hshd hSH hbdd
   go_upto_region 12 with (refine wpList_store_new rfl 29 _ _ rfl 29 _ #[.string g.cur, .int .i64 g.Y, .int .i64 g.M, .int .i64 g.N, .slice g.cA g.cn g.cc, .int .i64 g.r0, .int .i64 g.r1, .int .i64 g.r2, .int .i64 g.r3, .int .i64 g.r4, .int .i64 g.r5, .int .i64 g.r6, .int .i64 g.r7, .int .i64 g.r8, .int .i64 g.r9, .int .i64 g.r10, .int .i64 g.r11, .int .i64 g.r12, .int .i64 g.r13, .int .i64 g.r14, .slice g.eA g.en g.ec] rfl rfl rfl h1c grpSize ?_)
   rw [<- HW8.out]
   clear h1c
   have hVA0 : Below W8.heap.size W8 W8.drew := below_drawn (Below.refl _ _) 1
   refine wp_region_held (S := Below W8.heap.size W8) (by kernel_rfl) ?_
   change wpAnyH _ _ _ _ _ _ _ _ (World.drew W8)
   obtain ⟨WA0, hWd⟩ : ∃ W0, W0 = W8.drew := ⟨_, rfl⟩
   rw [<- hWd] at hVA0 ⊢
   clear hWd
   refine wpAnyH_take (i := 0) (v := .agg #[.string g.cur, .int .i64 g.Y, .int .i64 g.M, .int .i64 g.N, .slice g.cA g.cn g.cc, .int .i64 g.r0, .int .i64 g.r1, .int .i64 g.r2, .int .i64 g.r3, .int .i64 g.r4, .int .i64 g.r5, .int .i64 g.r6, .int .i64 g.r7, .int .i64 g.r8, .int .i64 g.r9, .int .i64 g.r10, .int .i64 g.r11, .int .i64 g.r12, .int .i64 g.r13, .int .i64 g.r14, .slice g.eA g.en g.ec]) rfl (by kernel_rfl) (by kernel_rfl) (by kernel_rfl) (fun _ _ _ h => h) (yieldsIf_load_mid (by rfl) 29 _ rfl W7.heap.size 0 rfl [.string g.cur, .int .i64 g.Y, .int .i64 g.M, .int .i64 g.N, .slice g.cA g.cn g.cc, .int .i64 g.r0, .int .i64 g.r1, .int .i64 g.r2, .int .i64 g.r3, .int .i64 g.r4, .int .i64 g.r5, .int .i64 g.r6, .int .i64 g.r7, .int .i64 g.r8, .int .i64 g.r9, .int .i64 g.r10, .int .i64 g.r11, .int .i64 g.r12, .int .i64 g.r13, .int .i64 g.r14, .slice g.eA g.en g.ec] _ (fun W' hS' => range_below hrg8.out hS' s8) Tryz.underlying29 rfl grpSize) hVA0 ?_
   try simp only [Act.put, z]
   refine wpAnyH_take (i := 1) (v := .slice (some ⟨G, 0, none⟩) i cap) rfl (by kernel_rfl) (by kernel_rfl) (by kernel_rfl) (fun _ _ _ h => h) (.inl ⟨by rfl, fun W' hS' => by go_simp⟩) hVA0 ?_
   try simp only [Act.put, z]
   refine wpAnyH_take (i := 3) (v := .int .i64 x) rfl (by kernel_rfl) (by kernel_rfl) (by kernel_rfl) (fun _ _ _ h => h) (.inl ⟨by rfl, fun W' hS' => by go_simp⟩) hVA0 ?_
   try simp only [Act.put, z]
   refine wpAnyH_letters fun md' ops' Q' a' hlm hlo hlq hla => ?_
   have fin : ∀ (W' : World) (Ao : Option Addr) (co p2 : Nat) , Below W8.heap.size W8 W' -> W8.heap.size <= p2 -> W'.heap[p2]? = some (.cells #[.int .i64 0, .int .i64 0, .int .i64 0, .int .i64 0] 37 (0, 0)) -> wpAnyH Tryz.prog md' ops' Q' (Below W8.heap.size W8) 2 #[true, true, true, true, true, true, true, true, true, false, false] ((((((a'.put (some 46) (.slice Ao i co)).put (some 48) (.tuple #[.agg #[.int .i64 fa, .int .i64 fb, .int .i64 fc, .int .i64 fd], .int .i64 er])).put (some 43) (.tuple #[.agg #[.int .i64 fa, .int .i64 fb, .int .i64 fc, .int .i64 fd], .int .i64 er])).put (some 49) (.agg #[.int .i64 fa, .int .i64 fb, .int .i64 fc, .int .i64 fd])).put (some 50) (.int .i64 er)).put (some 12) (.pointer (some ⟨p2, 0, none⟩))) W' := by
    intro W' Ao co p2 hS hp hrw
    subst hlm hlo hlq hla
    try simp only [Act.put, z]
    refine wpAnyH_ready (rs := [9]) (by kernel_rfl) (by simp) (AllReadyH.cons rfl (fun K hK => ?_) AllReadyH.nil)
    rw [if_pos (by rfl)]
    refine wp_store_row 37 _ _ none rfl rfl p2 37 _ #[.int .i64 fa, .int .i64 fb, .int .i64 fc, .int .i64 fd] rfl rfl hrw rfl figdSize (by simp [Value.oneCell']) ?_
    have hrw2 := setRow_heap W' p2 _ #[.int .i64 fa, .int .i64 fb, .int .i64 fc, .int .i64 fd] _ _ hrw
    have hS2 := below_setRow hS hp #[.int .i64 fa, .int .i64 fb, .int .i64 fc, .int .i64 fd]
    refine hK.out _ _ hS2 (fun _ => ?_)
    clear hK K
    try simp only [Act.put, z]
    refine wpAnyH_ready (rs := [10]) (by kernel_rfl) (by simp) (AllReadyH.cons rfl (fun K hK => ?_) AllReadyH.nil)
    go_simp
    refine hK.out _ _ hS2 (fun _ => ?_)
    clear hK K
    try simp only [Act.put, z]
    refine wpAnyH_done (by kernel_rfl) ?_ _
    try simp only [Act.put, z]
    obtain ⟨W9, hWn⟩ : ∃ W6, W6 = W'.setRow p2 #[.int .i64 fa, .int .i64 fb, .int .i64 fc, .int .i64 fd] := ⟨_, rfl⟩
    rw [<- hWn] at hrw2 hS2 ⊢
    clear hWn hS hrw
    have hB09 := hB08.trans (hS2.mono hB08.size)
    have Hg9 := Lib.hid (Hg8.out.at_ hS2)
    have hgb9 := (hS2.block _ s8).trans Hgb.out
    have Hgb9 := Lib.hid hgb9
    have hrg9 := Lib.hid (grp_range hgb9)
    have s9 := some_lt hgb9
    have Hraw9 := Lib.hid (RowsAt.at_ Hraw8.out hS2)
    have Hmx9 := Lib.hid (fun a ha => ((Hmx8.out a ha).below hS2 (Nat.le_refl _)).more hS2.size : ∀ a ∈ ms, a.At W9 W9.heap.size)
    have Hbx9 := Lib.hid ((hS2.block _ (some_lt Hbx8.out)).trans Hbx8.out)
    obtain ⟨p1, hp1⟩ : ∃ p1, p1 = p2 := ⟨_, rfl⟩
    rw [<- hp1] at hrw2 ⊢
    have Hfx := Lib.hid hrw2
    clear hp1 hrw2 hgb9 hp hS2
    have hVB0 : Below W9.heap.size W9 W9.drew := below_drawn (Below.refl _ _) 1
    go_upto_region 13 with (fail)
    refine wp_region_held (S := Below W9.heap.size W9) (by kernel_rfl) ?_
    change wpAnyH _ _ _ _ _ _ _ _ (World.drew W9)
    obtain ⟨WB0, hWd⟩ : ∃ W0, W0 = W9.drew := ⟨_, rfl⟩
    rw [<- hWd] at hVB0 ⊢
    clear hWd
    refine wpAnyH_take (i := 0) (v := .agg #[.string g.cur, .int .i64 g.Y, .int .i64 g.M, .int .i64 g.N, .slice g.cA g.cn g.cc, .int .i64 g.r0, .int .i64 g.r1, .int .i64 g.r2, .int .i64 g.r3, .int .i64 g.r4, .int .i64 g.r5, .int .i64 g.r6, .int .i64 g.r7, .int .i64 g.r8, .int .i64 g.r9, .int .i64 g.r10, .int .i64 g.r11, .int .i64 g.r12, .int .i64 g.r13, .int .i64 g.r14, .slice g.eA g.en g.ec]) rfl (by kernel_rfl) (by kernel_rfl) (by kernel_rfl) (fun _ _ _ h => h) (yieldsIf_load_mid (by rfl) 29 _ rfl W7.heap.size 0 rfl [.string g.cur, .int .i64 g.Y, .int .i64 g.M, .int .i64 g.N, .slice g.cA g.cn g.cc, .int .i64 g.r0, .int .i64 g.r1, .int .i64 g.r2, .int .i64 g.r3, .int .i64 g.r4, .int .i64 g.r5, .int .i64 g.r6, .int .i64 g.r7, .int .i64 g.r8, .int .i64 g.r9, .int .i64 g.r10, .int .i64 g.r11, .int .i64 g.r12, .int .i64 g.r13, .int .i64 g.r14, .slice g.eA g.en g.ec] _ (fun W' hS' => range_below hrg9.out hS' s9) Tryz.underlying29 rfl grpSize) hVB0 ?_
    try simp only [Act.put, z]
    refine wpAnyH_take (i := 1) (v := .slice (some ⟨G, 0, none⟩) i cap) rfl (by kernel_rfl) (by kernel_rfl) (by kernel_rfl) (fun _ _ _ h => h) (.inl ⟨by rfl, fun W' hS' => by go_simp⟩) hVB0 ?_
    try simp only [Act.put, z]
    refine wpAnyH_take (i := 3) (v := .int .i64 x) rfl (by kernel_rfl) (by kernel_rfl) (by kernel_rfl) (fun _ _ _ h => h) (.inl ⟨by rfl, fun W' hS' => by go_simp⟩) hVB0 ?_
    try simp only [Act.put, z]
    refine wpAnyH_letters fun md' ops' Q' a' hlm hlo hlq hla => ?_
    have fin : ∀ (W' : World) (Ao : Option Addr) (co p2 : Nat) (Ap : Option Addr) (cp : Nat) , Below W9.heap.size W9 W' -> PrtsAt W' W'.heap.size Ap ps -> (ps ≠ [] -> ∀ ad, Ap = some ad -> ad.block ≠ p2) -> W9.heap.size <= p2 -> W'.heap[p2]? = some (.cells #[.int .i64 0, .int .i64 0, .int .i64 0, .int .i64 0, .slice none 0 0] 49 (0, 0)) -> wpAnyH Tryz.prog md' ops' Q' (Below W9.heap.size W9) 2 #[true, true, true, true, true, true, true, true, true, false, false] ((((((a'.put (some 54) (.slice Ao i co)).put (some 56) (.tuple #[.agg #[.int .i64 kk, .int .i64 ee, .int .i64 oo, .int .i64 0, .slice Ap np cp], .int .i64 ep])).put (some 51) (.tuple #[.agg #[.int .i64 kk, .int .i64 ee, .int .i64 oo, .int .i64 0, .slice Ap np cp], .int .i64 ep])).put (some 57) (.agg #[.int .i64 kk, .int .i64 ee, .int .i64 oo, .int .i64 0, .slice Ap np cp])).put (some 58) (.int .i64 ep)).put (some 14) (.pointer (some ⟨p2, 0, none⟩))) W' := by
     intro W' Ao co p2 Ap cp hS hPa hne hp hrw
     subst hlm hlo hlq hla
     try simp only [Act.put, z]
     refine wpAnyH_ready (rs := [9]) (by kernel_rfl) (by simp) (AllReadyH.cons rfl (fun K hK => ?_) AllReadyH.nil)
     rw [if_pos (by rfl)]
     refine wp_store_row 49 _ _ none rfl rfl p2 49 _ #[.int .i64 kk, .int .i64 ee, .int .i64 oo, .int .i64 0, .slice Ap np cp] rfl rfl hrw rfl postSize (by simp [Value.oneCell']) ?_
     have hPb := RowsAt.stored hPa hne #[.int .i64 kk, .int .i64 ee, .int .i64 oo, .int .i64 0, .slice Ap np cp]
     have hrw2 := setRow_heap W' p2 _ #[.int .i64 kk, .int .i64 ee, .int .i64 oo, .int .i64 0, .slice Ap np cp] _ _ hrw
     have hS2 := below_setRow hS hp #[.int .i64 kk, .int .i64 ee, .int .i64 oo, .int .i64 0, .slice Ap np cp]
     refine hK.out _ _ hS2 (fun _ => ?_)
     clear hK K
     try simp only [Act.put, z]
     refine wpAnyH_ready (rs := [10]) (by kernel_rfl) (by simp) (AllReadyH.cons rfl (fun K hK => ?_) AllReadyH.nil)
     go_simp
     refine hK.out _ _ hS2 (fun _ => ?_)
     clear hK K
     try simp only [Act.put, z]
     refine wpAnyH_done (by kernel_rfl) ?_ _
     try simp only [Act.put, z]
     obtain ⟨W10, hWn⟩ : ∃ W6, W6 = W'.setRow p2 #[.int .i64 kk, .int .i64 ee, .int .i64 oo, .int .i64 0, .slice Ap np cp] := ⟨_, rfl⟩
     rw [<- hWn] at hrw2 hS2 hPb ⊢
     clear hWn hS hrw hPa hne
     have hB010 := hB09.trans (hS2.mono hB09.size)
     have Hpb := Lib.hid hPb
     have Hpx := Lib.hid hrw2
     have hfx := (hS2.block _ (some_lt Hfx.out)).trans Hfx.out
     have hgx := (hS2.block _ s9).trans Hgb9.out
     have hbx := (hS2.block _ (some_lt Hbx9.out)).trans Hbx9.out
     have hpx := some_lt hrw2
     have hfl := some_lt hfx
     have hgl := some_lt hgx
     have hbl := some_lt hbx
     have x4 := cell_of_row _ _ 4 _ _ _ hrw2
     simp at x4
     have Hfx10 := Lib.hid hfx
     have Hgx10 := Lib.hid hgx
     have Hbx10 := Lib.hid hbx
     clear hPb hrw2 hfx hgx hbx
     by_cases h1 : er = 0
     case neg =>
      have h1b : (er != 0) = true := by simp [h1]
      have h0 := HERR.out (.inl h1)
      subst h0
      clear h1
      go_wp2
      go_ret
      exact ⟨by simp, hB010⟩
     have h1b : (er != 0) = false := by simp [h1]
     by_cases h2 : ep = 0
     case neg =>
      have h2b : (ep != 0) = true := by simp [h2]
      have h0 := HERR.out (.inr h2)
      subst h0
      clear h2 h1
      go_wp2
      go_ret
      exact ⟨by simp, hB010⟩
     have h2b : (ep != 0) = false := by simp [h2]
     obtain ⟨q1, q2, q3, q4⟩ := HLN.out h1 h2
     have Q1 := Lib.hid q1
     have Q2 := Lib.hid q2
     have Q3 := Lib.hid q3
     have Q4 := Lib.hid q4
     clear h1 h2 q1 q2 q3 q4
     have hVC0 : Below W10.heap.size W10 W10.drew := below_drawn (Below.refl _ _) 1
     have HPx := Lib.hid (range_row (cs := [.int .i64 kk, .int .i64 ee, .int .i64 oo, .int .i64 0, .slice Ap np cp]) Hpx.out)
     go_upto_region 16 with (fail)
     refine wp_region_held (S := Below W10.heap.size W10) (by kernel_rfl) ?_
     change wpAnyH _ _ _ _ _ _ _ _ (World.drew W10)
     obtain ⟨WC0, hWd⟩ : ∃ W0, W0 = W10.drew := ⟨_, rfl⟩
     rw [<- hWd] at hVC0 ⊢
     clear hWd
     refine wpAnyH_take (i := 0) (v := .agg #[.int .i64 kk, .int .i64 ee, .int .i64 oo, .int .i64 0, .slice Ap np cp]) rfl (by kernel_rfl) (by kernel_rfl) (by kernel_rfl) (fun _ _ _ h => h) (yieldsIf_load_mid (by rfl) 49 _ rfl p2 0 rfl [.int .i64 kk, .int .i64 ee, .int .i64 oo, .int .i64 0, .slice Ap np cp] _ (fun W' hS' => range_below HPx.out hS' hpx) Tryz.underlying49 rfl postSize) hVC0 ?_
     try simp only [Act.put, z]
     refine wpAnyH_take (i := 1) (v := .pointer (some ⟨W7.heap.size, 5, none⟩)) rfl (by kernel_rfl) (by kernel_rfl) (by kernel_rfl) (fun _ _ _ h => h) (.inl ⟨by rfl, fun W' hS' => by go_simp⟩) hVC0 ?_
     try simp only [Act.put, z]
     refine wpAnyH_take (i := 2) (v := .pointer (some ⟨W7.heap.size, 15, none⟩)) rfl (by kernel_rfl) (by kernel_rfl) (by kernel_rfl) (fun _ _ _ h => h) (.inl ⟨by rfl, fun W' hS' => by go_simp⟩) hVC0 ?_
     try simp only [Act.put, z]
     refine wpAnyH_take (i := 3) (v := .int .i64 g.r10) rfl (by kernel_rfl) (by kernel_rfl) (by kernel_rfl) (fun _ _ _ h => h) (.inl ⟨by rfl, fun W' hS' => by have hc := cell_of_row _ _ 15 _ _ _ ((hS'.block _ hgl).trans Hgx10.out); simp at hc; go_simp⟩) hVC0 ?_
     try simp only [Act.put, z]
     refine wpAnyH_take (i := 5) (v := .agg #[.int .i64 kk, .int .i64 ee, .int .i64 oo, .int .i64 0, .slice Ap np cp]) rfl (by kernel_rfl) (by kernel_rfl) (by kernel_rfl) (fun _ _ _ h => h) (yieldsIf_load_mid (by rfl) 49 _ rfl p2 0 rfl [.int .i64 kk, .int .i64 ee, .int .i64 oo, .int .i64 0, .slice Ap np cp] _ (fun W' hS' => range_below HPx.out hS' hpx) Tryz.underlying49 rfl postSize) hVC0 ?_
     try simp only [Act.put, z]
     refine wpAnyH_take (i := 6) (v := .pointer (some ⟨W7.heap.size, 5, none⟩)) rfl (by kernel_rfl) (by kernel_rfl) (by kernel_rfl) (fun _ _ _ h => h) (.inl ⟨by rfl, fun W' hS' => by go_simp⟩) hVC0 ?_
     try simp only [Act.put, z]
     refine wpAnyH_take (i := 7) (v := .pointer (some ⟨W7.heap.size, 11, none⟩)) rfl (by kernel_rfl) (by kernel_rfl) (by kernel_rfl) (fun _ _ _ h => h) (.inl ⟨by rfl, fun W' hS' => by go_simp⟩) hVC0 ?_
     try simp only [Act.put, z]
     refine wpAnyH_take (i := 8) (v := .int .i64 g.r6) rfl (by kernel_rfl) (by kernel_rfl) (by kernel_rfl) (fun _ _ _ h => h) (.inl ⟨by rfl, fun W' hS' => by have hc := cell_of_row _ _ 11 _ _ _ ((hS'.block _ hgl).trans Hgx10.out); simp at hc; go_simp⟩) hVC0 ?_
     try simp only [Act.put, z]
     refine wpAnyH_take (i := 10) (v := .agg #[.int .i64 kk, .int .i64 ee, .int .i64 oo, .int .i64 0, .slice Ap np cp]) rfl (by kernel_rfl) (by kernel_rfl) (by kernel_rfl) (fun _ _ _ h => h) (yieldsIf_load_mid (by rfl) 49 _ rfl p2 0 rfl [.int .i64 kk, .int .i64 ee, .int .i64 oo, .int .i64 0, .slice Ap np cp] _ (fun W' hS' => range_below HPx.out hS' hpx) Tryz.underlying49 rfl postSize) hVC0 ?_
     try simp only [Act.put, z]
     refine wpAnyH_take (i := 11) (v := .pointer (some ⟨W7.heap.size, 5, none⟩)) rfl (by kernel_rfl) (by kernel_rfl) (by kernel_rfl) (fun _ _ _ h => h) (.inl ⟨by rfl, fun W' hS' => by go_simp⟩) hVC0 ?_
     try simp only [Act.put, z]
     refine wpAnyH_take (i := 12) (v := .pointer (some ⟨W7.heap.size, 7, none⟩)) rfl (by kernel_rfl) (by kernel_rfl) (by kernel_rfl) (fun _ _ _ h => h) (.inl ⟨by rfl, fun W' hS' => by go_simp⟩) hVC0 ?_
     try simp only [Act.put, z]
     refine wpAnyH_take (i := 13) (v := .int .i64 g.r2) rfl (by kernel_rfl) (by kernel_rfl) (by kernel_rfl) (fun _ _ _ h => h) (.inl ⟨by rfl, fun W' hS' => by have hc := cell_of_row _ _ 7 _ _ _ ((hS'.block _ hgl).trans Hgx10.out); simp at hc; go_simp⟩) hVC0 ?_
     try simp only [Act.put, z]
     refine wpAnyH_ready (rs := [4]) (by kernel_rfl) (by simp) (AllReadyH.cons rfl (fun K hK => ?_) AllReadyH.nil)
     go_simp
     refine (partl_any WC0 kk ee oo 0 Ap np cp ps g.r10 HNP.out.symm (by have := HN3.out; omega) ((Hpb.out.below hVC0 (Nat.le_refl _)).more hVC0.size)).mono ?_
     rw [Q1.out]
     rintro e WC1 ⟨rfl, hBc⟩
     have hVC1 := hVC0.trans (hBc.mono hVC0.size)
     clear hBc
     refine hK.out _ _ hVC1 (fun _ => ?_)
     clear hK K
     try simp only [Act.put, z]
     refine wpAnyH_ready (rs := [9]) (by kernel_rfl) (by simp) (AllReadyH.cons rfl (fun K hK => ?_) AllReadyH.nil)
     go_simp
     refine (partl_any WC1 kk ee oo 0 Ap np cp ps g.r6 HNP.out.symm (by have := HN3.out; omega) ((Hpb.out.below hVC1 (Nat.le_refl _)).more hVC1.size)).mono ?_
     rw [Q2.out]
     rintro e WC2 ⟨rfl, hBc⟩
     have hVC2 := hVC1.trans (hBc.mono hVC1.size)
     clear hBc
     refine hK.out _ _ hVC2 (fun _ => ?_)
     clear hK K
     try simp only [Act.put, z]
     refine wpAnyH_ready (rs := [14]) (by kernel_rfl) (by simp) (AllReadyH.cons rfl (fun K hK => ?_) AllReadyH.nil)
     go_simp
     refine (partl_any WC2 kk ee oo 0 Ap np cp ps g.r2 HNP.out.symm (by have := HN3.out; omega) ((Hpb.out.below hVC2 (Nat.le_refl _)).more hVC2.size)).mono ?_
     rw [Q3.out]
     rintro e WC3 ⟨rfl, hBc⟩
     have hVC3 := hVC2.trans (hBc.mono hVC2.size)
     clear hBc
     refine hK.out _ _ hVC3 (fun _ => ?_)
     clear hK K
     try simp only [Act.put, z]
     refine wpAnyH_ready (rs := [15]) (by kernel_rfl) (by simp) (AllReadyH.cons rfl (fun K hK => ?_) AllReadyH.nil)
     go_simp
     refine hK.out _ _ hVC3 (fun _ => ?_)
     clear hK K
     try simp only [Act.put, z]
     refine wpAnyH_ready (rs := [16]) (by kernel_rfl) (by simp) (AllReadyH.cons rfl (fun K hK => ?_) AllReadyH.nil)
     go_simp
     refine hK.out _ _ hVC3 (fun _ => ?_)
     clear hK K
     try simp only [Act.put, z]
     refine wpAnyH_ready (rs := [17]) (by kernel_rfl) (by simp) (AllReadyH.cons rfl (fun K hK => ?_) AllReadyH.nil)
     go_simp
     refine hK.out _ _ hVC3 (fun _ => ?_)
     clear hK K
     try simp only [Act.put, z]
     refine wpAnyH_done (by kernel_rfl) ?_ _
     try simp only [Act.put, z]
     have hB011 := hB010.trans (hVC3.mono hB010.size)
     have p4 := cell_of_row _ _ 4 _ _ _ (gbox Hpx.out hVC3 hpx)
     have f0 := cell_of_row _ _ 0 _ _ _ (gbox Hfx10.out hVC3 hfl)
     have f1 := cell_of_row _ _ 1 _ _ _ (gbox Hfx10.out hVC3 hfl)
     have f2 := cell_of_row _ _ 2 _ _ _ (gbox Hfx10.out hVC3 hfl)
     have f3 := cell_of_row _ _ 3 _ _ _ (gbox Hfx10.out hVC3 hfl)
     have b0 := cell_of_row _ _ 0 _ _ _ (gbox Hbx10.out hVC3 hbl)
     have b1 := cell_of_row _ _ 1 _ _ _ (gbox Hbx10.out hVC3 hbl)
     simp at p4 f0 f1 f2 f3 b0 b1
     obtain ⟨z1, z2, z3⟩ : p2 < WC3.heap.size /\ p1 < WC3.heap.size /\ w.heap.size < WC3.heap.size := by have := hVC3.size; omega
     obtain ⟨tt, htt⟩ : ∃ tt, tt = -(fc + fd) := ⟨_, rfl⟩
     rw [<- htt]
     obtain ⟨⟨u0, u1⟩, v0, v1⟩ : (-1000000000000001 <= fc /\ fc <= 1000000000000001) /\ -1000000000000001 <= fd /\ fd <= 1000000000000001 := HBD.out
     have hsum : fc + fd + tt = 0 := by omega
     have hsb : (fc + fd + tt != 0) = false := by simp [hsum]
     have hn3 : (np : Int) <= 3 := by have := HN3.out; omega
     obtain ⟨g0, g1⟩ := HSH.out
     clear x4 hpx hfl hgl hbl htt hVC0 hVC1 hVC2 hVC3 hS2
     by_cases hp : p = 0
     ·have hpb : (p == 0) = true := by simp [hp]
      obtain ⟨e1, e2⟩ := g0 hp
      have hps := Q4.out e1 e2
      have hnp0 : np = 0 := by rw [HNP.out, hps]; rfl
      subst hnp0
      by_cases hq : p = q
      ·have hqb : (p != q) = false := by simp [hq]
       obtain ⟨e3, e4⟩ := g1 hq
       have hcb : (fc == fa) = true := by simp [e3]
       have hdb : (fd == fb) = true := by simp [e4]
       clear g0 g1 hp hq e1 e2 e3 e4 hps
       go_wp2
       go_ret
       exact ⟨by simp, hB011⟩
      ·have hqb : (p != q) = true := by simp [hq]
       clear g0 g1 hp hq e1 e2 hps
       go_wp2
       go_ret
       exact ⟨by simp, hB011⟩
     ·have hpb : (p == 0) = false := by simp [hp]
      by_cases hq : p = q
      ·have hqb : (p != q) = false := by simp [hq]
       obtain ⟨e3, e4⟩ := g1 hq
       have hcb : (fc == fa) = true := by simp [e3]
       have hdb : (fd == fb) = true := by simp [e4]
       clear g0 g1 hp hq e3 e4
       go_wp2
       go_ret
       exact ⟨by simp, hB011⟩
      ·have hqb : (p != q) = true := by simp [hq]
       clear g0 g1 hp hq
       go_wp2
       go_ret
       exact ⟨by simp, hB011⟩
    subst hlm hlo hlq hla
    refine wpAnyH_ready (rs := [2, 8]) (by kernel_rfl) (by simp) (AllReadyH.cons rfl (fun K hK => ?_) (AllReadyH.cons rfl (fun K hK => ?_) AllReadyH.nil))
    ·skip
     have Hown := Lib.hid (own41_any WB0 (some ⟨G, 0, none⟩) i cap ms Hml.out (by have := Hml.out; have := H8.out; omega) (RowsAt.at_ Hraw9.out hVB0) (fun a ha => ((Hmx9.out a ha).below hVB0 (Nat.le_refl _)).more hVB0.size) Hall.out)
     go_simp
     refine Hown.out.mono ?_
     rintro e VB1 ⟨hBo, Ao, co, ds, rfl, hdl, hds, hdo⟩
     rw [Hml.out]
     have hVo := hVB0.trans (hBo.mono hVB0.size)
     clear Hown
     refine hK.out _ _ hVo (fun _ => ?_)
     clear hK K
     try simp only [Act.put, z]
     refine wpAnyH_ready (rs := [4, 8]) (by kernel_rfl) (by simp) (AllReadyH.cons rfl (fun K hK => ?_) (AllReadyH.cons rfl (fun K hK => ?_) AllReadyH.nil))
     ·skip
      have Hof := Lib.hid (apostd_any VB1 g Ao i co ds (ms.map Raw.cnt) x (hdl.trans Hml.out) (by have := Hml.out; have := H8.out; omega) hds hdo (Hg9.out.at_ hVo))
      go_simp
      refine Hof.out.mono ?_
      rintro e VB2 hpp
      obtain ⟨hBf, Ap, cp, hfp, rfl, hPp⟩ := PostingPost.one hpp
      clear hpp
      have HH := HAP.out
      rw [HH.2.2] at hPp
      rw [HH.1.1, HH.1.2.1, HH.1.2.2, HH.2.1, HH.2.2, <- HNP.out]
      have hVf := hVo.trans (hBf.mono hVo.size)
      clear Hof HH
      refine hK.out _ _ hVf (fun _ => ?_)
      clear hK K
      try simp only [Act.put, z]
      refine wpAnyH_take (i := 5) (v := .tuple #[.agg #[.int .i64 kk, .int .i64 ee, .int .i64 oo, .int .i64 0, .slice Ap np cp], .int .i64 ep]) rfl (by kernel_rfl) (by kernel_rfl) (by kernel_rfl) (fun _ _ _ h => h) (.inl ⟨by rfl, fun W' hS' => by go_simp⟩) hVf ?_
      try simp only [Act.put, z]
      refine wpAnyH_take (i := 6) (v := .agg #[.int .i64 kk, .int .i64 ee, .int .i64 oo, .int .i64 0, .slice Ap np cp]) rfl (by kernel_rfl) (by kernel_rfl) (by kernel_rfl) (fun _ _ _ h => h) (.inl ⟨by rfl, fun W' hS' => by go_simp⟩) hVf ?_
      try simp only [Act.put, z]
      refine wpAnyH_take (i := 7) (v := .int .i64 ep) rfl (by kernel_rfl) (by kernel_rfl) (by kernel_rfl) (fun _ _ _ h => h) (.inl ⟨by rfl, fun W' hS' => by go_simp⟩) hVf ?_
      try simp only [Act.put, z]
      refine wpAnyH_ready (rs := [8]) (by kernel_rfl) (by simp) (AllReadyH.cons rfl (fun K hK => ?_) AllReadyH.nil)
      obtain ⟨hBa, hrw, _⟩ := row_new VB2 #[.int .i64 0, .int .i64 0, .int .i64 0, .int .i64 0, .slice none 0 0] 49
      go_simp
      obtain ⟨VB3, hWn⟩ : ∃ X, X = VB2.alloc (.cells #[.int .i64 0, .int .i64 0, .int .i64 0, .int .i64 0, .slice none 0 0] 49) := ⟨_, rfl⟩
      rw [<- hWn] at hBa hrw ⊢
      clear hWn
      have hVa := hVf.trans (hBa.mono hVf.size)
      refine hK.out _ _ hVa (fun _ => ?_)
      clear hK K
      try simp only [Act.put, z]
      have hn := fin VB3 Ao co VB2.heap.size Ap cp hVa (RowsAt.at_ hPp hBa) (fun h ad e => Nat.ne_of_lt (RowsAt.lt hPp h ad e)) hVf.size hrw
      try simp only [Act.put, z] at hn
      exact hn
     ·skip
      obtain ⟨hBa, hrw, _⟩ := row_new VB1 #[.int .i64 0, .int .i64 0, .int .i64 0, .int .i64 0, .slice none 0 0] 49
      go_simp
      obtain ⟨VB2, hWn⟩ : ∃ X, X = VB1.alloc (.cells #[.int .i64 0, .int .i64 0, .int .i64 0, .int .i64 0, .slice none 0 0] 49) := ⟨_, rfl⟩
      rw [<- hWn] at hBa hrw ⊢
      clear hWn
      have hVa := hVo.trans (hBa.mono hVo.size)
      refine hK.out _ _ hVa (fun _ => ?_)
      clear hK K
      try simp only [Act.put, z]
      refine wpAnyH_ready (rs := [4]) (by kernel_rfl) (by simp) (AllReadyH.cons rfl (fun K hK => ?_) AllReadyH.nil)
      have Hof := Lib.hid (apostd_any VB2 g Ao i co ds (ms.map Raw.cnt) x (hdl.trans Hml.out) (by have := Hml.out; have := H8.out; omega) (RowsAt.at_ hds hBa) (hdo.imp (Q := fun a b => a.Holds SD VB2 VB2.heap.size b) fun _ _ h => h.atD hBa) (Hg9.out.at_ hVa))
      go_simp
      refine Hof.out.mono ?_
      rintro e VB3 hpp
      obtain ⟨hBf, Ap, cp, hfp, rfl, hPp⟩ := PostingPost.one hpp
      clear hpp
      have HH := HAP.out
      rw [HH.2.2] at hPp
      rw [HH.1.1, HH.1.2.1, HH.1.2.2, HH.2.1, HH.2.2, <- HNP.out]
      have hVf := hVa.trans (hBf.mono hVa.size)
      clear Hof HH
      refine hK.out _ _ hVf (fun _ => ?_)
      clear hK K
      try simp only [Act.put, z]
      refine wpAnyH_take (i := 5) (v := .tuple #[.agg #[.int .i64 kk, .int .i64 ee, .int .i64 oo, .int .i64 0, .slice Ap np cp], .int .i64 ep]) rfl (by kernel_rfl) (by kernel_rfl) (by kernel_rfl) (fun _ _ _ h => h) (.inl ⟨by rfl, fun W' hS' => by go_simp⟩) hVf ?_
      try simp only [Act.put, z]
      refine wpAnyH_take (i := 6) (v := .agg #[.int .i64 kk, .int .i64 ee, .int .i64 oo, .int .i64 0, .slice Ap np cp]) rfl (by kernel_rfl) (by kernel_rfl) (by kernel_rfl) (fun _ _ _ h => h) (.inl ⟨by rfl, fun W' hS' => by go_simp⟩) hVf ?_
      try simp only [Act.put, z]
      refine wpAnyH_take (i := 7) (v := .int .i64 ep) rfl (by kernel_rfl) (by kernel_rfl) (by kernel_rfl) (fun _ _ _ h => h) (.inl ⟨by rfl, fun W' hS' => by go_simp⟩) hVf ?_
      try simp only [Act.put, z]
      have hn := fin VB3 Ao co VB1.heap.size Ap cp hVf hPp (fun _ ad e => Nat.ne_of_gt (Nat.lt_of_lt_of_le (some_lt hrw) (hfp ad e))) hVo.size (gbox hrw hBf (some_lt hrw))
      try simp only [Act.put, z] at hn
      exact hn
    ·skip
     obtain ⟨hBa, hrw, _⟩ := row_new WB0 #[.int .i64 0, .int .i64 0, .int .i64 0, .int .i64 0, .slice none 0 0] 49
     go_simp
     obtain ⟨VB1, hWn⟩ : ∃ X, X = WB0.alloc (.cells #[.int .i64 0, .int .i64 0, .int .i64 0, .int .i64 0, .slice none 0 0] 49) := ⟨_, rfl⟩
     rw [<- hWn] at hBa hrw ⊢
     clear hWn
     have hVa := hVB0.trans (hBa.mono hVB0.size)
     refine hK.out _ _ hVa (fun _ => ?_)
     clear hK K
     try simp only [Act.put, z]
     refine wpAnyH_ready (rs := [2]) (by kernel_rfl) (by simp) (AllReadyH.cons rfl (fun K hK => ?_) AllReadyH.nil)
     have Hown := Lib.hid (own41_any VB1 (some ⟨G, 0, none⟩) i cap ms Hml.out (by have := Hml.out; have := H8.out; omega) (RowsAt.at_ Hraw9.out hVa) (fun a ha => ((Hmx9.out a ha).below hVa (Nat.le_refl _)).more hVa.size) Hall.out)
     go_simp
     refine Hown.out.mono ?_
     rintro e VB2 ⟨hBo, Ao, co, ds, rfl, hdl, hds, hdo⟩
     rw [Hml.out]
     have hVo := hVa.trans (hBo.mono hVa.size)
     clear Hown
     refine hK.out _ _ hVo (fun _ => ?_)
     clear hK K
     try simp only [Act.put, z]
     refine wpAnyH_ready (rs := [4]) (by kernel_rfl) (by simp) (AllReadyH.cons rfl (fun K hK => ?_) AllReadyH.nil)
     have Hof := Lib.hid (apostd_any VB2 g Ao i co ds (ms.map Raw.cnt) x (hdl.trans Hml.out) (by have := Hml.out; have := H8.out; omega) hds hdo (Hg9.out.at_ hVo))
     go_simp
     refine Hof.out.mono ?_
     rintro e VB3 hpp
     obtain ⟨hBf, Ap, cp, hfp, rfl, hPp⟩ := PostingPost.one hpp
     clear hpp
     have HH := HAP.out
     rw [HH.2.2] at hPp
     rw [HH.1.1, HH.1.2.1, HH.1.2.2, HH.2.1, HH.2.2, <- HNP.out]
     have hVf := hVo.trans (hBf.mono hVo.size)
     clear Hof HH
     refine hK.out _ _ hVf (fun _ => ?_)
     clear hK K
     try simp only [Act.put, z]
     refine wpAnyH_take (i := 5) (v := .tuple #[.agg #[.int .i64 kk, .int .i64 ee, .int .i64 oo, .int .i64 0, .slice Ap np cp], .int .i64 ep]) rfl (by kernel_rfl) (by kernel_rfl) (by kernel_rfl) (fun _ _ _ h => h) (.inl ⟨by rfl, fun W' hS' => by go_simp⟩) hVf ?_
     try simp only [Act.put, z]
     refine wpAnyH_take (i := 6) (v := .agg #[.int .i64 kk, .int .i64 ee, .int .i64 oo, .int .i64 0, .slice Ap np cp]) rfl (by kernel_rfl) (by kernel_rfl) (by kernel_rfl) (fun _ _ _ h => h) (.inl ⟨by rfl, fun W' hS' => by go_simp⟩) hVf ?_
     try simp only [Act.put, z]
     refine wpAnyH_take (i := 7) (v := .int .i64 ep) rfl (by kernel_rfl) (by kernel_rfl) (by kernel_rfl) (fun _ _ _ h => h) (.inl ⟨by rfl, fun W' hS' => by go_simp⟩) hVf ?_
     try simp only [Act.put, z]
     have hn := fin VB3 Ao co WB0.heap.size Ap cp hVf hPp (fun _ ad e => Nat.ne_of_gt (Nat.lt_of_lt_of_le (some_lt (gbox hrw hBo (some_lt hrw))) (hfp ad e))) hVB0.size (gbox (gbox hrw hBo (some_lt hrw)) hBf (some_lt (gbox hrw hBo (some_lt hrw))))
     try simp only [Act.put, z] at hn
     exact hn
   subst hlm hlo hlq hla
   refine wpAnyH_ready (rs := [2, 8]) (by kernel_rfl) (by simp) (AllReadyH.cons rfl (fun K hK => ?_) (AllReadyH.cons rfl (fun K hK => ?_) AllReadyH.nil))
   ·skip
    have Hown := Lib.hid (own41_any WA0 (some ⟨G, 0, none⟩) i cap ms Hml.out (by have := Hml.out; have := H8.out; omega) (RowsAt.at_ Hraw8.out hVA0) (fun a ha => ((Hmx8.out a ha).below hVA0 (Nat.le_refl _)).more hVA0.size) Hall.out)
    go_simp
    refine Hown.out.mono ?_
    rintro e VA1 ⟨hBo, Ao, co, ds, rfl, hdl, hds, hdo⟩
    rw [Hml.out]
    have hVo := hVA0.trans (hBo.mono hVA0.size)
    clear Hown
    refine hK.out _ _ hVo (fun _ => ?_)
    clear hK K
    try simp only [Act.put, z]
    refine wpAnyH_ready (rs := [4, 8]) (by kernel_rfl) (by simp) (AllReadyH.cons rfl (fun K hK => ?_) (AllReadyH.cons rfl (fun K hK => ?_) AllReadyH.nil))
    ·skip
     have Hof := Lib.hid (assocd_any VA1 g Ao i co ds (ms.map Raw.cnt) x (hdl.trans Hml.out) (by have := Hml.out; have := H8.out; omega) hds hdo (Hg8.out.at_ hVo))
     go_simp
     refine Hof.out.mono ?_
     rintro e VA2 ⟨ra, rb, rc, rd, re, hra, rfl, hBf⟩
     rw [HAS.out] at hra
     cases hra
     have hVf := hVo.trans (hBf.mono hVo.size)
     clear Hof
     refine hK.out _ _ hVf (fun _ => ?_)
     clear hK K
     try simp only [Act.put, z]
     refine wpAnyH_take (i := 5) (v := .tuple #[.agg #[.int .i64 fa, .int .i64 fb, .int .i64 fc, .int .i64 fd], .int .i64 er]) rfl (by kernel_rfl) (by kernel_rfl) (by kernel_rfl) (fun _ _ _ h => h) (.inl ⟨by rfl, fun W' hS' => by go_simp⟩) hVf ?_
     try simp only [Act.put, z]
     refine wpAnyH_take (i := 6) (v := .agg #[.int .i64 fa, .int .i64 fb, .int .i64 fc, .int .i64 fd]) rfl (by kernel_rfl) (by kernel_rfl) (by kernel_rfl) (fun _ _ _ h => h) (.inl ⟨by rfl, fun W' hS' => by go_simp⟩) hVf ?_
     try simp only [Act.put, z]
     refine wpAnyH_take (i := 7) (v := .int .i64 er) rfl (by kernel_rfl) (by kernel_rfl) (by kernel_rfl) (fun _ _ _ h => h) (.inl ⟨by rfl, fun W' hS' => by go_simp⟩) hVf ?_
     try simp only [Act.put, z]
     refine wpAnyH_ready (rs := [8]) (by kernel_rfl) (by simp) (AllReadyH.cons rfl (fun K hK => ?_) AllReadyH.nil)
     obtain ⟨hBa, hrw, _⟩ := row_new VA2 #[.int .i64 0, .int .i64 0, .int .i64 0, .int .i64 0] 37
     go_simp
     obtain ⟨VA3, hWn⟩ : ∃ X, X = VA2.alloc (.cells #[.int .i64 0, .int .i64 0, .int .i64 0, .int .i64 0] 37) := ⟨_, rfl⟩
     rw [<- hWn] at hBa hrw ⊢
     clear hWn
     have hVa := hVf.trans (hBa.mono hVf.size)
     refine hK.out _ _ hVa (fun _ => ?_)
     clear hK K
     try simp only [Act.put, z]
     have hn := fin VA3 Ao co VA2.heap.size hVa hVf.size hrw
     try simp only [Act.put, z] at hn
     exact hn
    ·skip
     obtain ⟨hBa, hrw, _⟩ := row_new VA1 #[.int .i64 0, .int .i64 0, .int .i64 0, .int .i64 0] 37
     go_simp
     obtain ⟨VA2, hWn⟩ : ∃ X, X = VA1.alloc (.cells #[.int .i64 0, .int .i64 0, .int .i64 0, .int .i64 0] 37) := ⟨_, rfl⟩
     rw [<- hWn] at hBa hrw ⊢
     clear hWn
     have hVa := hVo.trans (hBa.mono hVo.size)
     refine hK.out _ _ hVa (fun _ => ?_)
     clear hK K
     try simp only [Act.put, z]
     refine wpAnyH_ready (rs := [4]) (by kernel_rfl) (by simp) (AllReadyH.cons rfl (fun K hK => ?_) AllReadyH.nil)
     have Hof := Lib.hid (assocd_any VA2 g Ao i co ds (ms.map Raw.cnt) x (hdl.trans Hml.out) (by have := Hml.out; have := H8.out; omega) (RowsAt.at_ hds hBa) (hdo.imp (Q := fun a b => a.Holds SD VA2 VA2.heap.size b) fun _ _ h => h.atD hBa) (Hg8.out.at_ hVa))
     go_simp
     refine Hof.out.mono ?_
     rintro e VA3 ⟨ra, rb, rc, rd, re, hra, rfl, hBf⟩
     rw [HAS.out] at hra
     cases hra
     have hVf := hVa.trans (hBf.mono hVa.size)
     clear Hof
     refine hK.out _ _ hVf (fun _ => ?_)
     clear hK K
     try simp only [Act.put, z]
     refine wpAnyH_take (i := 5) (v := .tuple #[.agg #[.int .i64 fa, .int .i64 fb, .int .i64 fc, .int .i64 fd], .int .i64 er]) rfl (by kernel_rfl) (by kernel_rfl) (by kernel_rfl) (fun _ _ _ h => h) (.inl ⟨by rfl, fun W' hS' => by go_simp⟩) hVf ?_
     try simp only [Act.put, z]
     refine wpAnyH_take (i := 6) (v := .agg #[.int .i64 fa, .int .i64 fb, .int .i64 fc, .int .i64 fd]) rfl (by kernel_rfl) (by kernel_rfl) (by kernel_rfl) (fun _ _ _ h => h) (.inl ⟨by rfl, fun W' hS' => by go_simp⟩) hVf ?_
     try simp only [Act.put, z]
     refine wpAnyH_take (i := 7) (v := .int .i64 er) rfl (by kernel_rfl) (by kernel_rfl) (by kernel_rfl) (fun _ _ _ h => h) (.inl ⟨by rfl, fun W' hS' => by go_simp⟩) hVf ?_
     try simp only [Act.put, z]
     have hn := fin VA3 Ao co VA1.heap.size hVf hVo.size (gbox hrw hBf (some_lt hrw))
     try simp only [Act.put, z] at hn
     exact hn
   ·skip
    obtain ⟨hBa, hrw, _⟩ := row_new WA0 #[.int .i64 0, .int .i64 0, .int .i64 0, .int .i64 0] 37
    go_simp
    obtain ⟨VA1, hWn⟩ : ∃ X, X = WA0.alloc (.cells #[.int .i64 0, .int .i64 0, .int .i64 0, .int .i64 0] 37) := ⟨_, rfl⟩
    rw [<- hWn] at hBa hrw ⊢
    clear hWn
    have hVa := hVA0.trans (hBa.mono hVA0.size)
    refine hK.out _ _ hVa (fun _ => ?_)
    clear hK K
    try simp only [Act.put, z]
    refine wpAnyH_ready (rs := [2]) (by kernel_rfl) (by simp) (AllReadyH.cons rfl (fun K hK => ?_) AllReadyH.nil)
    have Hown := Lib.hid (own41_any VA1 (some ⟨G, 0, none⟩) i cap ms Hml.out (by have := Hml.out; have := H8.out; omega) (RowsAt.at_ Hraw8.out hVa) (fun a ha => ((Hmx8.out a ha).below hVa (Nat.le_refl _)).more hVa.size) Hall.out)
    go_simp
    refine Hown.out.mono ?_
    rintro e VA2 ⟨hBo, Ao, co, ds, rfl, hdl, hds, hdo⟩
    rw [Hml.out]
    have hVo := hVa.trans (hBo.mono hVa.size)
    clear Hown
    refine hK.out _ _ hVo (fun _ => ?_)
    clear hK K
    try simp only [Act.put, z]
    refine wpAnyH_ready (rs := [4]) (by kernel_rfl) (by simp) (AllReadyH.cons rfl (fun K hK => ?_) AllReadyH.nil)
    have Hof := Lib.hid (assocd_any VA2 g Ao i co ds (ms.map Raw.cnt) x (hdl.trans Hml.out) (by have := Hml.out; have := H8.out; omega) hds hdo (Hg8.out.at_ hVo))
    go_simp
    refine Hof.out.mono ?_
    rintro e VA3 ⟨ra, rb, rc, rd, re, hra, rfl, hBf⟩
    rw [HAS.out] at hra
    cases hra
    have hVf := hVo.trans (hBf.mono hVo.size)
    clear Hof
    refine hK.out _ _ hVf (fun _ => ?_)
    clear hK K
    try simp only [Act.put, z]
    refine wpAnyH_take (i := 5) (v := .tuple #[.agg #[.int .i64 fa, .int .i64 fb, .int .i64 fc, .int .i64 fd], .int .i64 er]) rfl (by kernel_rfl) (by kernel_rfl) (by kernel_rfl) (fun _ _ _ h => h) (.inl ⟨by rfl, fun W' hS' => by go_simp⟩) hVf ?_
    try simp only [Act.put, z]
    refine wpAnyH_take (i := 6) (v := .agg #[.int .i64 fa, .int .i64 fb, .int .i64 fc, .int .i64 fd]) rfl (by kernel_rfl) (by kernel_rfl) (by kernel_rfl) (fun _ _ _ h => h) (.inl ⟨by rfl, fun W' hS' => by go_simp⟩) hVf ?_
    try simp only [Act.put, z]
    refine wpAnyH_take (i := 7) (v := .int .i64 er) rfl (by kernel_rfl) (by kernel_rfl) (by kernel_rfl) (fun _ _ _ h => h) (.inl ⟨by rfl, fun W' hS' => by go_simp⟩) hVf ?_
    try simp only [Act.put, z]
    have hn := fin VA3 Ao co WA0.heap.size hVf hVA0.size (gbox (gbox hrw hBo (some_lt hrw)) hBf (some_lt (gbox hrw hBo (some_lt hrw))))
    try simp only [Act.put, z] at hn
    exact hn
end
end Go.Proofs.YtcblobokjhhboaaGreat
