/- My texts AcctD, PostV, BalP. -/
import Derived.Test.YtccapfbblnnfjaaGreatG23
import Derived.Test.YtccapfbblnnfjaaGreatG25
import Derived.Test.YtccapfbblnnfjaaGreatG46
import Derived.Test.YtccapfbblnnfjaaGreatE00
import Derived.Test.YtccapfbblnnfjaaGreatE02
set_option linter.unusedVariables false
set_option linter.unusedSimpArgs false
set_option maxRecDepth 100000
set_option maxHeartbeats 8000000
namespace Go.Proofs.YtccapfbblnnfjaaGreat
open Go.RowKit
section
variable (w : World)
theorem eqcode_anyV (a : Acc) (x : Int) (b : Nat) (hb : b < w.heap.size) (hx : w.cell? ⟨b, 0, none⟩ = some (.int .i64 x)) : Calls Tryz.prog 98 #[.agg #[.int .i64 (a).code, .int .i64 (a).kind, .int .i64 (a).basis, .int .i64 (a).parent], .pointer (some ⟨b, 0, none⟩)] w fun e w' => e = .returned (.bool (a.code == x)) /\ Below w.heap.size w w' := by
 have hB0 := (Below.refl w.heap.size w).alloc (Nat.le_refl _) (.cells #[.int .i64 (a).code, .int .i64 (a).kind, .int .i64 (a).basis, .int .i64 (a).parent] 132)
 go_enter Tryz.func98, Tryz.ntmps98
 go_wp2
 go_ret
 exact ⟨rfl, hB0⟩
def IdxPostV (l : List Acc) (x : Int) (w : World) (e : Ending) (w' : World) : Prop :=
 Below w.heap.size w w' /\ ((e = .returned (.int .i64 (-1)) /\ Ch.find l x = none) ∨ ∃ (k : Nat) (h : k < l.length), e = .returned (.int .i64 k) /\ Ch.find l x = some l[k])
theorem idxcode_anyV (A : Option Addr) (n c : Nat) (l : List Acc) (x : Int) (p : Nat) (hl : l.length = n) (hn : n <= 100000) (hp : p < w.heap.size) (hx : w.cell? ⟨p, 0, none⟩ = some (.int .i64 x)) (h : AccsAt w w.heap.size A l) :
  Calls Tryz.prog 97 #[.slice A n c, .func (.func 98) #[] #[.pointer (some ⟨p, 0, none⟩)]] w (IdxPostV l x w) := by
 subst hl
 have Hx := Lib.hid hx
 clear hx
 go_enter Tryz.func97, Tryz.ntmps97
 go_wp2
 go_loopw [8] (fun i wr => ∃ k : Nat, k <= l.length /\ i = .int .i64 k /\ Ch.find (l.take k) x = none /\ Below w.heap.size w wr) (fun i _ => l.length - (intOf i).toNat)
 case atStart => exact ⟨0, Nat.zero_le _, rfl, rfl, Below.refl _ _⟩
 case round =>
  obtain ⟨k, hk, rfl, ha, hb⟩ := hrel
  have Ha := Lib.hid ha
  clear ha
  by_cases hlt : k < l.length
  ·obtain ⟨b, o, rfl, hbB, c0, c1, c2, c3⟩ := AccsAt.four (RowsAt.below h hb (Nat.le_refl _)) hlt
   have hbw : b < wr.heap.size := Nat.lt_of_lt_of_le hbB hb.size
   have hpw : p < wr.heap.size := Nat.lt_of_lt_of_le hp hb.size
   have hxr := (hb.cell (p := ⟨p, 0, none⟩) hp).trans Hx.out
   by_cases h1 : l[k].code = x
   ·have hf := Lib.hid (Ch.find_hit hlt Ha.out h1)
    have hbe : (l[k].code == x) = true := by simp [h1]
    clear h1
    go_wp2_with (fail)
    refine (eqcode_anyV wr l[k] x p hpw hxr).mono ?_
    rw [hbe]
    rintro e w4 ⟨rfl, hB4⟩
    go_wp2
    go_ret
    exact ⟨hb.trans (hB4.mono hb.size), .inr ⟨k, hlt, rfl, hf.out⟩⟩
   ·have hf : Hid (Ch.find (l.take (k + 1)) x = none) := by show _ = _; rw [Ch.find_take hlt Ha.out, if_neg h1]
    have hbe : (l[k].code == x) = false := by simp [h1]
    clear h1
    go_wp2_with (fail)
    refine (eqcode_anyV wr l[k] x p hpw hxr).mono ?_
    rw [hbe]
    rintro e w4 ⟨rfl, hB4⟩
    go_wp2
    go_roundw
    case rel => exact ⟨k + 1, by omega, by go_num, hf.out, hb.trans (hB4.mono hb.size)⟩
    case measure => simp [intOf]; omega
  ·obtain rfl : k = l.length := by omega
   have hf : Hid (Ch.find l x = none) := by show _ = _; have := Ha.out; rwa [List.take_length] at this
   clear h
   go_wp2
   go_ret
   exact ⟨hb, .inl ⟨rfl, hf.out⟩⟩
theorem acctd_anyV (g : Grp) (x : Int) (hg : g.At w w.heap.size) :
  Calls Tryz.prog 72 #[.agg #[.string g.cur, .int .i64 g.Y, .int .i64 g.M, .int .i64 g.N, .slice g.cA g.cn g.cc, .int .i64 g.r0, .int .i64 g.r1, .int .i64 g.r2, .int .i64 g.r3, .int .i64 g.r4, .int .i64 g.r5, .int .i64 g.r6, .int .i64 g.r7, .int .i64 g.r8, .int .i64 g.r9, .int .i64 g.r10, .int .i64 g.r11, .int .i64 g.r12, .int .i64 g.r13, .int .i64 g.r14, .slice g.eA g.en g.ec], .int .i64 x] w fun e w' => e = .returned (.tuple #[.agg #[.int .i64 (Ch.found g.chart x).code, .int .i64 (Ch.found g.chart x).kind, .int .i64 (Ch.found g.chart x).basis, .int .i64 (Ch.found g.chart x).parent], .bool (Ch.has g.chart x)]) /\ Below w.heap.size w w' := by
 obtain ⟨hB0, hb0, hb1, hb2, hz⟩ := row_new3 w #[.string g.cur, .int .i64 g.Y, .int .i64 g.M, .int .i64 g.N, .slice g.cA g.cn g.cc, .int .i64 g.r0, .int .i64 g.r1, .int .i64 g.r2, .int .i64 g.r3, .int .i64 g.r4, .int .i64 g.r5, .int .i64 g.r6, .int .i64 g.r7, .int .i64 g.r8, .int .i64 g.r9, .int .i64 g.r10, .int .i64 g.r11, .int .i64 g.r12, .int .i64 g.r13, .int .i64 g.r14, .slice g.eA g.en g.ec] #[.int .i64 x] #[.int .i64 0, .int .i64 0, .int .i64 0, .int .i64 0] 29 3 132
 obtain ⟨W1, hW1⟩ : ∃ W1, W1 = (((w.alloc (.cells #[.string g.cur, .int .i64 g.Y, .int .i64 g.M, .int .i64 g.N, .slice g.cA g.cn g.cc, .int .i64 g.r0, .int .i64 g.r1, .int .i64 g.r2, .int .i64 g.r3, .int .i64 g.r4, .int .i64 g.r5, .int .i64 g.r6, .int .i64 g.r7, .int .i64 g.r8, .int .i64 g.r9, .int .i64 g.r10, .int .i64 g.r11, .int .i64 g.r12, .int .i64 g.r13, .int .i64 g.r14, .slice g.eA g.en g.ec] 29)).alloc (.cells #[.int .i64 x] 3)).alloc (.cells #[.int .i64 0, .int .i64 0, .int .i64 0, .int .i64 0] 132)) := ⟨_, rfl⟩
 rw [<- hW1] at hB0 hb0 hb1 hb2 hz
 have HW := Lib.hid hW1
 have hA1 := RowsAt.at_ hg.hc hB0
 have x4 := cell_of_row _ _ 4 _ _ _ hb0
 have y0 := cell_of_row _ _ 0 _ _ _ hb1
 simp at x4 y0
 have s1 : w.heap.size < W1.heap.size := by omega
 have s2 : w.heap.size + 1 < W1.heap.size := by omega
 have s3 : w.heap.size + 2 < W1.heap.size := by omega
 have Hb0 := Lib.hid hb0
 have Hb2 := Lib.hid hb2
 have Hcl := Lib.hid hg.hcl
 have hcn := hg.hcn
 clear hW1 hz hb0 hb1 hb2 hg
 go_enter Tryz.func72, Tryz.ntmps72
 go_upto_region 1 with (fail)
 rw [<- HW.out]
 go_wp2_with (fail)
 refine (idxcode_anyV W1 g.cA g.cn g.cc g.chart x (w.heap.size + 1) Hcl.out hcn s2 y0 hA1).mono ?_
 rintro e W2 ⟨hB2, h⟩
 have hB02 := hB0.trans (hB2.mono hB0.size)
 have hd2 := gbox Hb2.out hB2 s3
 have Hd2 := Lib.hid hd2
 have hx2 := gbox Hb0.out hB2 s1
 have hA2 := RowsAt.at_ hA1 hB2
 clear x4 y0
 rcases h with ⟨rfl, hf⟩ | ⟨k, hk, rfl, hf⟩
 ·have HF : Hid (Ch.found g.chart x = Acc.zero) := by show _ = _; simp [Ch.found, hf]
  have HH : Hid (Ch.has g.chart x = false) := by show _ = _; simp [Ch.has, hf]
  have Ho := Lib.hid (accOne 0 0 0 0)
  have hR := setRow_heap W2 (w.heap.size + 2) _ #[.int .i64 0, .int .i64 0, .int .i64 0, .int .i64 0] _ _ hd2
  have hload := Lib.hid (run_loadVar_row (P := Tryz.prog) _ _ _ 132 _ _ _ hR Tryz.underlying132 rfl accSize)
  have hBF := Lib.hid (below_setRow hB02 (show w.heap.size <= w.heap.size + 2 by omega) #[.int .i64 0, .int .i64 0, .int .i64 0, .int .i64 0])
  clear hf hR hd2 hx2 hA1 hA2
  go_wp2_with (refine wpList_store_row rfl 132 (.tmp 4) (.tmp 13) none rfl rfl (w.heap.size + 2) 132 _ #[.int .i64 0, .int .i64 0, .int .i64 0, .int .i64 0] rfl rfl Hd2.out rfl accSize Ho.out ?_)
  exact bodyPost_ret (v := .tuple #[.agg #[.int .i64 0, .int .i64 0, .int .i64 0, .int .i64 0], .bool false]) (by simp [results, Tryz.results72, asAddr, Act.put, hload.out]) rfl ⟨by rw [HF.out, HH.out]; rfl, hBF.out⟩
 ·have HF : Hid (Ch.found g.chart x = g.chart[k]) := by show _ = _; simp [Ch.found, hf]
  have HH : Hid (Ch.has g.chart x = true) := by show _ = _; simp [Ch.has, hf]
  obtain ⟨b, o, hAe, hbB, c0, c1, c2, c3⟩ := AccsAt.four hA2 hk
  have x4 := cell_of_row _ _ 4 _ _ _ hx2
  simp at x4
  rw [hAe] at x4
  have t1 : w.heap.size < W2.heap.size := some_lt hx2
  have Ho := Lib.hid (accOne g.chart[k].code g.chart[k].kind g.chart[k].basis g.chart[k].parent)
  have hR := setRow_heap W2 (w.heap.size + 2) _ #[.int .i64 (g.chart[k]).code, .int .i64 (g.chart[k]).kind, .int .i64 (g.chart[k]).basis, .int .i64 (g.chart[k]).parent] _ _ hd2
  have hload := Lib.hid (run_loadVar_row (P := Tryz.prog) _ _ _ 132 _ _ _ hR Tryz.underlying132 rfl accSize)
  have hBF := Lib.hid (below_setRow hB02 (show w.heap.size <= w.heap.size + 2 by omega) #[.int .i64 (g.chart[k]).code, .int .i64 (g.chart[k]).kind, .int .i64 (g.chart[k]).basis, .int .i64 (g.chart[k]).parent])
  have hkn : (k : Int) < (g.cn : Int) := by have := Hcl.out; omega
  have hk0 : (0 : Int) <= (k : Int) := by omega
  have hkl : k < g.cn := by omega
  clear hf hR hd2 hx2 hA1 hA2 hAe
  go_wp2_with (refine wpList_store_row rfl 132 (.tmp 4) (.tmp 18) none rfl rfl (w.heap.size + 2) 132 _ #[.int .i64 (g.chart[k]).code, .int .i64 (g.chart[k]).kind, .int .i64 (g.chart[k]).basis, .int .i64 (g.chart[k]).parent] rfl rfl Hd2.out rfl accSize Ho.out ?_)
  exact bodyPost_ret (v := .tuple #[.agg #[.int .i64 (g.chart[k]).code, .int .i64 (g.chart[k]).kind, .int .i64 (g.chart[k]).basis, .int .i64 (g.chart[k]).parent], .bool true]) (by simp [results, Tryz.results72, asAddr, Act.put, hload.out]) rfl ⟨by rw [HF.out, HH.out], hBF.out⟩
end
namespace Po
def total : List Prt -> Int
 | [] => 0
 | x :: l => x.amt + total l
theorem total_append : ∀ l m : List Prt, total (l ++ m) = total l + total m
 | [], m => by simp [total]
 | x :: l, m => by simp only [List.cons_append, total, total_append l m]; omega
theorem total_take {l : List Prt} {k : Nat} (hk : k < l.length) : total (l.take (k + 1)) = total (l.take k) + l[k].amt := by
 rw [List.take_succ_eq_append_getElem hk, total_append]; simp [total]
theorem total_bd : ∀ l : List Prt, (∀ x ∈ l, -1000000000000 <= x.amt /\ x.amt <= 1000000000000) -> -(1000000000000 * (l.length : Int)) <= total l /\ total l <= 1000000000000 * (l.length : Int)
 | [], _ => by simp [total]
 | x :: l, h => by
  have h1 := total_bd l fun y hy => h y (List.mem_cons_of_mem _ hy)
  have h2 := h x List.mem_cons_self
  simp only [total, List.length_cons]
  omega
structure Fine (g : Grp) (l : List Prt) : Prop where
 has : ∀ x ∈ l, Ch.has g.chart x.acct = true
 ne : ∀ x ∈ l, x.amt ≠ 0
 bd : ∀ x ∈ l, -1000000000000 <= x.amt /\ x.amt <= 1000000000000
 up : ∀ (k : Nat) (h : k + 1 < l.length), l[k].acct < l[k + 1].acct
 sum : total l = 0
 some : l ≠ []
 few : l.length <= 10
end Po
theorem prtSizeV : (Tryz.prog.info? 99).map (·.size) = some 2 := by kernel_rfl
section
variable (w : World)
theorem mval_any (n : Int) (h0 : -1000000000000 <= n) (h1 : n <= 1000000000000) :
  Calls Tryz.prog 73 #[.int .i64 n] w fun e w' => e = .returned (.bool true) /\ Below w.heap.size w w' := by
 go_enter Tryz.func73, Tryz.ntmps73
 go_wp2
 go_ret
 exact ⟨rfl, Below.refl _ _⟩
theorem psum_any (A : Option Addr) (n c : Nat) (l : List Prt) (hl : l.length = n) (hn : n <= 100) (hx : ∀ x ∈ l, -1000000000000 <= x.amt /\ x.amt <= 1000000000000) (hA : PrtsAt w w.heap.size A l) :
  Calls Tryz.prog 36 #[.slice A n c] w fun e w' => e = .returned (.int .i64 (Po.total l)) /\ Below w.heap.size w w' := by
 have HA := Lib.hid hA
 have HX := Lib.hid hx
 have Hl := Lib.hid hl
 clear hA hx hl
 go_enter Tryz.func36, Tryz.ntmps36
 go_wp2
 go_loopw [3, 8] (fun s i wr => ∃ k : Nat, k <= n /\ i = .int .i64 k /\ s = .int .i64 (Po.total (l.take k)) /\ Below w.heap.size w wr) (fun _ i _ => n - (intOf i).toNat)
 case atStart => exact ⟨0, Nat.zero_le _, rfl, rfl, Below.refl _ _⟩
 case round =>
  obtain ⟨k, hk, rfl, rfl, hbr⟩ := hrel
  obtain ⟨s, hs⟩ : ∃ s, s = Po.total (l.take k) := ⟨_, rfl⟩
  have hsb := Po.total_bd (l.take k) fun y hy => HX.out y (List.mem_of_mem_take hy)
  have htl : (l.take k).length <= 100 := by rw [List.length_take]; omega
  rw [<- hs] at hsb ⊢
  obtain ⟨lo, hi⟩ : -100000000000000 <= s /\ s <= 100000000000000 := by omega
  have Hs := Lib.hid hs
  have hq := hbr.size
  clear hs hsb htl
  by_cases hlt : k < n
  ·have hkl : k < l.length := by have := Hl.out; omega
   obtain ⟨b, o, hAe, hbB, hr⟩ := RowsAt.look (RowsAt.below HA.out hbr (Nat.le_refl _)) hkl
   cases hAe
   obtain ⟨xi, hxi⟩ : ∃ xi, xi = l[k] := ⟨_, rfl⟩
   have hN : Po.total (l.take (k + 1)) = s + xi.amt := by rw [Po.total_take hkl, <- Hs.out, <- hxi]
   obtain ⟨zl, zh⟩ := HX.out xi (by rw [hxi]; exact List.getElem_mem _)
   rw [<- hxi] at hr
   have Hr := Lib.hid hr
   have HN := Lib.hid hN
   have hbw : b < wr.heap.size := by omega
   have hk0 : (0 : Int) <= (k : Int) := by omega
   have hkn : (k : Int) < n := by omega
   obtain ⟨W6, hW6, hB6, hb6, hz6⟩ := nw1 wr #[.int .i64 xi.acct, .int .i64 xi.amt] 99
   have HW6 := Lib.hid hW6
   have hbr6 := hbr.trans (hB6.mono hq)
   have y1 := cell_of_row _ _ 1 _ _ _ hb6
   simp at y1
   have s6 : wr.heap.size < W6.heap.size := by omega
   clear hxi hr hb6 hz6 hW6 hN
   go_upto_region 5 with (refine wpList_load_mid rfl 99 (.tmp 10) rfl b (o + k * 2) rfl [.int .i64 xi.acct, .int .i64 xi.amt] _ Hr.out Tryz.underlying99 rfl prtSizeV ?_)
   rw [<- HW6.out]
   go_wp2
   go_roundw
   case rel => exact ⟨k + 1, by omega, by go_num, by rw [HN.out], hbr6⟩
   case measure => simp [intOf]; omega
  ·obtain rfl : k = n := by omega
   have HV : Hid (Po.total l = s) := by
    show _ = _
    have := Hs.out
    rw [<- Hl.out, List.take_length] at this
    exact this.symm
   go_wp2
   go_ret
   exact ⟨by rw [HV.out]; rfl, hbr⟩
theorem validp_any (g : Grp) (kd x o : Int) (A : Option Addr) (n c : Nat) (ps : List Prt) (hg : g.At w w.heap.size) (hv : Gr.valid g = true) (hk : 4 <= kd /\ kd <= 10) (hx : -1 <= x /\ x < 12) (ho : -1 <= o /\ o < 12) (hl : ps.length = n) (hA : PrtsAt w w.heap.size A ps) (hf : Po.Fine g ps) :
  Calls Tryz.prog 35 #[.agg #[.string g.cur, .int .i64 g.Y, .int .i64 g.M, .int .i64 g.N, .slice g.cA g.cn g.cc, .int .i64 g.r0, .int .i64 g.r1, .int .i64 g.r2, .int .i64 g.r3, .int .i64 g.r4, .int .i64 g.r5, .int .i64 g.r6, .int .i64 g.r7, .int .i64 g.r8, .int .i64 g.r9, .int .i64 g.r10, .int .i64 g.r11, .int .i64 g.r12, .int .i64 g.r13, .int .i64 g.r14, .slice g.eA g.en g.ec], .agg #[.int .i64 kd, .int .i64 x, .int .i64 o, .int .i64 0, .slice A n c]] w fun e w' => e = .returned (.bool true) /\ Below w.heap.size w w' := by
 obtain ⟨W1, hW1, hB0, hb0, hb1, hz⟩ := nw2 w #[.string g.cur, .int .i64 g.Y, .int .i64 g.M, .int .i64 g.N, .slice g.cA g.cn g.cc, .int .i64 g.r0, .int .i64 g.r1, .int .i64 g.r2, .int .i64 g.r3, .int .i64 g.r4, .int .i64 g.r5, .int .i64 g.r6, .int .i64 g.r7, .int .i64 g.r8, .int .i64 g.r9, .int .i64 g.r10, .int .i64 g.r11, .int .i64 g.r12, .int .i64 g.r13, .int .i64 g.r14, .slice g.eA g.en g.ec] #[.int .i64 kd, .int .i64 x, .int .i64 o, .int .i64 0, .slice A n c] 29 49
 have HW := Lib.hid hW1
 have hg1 := hg.at_ hB0
 have Hg := Lib.hid hg1
 have HA := Lib.hid (RowsAt.at_ hA hB0)
 have Hb0 := Lib.hid hb0
 have Hb1 := Lib.hid hb1
 have hrg := Lib.hid (grp_range hb0)
 have HV := Lib.hid hv
 have HF := Lib.hid hf
 have Hl := Lib.hid hl
 have s0 : w.heap.size < W1.heap.size := by omega
 have s1 : w.heap.size + 1 < W1.heap.size := by omega
 have HG := Lib.hid (grpd_any W1 g hg1)
 have hn0 : (n : Int) ≠ 0 := by
  have := hf.some
  have : ps.length ≠ 0 := fun e => this (List.length_eq_zero_iff.1 e)
  omega
 have hn1 : n <= 10 := by rw [<- hl]; exact hf.few
 obtain ⟨hk0, hk1⟩ := hk
 obtain ⟨hx0, hx1⟩ := hx
 obtain ⟨ho0, ho1⟩ := ho
 clear hW1 hz hb0 hb1 hg hA hv hl hf hg1
 go_enter Tryz.func35, Tryz.ntmps35
 go_upto_region 1 with (fail)
 rw [<- HW.out]
 go_wp2_with (refine wpList_load_mid rfl 29 (.tmp 2) rfl w.heap.size 0 rfl _ _ hrg.out Tryz.underlying29 rfl grpSize ?_)
 refine HG.out.mono ?_
 rintro e W2 ⟨rfl, hB2⟩
 rw [HV.out]
 have hB02 := hB0.trans (hB2.mono hB0.size)
 have hb2 := gbox Hb1.out hB2 s1
 have x0 := cell_of_row _ _ 0 _ _ _ hb2
 have x1 := cell_of_row _ _ 1 _ _ _ hb2
 have x2 := cell_of_row _ _ 2 _ _ _ hb2
 have x3 := cell_of_row _ _ 3 _ _ _ hb2
 have x4 := cell_of_row _ _ 4 _ _ _ hb2
 simp at x0 x1 x2 x3 x4
 have s2 : w.heap.size + 1 < W2.heap.size := some_lt hb2
 have Hb2 := Lib.hid hb2
 have HA2 := Lib.hid (RowsAt.at_ HA.out hB2)
 have Hg2 := Lib.hid (Hg.out.at_ hB2)
 have hgb2 := gbox Hb0.out hB2 s0
 have Hgb2 := Lib.hid hgb2
 have t1 : ¬ kd < 1 := by omega
 have t2 : ¬ 10 < kd := by omega
 have t3 : ¬ x < -1 := by omega
 have t4 : ¬ 12 <= x := by omega
 have t5 : ((n : Int) == 0) = false := by simp; omega
 have t6 : (kd == 3) = false := by simp; omega
 have t7 : (kd != 3) = true := by simp; omega
 have t8 : ¬ o < -1 := by omega
 have t9 : ¬ 12 <= o := by omega
 have t10 : (kd == 1) = false := by simp; omega
 have t11 : (kd == 2) = false := by simp; omega
 clear hb2 hgb2
 go_upto_region 5 with (fail)
 go_wp2
 clear x0 x1 x2 x3 x4 t1 t2 t3 t4 t5 t6 t7 t8 t9
 go_loopw [69] (fun i wr => ∃ k : Nat, k <= n /\ i = .int .i64 k /\ Below W2.heap.size W2 wr) (fun i _ => n - (intOf i).toNat)
 case atStart => exact ⟨0, Nat.zero_le _, rfl, Below.refl _ _⟩
 case round =>
  obtain ⟨k, hkn', rfl, hbr⟩ := hrel
  have hq := hbr.size
  by_cases hlt : k < n
  ·have hkl : k < ps.length := by have := Hl.out; omega
   obtain ⟨b, oo, hAe, hbB, hr⟩ := RowsAt.look (RowsAt.below HA2.out hbr (Nat.le_refl _)) hkl
   cases hAe
   obtain ⟨xi, hxi⟩ : ∃ xi, xi = ps[k] := ⟨_, rfl⟩
   have hmem : xi ∈ ps := by rw [hxi]; exact List.getElem_mem _
   obtain ⟨zl, zh⟩ := HF.out.bd xi hmem
   have hz0 : (xi.amt == 0) = false := by have := HF.out.ne xi hmem; simp [this]
   have Hhas := Lib.hid (HF.out.has xi hmem)
   have hprev : ∀ k', k = k' + 1 -> ∃ pa, pa < xi.acct /\ wr.cell? ⟨b, oo + k' * 2, none⟩ = some (.int .i64 pa) := fun k' e => by
    subst e
    obtain ⟨b3, o3, h3, h4, h5, _⟩ := PrtsAt.two (RowsAt.below HA2.out hbr (Nat.le_refl _)) (show k' < ps.length by omega)
    cases h3
    exact ⟨_, by rw [hxi]; exact HF.out.up k' hkl, h5⟩
   have Hprev := Lib.hid hprev
   rw [<- hxi] at hr
   have Hr := Lib.hid hr
   have hbw : b < wr.heap.size := by omega
   have hk0 : (0 : Int) <= (k : Int) := by omega
   have hkn : (k : Int) < n := by omega
   obtain ⟨W6, hW6, hB6, hb6, hz6⟩ := nw1 wr #[.int .i64 xi.acct, .int .i64 xi.amt] 99
   have HW6 := Lib.hid hW6
   have hbr6 := hbr.trans (hB6.mono hq)
   have Hbr6 := Lib.hid hbr6
   have Hb6 := Lib.hid hb6
   have y0 := cell_of_row _ _ 0 _ _ _ hb6
   simp at y0
   have s6 : wr.heap.size < W6.heap.size := by omega
   obtain ⟨ac, hac⟩ : ∃ ac, ac = xi.acct := ⟨_, rfl⟩
   obtain ⟨am, ham⟩ : ∃ am, am = xi.amt := ⟨_, rfl⟩
   have HAC := Lib.hid hac
   have hrg6 := Lib.hid (grp_range (gbox Hgb2.out hbr6 (by have := s2; omega)))
   have hcall := acctd_anyV W6 g ac (Hg2.out.at_ hbr6)
   rw [hac, Hhas.out, <- hac] at hcall
   have Hcall := Lib.hid hcall
   rw [<- hac] at y0
   rw [<- ham] at zl zh hz0
   have HAM := Lib.hid ham
   obtain ⟨fa, hfa⟩ : ∃ fa, fa = Ch.found g.chart ac := ⟨_, rfl⟩
   clear hxi hmem hr hb6 hz6 hW6 hac ham hprev hcall
   go_upto_region 8 with (refine wpList_load_mid rfl 99 (.tmp 72) rfl b (oo + k * 2) rfl [.int .i64 xi.acct, .int .i64 xi.amt] _ Hr.out Tryz.underlying99 rfl prtSizeV ?_)
   rw [<- HW6.out]
   go_wp2_with (refine wpList_load_mid rfl 29 (.tmp 2) rfl w.heap.size 0 rfl _ _ hrg6.out Tryz.underlying29 rfl grpSize ?_)
   refine Hcall.out.mono ?_
   rw [<- hfa]
   rintro e W7 ⟨rfl, hB7⟩
   obtain ⟨W8, hW8, hB8, hb8, hz8⟩ := nw1 W7 #[.int .i64 (fa).code, .int .i64 (fa).kind, .int .i64 (fa).basis, .int .i64 (fa).parent] 132
   have HW8 := Lib.hid hW8
   have hB68 := hB7.trans (hB8.mono hB7.size)
   have hbr8 := hbr6.trans (hB68.mono hbr6.size)
   have Hbr8 := Lib.hid hbr8
   have Hp8 := Lib.hid (gbox Hb6.out hB68 s6)
   have Hq8 := Lib.hid (gbox Hb2.out hbr8 s2)
   have sp8 := some_lt Hp8.out
   have sq8 := some_lt Hq8.out
   have hwr8 : Below wr.heap.size wr W8 := hB6.trans (hB68.mono hB6.size)
   have Hwr8 := Lib.hid hwr8
   have hS : Below W8.heap.size W8 W8.drew := below_drawn (Below.refl _ _) 1
   clear hfa hb8 hz8 hW8 y0 hwr8
   go_upto_region 9 with (fail)
   rw [<- HW8.out]
   refine wp_region_held (S := Below W8.heap.size W8) (by kernel_rfl) ?_
   change wpAnyH _ _ _ _ _ _ _ _ (World.drew W8)
   obtain ⟨W9, hWd⟩ : ∃ W0, W0 = W8.drew := ⟨_, rfl⟩
   rw [<- hWd] at hS ⊢
   clear hWd
   refine tk (i := 0) (v := .bool true) rfl (by kernel_rfl) (fun _ _ _ h => h) (.inl ⟨by rfl, fun W' hS' => by go_simp⟩) hS ?_
   try simp only [z]
   refine tk (i := 1) (v := .bool false) rfl (by kernel_rfl) (fun _ _ _ h => h) (.inl ⟨by rfl, fun W' hS' => by go_simp⟩) hS ?_
   try simp only [z]
   refine tk (i := 2) (v := .bool false) rfl (by kernel_rfl) (fun _ _ _ h => h) (.inl ⟨by rfl, fun W' hS' => by go_simp⟩) hS ?_
   try simp only [z]
   refine tk (i := 3) (v := .pointer (some ⟨wr.heap.size, 1, none⟩)) rfl (by kernel_rfl) (fun _ _ _ h => h) (.inl ⟨by rfl, fun W' hS' => by go_simp⟩) hS ?_
   try simp only [z]
   refine tk (i := 4) (v := .int .i64 am) rfl (by kernel_rfl) (fun _ _ _ h => h) (.inl ⟨by rfl, fun W' hS' => by have hc := cell_of_row _ _ 1 _ _ _ ((hS'.block _ sp8).trans Hp8.out); simp at hc; rw [<- HAM.out] at hc; have hl9 := Nat.lt_of_lt_of_le sp8 hS'.size; go_simp⟩) hS ?_
   try simp only [z]
   refine tk (i := 5) (v := .bool false) rfl (by kernel_rfl) (fun _ _ _ h => h) (.inl ⟨by rfl, fun W' hS' => by have h' := hz0; go_simp⟩) hS ?_
   try simp only [z]
   refine tk (i := 6) (v := .bool false) rfl (by kernel_rfl) (fun _ _ _ h => h) (.inl ⟨by rfl, fun W' hS' => by go_simp⟩) hS ?_
   try simp only [z]
   refine tk (i := 7) (v := .bool false) rfl (by kernel_rfl) (fun _ _ _ h => h) (.inl ⟨by rfl, fun W' hS' => by go_simp⟩) hS ?_
   try simp only [z]
   refine tk (i := 8) (v := .pointer (some ⟨wr.heap.size, 1, none⟩)) rfl (by kernel_rfl) (fun _ _ _ h => h) (.inl ⟨by rfl, fun W' hS' => by go_simp⟩) hS ?_
   try simp only [z]
   refine tk (i := 9) (v := .int .i64 am) rfl (by kernel_rfl) (fun _ _ _ h => h) (.inl ⟨by rfl, fun W' hS' => by have hc := cell_of_row _ _ 1 _ _ _ ((hS'.block _ sp8).trans Hp8.out); simp at hc; rw [<- HAM.out] at hc; have hl9 := Nat.lt_of_lt_of_le sp8 hS'.size; go_simp⟩) hS ?_
   try simp only [z]
   refine wpAnyH_ready (rs := [10]) (by kernel_rfl) (by simp) (AllReadyH.cons rfl (fun K hK => ?_) AllReadyH.nil)
   go_simp
   refine (mval_any W9 am zl zh).mono ?_
   rintro e W10 ⟨rfl, hBv⟩
   have hS2 := hS.trans (hBv.mono hS.size)
   refine hK.out _ _ hS2 (fun _ => ?_)
   clear hK K
   try simp only [z]
   refine tk (i := 11) (v := .bool false) rfl (by kernel_rfl) (fun _ _ _ h => h) (.inl ⟨by rfl, fun W' hS' => by go_simp⟩) hS2 ?_
   try simp only [z]
   refine tk (i := 12) (v := .bool false) rfl (by kernel_rfl) (fun _ _ _ h => h) (.inl ⟨by rfl, fun W' hS' => by go_simp⟩) hS2 ?_
   try simp only [z]
   refine tk (i := 13) (v := .bool false) rfl (by kernel_rfl) (fun _ _ _ h => h) (.inl ⟨by rfl, fun W' hS' => by go_simp⟩) hS2 ?_
   try simp only [z]
   refine tk (i := 14) (v := .int .i64 k) rfl (by kernel_rfl) (fun _ _ _ h => h) (.inl ⟨by rfl, fun W' hS' => by go_simp⟩) hS2 ?_
   try simp only [z]
   rcases k with _ | k
   focus
    refine tk (i := 15) (v := .bool false) rfl (by kernel_rfl) (fun _ _ _ h => h) (.inl ⟨by rfl, fun W' hS' => by go_simp⟩) hS2 ?_
    try simp only [z]
    refine tk (i := 16) (v := .bool false) rfl (by kernel_rfl) (fun _ _ _ h => h) (.inl ⟨by rfl, fun W' hS' => by go_simp⟩) hS2 ?_
    try simp only [z]
    refine tk (i := 17) (v := undef) rfl (by kernel_rfl) (fun _ _ _ h => h) (.inr ⟨by rfl, rfl⟩) hS2 ?_
    try simp only [z]
    refine tk (i := 18) (v := undef) rfl (by kernel_rfl) (fun _ _ _ h => h) (.inr ⟨by rfl, rfl⟩) hS2 ?_
    try simp only [z]
    refine tk (i := 19) (v := undef) rfl (by kernel_rfl) (fun _ _ _ h => h) (.inr ⟨by rfl, rfl⟩) hS2 ?_
    try simp only [z]
    refine tk (i := 20) (v := undef) rfl (by kernel_rfl) (fun _ _ _ h => h) (.inr ⟨by rfl, rfl⟩) hS2 ?_
    try simp only [z]
    refine tk (i := 21) (v := undef) rfl (by kernel_rfl) (fun _ _ _ h => h) (.inr ⟨by rfl, rfl⟩) hS2 ?_
    try simp only [z]
    refine tk (i := 22) (v := undef) rfl (by kernel_rfl) (fun _ _ _ h => h) (.inr ⟨by rfl, rfl⟩) hS2 ?_
    try simp only [z]
    refine tk (i := 23) (v := undef) rfl (by kernel_rfl) (fun _ _ _ h => h) (.inr ⟨by rfl, rfl⟩) hS2 ?_
    try simp only [z]
    refine tk (i := 24) (v := undef) rfl (by kernel_rfl) (fun _ _ _ h => h) (.inr ⟨by rfl, rfl⟩) hS2 ?_
    try simp only [z]
    refine tk (i := 25) (v := undef) rfl (by kernel_rfl) (fun _ _ _ h => h) (.inr ⟨by rfl, rfl⟩) hS2 ?_
    try simp only [z]
    refine tk (i := 26) (v := undef) rfl (by kernel_rfl) (fun _ _ _ h => h) (.inr ⟨by rfl, rfl⟩) hS2 ?_
    try simp only [z]
   rotate_left
   focus
    obtain ⟨pa, hpa, hpc⟩ := Hprev.out k rfl
    have hpb : ¬ xi.acct <= pa := by omega
    rw [<- HAC.out] at hpb
    have Hpc := Lib.hid hpc
    have hk1 : (0 : Int) < ((k + 1 : Nat) : Int) := by omega
    have hkb : (k : Int) < n := by omega
    have hkb0 : (0 : Int) <= (k : Int) := by omega
    refine tk (i := 15) (v := .bool true) rfl (by kernel_rfl) (fun _ _ _ h => h) (.inl ⟨by rfl, fun W' hS' => by go_simp⟩) hS2 ?_
    try simp only [z]
    refine tk (i := 16) (v := .bool true) rfl (by kernel_rfl) (fun _ _ _ h => h) (.inl ⟨by rfl, fun W' hS' => by go_simp⟩) hS2 ?_
    try simp only [z]
    refine tk (i := 17) (v := .pointer (some ⟨wr.heap.size, 0, none⟩)) rfl (by kernel_rfl) (fun _ _ _ h => h) (.inl ⟨by rfl, fun W' hS' => by go_simp⟩) hS2 ?_
    try simp only [z]
    refine tk (i := 18) (v := .int .i64 ac) rfl (by kernel_rfl) (fun _ _ _ h => h) (.inl ⟨by rfl, fun W' hS' => by have hc := cell_of_row _ _ 0 _ _ _ ((hS'.block _ sp8).trans Hp8.out); simp at hc; rw [<- HAC.out] at hc; have hl9 := Nat.lt_of_lt_of_le sp8 hS'.size; go_simp⟩) hS2 ?_
    try simp only [z]
    refine tk (i := 19) (v := .pointer (some ⟨w.heap.size + 1, 4, none⟩)) rfl (by kernel_rfl) (fun _ _ _ h => h) (.inl ⟨by rfl, fun W' hS' => by go_simp⟩) hS2 ?_
    try simp only [z]
    refine tk (i := 20) (v := .slice (some ⟨b, oo, none⟩) n c) rfl (by kernel_rfl) (fun _ _ _ h => h) (.inl ⟨by rfl, fun W' hS' => by have hc := cell_of_row _ _ 4 _ _ _ ((hS'.block _ sq8).trans Hq8.out); simp at hc; have hl9 := Nat.lt_of_lt_of_le sq8 hS'.size; go_simp⟩) hS2 ?_
    try simp only [z]
    refine tk (i := 21) (v := .int .i64 ((k + 1 : Nat) : Int)) rfl (by kernel_rfl) (fun _ _ _ h => h) (.inl ⟨by rfl, fun W' hS' => by go_simp⟩) hS2 ?_
    try simp only [z]
    refine tk (i := 22) (v := .int .i64 k) rfl (by kernel_rfl) (fun _ _ _ h => h) (.inl ⟨by rfl, fun W' hS' => by (go_simp; try (rw [IntKind.wrap_i64]; omega))⟩) hS2 ?_
    try simp only [z]
    refine tk (i := 23) (v := .pointer (some ⟨b, oo + k * 2, none⟩)) rfl (by kernel_rfl) (fun _ _ _ h => h) (.inl ⟨by rfl, fun W' hS' => by go_simp⟩) hS2 ?_
    try simp only [z]
    refine tk (i := 24) (v := .pointer (some ⟨b, oo + k * 2, none⟩)) rfl (by kernel_rfl) (fun _ _ _ h => h) (.inl ⟨by rfl, fun W' hS' => by go_simp⟩) hS2 ?_
    try simp only [z]
    refine tk (i := 25) (v := .int .i64 pa) rfl (by kernel_rfl) (fun _ _ _ h => h) (.inl ⟨by rfl, fun W' hS' => by have hc := (hS'.cell (p := ⟨b, oo + k * 2, none⟩) (Nat.lt_of_lt_of_le hbw Hwr8.out.size)).trans ((Hwr8.out.cell (p := ⟨b, oo + k * 2, none⟩) hbw).trans Hpc.out); have hl9 := Nat.lt_of_lt_of_le (Nat.lt_of_lt_of_le hbw Hwr8.out.size) hS'.size; go_simp⟩) hS2 ?_
    try simp only [z]
    refine tk (i := 26) (v := .bool false) rfl (by kernel_rfl) (fun _ _ _ h => h) (.inl ⟨by rfl, fun W' hS' => by have h' := hpb; go_simp⟩) hS2 ?_
    try simp only [z]
   rotate_left
   ·skip
    refine tk (i := 27) (v := .bool false) rfl (by kernel_rfl) (fun _ _ _ h => h) (.inl ⟨by rfl, fun W' hS' => by go_simp⟩) hS2 ?_
    try simp only [z]
    refine wpAnyH_ready (rs := [28]) (by kernel_rfl) (by simp) (AllReadyH.cons rfl (fun K hK => ?_) AllReadyH.nil)
    go_simp
    refine hK.out _ _ hS2 (fun _ => ?_)
    clear hK K
    try simp only [z]
    refine wpAnyH_done (by kernel_rfl) ?_ _
    try simp only [z]
    have Hz := Lib.hid (Hbr8.out.trans (hS2.mono Hbr8.out.size))
    clear hS hS2 hBv
    go_upto_region 11 with (fail)
    go_wp2
    go_roundw
    case rel => exact ⟨0 + 1, by omega, by go_num, Hz.out⟩
    case measure => simp [intOf]; omega
   ·skip
    refine tk (i := 27) (v := .bool false) rfl (by kernel_rfl) (fun _ _ _ h => h) (.inl ⟨by rfl, fun W' hS' => by go_simp⟩) hS2 ?_
    try simp only [z]
    refine wpAnyH_ready (rs := [28]) (by kernel_rfl) (by simp) (AllReadyH.cons rfl (fun K hK => ?_) AllReadyH.nil)
    go_simp
    refine hK.out _ _ hS2 (fun _ => ?_)
    clear hK K
    try simp only [z]
    refine wpAnyH_done (by kernel_rfl) ?_ _
    try simp only [z]
    have Hz := Lib.hid (Hbr8.out.trans (hS2.mono Hbr8.out.size))
    clear hS hS2 hBv
    go_upto_region 11 with (fail)
    go_wp2
    go_roundw
    case rel => exact ⟨k + 1 + 1, by omega, by go_num, Hz.out⟩
    case measure => simp [intOf]; omega
  ·obtain rfl : k = n := by omega
   have hbl := gbox Hb2.out hbr s2
   have x0 := cell_of_row _ _ 0 _ _ _ hbl
   have x4 := cell_of_row _ _ 4 _ _ _ hbl
   simp at x0 x4
   have sl := some_lt hbl
   have Hsum := Lib.hid (psum_any wr A k c ps Hl.out (by omega) HF.out.bd ((RowsAt.below HA2.out hbr (Nat.le_refl _)).more hbr.size))
   have hB03 := Lib.hid (hB02.trans (hbr.mono hB02.size))
   clear hbl
   go_upto_region 14 with (fail)
   go_wp2_with (fail)
   refine Hsum.out.mono ?_
   rw [HF.out.sum]
   rintro e Wz ⟨rfl, hBz⟩
   go_wp2
   go_ret
   exact ⟨rfl, hB03.out.trans (hBz.mono hB03.out.size)⟩
end
namespace Po
def ssum (f : Int -> Int) : List Int -> Int
 | [] => 0
 | a :: s => f a + ssum f s
theorem ssum_add (f h : Int -> Int) : ∀ s, ssum (fun a => f a + h a) s = ssum f s + ssum h s
 | [] => rfl
 | a :: s => by simp only [ssum, ssum_add f h s]; omega
theorem ssum_zero {f : Int -> Int} : ∀ s : List Int, (∀ a ∈ s, f a = 0) -> ssum f s = 0
 | [], _ => rfl
 | a :: s, h => by simp only [ssum, h a List.mem_cons_self, ssum_zero s fun b hb => h b (List.mem_cons_of_mem _ hb)]; omega
theorem ssum_one (b n : Int) : ∀ s : List Int, s.Pairwise (· < ·) -> b ∈ s -> ssum (fun a => if b = a then n else 0) s = n
 | a :: s, hp, hb => by
  rw [List.pairwise_cons] at hp
  by_cases h : b = a
  ·subst h
   have : ssum (fun a => if b = a then n else 0) s = 0 := ssum_zero s fun c hc => if_neg (by have := hp.1 c hc; omega)
   simp only [ssum, this]; simp
  ·have hb' : b ∈ s := by rcases List.mem_cons.1 hb with h' | h'; exact absurd h' h; exact h'
   simp only [ssum, if_neg h, ssum_one b n s hp.2 hb']; omega
theorem ssum_total : ∀ (l : List Prt) (s : List Int), s.Pairwise (· < ·) -> (∀ x ∈ l, x.acct ∈ s) -> ssum (fun a => sum a l) s = total l
 | [], s, _, _ => ssum_zero s fun _ _ => rfl
 | x :: l, s, hp, h => by
  have h1 : (fun a => sum a (x :: l)) = fun a => (if x.acct = a then x.amt else 0) + sum a l := by funext a; rfl
  rw [h1, ssum_add, ssum_one x.acct x.amt s hp (h x List.mem_cons_self), ssum_total l s hp fun y hy => h y (List.mem_cons_of_mem _ hy)]
  rfl
theorem total_map (f : Int -> Int) : ∀ s : List Int, total (s.map fun a => ⟨a, f a⟩) = ssum f s
 | [] => rfl
 | a :: s => by simp only [List.map_cons, total, ssum, total_map f s]
theorem ssum_filter (f : Int -> Int) : ∀ s : List Int, ssum f (s.filter fun a => decide (f a ≠ 0)) = ssum f s
 | [] => rfl
 | a :: s => by
  by_cases h : f a = 0
  ·rw [List.filter_cons_of_neg (by simp [h]), ssum_filter f s]; simp [ssum, h]
  ·rw [List.filter_cons_of_pos (by simp [h])]; simp only [ssum, ssum_filter f s]
theorem total_parts (l : List Prt) : total (parts l) = total l := by
 unfold parts
 rw [total_map (fun a => sum a l)]
 unfold keep
 rw [ssum_filter (fun a => sum a l)]
 exact ssum_total l (asc l) (asc_lt l) fun x hx => (mem_asc x.acct l).2 ⟨x, hx, rfl⟩
theorem bad_ok {l : List Prt} (h : bad l = false) {a : Int} (ha : a ∈ asc l) : okAmt (sum a l) = true := by
 unfold bad at h
 have := (List.any_eq_false.1 h) a ha
 simpa using this
theorem fine_clean {g : Grp} {l : List Prt} (h : (clean l).2 = 0) (hh : ∀ x ∈ l, Ch.has g.chart x.acct = true) (ht : total l = 0) (hn : l.length <= 10) (hne : (clean l).1 ≠ []) : Fine g (clean l).1 := by
 unfold clean at h hne ⊢
 split at h
 ·cases h
 ·rename_i hb
  rw [if_neg hb] at hne ⊢
  have hbf : bad l = false := by simpa using hb
  have hm : ∀ x ∈ parts l, x.acct ∈ asc l /\ x.amt = sum x.acct l /\ sum x.acct l ≠ 0 := by
   intro x hx
   unfold parts at hx
   obtain ⟨a, ha, rfl⟩ := List.mem_map.1 hx
   unfold keep at ha
   obtain ⟨h1, h2⟩ := List.mem_filter.1 ha
   exact ⟨h1, rfl, by simpa using h2⟩
  show Fine g (parts l)
  refine ⟨?_, ?_, ?_, ?_, ?_, hne, ?_⟩
  ·intro x hx
   obtain ⟨y, hy, e⟩ := (mem_asc x.acct l).1 (hm x hx).1
   rw [<- e]; exact hh y hy
  ·intro x hx; rw [(hm x hx).2.1]; exact (hm x hx).2.2
  ·intro x hx
   have := bad_ok hbf (hm x hx).1
   rw [<- (hm x hx).2.1] at this
   unfold okAmt at this
   simp only [Bool.and_eq_true, decide_eq_true_eq] at this
   exact this
  ·intro k hk
   have hp := keep_lt l
   have hl : (parts l).length = (keep l).length := by unfold parts; exact List.length_map ..
   have h1 : (parts l)[k].acct = (keep l)[k] := by simp [parts]
   have h2 : (parts l)[k + 1].acct = (keep l)[k + 1] := by simp [parts]
   rw [h1, h2]
   exact List.pairwise_iff_getElem.1 hp k (k + 1) (by omega) (by omega) (by omega)
  ·rw [total_parts]; exact ht
  ·exact Nat.le_trans (parts_length l) hn
end Po
theorem Smp.chart38 {g : Grp} (h : Smp.Is g) : Ch.has g.chart g.r0 = true /\ Ch.has g.chart g.r7 = true /\ Ch.has g.chart g.r5 = true /\ Ch.has g.chart g.r1 = true /\ g.en = 4 := by
 obtain ⟨a, b, d, e, x0, x1, x2, x3, rfl⟩ := h
 exact ⟨by kernel_rfl, by kernel_rfl, by kernel_rfl, by kernel_rfl, rfl⟩
namespace Gr
theorem cpost_fine {g : Grp} {m : List Cnt} {x : Int} (hs : Smp.Is g) (h : (cpost g m x).2 = 0) (hne : Po.pl (cpost g m x) ≠ []) : Po.Fine g (Po.pl (cpost g m x)) /\ 0 <= x /\ x < 4 /\ ∃ y, elim m x = some y /\ (capital g m x).1.1 = invest g x y.since false m /\ (capital g m x).1.2.1 = sumOf (fun a => decide (a = g.r7)) y.its := by
 obtain ⟨c0, c7, c5, c1, hen⟩ := Smp.chart38 hs
 have h0 := cpost_ok h
 have hck : check g x = 0 := by
  by_cases hc : check g x = 0
  ·exact hc
  ·unfold capital at h0; rw [if_pos hc] at h0; exact h0
 have hcp : cpost g m x = Po.clean [⟨g.r0, -(capital g m x).1.1⟩, ⟨g.r7, -(capital g m x).1.2.1⟩, ⟨g.r5, (capital g m x).1.2.1 - (capital g m x).1.2.2⟩, ⟨g.r1, (capital g m x).1.1 + (capital g m x).1.2.2⟩] := by
  unfold cpost; rw [if_neg (by rw [h0]; simp)]
 refine ⟨?_, ?_⟩
 ·rw [pl_ok h] at hne ⊢
  rw [hcp] at h hne ⊢
  refine Po.fine_clean h ?_ ?_ (by simp) hne
  ·intro z hz
   simp only [List.mem_cons, List.not_mem_nil, or_false] at hz
   rcases hz with rfl | rfl | rfl | rfl
   ·exact c0
   ·exact c7
   ·exact c5
   ·exact c1
  ·simp only [Po.total]; omega
 ·have hx : ¬ (x < 0 ∨ (g.en : Int) <= x) := by
   intro hx
   unfold check at hck
   by_cases hv : Gr.valid g = false
   ·rw [if_pos hv] at hck; cases hck
   ·rw [if_neg hv, if_pos hx] at hck; cases hck
  rw [hen] at hx
  refine ⟨by omega, by omega, ?_⟩
  cases he : elim m x with
  | none => exact absurd (cpost_none (.inr he)) hne
  | some y =>
   refine ⟨y, rfl, ?_, ?_⟩ <;> (unfold capital; rw [if_neg (by rw [hck]; simp), he])
end Gr
end Go.Proofs.YtccapfbblnnfjaaGreat
