/- My texts MinSum, MinTimes, MinKinds, MinR, MinD. -/
import Derived.Test.YtobnfmneeabomaaGreatG26
import Derived.Test.YtobnfmneeabomaaGreatH32
import Derived.Test.YtobnfmneeabomaaGreatH33
set_option linter.unusedVariables false
set_option linter.unusedSimpArgs false
set_option maxRecDepth 100000
set_option maxHeartbeats 8000000
namespace Go.Proofs.YtobnfmneeabomaaGreat
open Go.RowKit
theorem itmSize : (Tryz.prog.info? 61).map (·.size) = some 7 := by kernel_rfl
def Gr.sumAll (l : List Itm) : Int := Gr.sumOf (fun _ => true) l
theorem Gr.sumAll_take {l : List Itm} {k : Nat} (hk : k < l.length) : Gr.sumAll (l.take (k + 1)) = Gr.sumAll (l.take k) + l[k].amt := by
 have := Gr.sumOf_take (fun _ => true) hk
 simpa [Gr.sumAll] using this
theorem Gr.sumAll_small {l : List Itm} {n : Nat} (k : Nat) (hl : l.length = n) (hn : n <= 1000) (hx : ∀ x ∈ l, x.small) : -1000000000000000 <= Gr.sumAll (l.take k) /\ Gr.sumAll (l.take k) <= 1000000000000000 :=
 Gr.sumOf_take_small k hl hn hx
section
variable (w : World)
theorem amountd_any (A : Option Addr) (n c : Nat) (l : List Itm) (hl : l.length = n) (hn : n <= 1000) (hx : ∀ x ∈ l, x.small) (hA : ItmsAt w w.heap.size A l) :
  Calls Tryz.prog 23 #[.slice A n c] w fun e w' => e = .returned (.int .i64 (-(Gr.sumAll l))) /\ Below w.heap.size w w' := by
 have HA := Lib.hid hA
 have HX := Lib.hid hx
 have Hl := Lib.hid hl
 clear hA hx hl
 go_enter Tryz.func23, Tryz.ntmps23
 go_wp2
 go_loopw [3, 8] (fun s i wr => ∃ k : Nat, k <= n /\ i = .int .i64 k /\ s = .int .i64 (-(Gr.sumAll (l.take k))) /\ Below w.heap.size w wr) (fun _ i _ => n - (intOf i).toNat)
 case atStart => exact ⟨0, Nat.zero_le _, rfl, rfl, Below.refl _ _⟩
 case round =>
  obtain ⟨k, hk, rfl, rfl, hbr⟩ := hrel
  obtain ⟨s, hs⟩ : ∃ s, s = Gr.sumAll (l.take k) := ⟨_, rfl⟩
  obtain ⟨lo, hi⟩ := Gr.sumAll_small k Hl.out hn HX.out
  rw [<- hs] at lo hi ⊢
  have Hs := Lib.hid hs
  have hq := hbr.size
  clear hs
  by_cases hlt : k < n
  ·have hkl : k < l.length := by have := Hl.out; omega
   obtain ⟨b, o, hAe, hbB, hr, c3, c6⟩ := ItmsAt.seven (RowsAt.below HA.out hbr (Nat.le_refl _)) hkl
   cases hAe
   have hbw : b < wr.heap.size := by omega
   have hk0 : (0 : Int) <= (k : Int) := by omega
   have hkn : (k : Int) < n := by omega
   have hsm := HX.out _ (List.getElem_mem hkl)
   obtain ⟨z, hz⟩ : ∃ z, z = l[k] := ⟨_, rfl⟩
   rw [<- hz] at hr hsm
   obtain ⟨sl, sh⟩ := hsm
   have Hr := Lib.hid hr
   have HN : Hid (-(Gr.sumAll (l.take (k + 1))) = -s - z.amt) := by
    show _ = _; rw [Gr.sumAll_take hkl, <- Hs.out, <- hz]; omega
   obtain ⟨W6, hW6, hB6, hb6, hz6⟩ := nw1 wr #[.int .i64 z.ent0, .int .i64 z.lin, .int .i64 z.ent, .int .i64 z.acct, .int .i64 z.partner, .int .i64 z.date, .int .i64 z.amt] 61
   have HW6 := Lib.hid hW6
   have hbr6 : Below w.heap.size w W6 := hbr.trans (hB6.mono hq)
   have y6 := cell_of_row _ _ 6 _ _ _ hb6
   simp at y6
   have s6 : wr.heap.size < W6.heap.size := by omega
   obtain ⟨am, ham⟩ : ∃ am, am = z.amt := ⟨_, rfl⟩
   rw [<- ham] at y6 sl sh
   rw [<- ham] at HN
   clear ham hr hz c3 c6 hb6 hz6 hW6 hB6
   go_upto_region 5 with (refine wpList_load_mid rfl 61 (.tmp 10) rfl b (o + k * 7) rfl [.int .i64 z.ent0, .int .i64 z.lin, .int .i64 z.ent, .int .i64 z.acct, .int .i64 z.partner, .int .i64 z.date, .int .i64 z.amt] _ Hr.out Tryz.underlying61 rfl itmSize ?_)
   rw [<- HW6.out]
   go_wp2_with (go_quiet (fail))
   go_roundw
   case rel => exact ⟨k + 1, by omega, by go_num, by rw [HN.out], by first | exact hbr6 | exact below_drawn hbr6 _⟩
   case measure => simp [intOf]; omega
  ·obtain rfl : k = n := by omega
   have HV : Hid (Gr.sumAll l = s) := by
    show _ = _
    have := Hs.out
    rw [<- Hl.out, List.take_length] at this
    exact this.symm
   go_wp2
   go_ret
   exact ⟨by rw [HV.out]; rfl, hbr⟩
end
end Go.Proofs.YtobnfmneeabomaaGreat
namespace Go.Proofs.YtobnfmneeabomaaGreat
open Go.RowKit
theorem red_le39 (a : Int) {D : Int} (hD : 0 < D) : Int.tdiv D (Int.gcd a D) <= D := by
 obtain ⟨q, hq⟩ := Int.gcd_dvd_right a D
 have h0 : (0 : Int) <= (Int.gcd a D : Int) := Int.natCast_nonneg _
 obtain ⟨G, hG⟩ : ∃ G, G = (Int.gcd a D : Int) := ⟨_, rfl⟩
 rw [<- hG] at hq h0 ⊢
 have hG0 : G ≠ 0 := by intro e; subst e; rw [Int.zero_mul] at hq; omega
 have e2 : Int.tdiv D G = q := by rw [hq, Int.mul_tdiv_cancel_left _ hG0]
 rw [e2]
 have hqp : 0 < q := by
  rw [hq] at hD
  exact Int.pos_of_mul_pos_right hD (by omega)
 have : 1 * q <= G * q := Int.mul_le_mul_of_nonneg_right (by omega) (by omega)
 rw [hq]; omega
theorem redBy_pos39 {a D : Int} (hD : 0 < D) : redBy a D = (Int.gcd a D : Int) := by unfold redBy; rw [if_neg (by omega)]
section
variable (w : World)
theorem times39_any (n : Int) (x0 : Con) (y : Cnt) (h0 : -100000000000000 <= n) (h1 : n <= 100000000000000) (hy : x0.Holds SD w w.heap.size y) :
  Calls Tryz.prog 25 #[.int .i64 n, .agg #[.bool x0.sg1, .slice x0.sA1 x0.sn1 x0.sc1, .bool x0.sg2, .slice x0.sA2 x0.sn2 x0.sc2]] w fun e w' => e = .returned (.tuple #[.int .i64 (R1.rd n y.sN y.sD), .bool true]) /\ Below w.heap.size w w' := by
 obtain ⟨W1, hW1, hB0, hb0, hz0⟩ := nw1 w #[.bool x0.sg1, .slice x0.sA1 x0.sn1 x0.sc1, .bool x0.sg2, .slice x0.sA2 x0.sn2 x0.sc2] 90
 have HW1 := Lib.hid hW1
 have Hb0 := Lib.hid hb0
 have Hy := Lib.hid (hy.atD hB0)
 have Hso := Lib.hid hy.hso
 have Hbd := Lib.hid (rd_small hy.hso h0 h1)
 have s1 : w.heap.size < W1.heap.size := by omega
 clear hW1 hb0 hz0 hy
 go_enter Tryz.func25, Tryz.ntmps25
 go_upto_region 1 with (fail)
 rw [<- HW1.out]
 go_wp2_with (fail)
 refine (ratof_any W1 n 1 (by omega) (by omega) (by omega) (by omega) (by omega)).mono ?_
 rintro e W2 ⟨⟨r2, rfl, hr2⟩, hB2⟩
 have e1 : redBy n 1 = 1 := by rw [redBy_pos39 (by omega)]; simp
 rw [e1, Int.tdiv_one, Int.tdiv_one] at hr2
 obtain ⟨g1, A1, n1, c1, g2, A2, n2, c2, rfl⟩ := hr2.open
 obtain ⟨hB3, hb3, hz3⟩ := row_new W2 #[.bool g1, .slice A1 n1 c1, .bool g2, .slice A2 n2 c2] 90
 have hB13 := hB2.trans (hB3.mono hB2.size)
 have he0 := gbox Hb0.out hB13 s1
 obtain ⟨W3, hW3⟩ : ∃ W3, W3 = W2.alloc (.cells #[.bool g1, .slice A1 n1 c1, .bool g2, .slice A2 n2 c2] 90) := ⟨_, rfl⟩
 rw [<- hW3] at hB3 hb3 hz3 hB13 he0
 have hB03 := hB0.trans (hB13.mono hB0.size)
 have HW3 := Lib.hid hW3
 have hr3 := Lib.hid (hr2.at_ hB3)
 have hy3 := Lib.hid ((Hy.out.atD hB13).hsh)
 have hrr := Lib.hid (range_row (cs := [.bool g1, .slice A1 n1 c1, .bool g2, .slice A2 n2 c2]) hb3)
 have hsr := Lib.hid (range_row (cs := [.bool x0.sg1, .slice x0.sA1 x0.sn1 x0.sc1, .bool x0.sg2, .slice x0.sA2 x0.sn2 x0.sc2]) he0)
 have hpos : Hid (0 < Int.tdiv (1 * y.sD) (redBy (n * y.sN) (1 * y.sD)) /\ Int.tdiv (1 * y.sD) (redBy (n * y.sN) (1 * y.sD)) <= 1000000) := Lib.hid (by
  have h := Hso.out.1
  have h2 := Hso.out.2.1
  rw [Int.one_mul, redBy_pos39 h]
  have a := R1.red_pos (n * y.sN) h
  have b := red_le39 (n * y.sN) h
  omega)
 have s3 : W2.heap.size < W3.heap.size := by omega
 have spo := some_lt he0
 clear hW3 hz3 hb3 he0
 go_upto_region 2 with (fail)
 rw [<- HW3.out]
 go_wp2_with (first | (refine wpList_load_mid rfl 90 (.tmp 6) rfl W2.heap.size 0 rfl [.bool g1, .slice A1 n1 c1, .bool g2, .slice A2 n2 c2] _ hrr.out Tryz.underlying90 rfl ratSize ?_) | (refine wpList_load_mid rfl 90 (.tmp 3) rfl w.heap.size 0 rfl [.bool x0.sg1, .slice x0.sA1 x0.sn1 x0.sc1, .bool x0.sg2, .slice x0.sA2 x0.sn2 x0.sc2] _ hsr.out Tryz.underlying90 rfl ratSize ?_))
 refine (mul_rat W3 3 1 3 1 _ _ n 1 y.sN y.sD (by omega) (by omega) (by omega) (by have := Hso.out.1; omega) (by have := Hso.out.1; omega) (by have := Hso.out.2.1; omega) hr3.out hy3.out).mono ?_
 rintro e W4 ⟨⟨r4, rfl, hr4⟩, hB4⟩
 have hB04 := hB03.trans (hB4.mono hB03.size)
 go_wp2_with (fail)
 refine (round_rat W4 6 _ _ _ (by omega) (by have := hpos.out; omega) (by have := hpos.out; omega) (by have := hpos.out; omega) hr4).mono ?_
 rw [rd_prog Hso.out.1]
 rintro e W5 ⟨⟨r5, rfl, hr5⟩, hB5⟩
 have hB05 := hB04.trans (hB5.mono hB04.size)
 go_wp2_with (fail)
 refine (small_any W5 _ _ _ (by omega) hr5).mono ?_
 rw [if_pos (by have := Hbd.out; omega), decide_eq_true (by have := Hbd.out; omega)]
 rintro e W6 ⟨rfl, hB6⟩
 have hB06 := hB05.trans (hB6.mono hB05.size)
 obtain ⟨v, hv⟩ : ∃ v, v = R1.rd n y.sN y.sD := ⟨_, rfl⟩
 rw [<- hv]
 have HVv := Lib.hid hv
 clear hv
 go_wp2
 exact bodyPost_ret (v := .tuple #[.int .i64 v, .bool true]) (by simp [results, Tryz.results25, asAddr, Act.put]) rfl ⟨by rw [HVv.out], hB06⟩
end
end Go.Proofs.YtobnfmneeabomaaGreat
namespace Go.Proofs.YtobnfmneeabomaaGreat
open Go.RowKit
def KindIs (f : Value -> Option Value) (l : List Acc) : Prop :=
 ∀ x : Int, (f (.int .i64 x) = none /\ ∀ a ∈ l, a.code ≠ x) ∨ ∃ a ∈ l, a.code = x /\ f (.int .i64 x) = some (.int .i64 a.kind)
def KindAt (w : World) (b : Nat) (l : List Acc) : Prop := ∃ f, MapAt w Tryz.prog 3 b l.length f /\ KindIs f l
open Classical in
theorem KindIs.step {f : Value -> Option Value} {l : List Acc} (h : KindIs f l) (a : Acc) : KindIs (fun v => if v = .int .i64 a.code then some (Value.int .i64 a.kind) else f v) (l ++ [a]) := by
 intro x
 by_cases e : x = a.code
 ·subst e
  exact .inr ⟨a, by simp, rfl, if_pos rfl⟩
 ·have hne : ¬ (Value.int .i64 x = .int .i64 a.code) := by simp [e]
  rcases h x with ⟨h1, h2⟩ | ⟨b, hb, hc, h1⟩
  ·refine .inl ⟨by show (if _ then _ else f _) = _; rw [if_neg hne, h1], fun b hb => ?_⟩
   rcases List.mem_append.1 hb with hb | hb
   ·exact h2 b hb
   ·simp at hb; subst hb; exact fun e2 => e e2.symm
  ·exact .inr ⟨b, by simp [hb], hc, by show (if _ then _ else f _) = _; rw [if_neg hne, h1]⟩
section
variable {w w' : World} {b B : Nat} {l : List Acc}
theorem KindAt.lt (h : KindAt w b l) : b < w.heap.size := by obtain ⟨f, h, _⟩ := h; exact h.lt
theorem KindAt.below (h : KindAt w b l) (hb : Below B w w') (hB : b < B) : KindAt w' b l := by obtain ⟨f, h, r⟩ := h; exact ⟨f, h.below hb hB, r⟩
theorem KindAt.alloc (h : KindAt w b l) (o : Obj) : KindAt (w.alloc o) b l := by obtain ⟨f, h, r⟩ := h; exact ⟨f, h.alloc o, r⟩
theorem KindAt.made (w : World) : KindAt (w.alloc (.map #[] 0)) w.heap.size [] := ⟨_, MapAt.made w _ _, fun x => .inl ⟨rfl, by simp⟩⟩
theorem KindIs.valid {f : Value -> Option Value} (h : KindIs f l) (hv : ∀ a ∈ l, Ch.find l a.code = some a) (x : Int) : (f (.int .i64 x)).getD (.int .i64 0) = .int .i64 (Ch.found l x).kind := by
 rcases h x with ⟨h1, h2⟩ | ⟨a, ha, hc, h1⟩
 ·have : Ch.find l x = none := by
   unfold Ch.find
   rw [List.find?_eq_none]
   intro a ha; simp [h2 a ha]
  rw [h1, Ch.found, this]; rfl
 ·subst hc
  rw [h1, Ch.found, hv a ha]; rfl
open Go.Maps in
theorem KindAt.look (h : KindAt w b l) (hv : ∀ a ∈ l, Ch.find l a.code = some a) (x : Int) (hx : (Lit.int .i64 x).wf = true) : (Instr.lookup 96 (.map (some b)) (.int .i64 x) false).run Tryz.prog w = .ok (.int .i64 (Ch.found l x).kind) w := by
 obtain ⟨f, hm, hf⟩ := h
 have hz : (zeroValue 3).run Tryz.prog w = .ok (.int .i64 0) w := by kernel_rfl
 rw [hm.lookup intLaw Tryz.underlying96 hz (keyOf_int_mk Tryz.underlying3 hx), hf.valid hv]
end
def KindPost (l : List Acc) (w : World) (e : Ending) (w' : World) : Prop :=
 Below w.heap.size w w' /\ ∃ b, e = .returned (.map (some b)) /\ w.heap.size <= b /\ KindAt w' b l
section
variable (w : World)
theorem kinds_any (g : Grp) (hg : g.At w w.heap.size) :
  Calls Tryz.prog 24 #[.agg #[.string g.cur, .int .i64 g.Y, .int .i64 g.M, .int .i64 g.N, .slice g.cA g.cn g.cc, .int .i64 g.r0, .int .i64 g.r1, .int .i64 g.r2, .int .i64 g.r3, .int .i64 g.r4, .int .i64 g.r5, .int .i64 g.r6, .int .i64 g.r7, .int .i64 g.r8, .int .i64 g.r9, .int .i64 g.r10, .int .i64 g.r11, .int .i64 g.r12, .int .i64 g.r13, .int .i64 g.r14, .slice g.eA g.en g.ec]] w (KindPost g.chart w) := by
 obtain ⟨W1, hW1, hB0, hb0, hz⟩ := nw1 w #[.string g.cur, .int .i64 g.Y, .int .i64 g.M, .int .i64 g.N, .slice g.cA g.cn g.cc, .int .i64 g.r0, .int .i64 g.r1, .int .i64 g.r2, .int .i64 g.r3, .int .i64 g.r4, .int .i64 g.r5, .int .i64 g.r6, .int .i64 g.r7, .int .i64 g.r8, .int .i64 g.r9, .int .i64 g.r10, .int .i64 g.r11, .int .i64 g.r12, .int .i64 g.r13, .int .i64 g.r14, .slice g.eA g.en g.ec] 36
 have HW := Lib.hid hW1
 have hA1 := RowsAt.at_ hg.hc hB0
 have s1 : w.heap.size < W1.heap.size := by omega
 have Hcl := Lib.hid hg.hcl
 have hcn := hg.hcn
 have Hcw := Lib.hid hg.hcw
 have hmm := @run_makeMap Tryz.prog
 have hB2 := hB0.alloc hB0.size (.map #[] 0)
 have hk0 := Lib.hid (KindAt.made W1)
 have hb2 := (Below.heap_alloc W1 (.map #[] 0) _ s1).trans hb0
 have hA2 := (RowsAt.below hA1 ((Below.refl W1.heap.size W1).alloc (Nat.le_refl _) (.map #[] 0)) (Nat.le_refl _))
 obtain ⟨W2, hW2⟩ : ∃ W2, W2 = W1.alloc (.map #[] 0) := ⟨_, rfl⟩
 have hz2 : W2.heap.size = W1.heap.size + 1 := by rw [hW2]; simp
 have hb12 : Below W1.heap.size W1 W2 := by rw [hW2]; exact (Below.refl _ _).alloc (Nat.le_refl _) _
 rw [<- hW2] at hB2 hk0 hb2 hA2
 have HW2 := Lib.hid hW2
 have x4 := cell_of_row _ _ 4 _ _ _ hb2
 simp at x4
 have s2 : w.heap.size < W2.heap.size := by omega
 have HA := Lib.hid hA1
 have H12 := Lib.hid hb12
 clear hW1 hz hb0 hg hb2 hA1 hA2 hW2 hb12
 go_enter Tryz.func24, Tryz.ntmps24
 go_upto_region 1 with (fail)
 rw [<- HW.out]
 go_upto_region 2 with (fail)
 rw [<- HW2.out]
 go_wp2
 clear x4
 go_loopw [10] (fun i wr => ∃ k : Nat, k <= g.cn /\ i = .int .i64 k /\ KindAt wr W1.heap.size (g.chart.take k) /\ Below W1.heap.size W1 wr) (fun i _ => g.cn - (intOf i).toNat)
 case atStart => exact ⟨0, Nat.zero_le _, rfl, hk0.out, H12.out⟩
 case round =>
  obtain ⟨k, hk, rfl, hkd, hbr⟩ := hrel
  have hq := hbr.size
  have hlt3 := hkd.lt
  have hbF := hB0.trans (hbr.mono hB0.size)
  clear hmm
  by_cases hlt : k < g.cn
  ·have hkl : k < g.chart.length := by have := Hcl.out; omega
   obtain ⟨b, o, hAe, hbB, hr⟩ := RowsAt.look (RowsAt.below HA.out hbr (Nat.le_refl _)) hkl
   rw [hAe]
   obtain ⟨z, hzz⟩ : ∃ z, z = g.chart[k] := ⟨_, rfl⟩
   rw [<- hzz] at hr
   have hzw := Hcw.out _ (List.getElem_mem hkl)
   rw [<- hzz] at hzw
   have Hr := Lib.hid hr
   have Hzz := Lib.hid hzz
   have hbw : b < wr.heap.size := by omega
   have hk0 : (0 : Int) <= (k : Int) := by omega
   have hkn : (k : Int) < g.cn := by omega
   obtain ⟨hB6, hb6, hz6⟩ := row_new wr #[.int .i64 (z).code, .int .i64 (z).kind, .int .i64 (z).basis, .int .i64 (z).parent] 111
   have hkd6 := hkd.alloc (.cells #[.int .i64 (z).code, .int .i64 (z).kind, .int .i64 (z).basis, .int .i64 (z).parent] 111)
   obtain ⟨W6, hW6⟩ : ∃ W6, W6 = wr.alloc (.cells #[.int .i64 (z).code, .int .i64 (z).kind, .int .i64 (z).basis, .int .i64 (z).parent] 111) := ⟨_, rfl⟩
   rw [<- hW6] at hB6 hb6 hz6 hkd6
   have HW6 := Lib.hid hW6
   have hbr6 := hbr.trans (hB6.mono hq)
   have y0 := cell_of_row _ _ 0 _ _ _ hb6
   have y1 := cell_of_row _ _ 1 _ _ _ hb6
   simp at y0 y1
   have s6 : wr.heap.size < W6.heap.size := by omega
   have hq6 := hbr6.size
   obtain ⟨f, hfm, hff⟩ := hkd6
   have hkl2 := Maps.keyOf_int_mk (P := Tryz.prog) Tryz.underlying3 hzw.1
   have Hff := Lib.hid (hff.step z)
   have Htk : Hid ((g.chart.take k).length = k) := by show _ = _; rw [List.length_take]; omega
   have Htl : Hid ((g.chart.take k).length < maxLen) := by show _ < _; rw [Htk.out]; unfold maxLen; omega
   clear hr hzz hAe hb6 hz6 hW6 hkd hff
   go_upto_region 5 with (refine wpList_load_mid rfl 111 (.tmp 12) rfl b (o + k * 4) rfl [.int .i64 (z).code, .int .i64 (z).kind, .int .i64 (z).basis, .int .i64 (z).parent] _ Hr.out Tryz.underlying111 rfl accSize ?_)
   rw [<- HW6.out]
   go_wp2_with (at_mapUpdate; refine wpList_mapUpdate_at rfl _ _ _ rfl hfm intLaw Tryz.underlying96 rfl Htl.out _ _ _ rfl rfl hkl2 ?_; intro w7 hm7 hg7)
   have hb7 := hbr6.grown hg7 hq6 (fun j e => by cases e; exact Nat.le_refl _)
   have hk7 : KindAt w7 W1.heap.size (g.chart.take (k + 1)) := by
    rw [List.take_succ_eq_append_getElem hkl, <- Hzz.out]
    exact ⟨_, by rw [List.length_append]; exact hm7, Hff.out⟩
   have Hk7 := Lib.hid hk7
   clear hk7
   go_roundw
   case rel => exact ⟨k + 1, by omega, by go_num, Hk7.out, hb7⟩
   case measure => simp [intOf]; omega
  ·obtain rfl : k = g.cn := by omega
   have HK : Hid (KindAt wr W1.heap.size g.chart) := by
    show KindAt _ _ _
    rwa [<- Hcl.out, List.take_length] at hkd
   clear hkd
   go_wp2
   go_ret
   exact ⟨hbF, W1.heap.size, rfl, by omega, HK.out⟩
end
end Go.Proofs.YtobnfmneeabomaaGreat
namespace Go.Proofs.YtobnfmneeabomaaGreat
open Go.RowKit
def Gr.minor (g : Grp) (m : List Cnt) (x : Int) : (Int × Int × Int × Int) × Int :=
 if Gr.check g x ≠ 0 then ((0, 0, 0, 0), Gr.check g x) else
 match Cn.cfind m x with
 | none => ((0, 0, 0, 0), 0)
 | some y => if x = 0 ∨ y.meth ≠ 3 then ((0, 0, 0, 0), 0) else
  ((Gr.sumOf (Gr.isResult g) y.its, Gr.sumOf (Gr.isEquity g) y.its + -(Gr.sumAll y.its), Gr.sumOf (Gr.isResult g) y.its - R1.rd (Gr.sumOf (Gr.isResult g) y.its) y.sN y.sD, Gr.sumOf (Gr.isEquity g) y.its + -(Gr.sumAll y.its) - R1.rd (Gr.sumOf (Gr.isEquity g) y.its + -(Gr.sumAll y.its)) y.sN y.sD), 0)
def MnPost (g : Grp) (m : List Cnt) (x : Int) (w : World) (e : Ending) (w' : World) : Prop :=
 ∃ a b c d er, Gr.minor g m x = ((a, b, c, d), er) /\ e = .returned (.tuple #[.agg #[.int .i64 a, .int .i64 b, .int .i64 c, .int .i64 d], .int .i64 er]) /\ Below w.heap.size w w'
section
variable (w : World)
end
end Go.Proofs.YtobnfmneeabomaaGreat
namespace Go.Proofs.YtobnfmneeabomaaGreat
open Go.RowKit
theorem figmSize : (Tryz.prog.info? 39).map (·.size) = some 4 := by kernel_rfl
theorem KindAt.block {w w' : World} {b : Nat} {l : List Acc} (h : KindAt w b l) (he : w'.heap[b]? = w.heap[b]?) : KindAt w' b l := by
 obtain ⟨f, ⟨D, ⟨es, clock, h', r⟩, r2⟩, hf⟩ := h
 exact ⟨f, ⟨D, ⟨es, clock, he.trans h', r⟩, r2⟩, hf⟩
theorem Gr.chart_finds {g : Grp} (h : Gr.valid g = true) : ∀ a ∈ g.chart, Ch.find g.chart a.code = some a := by
 simp only [Gr.valid, Gr.books, Gr.accounts, Bool.and_eq_true] at h
 have hc : Ch.valid true g.chart = true := h.1.1.1.1.2.1.1
 simp only [Ch.valid, Bool.and_eq_true, List.all_eq_true, List.mem_range] at hc
 intro a ha
 refine find_self (fun i hi => ?_) ha
 have := hc.2 i hi
 simp only [Ch.okAt, Bool.and_eq_true, Bool.or_eq_true, decide_eq_true_eq] at this
 exact this.1.2
section
variable (w : World)
theorem minord_any (g : Grp) (A : Option Addr) (n c : Nat) (l : List Con) (m : List Cnt) (x : Int) (hl : l.length = n) (hn : n <= 1000) (hA : ConsAt w w.heap.size A l) (hm : Hold (fun a b => a.Holds SD w w.heap.size b) l m) (hg : g.At w w.heap.size) (hwf : ∀ y ∈ m, ∀ z ∈ y.its, (Lit.int .i64 z.acct).wf = true) :
  Calls Tryz.prog 8 #[.agg #[.string g.cur, .int .i64 g.Y, .int .i64 g.M, .int .i64 g.N, .slice g.cA g.cn g.cc, .int .i64 g.r0, .int .i64 g.r1, .int .i64 g.r2, .int .i64 g.r3, .int .i64 g.r4, .int .i64 g.r5, .int .i64 g.r6, .int .i64 g.r7, .int .i64 g.r8, .int .i64 g.r9, .int .i64 g.r10, .int .i64 g.r11, .int .i64 g.r12, .int .i64 g.r13, .int .i64 g.r14, .slice g.eA g.en g.ec], .slice A n c, .int .i64 x] w (MnPost g m x w) := by
 obtain ⟨W1, hW1, hB0, hb0, hb1, hz⟩ := nw2 w #[.string g.cur, .int .i64 g.Y, .int .i64 g.M, .int .i64 g.N, .slice g.cA g.cn g.cc, .int .i64 g.r0, .int .i64 g.r1, .int .i64 g.r2, .int .i64 g.r3, .int .i64 g.r4, .int .i64 g.r5, .int .i64 g.r6, .int .i64 g.r7, .int .i64 g.r8, .int .i64 g.r9, .int .i64 g.r10, .int .i64 g.r11, .int .i64 g.r12, .int .i64 g.r13, .int .i64 g.r14, .slice g.eA g.en g.ec] #[.int .i64 0, .int .i64 0, .int .i64 0, .int .i64 0] 36 39
 have HW := Lib.hid hW1
 have Hb0 := Lib.hid hb0
 have Hb1 := Lib.hid hb1
 have hrg := Lib.hid (grp_range hb0)
 have s1 : w.heap.size < W1.heap.size := by omega
 have s1' : w.heap.size + 1 < W1.heap.size := by omega
 have hg1 := hg.at_ hB0
 have HA := Lib.hid (RowsAt.at_ hA hB0)
 have HM := Lib.hid (hm.imp (Q := fun a b => a.Holds SD W1 W1.heap.size b) fun _ _ h => h.atD hB0)
 have Hl := Lib.hid hl
 have Hwf := Lib.hid hwf
 have Ho := Lib.hid (accOne 0 0 0 0)
 have hfin : ∀ (W : World) (h : W.heap[w.heap.size + 1]? = some (.cells #[.int .i64 0, .int .i64 0, .int .i64 0, .int .i64 0] 39 (0, 0))), Hid ((loadVar 39 ⟨w.heap.size + 1, 0, none⟩).run Tryz.prog (W.setRow (w.heap.size + 1) #[.int .i64 0, .int .i64 0, .int .i64 0, .int .i64 0]) = .ok (.agg #[.int .i64 0, .int .i64 0, .int .i64 0, .int .i64 0]) (W.setRow (w.heap.size + 1) #[.int .i64 0, .int .i64 0, .int .i64 0, .int .i64 0])) := fun W h =>
  Lib.hid (run_loadVar_row (P := Tryz.prog) _ _ _ 39 _ _ _ (setRow_heap W (w.heap.size + 1) _ #[.int .i64 0, .int .i64 0, .int .i64 0, .int .i64 0] _ _ h) Tryz.underlying39 rfl figmSize)
 have Hfin := Lib.hid hfin
 clear hW1 hz hb0 hb1 hg hA hm hl hfin hwf
 go_enter Tryz.func8, Tryz.ntmps8
 go_upto_region 1 with (fail)
 rw [<- HW.out]
 go_wp2_with (refine wpList_load_mid rfl 36 (.tmp 3) rfl w.heap.size 0 rfl _ _ hrg.out Tryz.underlying36 rfl grpSize ?_)
 refine (grpd_any W1 g hg1).mono ?_
 rintro e W2 ⟨rfl, hB2⟩
 have hB02 := hB0.trans (hB2.mono hB0.size)
 have hc0 := gbox Hb0.out hB2 s1
 have Hc0 := Lib.hid hc0
 have Hc1 := Lib.hid (gbox Hb1.out hB2 s1')
 have x20 := cell_of_row _ _ 20 _ _ _ hc0
 simp at x20
 have s2 : w.heap.size < W2.heap.size := some_lt hc0
 have Hg2 := Lib.hid (hg1.at_ hB2)
 have HA2 := Lib.hid (RowsAt.at_ HA.out hB2)
 have HM2 := Lib.hid (HM.out.imp (Q := fun a b => a.Holds SD W2 W2.heap.size b) fun _ _ h => h.atD hB2)
 have hBF := Lib.hid (below_setRow hB02 (show w.heap.size <= w.heap.size + 1 by omega) #[.int .i64 0, .int .i64 0, .int .i64 0, .int .i64 0])
 clear hc0 hg1
 by_cases hv : Gr.valid g = true
 case neg =>
  have hv' : Gr.valid g = false := by simpa using hv
  have hck : Gr.check g x = 1 := by rw [Gr.check, if_pos hv']
  have HV : Hid (Gr.minor g m x = ((0, 0, 0, 0), 1)) := by show _ = _; rw [Gr.minor, if_pos (by rw [hck]; simp), hck]
  rw [hv']
  clear hv hv' hck
  have hload := Hfin.out W2 Hc1.out
  go_wp2_with (refine wpList_store_row rfl 39 (.tmp 6) (.tmp 20) none rfl rfl (w.heap.size + 1) 39 _ #[.int .i64 0, .int .i64 0, .int .i64 0, .int .i64 0] rfl rfl Hc1.out rfl figmSize Ho.out ?_)
  exact bodyPost_ret (v := .tuple #[.agg #[.int .i64 0, .int .i64 0, .int .i64 0, .int .i64 0], .int .i64 1]) (by simp [results, Tryz.results8, asAddr, Act.put, hload.out]) rfl ⟨0, 0, 0, 0, 1, HV.out, rfl, hBF.out⟩
 have HVA := Lib.hid hv
 rw [hv]
 clear hv
 have hbad : (x < 0 ∨ (g.en : Int) <= x) -> Hid (Gr.minor g m x = ((0, 0, 0, 0), 2)) := fun h => by
  have hck : Gr.check g x = 2 := by rw [Gr.check, if_neg (by rw [HVA.out]; simp), if_pos h]
  show _ = _; rw [Gr.minor, if_pos (by rw [hck]; simp), hck]
 by_cases h2 : x < 0
 case pos =>
  have HV := hbad (.inl h2)
  clear hbad
  have hload := Hfin.out W2 Hc1.out
  go_wp2_with (refine wpList_store_row rfl 39 (.tmp 6) (.tmp 30) none rfl rfl (w.heap.size + 1) 39 _ #[.int .i64 0, .int .i64 0, .int .i64 0, .int .i64 0] rfl rfl Hc1.out rfl figmSize Ho.out ?_)
  exact bodyPost_ret (v := .tuple #[.agg #[.int .i64 0, .int .i64 0, .int .i64 0, .int .i64 0], .int .i64 2]) (by simp [results, Tryz.results8, asAddr, Act.put, hload.out]) rfl ⟨0, 0, 0, 0, 2, HV.out, rfl, hBF.out⟩
 by_cases h3 : (g.en : Int) <= x
 case pos =>
  have HV := hbad (.inr h3)
  clear hbad
  have hload := Hfin.out W2 Hc1.out
  go_wp2_with (refine wpList_store_row rfl 39 (.tmp 6) (.tmp 30) none rfl rfl (w.heap.size + 1) 39 _ #[.int .i64 0, .int .i64 0, .int .i64 0, .int .i64 0] rfl rfl Hc1.out rfl figmSize Ho.out ?_)
  exact bodyPost_ret (v := .tuple #[.agg #[.int .i64 0, .int .i64 0, .int .i64 0, .int .i64 0], .int .i64 2]) (by simp [results, Tryz.results8, asAddr, Act.put, hload.out]) rfl ⟨0, 0, 0, 0, 2, HV.out, rfl, hBF.out⟩
 have Hck : Hid (Gr.check g x = 0) := by show _ = _; rw [Gr.check, if_neg (by rw [HVA.out]; simp), if_neg (by omega)]
 have HF := Lib.hid (Cn.find_hold (P := fun a b => a.Holds SD W2 W2.heap.size b) (fun _ _ h => h.he) x HM2.out)
 clear hbad hBF
 go_wp2_with (fail)
 refine (confd_any W2 A n c l x Hl.out (by omega) HA2.out).mono ?_
 rintro e W3 ⟨rfl, hB3⟩
 have hB03 := hB02.trans (hB3.mono hB02.size)
 obtain ⟨x0, hx0⟩ : ∃ x0, x0 = Cn.found l x := ⟨_, rfl⟩
 obtain ⟨ok, hok⟩ : ∃ ok, ok = Cn.has l x := ⟨_, rfl⟩
 rw [<- hx0, <- hok]
 have HX := Lib.hid hx0
 have HK := Lib.hid hok
 have hd0 := gbox Hc0.out hB3 (some_lt Hc0.out)
 have hd1 := gbox Hc1.out hB3 (some_lt Hc1.out)
 obtain ⟨hB4, hb4, hz4⟩ := row_new W3 #[.int .i64 x0.ent, .int .i64 x0.meth, .int .i64 x0.since, .bool x0.sg1, .slice x0.sA1 x0.sn1 x0.sc1, .bool x0.sg2, .slice x0.sA2 x0.sn2 x0.sc2, .bool x0.fg1, .slice x0.fA1 x0.fn1 x0.fc1, .bool x0.fg2, .slice x0.fA2 x0.fn2 x0.fc2, .slice x0.iA x0.im x0.ic, .slice x0.hA x0.hm x0.hc] 92
 have hB04 := hB03.trans (hB4.mono hB03.size)
 have He0 := Lib.hid (gbox hd0 hB4 (some_lt hd0))
 have He1 := Lib.hid (gbox hd1 hB4 (some_lt hd1))
 have hq3 := hB03.size
 obtain ⟨W4, hW4⟩ : ∃ W4, W4 = W3.alloc (.cells #[.int .i64 x0.ent, .int .i64 x0.meth, .int .i64 x0.since, .bool x0.sg1, .slice x0.sA1 x0.sn1 x0.sc1, .bool x0.sg2, .slice x0.sA2 x0.sn2 x0.sc2, .bool x0.fg1, .slice x0.fA1 x0.fn1 x0.fc1, .bool x0.fg2, .slice x0.fA2 x0.fn2 x0.fc2, .slice x0.iA x0.im x0.ic, .slice x0.hA x0.hm x0.hc] 92) := ⟨_, rfl⟩
 rw [<- hW4] at hB4 hb4 hz4 hB04 He0 He1
 have HW4 := Lib.hid hW4
 have Hb4 := Lib.hid hb4
 have x1 := cell_of_row _ _ 1 _ _ _ hb4
 simp at x1
 have s4 : W3.heap.size < W4.heap.size := by omega
 have s4' : w.heap.size + 1 < W4.heap.size := some_lt He1.out
 have hBF := Lib.hid (below_setRow hB04 (show w.heap.size <= w.heap.size + 1 by omega) #[.int .i64 0, .int .i64 0, .int .i64 0, .int .i64 0])
 clear hx0 hok hd0 hd1 hb4 hz4 hW4 x20
 go_upto_region 6 with (fail)
 rw [<- HW4.out]
 by_cases hko : ok = true
 case neg =>
  have hko' : ok = false := by simpa using hko
  have HV : Hid (Gr.minor g m x = ((0, 0, 0, 0), 0)) := by
   show _ = _
   rw [Gr.minor, if_neg (by rw [Hck.out]; simp)]
   rcases HF.out with ⟨h1, h2⟩ | ⟨a, b, h1, h2, h3⟩
   ·rw [h2]
   ·have := HK.out; rw [hko', Cn.has, h1] at this; simp at this
  rw [hko']
  clear hko hko'
  have hload := Hfin.out W4 He1.out
  go_wp2_with (refine wpList_store_row rfl 39 (.tmp 6) (.tmp 48) none rfl rfl (w.heap.size + 1) 39 _ #[.int .i64 0, .int .i64 0, .int .i64 0, .int .i64 0] rfl rfl He1.out rfl figmSize Ho.out ?_)
  exact bodyPost_ret (v := .tuple #[.agg #[.int .i64 0, .int .i64 0, .int .i64 0, .int .i64 0], .int .i64 0]) (by simp [results, Tryz.results8, asAddr, Act.put, hload.out]) rfl ⟨0, 0, 0, 0, 0, HV.out, rfl, hBF.out⟩
 subst hko
 obtain ⟨y, hyf, hyh⟩ : ∃ y, Cn.cfind m x = some y /\ x0.Holds SD W4 W4.heap.size y := by
  rcases HF.out with ⟨h1, h2⟩ | ⟨a, b, h1, h2, h3⟩
  ·have := HK.out; rw [Cn.has, h1] at this; simp at this
  ·refine ⟨b, h2, ?_⟩
   have e : x0 = a := by rw [HX.out, Cn.found, h1]; rfl
   rw [e]
   exact (h3.atD hB3).atD hB4
 have HYF := Lib.hid hyf
 have HY := Lib.hid hyh
 have hme := hyh.hm
 clear hyf hyh
 by_cases hx : x = 0
 case pos =>
  have HV : Hid (Gr.minor g m x = ((0, 0, 0, 0), 0)) := by
   show _ = _
   rw [Gr.minor, if_neg (by rw [Hck.out]; simp), HYF.out]; simp [hx]
  have hxb : (x == 0) = true := by simp [hx]
  clear hx hme
  have hload := Hfin.out W4 He1.out
  go_wp2_with (refine wpList_store_row rfl 39 (.tmp 6) (.tmp 48) none rfl rfl (w.heap.size + 1) 39 _ #[.int .i64 0, .int .i64 0, .int .i64 0, .int .i64 0] rfl rfl He1.out rfl figmSize Ho.out ?_)
  exact bodyPost_ret (v := .tuple #[.agg #[.int .i64 0, .int .i64 0, .int .i64 0, .int .i64 0], .int .i64 0]) (by simp [results, Tryz.results8, asAddr, Act.put, hload.out]) rfl ⟨0, 0, 0, 0, 0, HV.out, rfl, hBF.out⟩
 have hxb : (x == 0) = false := by simp [hx]
 by_cases hmt : x0.meth = 3
 case neg =>
  have HV : Hid (Gr.minor g m x = ((0, 0, 0, 0), 0)) := by
   show _ = _
   rw [Gr.minor, if_neg (by rw [Hck.out]; simp), HYF.out]; simp [<- hme, hmt]
  have hmb : (x0.meth != 3) = true := by simp [hmt]
  clear hx hmt hme
  have hload := Hfin.out W4 He1.out
  go_wp2_with (refine wpList_store_row rfl 39 (.tmp 6) (.tmp 48) none rfl rfl (w.heap.size + 1) 39 _ #[.int .i64 0, .int .i64 0, .int .i64 0, .int .i64 0] rfl rfl He1.out rfl figmSize Ho.out ?_)
  exact bodyPost_ret (v := .tuple #[.agg #[.int .i64 0, .int .i64 0, .int .i64 0, .int .i64 0], .int .i64 0]) (by simp [results, Tryz.results8, asAddr, Act.put, hload.out]) rfl ⟨0, 0, 0, 0, 0, HV.out, rfl, hBF.out⟩
 have hmb : (x0.meth != 3) = false := by simp [hmt]
 have hyw : ∀ z ∈ y.its, (Lit.int .i64 z.acct).wf = true := Hwf.out y (List.mem_of_find?_eq_some HYF.out)
 have Hyw := Lib.hid hyw
 have Hvc := Lib.hid (Gr.chart_finds HVA.out)
 obtain ⟨t0, ht0⟩ : ∃ t0, t0 = -(Gr.sumAll y.its) := ⟨_, rfl⟩
 have HT := Lib.hid ht0
 have Has : Hid (Gr.minor g m x = ((Gr.sumOf (Gr.isResult g) y.its, Gr.sumOf (Gr.isEquity g) y.its + t0, Gr.sumOf (Gr.isResult g) y.its - R1.rd (Gr.sumOf (Gr.isResult g) y.its) y.sN y.sD, Gr.sumOf (Gr.isEquity g) y.its + t0 - R1.rd (Gr.sumOf (Gr.isEquity g) y.its + t0) y.sN y.sD), 0)) := by
  show _ = _
  rw [Gr.minor, if_neg (by rw [Hck.out]; simp), HYF.out]
  simp only []
  rw [if_neg (by rw [<- hme]; simp [hx, hmt]), <- HT.out]
 have Hg4 := Lib.hid ((Hg2.out.at_ hB3).at_ hB4)
 have hilen := Lib.hid HY.out.hil
 have hin := HY.out.hin
 have htb := Gr.sumOf_bd (fun _ => true) y.its HY.out.hix
 have htb2 : Gr.sumOf (fun _ => true) y.its = -t0 := by rw [ht0, Gr.sumAll]; omega
 rw [htb2] at htb
 obtain ⟨t00, t01⟩ : -100000000000000 <= t0 /\ t0 <= 100000000000000 := by have := hilen.out; omega
 have x11 := cell_of_row _ _ 11 _ _ _ Hb4.out
 simp at x11
 clear hx hmt hme hBF ht0 htb htb2 hyw
 go_upto_region 8 with (fail)
 go_wp2_with (fail)
 refine (amountd_any W4 x0.iA x0.im x0.ic y.its hilen.out (by omega) HY.out.hix HY.out.hiA).mono ?_
 rw [<- HT.out]
 rintro e W5 ⟨rfl, hB5⟩
 have hq5 := hB5.size
 obtain ⟨W6, hW6, hB6, hb6, hz6⟩ := nw1 W5 #[.int .i64 0, .int .i64 t0, .int .i64 0, .int .i64 0] 39
 have HW6 := Lib.hid hW6
 have Hb6 := Lib.hid hb6
 have hB46 := hB5.trans (hB6.mono hB5.size)
 have hg6 := (Hg4.out.at_ hB5).at_ hB6
 have hrg6 := Lib.hid (grp_range (gbox He0.out hB46 (some_lt He0.out)))
 have s6 : W5.heap.size < W6.heap.size := by omega
 have sw6 : w.heap.size < W6.heap.size := by have := some_lt He0.out; omega
 clear hW6 hb6 hz6 x11 x1
 go_upto_region 9 with (fail)
 rw [<- HW6.out]
 go_wp2_with (refine wpList_load_mid rfl 36 (.tmp 3) rfl w.heap.size 0 rfl _ _ hrg6.out Tryz.underlying36 rfl grpSize ?_)
 refine (kinds_any W6 g hg6).mono ?_
 rintro e W7 ⟨hB7, M, rfl, hM, hkd⟩
 have hB47 := hB46.trans (hB7.mono hB46.size)
 have hMF : M ≠ W5.heap.size := by omega
 have hq7 := hB47.size
 have Hkd7 := Lib.hid hkd
 have Hb47 := Lib.hid hB47
 have Hrow7 := Lib.hid (gbox Hb6.out hB7 s6)
 have hco7 := gbox Hb4.out hB47 s4
 have x11 := cell_of_row _ _ 11 _ _ _ hco7
 simp at x11
 have s7 : W3.heap.size < W7.heap.size := some_lt hco7
 clear hg6 hkd hco7 hB47
 go_wp2
 clear x11
 go_loopw [58] (fun i wr => ∃ k : Nat, k <= x0.im /\ i = .int .i64 k /\ Below W4.heap.size W4 wr /\ KindAt wr M g.chart /\ wr.heap[W5.heap.size]? = some (.cells #[.int .i64 (Gr.sumOf (Gr.isResult g) (y.its.take k)), .int .i64 (Gr.sumOf (Gr.isEquity g) (y.its.take k) + t0), .int .i64 0, .int .i64 0] 39 (0, 0))) (fun i _ => x0.im - (intOf i).toNat)
 case atStart => exact ⟨0, Nat.zero_le _, rfl, Hb47.out, Hkd7.out, by rw [List.take_zero]; show _ = some (Obj.cells #[.int .i64 0, .int .i64 (0 + t0), .int .i64 0, .int .i64 0] _ _); rw [Int.zero_add]; exact Hrow7.out⟩
 case round =>
  obtain ⟨k, hk, rfl, hbr, hkd, hrow⟩ := hrel
  have Hrow := Lib.hid hrow
  have Hkd := Lib.hid hkd
  have hkM := hkd.lt
  have hqr := hbr.size
  have hyr := Lib.hid (HY.out.belowD hbr (Nat.le_refl _))
  have Hgc := Lib.hid (gbox He0.out hbr (some_lt He0.out))
  have swg := some_lt Hgc.out
  have hpw := some_lt hrow
  clear hrow hkd
  by_cases hlt : k < x0.im
  ·have hkl : k < y.its.length := by have := hilen.out; omega
   obtain ⟨b, o, hAe, hbB, hr⟩ := RowsAt.look hyr.out.hiA hkl
   rw [hAe]
   obtain ⟨z, hzz⟩ : ∃ z, z = y.its[k] := ⟨_, rfl⟩
   rw [<- hzz] at hr
   have Hr := Lib.hid hr
   have Hzz := Lib.hid hzz
   obtain ⟨zl, zh⟩ : z.small := by rw [hzz]; exact HY.out.hix _ (List.getElem_mem hkl)
   have hwz : (Lit.int .i64 z.acct).wf = true := by rw [hzz]; exact Hyw.out _ (List.getElem_mem hkl)
   have hbw : b < wr.heap.size := by omega
   obtain ⟨hB8, hb8, hz8⟩ := row_new wr #[.int .i64 z.ent0, .int .i64 z.lin, .int .i64 z.ent, .int .i64 z.acct, .int .i64 z.partner, .int .i64 z.date, .int .i64 z.amt] 61
   have hkd8 := KindAt.alloc Hkd.out (Obj.cells #[.int .i64 z.ent0, .int .i64 z.lin, .int .i64 z.ent, .int .i64 z.acct, .int .i64 z.partner, .int .i64 z.date, .int .i64 z.amt] 61)
   obtain ⟨W8, hW8⟩ : ∃ W8, W8 = wr.alloc (.cells #[.int .i64 z.ent0, .int .i64 z.lin, .int .i64 z.ent, .int .i64 z.acct, .int .i64 z.partner, .int .i64 z.date, .int .i64 z.amt] 61) := ⟨_, rfl⟩
   rw [<- hW8] at hB8 hb8 hz8 hkd8
   have HW8 := Lib.hid hW8
   have hlk := hkd8.look Hvc.out z.acct hwz
   have hbr8 : Below W4.heap.size W4 W8 := hbr.trans (hB8.mono hqr)
   have Hrow8 := Lib.hid (gbox Hrow.out hB8 hpw)
   have hgc8 := gbox Hgc.out hB8 swg
   have g12 := cell_of_row _ _ 12 _ _ _ hgc8
   have y3 := cell_of_row _ _ 3 _ _ _ hb8
   have y6 := cell_of_row _ _ 6 _ _ _ hb8
   simp at g12 y3 y6
   have HN1 : Hid (Gr.sumOf (Gr.isResult g) (y.its.take (k + 1)) = Gr.sumOf (Gr.isResult g) (y.its.take k) + (if Gr.isResult g z.acct = true then z.amt else 0)) := by show _ = _; rw [Gr.sumOf_take _ hkl, <- Hzz.out]
   have HN2 : Hid (Gr.sumOf (Gr.isEquity g) (y.its.take (k + 1)) = Gr.sumOf (Gr.isEquity g) (y.its.take k) + (if Gr.isEquity g z.acct = true then z.amt else 0)) := by show _ = _; rw [Gr.sumOf_take _ hkl, <- Hzz.out]
   obtain ⟨b1, b2⟩ := Gr.sumOf_take_small (P := Gr.isResult g) k hilen.out (by omega) HY.out.hix
   obtain ⟨b3, b4⟩ := Gr.sumOf_take_small (P := Gr.isEquity g) k hilen.out (by omega) HY.out.hix
   obtain ⟨r, hr0⟩ : ∃ r, r = Gr.sumOf (Gr.isResult g) (y.its.take k) := ⟨_, rfl⟩
   obtain ⟨q0, hq0⟩ : ∃ q0, q0 = Gr.sumOf (Gr.isEquity g) (y.its.take k) := ⟨_, rfl⟩
   obtain ⟨q, hq1⟩ : ∃ q, q = q0 + t0 := ⟨_, rfl⟩
   have hrow8 := Hrow8.out
   rw [<- hr0, <- hq0, <- hq1] at hrow8
   rw [<- hr0] at b1 b2 HN1
   rw [<- hq0] at b3 b4 HN2
   have p0 := cell_of_row _ _ 0 _ _ _ hrow8
   have p1 := cell_of_row _ _ 1 _ _ _ hrow8
   have zf := fun j => frozen_of_row _ _ j _ _ hrow8
   simp at p0 p1
   have HR8 := Lib.hid hrow8
   have HQ1 := Lib.hid hq1
   have hqb : -1100000000000000 <= q /\ q <= 1100000000000000 := by omega
   have Hkd8 := Lib.hid hkd8
   obtain ⟨ac, hac⟩ : ∃ ac, ac = z.acct := ⟨_, rfl⟩
   obtain ⟨am, ham⟩ : ∃ am, am = z.amt := ⟨_, rfl⟩
   obtain ⟨kd, hkk⟩ : ∃ kd, kd = (Ch.found g.chart ac).kind := ⟨_, rfl⟩
   rw [<- hac] at y3 hlk
   rw [<- hkk] at hlk
   rw [<- ham] at y6 zl zh
   have HE : Hid (Gr.isResult g z.acct = (decide (kd = 4) || decide (kd = 5))) := by show _ = _; rw [Gr.isResult, Gr.kind, <- hac, <- hkk]
   have HQ : Hid (Gr.isEquity g z.acct = (decide (kd = 3) && decide (ac ≠ g.r7))) := by show _ = _; rw [Gr.isEquity, Gr.kind, <- hac, <- hkk]
   rw [<- ham] at HN1 HN2
   have s8 : wr.heap.size < W8.heap.size := by omega
   have s8p : W5.heap.size < W8.heap.size := some_lt hrow8
   have s8g : w.heap.size < W8.heap.size := some_lt hgc8
   have hk0 : (0 : Int) <= (k : Int) := by omega
   have hkn : (k : Int) < x0.im := by omega
   clear hr hzz hAe hb8 hz8 hW8 hrow8 hgc8 hkd8 hwz hr0 hq0 hq1 hac ham hkk b3 b4 hbB
   go_upto_region 13 with (refine wpList_load_mid rfl 61 (.tmp 60) rfl b (o + k * 7) rfl [.int .i64 z.ent0, .int .i64 z.lin, .int .i64 z.ent, .int .i64 z.acct, .int .i64 z.partner, .int .i64 z.date, .int .i64 z.amt] _ Hr.out Tryz.underlying61 rfl itmSize ?_)
   rw [<- HW8.out]
   by_cases h4 : kd = 4
   ·have h4b : (kd == 4) = true := by simp [h4]
    have HPR : Hid (Gr.isResult g z.acct = true) := by show _ = _; rw [HE.out]; simp [h4]
    have HPE : Hid (Gr.isEquity g z.acct = false) := by show _ = _; rw [HQ.out]; simp [h4]
    clear h4
    have hp9 := heap_setCell_same W8 W5.heap.size 0 _ _ (.int .i64 (r + am)) HR8.out
    simp at hp9
    have Hp9 := Lib.hid hp9
    have Hb9 := Lib.hid (hbr8.setCell (p := ⟨W5.heap.size, 0, none⟩) (show W4.heap.size <= W5.heap.size from hq5) (.int .i64 (r + am)))
    have Hk9 : Hid (KindAt (W8.setCell ⟨W5.heap.size, 0, none⟩ (.int .i64 (r + am))) M g.chart) := Lib.hid (Hkd8.out.block (heap_setCell_other _ _ _ _ hMF))
    clear hp9
    go_wp2
    go_roundw
    case rel => exact ⟨k + 1, by omega, by go_num, Hb9.out, Hk9.out, by rw [HN1.out, HN2.out, HPR.out, HPE.out]; simp only [Bool.false_eq_true, if_true, if_false, Int.add_zero]; rw [<- HQ1.out]; exact Hp9.out⟩
    case measure => simp [intOf]; omega
   have h4b : (kd == 4) = false := by simp [h4]
   by_cases h5 : kd = 5
   ·have h5b : (kd == 5) = true := by simp [h5]
    have HPR : Hid (Gr.isResult g z.acct = true) := by show _ = _; rw [HE.out]; simp [h5]
    have HPE : Hid (Gr.isEquity g z.acct = false) := by show _ = _; rw [HQ.out]; simp [h5]
    clear h5 h4
    have hp9 := heap_setCell_same W8 W5.heap.size 0 _ _ (.int .i64 (r + am)) HR8.out
    simp at hp9
    have Hp9 := Lib.hid hp9
    have Hb9 := Lib.hid (hbr8.setCell (p := ⟨W5.heap.size, 0, none⟩) (show W4.heap.size <= W5.heap.size from hq5) (.int .i64 (r + am)))
    have Hk9 : Hid (KindAt (W8.setCell ⟨W5.heap.size, 0, none⟩ (.int .i64 (r + am))) M g.chart) := Lib.hid (Hkd8.out.block (heap_setCell_other _ _ _ _ hMF))
    clear hp9
    go_wp2
    go_roundw
    case rel => exact ⟨k + 1, by omega, by go_num, Hb9.out, Hk9.out, by rw [HN1.out, HN2.out, HPR.out, HPE.out]; simp only [Bool.false_eq_true, if_true, if_false, Int.add_zero]; rw [<- HQ1.out]; exact Hp9.out⟩
    case measure => simp [intOf]; omega
   have h5b : (kd == 5) = false := by simp [h5]
   by_cases h3 : kd = 3
   ·have h3b : (kd == 3) = true := by simp [h3]
    by_cases h7 : ac = g.r7
    ·have h7b : (ac != g.r7) = false := by simp [h7]
     have HPR : Hid (Gr.isResult g z.acct = false) := by show _ = _; rw [HE.out]; simp [h3, h7]
     have HPE : Hid (Gr.isEquity g z.acct = false) := by show _ = _; rw [HQ.out]; simp [h3, h7]
     clear h3 h4 h5 h7
     have Hp9 := HR8
     have Hb9 := Lib.hid hbr8
     have Hk9 := Hkd8
     go_wp2
     go_roundw
     case rel => exact ⟨k + 1, by omega, by go_num, Hb9.out, Hk9.out, by rw [HN1.out, HN2.out, HPR.out, HPE.out]; simp only [Bool.false_eq_true, if_true, if_false, Int.add_zero]; rw [<- HQ1.out]; exact Hp9.out⟩
     case measure => simp [intOf]; omega
    have h7b : (ac != g.r7) = true := by simp [h7]
    have HPR : Hid (Gr.isResult g z.acct = false) := by show _ = _; rw [HE.out]; simp [h3, h7]
    have HPE : Hid (Gr.isEquity g z.acct = true) := by show _ = _; rw [HQ.out]; simp [h3, h7]
    clear h3 h4 h5 h7
    have hp9 := heap_setCell_same W8 W5.heap.size 1 _ _ (.int .i64 (q + am)) HR8.out
    simp at hp9
    have Hp9 := Lib.hid hp9
    have Hb9 := Lib.hid (hbr8.setCell (p := ⟨W5.heap.size, 1, none⟩) (show W4.heap.size <= W5.heap.size from hq5) (.int .i64 (q + am)))
    have Hk9 : Hid (KindAt (W8.setCell ⟨W5.heap.size, 1, none⟩ (.int .i64 (q + am))) M g.chart) := Lib.hid (Hkd8.out.block (heap_setCell_other _ _ _ _ hMF))
    clear hp9
    go_wp2
    go_roundw
    case rel => exact ⟨k + 1, by omega, by go_num, Hb9.out, Hk9.out, by rw [HN1.out, HN2.out, HPR.out, HPE.out]; simp only [Bool.false_eq_true, if_true, if_false, Int.add_zero]; rw [show q0 + am + t0 = q + am by rw [HQ1.out]; omega]; exact Hp9.out⟩
    case measure => simp [intOf]; omega
   have h3b : (kd == 3) = false := by simp [h3]
   have HPR : Hid (Gr.isResult g z.acct = false) := by show _ = _; rw [HE.out]; simp [h3, h4, h5]
   have HPE : Hid (Gr.isEquity g z.acct = false) := by show _ = _; rw [HQ.out]; simp [h3, h4, h5]
   clear h3 h4 h5
   have Hp9 := HR8
   have Hb9 := Lib.hid hbr8
   have Hk9 := Hkd8
   go_wp2
   go_roundw
   case rel => exact ⟨k + 1, by omega, by go_num, Hb9.out, Hk9.out, by rw [HN1.out, HN2.out, HPR.out, HPE.out]; simp only [Bool.false_eq_true, if_true, if_false, Int.add_zero]; rw [<- HQ1.out]; exact Hp9.out⟩
   case measure => simp [intOf]; omega
  ·obtain rfl : k = x0.im := by omega
   have hrow := Hrow.out
   have htk : y.its.take x0.im = y.its := List.take_of_length_le (by have := hilen.out; omega)
   rw [htk] at hrow
   have hrb := Gr.sumOf_bd (Gr.isResult g) y.its HY.out.hix
   have heb := Gr.sumOf_bd (Gr.isEquity g) y.its HY.out.hix
   have htb := Gr.sumOf_bd (fun _ => true) y.its HY.out.hix
   have htb2 : Gr.sumOf (fun _ => true) y.its = -t0 := by rw [HT.out, Gr.sumAll]; omega
   rw [htb2] at htb
   obtain ⟨r, hr⟩ : ∃ r, r = Gr.sumOf (Gr.isResult g) y.its := ⟨_, rfl⟩
   obtain ⟨q, hq⟩ : ∃ q, q = Gr.sumOf (Gr.isEquity g) y.its + t0 := ⟨_, rfl⟩
   rw [<- hr] at hrb
   have hl2 := hilen.out
   obtain ⟨r0, r1⟩ : -100000000000000 <= r /\ r <= 100000000000000 := by omega
   obtain ⟨q0, q1⟩ : -100000000000000 <= q /\ q <= 100000000000000 := by omega
   rw [<- hr, <- hq] at hrow
   obtain ⟨u, hu⟩ : ∃ u, u = R1.rd r y.sN y.sD := ⟨_, rfl⟩
   obtain ⟨v, hv⟩ : ∃ v, v = R1.rd q y.sN y.sD := ⟨_, rfl⟩
   have HU := Lib.hid hu
   have HV2 := Lib.hid hv
   have hub := rd_small HY.out.hso r0 r1
   have hvb := rd_small HY.out.hso q0 q1
   rw [<- hu] at hub
   rw [<- hv] at hvb
   have HV : Hid (Gr.minor g m x = ((r, q, r - u, q - v), 0)) := by show _ = _; rw [Has.out, <- hr, <- hq, <- hu, <- hv]
   have hco := gbox Hb4.out hbr s4
   have hcr := range_row (cs := [.int .i64 x0.ent, .int .i64 x0.meth, .int .i64 x0.since, .bool x0.sg1, .slice x0.sA1 x0.sn1 x0.sc1, .bool x0.sg2, .slice x0.sA2 x0.sn2 x0.sc2, .bool x0.fg1, .slice x0.fA1 x0.fn1 x0.fc1, .bool x0.fg2, .slice x0.fA2 x0.fn2 x0.fc2, .slice x0.iA x0.im x0.ic, .slice x0.hA x0.hm x0.hc]) hco
   have hsr : Hid (wr.rangeAt W3.heap.size 3 [.bool x0.sg1, .slice x0.sA1 x0.sn1 x0.sc1, .bool x0.sg2, .slice x0.sA2 x0.sn2 x0.sc2]) := Lib.hid (fun j v hj => by
    match j with
    | 0 => exact hcr 3 _ (by simpa using hj)
    | 1 => exact hcr 4 _ (by simpa using hj)
    | 2 => exact hcr 5 _ (by simpa using hj)
    | 3 => exact hcr 6 _ (by simpa using hj)
    | j + 4 => simp at hj)
   have p0 := cell_of_row _ _ 0 _ _ _ hrow
   simp at p0
   have HRw := Lib.hid hrow
   have sco := some_lt hco
   clear hr hq hrb heb htb htb2 hl2 hu hv hrow hco hcr Hrow htk
   go_upto_region 21 with (fail)
   go_wp2_with (refine wpList_load_mid rfl 90 (.tmp 93) rfl W3.heap.size 3 rfl [.bool x0.sg1, .slice x0.sA1 x0.sn1 x0.sc1, .bool x0.sg2, .slice x0.sA2 x0.sn2 x0.sc2] _ hsr.out Tryz.underlying90 rfl ratSize ?_)
   refine (times39_any wr r x0 y r0 r1 (hyr.out.moreD hqr)).mono ?_
   rw [<- HU.out]
   rintro e Wa ⟨rfl, hBa⟩
   have hsa : Hid (Wa.rangeAt W3.heap.size 3 [.bool x0.sg1, .slice x0.sA1 x0.sn1 x0.sc1, .bool x0.sg2, .slice x0.sA2 x0.sn2 x0.sc2]) := Lib.hid (range_below hsr.out hBa sco)
   have hrowa := gbox HRw.out hBa hpw
   have p1 := cell_of_row _ _ 1 _ _ _ hrowa
   simp at p1
   have HRa := Lib.hid hrowa
   have hya := (hyr.out.moreD hqr).atD hBa
   have Hya := Lib.hid hya
   have sa := some_lt hrowa
   have sca : W3.heap.size < Wa.heap.size := by have := hBa.size; omega
   clear hrowa hya p0
   go_upto_region 22 with (fail)
   go_wp2_with (refine wpList_load_mid rfl 90 (.tmp 101) rfl W3.heap.size 3 rfl [.bool x0.sg1, .slice x0.sA1 x0.sn1 x0.sc1, .bool x0.sg2, .slice x0.sA2 x0.sn2 x0.sc2] _ hsa.out Tryz.underlying90 rfl ratSize ?_)
   refine (times39_any Wa q x0 y q0 q1 Hya.out).mono ?_
   rw [<- HV2.out]
   rintro e Wb ⟨rfl, hBb⟩
   have hrowb := gbox HRa.out hBb sa
   have p0 := cell_of_row _ _ 0 _ _ _ hrowb
   have p1 := cell_of_row _ _ 1 _ _ _ hrowb
   have p2 := cell_of_row _ _ 2 _ _ _ hrowb
   have p3 := cell_of_row _ _ 3 _ _ _ hrowb
   have zf := fun j => frozen_of_row _ _ j _ _ hrowb
   have sb := some_lt hrowb
   simp at p0 p1 p2 p3
   have hrc := heap_setCell_same Wb W5.heap.size 2 _ _ (.int .i64 (r - u)) hrowb
   simp at hrc
   have hrd := heap_setCell_same (Wb.setCell ⟨W5.heap.size, 2, none⟩ (.int .i64 (r - u))) W5.heap.size 3 _ _ (.int .i64 (q - v)) hrc
   simp at hrd
   have hbrb := hbr.trans ((hBa.trans (hBb.mono hBa.size)).mono hqr)
   have hbz := (hbrb.setCell (p := ⟨W5.heap.size, 2, none⟩) (show W4.heap.size <= W5.heap.size from hq5) (.int .i64 (r - u))).setCell (p := ⟨W5.heap.size, 3, none⟩) (show W4.heap.size <= W5.heap.size from hq5) (.int .i64 (q - v))
   have Hrd := Lib.hid hrd
   have Hbz := Lib.hid hbz
   clear hrowb hrc hrd hbz
   go_upto_region 26 with (fail)
   obtain ⟨Wd, hWd⟩ : ∃ Wd, Wd = (Wb.setCell ⟨W5.heap.size, 2, none⟩ (.int .i64 (r - u))).setCell ⟨W5.heap.size, 3, none⟩ (.int .i64 (q - v)) := ⟨_, rfl⟩
   have hrd := Hrd.out
   have hbz := Hbz.out
   rw [<- hWd] at hrd hbz ⊢
   clear hWd Hrd Hbz p0 p1 p2 p3 zf
   have HR9 := Lib.hid (range_row (cs := [.int .i64 r, .int .i64 q, .int .i64 (r - u), .int .i64 (q - v)]) hrd)
   have HF9 := Lib.hid (gbox He1.out hbz s4')
   have Ho2 := Lib.hid (accOne r q (r - u) (q - v))
   have hB09 := hB04.trans (hbz.mono hB04.size)
   have hload2 := Lib.hid (run_loadVar_row (P := Tryz.prog) _ _ _ 39 _ _ _ (setRow_heap _ (w.heap.size + 1) _ #[.int .i64 r, .int .i64 q, .int .i64 (r - u), .int .i64 (q - v)] _ _ HF9.out) Tryz.underlying39 rfl figmSize)
   have hBF2 := Lib.hid (below_setRow hB09 (show w.heap.size <= w.heap.size + 1 by omega) #[.int .i64 r, .int .i64 q, .int .i64 (r - u), .int .i64 (q - v)])
   clear hrd hbz
   go_wp2_with (first | (refine wpList_load_mid rfl 39 (.tmp 10) rfl W5.heap.size 0 rfl [.int .i64 r, .int .i64 q, .int .i64 (r - u), .int .i64 (q - v)] _ HR9.out Tryz.underlying39 rfl figmSize ?_) | (refine wpList_store_row rfl 39 (.tmp 6) (.tmp 123) none rfl rfl (w.heap.size + 1) 39 _ #[.int .i64 r, .int .i64 q, .int .i64 (r - u), .int .i64 (q - v)] rfl rfl HF9.out rfl figmSize Ho2.out ?_))
   exact bodyPost_ret (v := .tuple #[.agg #[.int .i64 r, .int .i64 q, .int .i64 (r - u), .int .i64 (q - v)], .int .i64 0]) (by simp [results, Tryz.results8, asAddr, Act.put, hload2.out]) rfl ⟨r, q, r - u, q - v, 0, HV.out, rfl, hBF2.out⟩
end
end Go.Proofs.YtobnfmneeabomaaGreat
