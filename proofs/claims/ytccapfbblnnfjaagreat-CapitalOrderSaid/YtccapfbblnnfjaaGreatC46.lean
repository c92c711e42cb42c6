/- My texts CapP, InvR, ElimR, OnC, CapH. -/
import Derived.Test.YtccapfbblnnfjaaGreatG33
import Derived.Test.YtccapfbblnnfjaaGreatG40
set_option linter.unusedVariables false
set_option linter.unusedSimpArgs false
set_option maxRecDepth 100000
set_option maxHeartbeats 8000000
namespace Go.Proofs.YtccapfbblnnfjaaGreat
open Go.RowKit
theorem Hold.get {P : Con -> Cnt -> Prop} : ∀ {l : List Con} {m : List Cnt}, Hold P l m -> ∀ (k : Nat) (h1 : k < l.length) (h2 : k < m.length), P l[k] m[k]
 | _ :: _, _ :: _, ⟨h, _⟩, 0, _, _ => h
 | _ :: _, _ :: _, ⟨_, h⟩, k + 1, h1, h2 => Hold.get h k (by simpa using h1) (by simpa using h2)
theorem Hold.its {R : World -> Nat -> Value -> Int -> Int -> Prop} {w : World} {B : Nat} : ∀ {l : List Con} {m : List Cnt}, Hold (fun a b => a.Holds R w B b) l m -> ∀ y ∈ m, y.its.length <= 40 /\ ∀ z ∈ y.its, z.small
 | [], [], _ => by simp
 | _ :: _, y :: m, ⟨h, h'⟩ => fun u hu => by
  rcases List.mem_cons.1 hu with rfl | hu
  ·exact ⟨by rw [h.hil]; exact h.hin, h.hix⟩
  ·exact Hold.its h' u hu
 | [], _ :: _, h' => h'.elim
 | _ :: _, [], h' => h'.elim
namespace Gr
def sumIf (P : Itm -> Bool) : List Itm -> Int
 | [] => 0
 | z :: l => (if P z = true then z.amt else 0) + sumIf P l
theorem sumIf_append (P : Itm -> Bool) : ∀ (l m : List Itm), sumIf P (l ++ m) = sumIf P l + sumIf P m
 | [], m => by simp [sumIf]
 | z :: l, m => by simp only [List.cons_append, sumIf, sumIf_append P l m]; omega
theorem sumIf_take (P : Itm -> Bool) {l : List Itm} {k : Nat} (hk : k < l.length) : sumIf P (l.take (k + 1)) = sumIf P (l.take k) + (if P l[k] = true then l[k].amt else 0) := by
 rw [List.take_succ_eq_append_getElem hk, sumIf_append]; simp [sumIf]
theorem sumIf_bd (P : Itm -> Bool) : ∀ (l : List Itm), (∀ x ∈ l, x.small) -> -(1000000000000 * (l.length : Int)) <= sumIf P l /\ sumIf P l <= 1000000000000 * (l.length : Int)
 | [], _ => by simp [sumIf]
 | x :: l, h => by
  have h1 := sumIf_bd P l fun y hy => h y (List.mem_cons_of_mem _ hy)
  have h2 := h x (List.mem_cons_self)
  unfold Itm.small at h2
  simp only [sumIf, List.length_cons]
  split <;> omega
theorem sumIf_take_small {P : Itm -> Bool} {l : List Itm} {n : Nat} (k : Nat) (hl : l.length = n) (hn : n <= 40) (hx : ∀ x ∈ l, x.small) : -40000000000000 <= sumIf P (l.take k) /\ sumIf P (l.take k) <= 40000000000000 := by
 have := sumIf_bd P (l.take k) fun y hy => hx y (List.mem_of_mem_take hy)
 have h1 : (l.take k).length <= 40 := by rw [List.length_take]; omega
 omega
theorem sumIf_on (c : Int) : ∀ l : List Itm, sumIf (fun z => decide (z.acct = c)) l = sumOf (fun a => decide (a = c)) l
 | [] => rfl
 | z :: l => by simp only [sumIf, sumOf, sumIf_on c l]
def invest1 (g : Grp) (p d : Int) (after : Bool) (z : Itm) : Bool := decide (z.acct = g.r0) && decide (z.partner = p) && (decide (d < z.date) == after)
def invest (g : Grp) (p d : Int) (after : Bool) : List Cnt -> Int
 | [] => 0
 | y :: m => (if y.meth = 3 then sumIf (invest1 g p d after) y.its else 0) + invest g p d after m
theorem invest_append (g : Grp) (p d : Int) (after : Bool) : ∀ l m : List Cnt, invest g p d after (l ++ m) = invest g p d after l + invest g p d after m
 | [], m => by simp [invest]
 | y :: l, m => by simp only [List.cons_append, invest, invest_append g p d after l m]; omega
theorem invest_take (g : Grp) (p d : Int) (after : Bool) {l : List Cnt} {k : Nat} (hk : k < l.length) : invest g p d after (l.take (k + 1)) = invest g p d after (l.take k) + (if l[k].meth = 3 then sumIf (invest1 g p d after) l[k].its else 0) := by
 rw [List.take_succ_eq_append_getElem hk, invest_append]; simp [invest]
theorem invest_bd (g : Grp) (p d : Int) (after : Bool) : ∀ m : List Cnt, (∀ y ∈ m, y.its.length <= 40 /\ ∀ z ∈ y.its, z.small) -> -(40000000000000 * (m.length : Int)) <= invest g p d after m /\ invest g p d after m <= 40000000000000 * (m.length : Int)
 | [], _ => by simp [invest]
 | y :: m, h => by
  have ih := invest_bd g p d after m fun z hz => h z (List.mem_cons_of_mem _ hz)
  obtain ⟨h1, h2⟩ := h y List.mem_cons_self
  have := sumIf_bd (invest1 g p d after) y.its h2
  simp only [invest, List.length_cons]
  split <;> omega
def elim (m : List Cnt) (x : Int) : Option Cnt := match Cn.cfind m x with
 | none => none
 | some y => if x ≠ 0 /\ (y.meth = 3 ∨ y.meth = 2) then some y else none
def capital (g : Grp) (m : List Cnt) (x : Int) : (Int × Int × Int) × Int :=
 if check g x ≠ 0 then ((0, 0, 0), check g x) else
 match elim m x with
 | none => ((0, 0, 0), 0)
 | some y => ((invest g x y.since false m, sumOf (fun a => decide (a = g.r7)) y.its, if y.meth = 3 then R1.rd (sumOf (fun a => decide (a = g.r7)) y.its) y.fN y.fD else sumOf (fun a => decide (a = g.r7)) y.its), 0)
def cpost (g : Grp) (m : List Cnt) (x : Int) : List Prt × Int :=
 if (capital g m x).2 ≠ 0 then ([], (capital g m x).2) else Po.clean [⟨g.r0, -(capital g m x).1.1⟩, ⟨g.r7, -(capital g m x).1.2.1⟩, ⟨g.r5, (capital g m x).1.2.1 - (capital g m x).1.2.2⟩, ⟨g.r1, (capital g m x).1.1 + (capital g m x).1.2.2⟩]
def step (g : Grp) (m : List Cnt) (x : Int) : (Int × Int × Int) × Int :=
 if check g x ≠ 0 then ((0, 0, 0), check g x) else
 match elim m x with
 | none => ((0, 0, 0), 0)
 | some y => if y.meth = 3 then ((invest g x y.since true m, R1.rd (sumOf (fun a => decide (a = g.r7)) y.its) y.fN y.fD, R1.rd (sumOf (fun a => decide (a = g.r7)) y.its) y.sN y.sD), 0) else ((invest g x y.since true m, 0, 0), 0)
end Gr
theorem itmSize38 : (Tryz.prog.info? 82).map (·.size) = some 7 := by kernel_rfl
section
variable (w : World)
theorem invr_any (g : Grp) (A : Option Addr) (n c : Nat) (l : List Con) (m : List Cnt) (p d : Int) (af : Bool) (hl : l.length = n) (hn : n <= 100) (hA : ConsAt w w.heap.size A l) (hm : Hold (fun a b => a.Holds SR w w.heap.size b) l m) (_ : g.At w w.heap.size) :
  Calls Tryz.prog 38 #[.agg #[.string g.cur, .int .i64 g.Y, .int .i64 g.M, .int .i64 g.N, .slice g.cA g.cn g.cc, .int .i64 g.r0, .int .i64 g.r1, .int .i64 g.r2, .int .i64 g.r3, .int .i64 g.r4, .int .i64 g.r5, .int .i64 g.r6, .int .i64 g.r7, .int .i64 g.r8, .int .i64 g.r9, .int .i64 g.r10, .int .i64 g.r11, .int .i64 g.r12, .int .i64 g.r13, .int .i64 g.r14, .slice g.eA g.en g.ec], .slice A n c, .int .i64 p, .int .i64 d, .bool af] w fun e w' => e = .returned (.int .i64 (Gr.invest g p d af m)) /\ Below w.heap.size w w' := by
 obtain ⟨W1, hW1, hB0, hb0, hz⟩ := nw1 w #[.string g.cur, .int .i64 g.Y, .int .i64 g.M, .int .i64 g.N, .slice g.cA g.cn g.cc, .int .i64 g.r0, .int .i64 g.r1, .int .i64 g.r2, .int .i64 g.r3, .int .i64 g.r4, .int .i64 g.r5, .int .i64 g.r6, .int .i64 g.r7, .int .i64 g.r8, .int .i64 g.r9, .int .i64 g.r10, .int .i64 g.r11, .int .i64 g.r12, .int .i64 g.r13, .int .i64 g.r14, .slice g.eA g.en g.ec] 29
 have HW := Lib.hid hW1
 have HA := Lib.hid (RowsAt.at_ hA hB0)
 have HM := Lib.hid (hm.imp (Q := fun a b => a.Holds SR W1 W1.heap.size b) fun _ _ h => h.atR hB0)
 have Hb := Lib.hid hb0
 have s1 : w.heap.size < W1.heap.size := by omega
 have Hl := Lib.hid hl
 have Hml := Lib.hid (Hold.len hm)
 have Hits := Lib.hid (Hold.its hm)
 clear hW1 hz hb0 hA hm hl
 go_enter Tryz.func38, Tryz.ntmps38
 go_upto_region 1 with (fail)
 rw [<- HW.out]
 go_wp2
 go_loopw [11, 12, 13] (fun s i _ wr => ∃ k : Nat, k <= n /\ i = .int .i64 k /\ s = .int .i64 (Gr.invest g p d af (m.take k)) /\ Below W1.heap.size W1 wr) (fun _ i _ _ => n - (intOf i).toNat)
 case atStart => exact ⟨0, Nat.zero_le _, rfl, rfl, Below.refl _ _⟩
 case round =>
  obtain ⟨k, hk, rfl, rfl, hbr⟩ := hrel
  obtain ⟨Vr, hVr⟩ : ∃ V, V = wr := ⟨_, rfl⟩
  subst hVr
  obtain ⟨s, hs⟩ : ∃ s, s = Gr.invest g p d af (m.take k) := ⟨_, rfl⟩
  have hsb := Gr.invest_bd g p d af (m.take k) fun y hy => Hits.out y (List.mem_of_mem_take hy)
  have htl : (m.take k).length <= 100 := by rw [List.length_take]; omega
  rw [<- hs] at hsb ⊢
  obtain ⟨lo, hi⟩ : -4000000000000000 <= s /\ s <= 4000000000000000 := by omega
  have Hs := Lib.hid hs
  have hq := hbr.size
  have hbF := hB0.trans (hbr.mono hB0.size)
  clear hs hsb htl
  by_cases hlt : k < n
  ·have hkl : k < l.length := by have := Hl.out; omega
   have hkm : k < m.length := by have := Hml.out; omega
   obtain ⟨b, o, rfl, hbB, hr⟩ := RowsAt.look (RowsAt.below HA.out hbr (Nat.le_refl _)) hkl
   have hHo := (HM.out.get k hkl hkm).belowR hbr (Nat.le_refl _)
   obtain ⟨x0, hx0⟩ : ∃ x0, x0 = l[k] := ⟨_, rfl⟩
   obtain ⟨y, hy⟩ : ∃ y, y = m[k] := ⟨_, rfl⟩
   have HN : Hid (Gr.invest g p d af (m.take (k + 1)) = s + (if y.meth = 3 then Gr.sumIf (Gr.invest1 g p d af) y.its else 0)) := by show _ = _; rw [Gr.invest_take _ _ _ _ hkm, <- Hs.out, <- hy]
   rw [<- hx0] at hr hHo
   rw [<- hy] at hHo
   have HY := Lib.hid hHo
   have hme := hHo.hm
   have hilen := Lib.hid hHo.hil
   have hin := hHo.hin
   have c11 : Vr.cell? ⟨b, o + k * 13 + 11, none⟩ = some (.slice x0.iA x0.im x0.ic) := hr 11 _ rfl
   have c1 : Vr.cell? ⟨b, o + k * 13 + 1, none⟩ = some (.int .i64 x0.meth) := hr 1 _ rfl
   have C11 := Lib.hid c11
   have C1 := Lib.hid c1
   have hbw : b < Vr.heap.size := by omega
   have hk0 : (0 : Int) <= (k : Int) := by omega
   have hkn : (k : Int) < n := by omega
   have Hbr := Lib.hid (gbox Hb.out hbr s1)
   have sgw := some_lt Hbr.out
   clear hx0 hy hr hHo
   by_cases hmt : x0.meth = 3
   case neg =>
    have hmb : (x0.meth == 3) = false := by simp [hmt]
    have HN2 : Hid (Gr.invest g p d af (m.take (k + 1)) = s) := by show _ = _; rw [HN.out, if_neg (by rw [<- hme]; exact hmt), Int.add_zero]
    clear hmt hme
    go_wp2
    go_loopw [11, 13] (fun v i2 wq => i2 = .int .i64 0 /\ v = .int .i64 s /\ wq = Vr) (fun _ _ _ => 0)
    case atStart => exact ⟨rfl, rfl, rfl⟩
    case round =>
     obtain ⟨rfl, rfl, hwq⟩ := hrel
     subst hwq
     by_cases h0 : (0 : Int) < x0.im
     ·go_wp2
      go_roundw
      case rel => exact ⟨k + 1, by omega, by go_num, by rw [HN2.out], hbr⟩
      case measure => simp [intOf]; omega
     ·go_wp2
      go_roundw
      case rel => exact ⟨k + 1, by omega, by go_num, by rw [HN2.out], hbr⟩
      case measure => simp [intOf]; omega
   have hmb : (x0.meth == 3) = true := by simp [hmt]
   have HN2 : Hid (Gr.invest g p d af (m.take (k + 1)) = s + Gr.sumIf (Gr.invest1 g p d af) y.its) := by show _ = _; rw [HN.out, if_pos (by rw [<- hme]; exact hmt)]
   clear hmt hme
   go_wp2
   clear c11 c1
   go_loopw [11, 13] (fun v i2 wq => ∃ j : Nat, j <= x0.im /\ i2 = .int .i64 j /\ v = .int .i64 (s + Gr.sumIf (Gr.invest1 g p d af) (y.its.take j)) /\ Below Vr.heap.size Vr wq) (fun _ i2 _ => x0.im - (intOf i2).toNat)
   case atStart => exact ⟨0, Nat.zero_le _, rfl, by simp [Gr.sumIf], Below.refl _ _⟩
   case round =>
    obtain ⟨j, hj, rfl, rfl, hbq⟩ := hrel
    obtain ⟨t, ht⟩ : ∃ t, t = Gr.sumIf (Gr.invest1 g p d af) (y.its.take j) := ⟨_, rfl⟩
    obtain ⟨tl, th⟩ := Gr.sumIf_take_small (P := Gr.invest1 g p d af) j hilen.out (by omega) HY.out.hix
    rw [<- ht] at tl th ⊢
    obtain ⟨v, hv⟩ : ∃ v, v = s + t := ⟨_, rfl⟩
    rw [<- hv]
    have Ht := Lib.hid ht
    have Hv := Lib.hid hv
    have hvb : -4100000000000000 <= v /\ v <= 4100000000000000 := by omega
    have hqq := hbq.size
    have c11 := (hbq.cell (p := ⟨b, o + k * 13 + 11, none⟩) hbw).trans C11.out
    have c1 := (hbq.cell (p := ⟨b, o + k * 13 + 1, none⟩) hbw).trans C1.out
    clear ht hv
    by_cases hlj : j < x0.im
    ·have hjl : j < y.its.length := by have := hilen.out; omega
     obtain ⟨b2, o2, hA2, hb2, hr2⟩ := RowsAt.look (RowsAt.below HY.out.hiA (hbq.mono hq) (Nat.le_refl _)) hjl
     obtain ⟨zi, hzi⟩ : ∃ zi, zi = y.its[j] := ⟨_, rfl⟩
     have HNj : Hid (Gr.sumIf (Gr.invest1 g p d af) (y.its.take (j + 1)) = t + (if Gr.invest1 g p d af zi = true then zi.amt else 0)) := by show _ = _; rw [Gr.sumIf_take _ hjl, <- Ht.out, <- hzi]
     obtain ⟨zl, zh⟩ : zi.small := by rw [hzi]; exact HY.out.hix _ (List.getElem_mem hjl)
     rw [<- hzi] at hr2
     have Hr2 := Lib.hid hr2
     have hb2w : b2 < Vr.heap.size := by omega
     have hj0 : (0 : Int) <= (j : Int) := by omega
     have hjn : (j : Int) < x0.im := by omega
     rw [hA2] at c11
     have hqw : Vr.heap.size <= wr.heap.size := hqq
     obtain ⟨W2, hW2, hB2, hbn, hzn⟩ := nw1 wr #[.int .i64 zi.ent0, .int .i64 zi.lin, .int .i64 zi.ent, .int .i64 zi.acct, .int .i64 zi.partner, .int .i64 zi.date, .int .i64 zi.amt] 82
     have HW2 := Lib.hid hW2
     have hbq2 := hbq.trans (hB2.mono hqq)
     have Hbq2 := Lib.hid hbq2
     have y3 := cell_of_row _ _ 3 _ _ _ hbn
     have y4 := cell_of_row _ _ 4 _ _ _ hbn
     have y5 := cell_of_row _ _ 5 _ _ _ hbn
     have y6 := cell_of_row _ _ 6 _ _ _ hbn
     have hbg := gbox Hbr.out hbq2 sgw
     have g5 := cell_of_row _ _ 5 _ _ _ hbg
     simp at y3 y4 y5 y6 g5
     have sg2 := some_lt hbg
     have s2 : wr.heap.size < W2.heap.size := by omega
     obtain ⟨ac, hac⟩ : ∃ ac, ac = zi.acct := ⟨_, rfl⟩
     obtain ⟨pa, hpa⟩ : ∃ pa, pa = zi.partner := ⟨_, rfl⟩
     obtain ⟨da, hda⟩ : ∃ da, da = zi.date := ⟨_, rfl⟩
     obtain ⟨am, ham⟩ : ∃ am, am = zi.amt := ⟨_, rfl⟩
     have HP : Hid (Gr.invest1 g p d af zi = (decide (ac = g.r0) && decide (pa = p) && (decide (d < da) == af))) := by show _ = _; rw [Gr.invest1, <- hac, <- hpa, <- hda]
     rw [<- hac] at y3
     rw [<- hpa] at y4
     rw [<- hda] at y5
     rw [<- ham] at y6 zl zh HNj
     clear hzi hr2 hA2 hbn hzn hW2 hbg hac hpa hda ham
     go_upto_region 9 with (refine wpList_load_mid rfl 82 (.tmp 45) rfl b2 (o2 + j * 7) rfl [.int .i64 zi.ent0, .int .i64 zi.lin, .int .i64 zi.ent, .int .i64 zi.acct, .int .i64 zi.partner, .int .i64 zi.date, .int .i64 zi.amt] _ Hr2.out Tryz.underlying82 rfl itmSize38 ?_)
     rw [<- HW2.out]
     by_cases h1 : ac = g.r0
     case neg =>
      have h1b : (ac == g.r0) = false := by simp [h1]
      have HB : Hid (Gr.invest1 g p d af zi = false) := by show _ = _; rw [HP.out]; simp [h1]
      clear h1
      have HK : Hid (s + Gr.sumIf (Gr.invest1 g p d af) (y.its.take (j + 1)) = v) := by show _ = _; rw [HNj.out, HB.out, Hv.out]; simp
      go_wp2
      go_roundw
      case rel => exact ⟨j + 1, by omega, by go_num, by rw [HK.out], Hbq2.out⟩
      case measure => simp [intOf]; omega
     have h1b : (ac == g.r0) = true := by simp [h1]
     by_cases h2 : pa = p
     case neg =>
      have h2b : (pa == p) = false := by simp [h2]
      have HB : Hid (Gr.invest1 g p d af zi = false) := by show _ = _; rw [HP.out]; simp [h2]
      clear h1 h2
      have HK : Hid (s + Gr.sumIf (Gr.invest1 g p d af) (y.its.take (j + 1)) = v) := by show _ = _; rw [HNj.out, HB.out, Hv.out]; simp
      go_wp2
      go_roundw
      case rel => exact ⟨j + 1, by omega, by go_num, by rw [HK.out], Hbq2.out⟩
      case measure => simp [intOf]; omega
     have h2b : (pa == p) = true := by simp [h2]
     by_cases h3 : d < da
     ·have HP2 := Lib.hid (HP.out)
      cases af with
      | true =>
       have HB : Hid (Gr.invest1 g p d true zi = true) := by show _ = _; rw [HP.out]; simp [h1, h2, h3]
       clear h1 h2
       have HK : Hid (s + Gr.sumIf (Gr.invest1 g p d true) (y.its.take (j + 1)) = v + am) := by show _ = _; rw [HNj.out, HB.out, Hv.out]; simp; omega
       go_wp2
       go_roundw
       case rel => exact ⟨j + 1, by omega, by go_num, by rw [HK.out], Hbq2.out⟩
       case measure => simp [intOf]; omega
      | false =>
       have HB : Hid (Gr.invest1 g p d false zi = false) := by show _ = _; rw [HP.out]; simp [h1, h2, h3]
       clear h1 h2
       have HK : Hid (s + Gr.sumIf (Gr.invest1 g p d false) (y.its.take (j + 1)) = v) := by show _ = _; rw [HNj.out, HB.out, Hv.out]; simp
       go_wp2
       go_roundw
       case rel => exact ⟨j + 1, by omega, by go_num, by rw [HK.out], Hbq2.out⟩
       case measure => simp [intOf]; omega
     ·have HP2 := Lib.hid (HP.out)
      cases af with
      | true =>
       have HB : Hid (Gr.invest1 g p d true zi = false) := by show _ = _; rw [HP.out]; simp [h1, h2, h3]
       clear h1 h2
       have HK : Hid (s + Gr.sumIf (Gr.invest1 g p d true) (y.its.take (j + 1)) = v) := by show _ = _; rw [HNj.out, HB.out, Hv.out]; simp
       go_wp2
       go_roundw
       case rel => exact ⟨j + 1, by omega, by go_num, by rw [HK.out], Hbq2.out⟩
       case measure => simp [intOf]; omega
      | false =>
       have HB : Hid (Gr.invest1 g p d false zi = true) := by show _ = _; rw [HP.out]; simp [h1, h2, h3]
       clear h1 h2
       have HK : Hid (s + Gr.sumIf (Gr.invest1 g p d false) (y.its.take (j + 1)) = v + am) := by show _ = _; rw [HNj.out, HB.out, Hv.out]; simp; omega
       go_wp2
       go_roundw
       case rel => exact ⟨j + 1, by omega, by go_num, by rw [HK.out], Hbq2.out⟩
       case measure => simp [intOf]; omega
    ·obtain rfl : j = x0.im := by omega
     have HT : Hid (Gr.invest g p d af (m.take (k + 1)) = v) := by
      show _ = _
      have h1 := Ht.out
      rw [List.take_of_length_le (by have := hilen.out; omega)] at h1
      rw [HN2.out, <- h1, Hv.out]
     have hbz := hbr.trans (hbq.mono hq)
     go_wp2
     go_roundw
     case rel => exact ⟨k + 1, by omega, by go_num, by rw [HT.out], hbz⟩
     case measure => simp [intOf]; omega
  ·obtain rfl : k = n := by omega
   have HV : Hid (Gr.invest g p d af m = s) := by
    show _ = _
    have := Hs.out
    rw [List.take_of_length_le (by have := Hml.out; have := Hl.out; omega)] at this
    exact this.symm
   go_wp2
   go_ret
   exact ⟨by rw [HV.out]; rfl, hbF⟩
end
def Cn.isElim (l : List Con) (x : Int) : Bool := Cn.has l x && decide (x ≠ 0) && (decide ((Cn.found l x).meth = 3) || decide ((Cn.found l x).meth = 2))
theorem conrSize38 : (Tryz.prog.info? 62).map (·.size) = some 13 := by kernel_rfl
section
variable (w : World)
theorem elimr_any (A : Option Addr) (n c : Nat) (l : List Con) (x : Int) (hl : l.length = n) (hn : n <= 100) (hA : ConsAt w w.heap.size A l) :
  Calls Tryz.prog 23 #[.slice A n c, .int .i64 x] w fun e w' => e = .returned (.tuple #[.agg #[.int .i64 (Cn.found l x).ent, .int .i64 (Cn.found l x).meth, .int .i64 (Cn.found l x).since, .bool (Cn.found l x).sg1, .slice (Cn.found l x).sA1 (Cn.found l x).sn1 (Cn.found l x).sc1, .bool (Cn.found l x).sg2, .slice (Cn.found l x).sA2 (Cn.found l x).sn2 (Cn.found l x).sc2, .bool (Cn.found l x).fg1, .slice (Cn.found l x).fA1 (Cn.found l x).fn1 (Cn.found l x).fc1, .bool (Cn.found l x).fg2, .slice (Cn.found l x).fA2 (Cn.found l x).fn2 (Cn.found l x).fc2, .slice (Cn.found l x).iA (Cn.found l x).im (Cn.found l x).ic, .slice (Cn.found l x).hA (Cn.found l x).hm (Cn.found l x).hc], .bool (Cn.isElim l x)]) /\ Below w.heap.size w w' := by
 obtain ⟨W1, hW1, hB0, hb0, hz⟩ := nw1 w #[.int .i64 0, .int .i64 0, .int .i64 0, .bool false, .slice none 0 0, .bool false, .slice none 0 0, .bool false, .slice none 0 0, .bool false, .slice none 0 0, .slice none 0 0, .slice none 0 0] 62
 have HW := Lib.hid hW1
 have HA := Lib.hid (RowsAt.at_ hA hB0)
 have Hb0 := Lib.hid hb0
 have s1 : w.heap.size < W1.heap.size := by omega
 have Hl := Lib.hid hl
 clear hW1 hz hb0 hA hl
 go_enter Tryz.func23, Tryz.ntmps23
 go_upto_region 1 with (fail)
 rw [<- HW.out]
 go_wp2_with (fail)
 refine (confr_any W1 A n c l x Hl.out (by omega) HA.out).mono ?_
 rintro e W2 ⟨rfl, hB2⟩
 obtain ⟨x0, hx0⟩ : ∃ x0, x0 = Cn.found l x := ⟨_, rfl⟩
 obtain ⟨ok, hok⟩ : ∃ ok, ok = Cn.has l x := ⟨_, rfl⟩
 have HE : Hid (Cn.isElim l x = (ok && decide (x ≠ 0) && (decide (x0.meth = 3) || decide (x0.meth = 2)))) := by show _ = _; rw [Cn.isElim, <- hx0, <- hok]
 rw [<- hx0, <- hok]
 have HX := Lib.hid hx0
 obtain ⟨hB3, hb3, hz3⟩ := row_new W2 #[.int .i64 x0.ent, .int .i64 x0.meth, .int .i64 x0.since, .bool x0.sg1, .slice x0.sA1 x0.sn1 x0.sc1, .bool x0.sg2, .slice x0.sA2 x0.sn2 x0.sc2, .bool x0.fg1, .slice x0.fA1 x0.fn1 x0.fc1, .bool x0.fg2, .slice x0.fA2 x0.fn2 x0.fc2, .slice x0.iA x0.im x0.ic, .slice x0.hA x0.hm x0.hc] 62
 have hb02 := gbox Hb0.out hB2 s1
 have hb03 := gbox hb02 hB3 (some_lt hb02)
 obtain ⟨W3, hW3⟩ : ∃ W3, W3 = W2.alloc (.cells #[.int .i64 x0.ent, .int .i64 x0.meth, .int .i64 x0.since, .bool x0.sg1, .slice x0.sA1 x0.sn1 x0.sc1, .bool x0.sg2, .slice x0.sA2 x0.sn2 x0.sc2, .bool x0.fg1, .slice x0.fA1 x0.fn1 x0.fc1, .bool x0.fg2, .slice x0.fA2 x0.fn2 x0.fc2, .slice x0.iA x0.im x0.ic, .slice x0.hA x0.hm x0.hc] 62) := ⟨_, rfl⟩
 rw [<- hW3] at hB3 hb3 hz3 hb03
 have HW3 := Lib.hid hW3
 have hB03 := hB0.trans ((hB2.trans (hB3.mono hB2.size)).mono hB0.size)
 have s3 : W2.heap.size < W3.heap.size := by omega
 have s30 := some_lt hb03
 have hne : w.heap.size ≠ W2.heap.size := by have := hB0.size; have := some_lt hb02; omega
 have hV0 : (fun W => Below w.heap.size w W /\ W.heap[W2.heap.size]? = some (.cells #[.int .i64 x0.ent, .int .i64 x0.meth, .int .i64 x0.since, .bool x0.sg1, .slice x0.sA1 x0.sn1 x0.sc1, .bool x0.sg2, .slice x0.sA2 x0.sn2 x0.sc2, .bool x0.fg1, .slice x0.fA1 x0.fn1 x0.fc1, .bool x0.fg2, .slice x0.fA2 x0.fn2 x0.fc2, .slice x0.iA x0.im x0.ic, .slice x0.hA x0.hm x0.hc] 62 (0, 0))) W3.drew := ⟨below_drawn hB03 1, hb3⟩
 have hz0 : W3.drew.heap[w.heap.size]? = some (.cells #[.int .i64 0, .int .i64 0, .int .i64 0, .bool false, .slice none 0 0, .bool false, .slice none 0 0, .bool false, .slice none 0 0, .bool false, .slice none 0 0, .slice none 0 0, .slice none 0 0] 62 (0, 0)) := hb03
 clear hx0 hok hW3 hz3 hb02 hb3
 go_upto_region 2 with (fail)
 rw [<- HW3.out]
 refine wp_region_held (S := (fun W => Below w.heap.size w W /\ W.heap[W2.heap.size]? = some (.cells #[.int .i64 x0.ent, .int .i64 x0.meth, .int .i64 x0.since, .bool x0.sg1, .slice x0.sA1 x0.sn1 x0.sc1, .bool x0.sg2, .slice x0.sA2 x0.sn2 x0.sc2, .bool x0.fg1, .slice x0.fA1 x0.fn1 x0.fc1, .bool x0.fg2, .slice x0.fA2 x0.fn2 x0.fc2, .slice x0.iA x0.im x0.ic, .slice x0.hA x0.hm x0.hc] 62 (0, 0)))) (by kernel_rfl) ?_
 change wpAnyH _ _ _ _ _ _ _ _ (World.drew W3)
 obtain ⟨W0, hWd⟩ : ∃ W0, W0 = W3.drew := ⟨_, rfl⟩
 rw [<- hWd] at hV0 hz0 ⊢
 clear hWd
 refine tk (i := 0) (v := .agg #[.int .i64 x0.ent, .int .i64 x0.meth, .int .i64 x0.since, .bool x0.sg1, .slice x0.sA1 x0.sn1 x0.sc1, .bool x0.sg2, .slice x0.sA2 x0.sn2 x0.sc2, .bool x0.fg1, .slice x0.fA1 x0.fn1 x0.fc1, .bool x0.fg2, .slice x0.fA2 x0.fn2 x0.fc2, .slice x0.iA x0.im x0.ic, .slice x0.hA x0.hm x0.hc]) rfl (by kernel_rfl) (fun _ _ _ h => h) (yieldsIf_load_mid (by rfl) 62 _ rfl W2.heap.size 0 rfl [.int .i64 x0.ent, .int .i64 x0.meth, .int .i64 x0.since, .bool x0.sg1, .slice x0.sA1 x0.sn1 x0.sc1, .bool x0.sg2, .slice x0.sA2 x0.sn2 x0.sc2, .bool x0.fg1, .slice x0.fA1 x0.fn1 x0.fc1, .bool x0.fg2, .slice x0.fA2 x0.fn2 x0.fc2, .slice x0.iA x0.im x0.ic, .slice x0.hA x0.hm x0.hc] _ (fun W' hS' => range_row (cs := [.int .i64 x0.ent, .int .i64 x0.meth, .int .i64 x0.since, .bool x0.sg1, .slice x0.sA1 x0.sn1 x0.sc1, .bool x0.sg2, .slice x0.sA2 x0.sn2 x0.sc2, .bool x0.fg1, .slice x0.fA1 x0.fn1 x0.fc1, .bool x0.fg2, .slice x0.fA2 x0.fn2 x0.fc2, .slice x0.iA x0.im x0.ic, .slice x0.hA x0.hm x0.hc]) hS'.2) Tryz.underlying62 rfl conrSize38) hV0 ?_
 try simp only [z]
 refine tk (i := 1) (v := .bool ok) rfl (by kernel_rfl) (fun _ _ _ h => h) (.inl ⟨by rfl, fun W' hS' => by go_simp⟩) hV0 ?_
 try simp only [z]
 refine tk (i := 2) (v := .bool ok) rfl (by kernel_rfl) (fun _ _ _ h => h) (.inl ⟨by rfl, fun W' hS' => by go_simp⟩) hV0 ?_
 try simp only [z]
 have hway : ok = false ∨ ok = true /\ (x = 0 ∨ x ≠ 0 /\ (x0.meth = 3 ∨ x0.meth ≠ 3 /\ (x0.meth = 2 ∨ x0.meth ≠ 2))) := by cases ok <;> simp <;> omega
 rcases hway with rfl | ⟨rfl, hx | ⟨hx, h3 | ⟨h3, h2 | h2⟩⟩⟩
 focus
  have HB : Hid (Cn.isElim l x = false) := by show _ = _; rw [HE.out]; simp []
  refine tk (i := 3) (v := undef) rfl (by kernel_rfl) (fun _ _ _ h => h) (.inr ⟨by rfl, rfl⟩) hV0 ?_
  try simp only [z]
  refine tk (i := 4) (v := undef) rfl (by kernel_rfl) (fun _ _ _ h => h) (.inr ⟨by rfl, rfl⟩) hV0 ?_
  try simp only [z]
  refine tk (i := 5) (v := .bool false) rfl (by kernel_rfl) (fun _ _ _ h => h) (.inl ⟨by rfl, fun W' hS' => by go_simp⟩) hV0 ?_
  try simp only [z]
  refine tk (i := 6) (v := .bool false) rfl (by kernel_rfl) (fun _ _ _ h => h) (.inl ⟨by rfl, fun W' hS' => by go_simp⟩) hV0 ?_
  try simp only [z]
  refine tk (i := 7) (v := undef) rfl (by kernel_rfl) (fun _ _ _ h => h) (.inr ⟨by rfl, rfl⟩) hV0 ?_
  try simp only [z]
  refine tk (i := 8) (v := undef) rfl (by kernel_rfl) (fun _ _ _ h => h) (.inr ⟨by rfl, rfl⟩) hV0 ?_
  try simp only [z]
  refine tk (i := 9) (v := undef) rfl (by kernel_rfl) (fun _ _ _ h => h) (.inr ⟨by rfl, rfl⟩) hV0 ?_
  try simp only [z]
  refine tk (i := 10) (v := undef) rfl (by kernel_rfl) (fun _ _ _ h => h) (.inr ⟨by rfl, rfl⟩) hV0 ?_
  try simp only [z]
  refine tk (i := 11) (v := undef) rfl (by kernel_rfl) (fun _ _ _ h => h) (.inr ⟨by rfl, rfl⟩) hV0 ?_
  try simp only [z]
  refine tk (i := 12) (v := undef) rfl (by kernel_rfl) (fun _ _ _ h => h) (.inr ⟨by rfl, rfl⟩) hV0 ?_
  try simp only [z]
  refine tk (i := 13) (v := undef) rfl (by kernel_rfl) (fun _ _ _ h => h) (.inr ⟨by rfl, rfl⟩) hV0 ?_
  try simp only [z]
  refine tk (i := 14) (v := undef) rfl (by kernel_rfl) (fun _ _ _ h => h) (.inr ⟨by rfl, rfl⟩) hV0 ?_
  try simp only [z]
  refine tk (i := 15) (v := .bool false) rfl (by kernel_rfl) (fun _ _ _ h => h) (.inl ⟨by rfl, fun W' hS' => by go_simp⟩) hV0 ?_
  try simp only [z]
 rotate_left
 focus
  have HB : Hid (Cn.isElim l x = false) := by show _ = _; rw [HE.out]; simp [hx]
  have hxb : (x != 0) = false := by simp [hx]
  clear hx
  refine tk (i := 3) (v := .int .i64 x) rfl (by kernel_rfl) (fun _ _ _ h => h) (.inl ⟨by rfl, fun W' hS' => by go_simp⟩) hV0 ?_
  try simp only [z]
  refine tk (i := 4) (v := .bool false) rfl (by kernel_rfl) (fun _ _ _ h => h) (.inl ⟨by rfl, fun W' hS' => by have hx' := hxb; go_simp⟩) hV0 ?_
  try simp only [z]
  refine tk (i := 5) (v := .bool false) rfl (by kernel_rfl) (fun _ _ _ h => h) (.inl ⟨by rfl, fun W' hS' => by go_simp⟩) hV0 ?_
  try simp only [z]
  refine tk (i := 6) (v := .bool false) rfl (by kernel_rfl) (fun _ _ _ h => h) (.inl ⟨by rfl, fun W' hS' => by go_simp⟩) hV0 ?_
  try simp only [z]
  refine tk (i := 7) (v := undef) rfl (by kernel_rfl) (fun _ _ _ h => h) (.inr ⟨by rfl, rfl⟩) hV0 ?_
  try simp only [z]
  refine tk (i := 8) (v := undef) rfl (by kernel_rfl) (fun _ _ _ h => h) (.inr ⟨by rfl, rfl⟩) hV0 ?_
  try simp only [z]
  refine tk (i := 9) (v := undef) rfl (by kernel_rfl) (fun _ _ _ h => h) (.inr ⟨by rfl, rfl⟩) hV0 ?_
  try simp only [z]
  refine tk (i := 10) (v := undef) rfl (by kernel_rfl) (fun _ _ _ h => h) (.inr ⟨by rfl, rfl⟩) hV0 ?_
  try simp only [z]
  refine tk (i := 11) (v := undef) rfl (by kernel_rfl) (fun _ _ _ h => h) (.inr ⟨by rfl, rfl⟩) hV0 ?_
  try simp only [z]
  refine tk (i := 12) (v := undef) rfl (by kernel_rfl) (fun _ _ _ h => h) (.inr ⟨by rfl, rfl⟩) hV0 ?_
  try simp only [z]
  refine tk (i := 13) (v := undef) rfl (by kernel_rfl) (fun _ _ _ h => h) (.inr ⟨by rfl, rfl⟩) hV0 ?_
  try simp only [z]
  refine tk (i := 14) (v := undef) rfl (by kernel_rfl) (fun _ _ _ h => h) (.inr ⟨by rfl, rfl⟩) hV0 ?_
  try simp only [z]
  refine tk (i := 15) (v := .bool false) rfl (by kernel_rfl) (fun _ _ _ h => h) (.inl ⟨by rfl, fun W' hS' => by go_simp⟩) hV0 ?_
  try simp only [z]
 rotate_left
 focus
  have HB : Hid (Cn.isElim l x = true) := by show _ = _; rw [HE.out]; simp [hx, h3]
  have hxb : (x != 0) = true := by simp [hx]
  have hmb : (x0.meth == 3) = true := by simp [h3]
  clear hx h3
  refine tk (i := 3) (v := .int .i64 x) rfl (by kernel_rfl) (fun _ _ _ h => h) (.inl ⟨by rfl, fun W' hS' => by go_simp⟩) hV0 ?_
  try simp only [z]
  refine tk (i := 4) (v := .bool true) rfl (by kernel_rfl) (fun _ _ _ h => h) (.inl ⟨by rfl, fun W' hS' => by have hx' := hxb; go_simp⟩) hV0 ?_
  try simp only [z]
  refine tk (i := 5) (v := .bool true) rfl (by kernel_rfl) (fun _ _ _ h => h) (.inl ⟨by rfl, fun W' hS' => by go_simp⟩) hV0 ?_
  try simp only [z]
  refine tk (i := 6) (v := .bool true) rfl (by kernel_rfl) (fun _ _ _ h => h) (.inl ⟨by rfl, fun W' hS' => by go_simp⟩) hV0 ?_
  try simp only [z]
  refine tk (i := 7) (v := .pointer (some ⟨W2.heap.size, 1, none⟩)) rfl (by kernel_rfl) (fun _ _ _ h => h) (.inl ⟨by rfl, fun W' hS' => by go_simp⟩) hV0 ?_
  try simp only [z]
  refine tk (i := 8) (v := .int .i64 x0.meth) rfl (by kernel_rfl) (fun _ _ _ h => h) (.inl ⟨by rfl, fun W' hS' => by have hc : W'.cell? ⟨W2.heap.size, 1, none⟩ = some (.int .i64 x0.meth) := (by have := cell_of_row _ _ 1 _ _ _ hS'.2; simpa using this); have hl2 := some_lt hS'.2; go_simp⟩) hV0 ?_
  try simp only [z]
  refine tk (i := 9) (v := .bool true) rfl (by kernel_rfl) (fun _ _ _ h => h) (.inl ⟨by rfl, fun W' hS' => by have hm' := hmb; go_simp⟩) hV0 ?_
  try simp only [z]
  refine tk (i := 10) (v := .bool true) rfl (by kernel_rfl) (fun _ _ _ h => h) (.inl ⟨by rfl, fun W' hS' => by go_simp⟩) hV0 ?_
  try simp only [z]
  refine tk (i := 11) (v := undef) rfl (by kernel_rfl) (fun _ _ _ h => h) (.inr ⟨by rfl, rfl⟩) hV0 ?_
  try simp only [z]
  refine tk (i := 12) (v := undef) rfl (by kernel_rfl) (fun _ _ _ h => h) (.inr ⟨by rfl, rfl⟩) hV0 ?_
  try simp only [z]
  refine tk (i := 13) (v := undef) rfl (by kernel_rfl) (fun _ _ _ h => h) (.inr ⟨by rfl, rfl⟩) hV0 ?_
  try simp only [z]
  refine tk (i := 14) (v := .bool true) rfl (by kernel_rfl) (fun _ _ _ h => h) (.inl ⟨by rfl, fun W' hS' => by go_simp⟩) hV0 ?_
  try simp only [z]
  refine tk (i := 15) (v := .bool true) rfl (by kernel_rfl) (fun _ _ _ h => h) (.inl ⟨by rfl, fun W' hS' => by go_simp⟩) hV0 ?_
  try simp only [z]
 rotate_left
 focus
  have HB : Hid (Cn.isElim l x = true) := by show _ = _; rw [HE.out]; simp [hx, h3, h2]
  have hxb : (x != 0) = true := by simp [hx]
  have hmb : (x0.meth == 3) = false := by simp [h3]
  have hmb2 : (x0.meth == 2) = true := by simp [h2]
  clear hx h3 h2
  refine tk (i := 3) (v := .int .i64 x) rfl (by kernel_rfl) (fun _ _ _ h => h) (.inl ⟨by rfl, fun W' hS' => by go_simp⟩) hV0 ?_
  try simp only [z]
  refine tk (i := 4) (v := .bool true) rfl (by kernel_rfl) (fun _ _ _ h => h) (.inl ⟨by rfl, fun W' hS' => by have hx' := hxb; go_simp⟩) hV0 ?_
  try simp only [z]
  refine tk (i := 5) (v := .bool true) rfl (by kernel_rfl) (fun _ _ _ h => h) (.inl ⟨by rfl, fun W' hS' => by go_simp⟩) hV0 ?_
  try simp only [z]
  refine tk (i := 6) (v := .bool true) rfl (by kernel_rfl) (fun _ _ _ h => h) (.inl ⟨by rfl, fun W' hS' => by go_simp⟩) hV0 ?_
  try simp only [z]
  refine tk (i := 7) (v := .pointer (some ⟨W2.heap.size, 1, none⟩)) rfl (by kernel_rfl) (fun _ _ _ h => h) (.inl ⟨by rfl, fun W' hS' => by go_simp⟩) hV0 ?_
  try simp only [z]
  refine tk (i := 8) (v := .int .i64 x0.meth) rfl (by kernel_rfl) (fun _ _ _ h => h) (.inl ⟨by rfl, fun W' hS' => by have hc : W'.cell? ⟨W2.heap.size, 1, none⟩ = some (.int .i64 x0.meth) := (by have := cell_of_row _ _ 1 _ _ _ hS'.2; simpa using this); have hl2 := some_lt hS'.2; go_simp⟩) hV0 ?_
  try simp only [z]
  refine tk (i := 9) (v := .bool false) rfl (by kernel_rfl) (fun _ _ _ h => h) (.inl ⟨by rfl, fun W' hS' => by have hm' := hmb; go_simp⟩) hV0 ?_
  try simp only [z]
  refine tk (i := 10) (v := .bool false) rfl (by kernel_rfl) (fun _ _ _ h => h) (.inl ⟨by rfl, fun W' hS' => by go_simp⟩) hV0 ?_
  try simp only [z]
  refine tk (i := 11) (v := .pointer (some ⟨W2.heap.size, 1, none⟩)) rfl (by kernel_rfl) (fun _ _ _ h => h) (.inl ⟨by rfl, fun W' hS' => by go_simp⟩) hV0 ?_
  try simp only [z]
  refine tk (i := 12) (v := .int .i64 x0.meth) rfl (by kernel_rfl) (fun _ _ _ h => h) (.inl ⟨by rfl, fun W' hS' => by have hc : W'.cell? ⟨W2.heap.size, 1, none⟩ = some (.int .i64 x0.meth) := (by have := cell_of_row _ _ 1 _ _ _ hS'.2; simpa using this); have hl2 := some_lt hS'.2; go_simp⟩) hV0 ?_
  try simp only [z]
  refine tk (i := 13) (v := .bool true) rfl (by kernel_rfl) (fun _ _ _ h => h) (.inl ⟨by rfl, fun W' hS' => by have hm' := hmb2; go_simp⟩) hV0 ?_
  try simp only [z]
  refine tk (i := 14) (v := .bool true) rfl (by kernel_rfl) (fun _ _ _ h => h) (.inl ⟨by rfl, fun W' hS' => by go_simp⟩) hV0 ?_
  try simp only [z]
  refine tk (i := 15) (v := .bool true) rfl (by kernel_rfl) (fun _ _ _ h => h) (.inl ⟨by rfl, fun W' hS' => by go_simp⟩) hV0 ?_
  try simp only [z]
 rotate_left
 focus
  have HB : Hid (Cn.isElim l x = false) := by show _ = _; rw [HE.out]; simp [hx, h3, h2]
  have hxb : (x != 0) = true := by simp [hx]
  have hmb : (x0.meth == 3) = false := by simp [h3]
  have hmb2 : (x0.meth == 2) = false := by simp [h2]
  clear hx h3 h2
  refine tk (i := 3) (v := .int .i64 x) rfl (by kernel_rfl) (fun _ _ _ h => h) (.inl ⟨by rfl, fun W' hS' => by go_simp⟩) hV0 ?_
  try simp only [z]
  refine tk (i := 4) (v := .bool true) rfl (by kernel_rfl) (fun _ _ _ h => h) (.inl ⟨by rfl, fun W' hS' => by have hx' := hxb; go_simp⟩) hV0 ?_
  try simp only [z]
  refine tk (i := 5) (v := .bool true) rfl (by kernel_rfl) (fun _ _ _ h => h) (.inl ⟨by rfl, fun W' hS' => by go_simp⟩) hV0 ?_
  try simp only [z]
  refine tk (i := 6) (v := .bool true) rfl (by kernel_rfl) (fun _ _ _ h => h) (.inl ⟨by rfl, fun W' hS' => by go_simp⟩) hV0 ?_
  try simp only [z]
  refine tk (i := 7) (v := .pointer (some ⟨W2.heap.size, 1, none⟩)) rfl (by kernel_rfl) (fun _ _ _ h => h) (.inl ⟨by rfl, fun W' hS' => by go_simp⟩) hV0 ?_
  try simp only [z]
  refine tk (i := 8) (v := .int .i64 x0.meth) rfl (by kernel_rfl) (fun _ _ _ h => h) (.inl ⟨by rfl, fun W' hS' => by have hc : W'.cell? ⟨W2.heap.size, 1, none⟩ = some (.int .i64 x0.meth) := (by have := cell_of_row _ _ 1 _ _ _ hS'.2; simpa using this); have hl2 := some_lt hS'.2; go_simp⟩) hV0 ?_
  try simp only [z]
  refine tk (i := 9) (v := .bool false) rfl (by kernel_rfl) (fun _ _ _ h => h) (.inl ⟨by rfl, fun W' hS' => by have hm' := hmb; go_simp⟩) hV0 ?_
  try simp only [z]
  refine tk (i := 10) (v := .bool false) rfl (by kernel_rfl) (fun _ _ _ h => h) (.inl ⟨by rfl, fun W' hS' => by go_simp⟩) hV0 ?_
  try simp only [z]
  refine tk (i := 11) (v := .pointer (some ⟨W2.heap.size, 1, none⟩)) rfl (by kernel_rfl) (fun _ _ _ h => h) (.inl ⟨by rfl, fun W' hS' => by go_simp⟩) hV0 ?_
  try simp only [z]
  refine tk (i := 12) (v := .int .i64 x0.meth) rfl (by kernel_rfl) (fun _ _ _ h => h) (.inl ⟨by rfl, fun W' hS' => by have hc : W'.cell? ⟨W2.heap.size, 1, none⟩ = some (.int .i64 x0.meth) := (by have := cell_of_row _ _ 1 _ _ _ hS'.2; simpa using this); have hl2 := some_lt hS'.2; go_simp⟩) hV0 ?_
  try simp only [z]
  refine tk (i := 13) (v := .bool false) rfl (by kernel_rfl) (fun _ _ _ h => h) (.inl ⟨by rfl, fun W' hS' => by have hm' := hmb2; go_simp⟩) hV0 ?_
  try simp only [z]
  refine tk (i := 14) (v := .bool false) rfl (by kernel_rfl) (fun _ _ _ h => h) (.inl ⟨by rfl, fun W' hS' => by go_simp⟩) hV0 ?_
  try simp only [z]
  refine tk (i := 15) (v := .bool false) rfl (by kernel_rfl) (fun _ _ _ h => h) (.inl ⟨by rfl, fun W' hS' => by go_simp⟩) hV0 ?_
  try simp only [z]
 rotate_left
 all_goals (
  refine wpAnyH_ready (rs := [16]) (by kernel_rfl) (by simp) (AllReadyH.cons rfl (fun K hK => ?_) AllReadyH.nil)
  rw [if_pos (by rfl)]
  refine wp_store_row 62 _ _ none rfl rfl w.heap.size 62 _ #[.int .i64 x0.ent, .int .i64 x0.meth, .int .i64 x0.since, .bool x0.sg1, .slice x0.sA1 x0.sn1 x0.sc1, .bool x0.sg2, .slice x0.sA2 x0.sn2 x0.sc2, .bool x0.fg1, .slice x0.fA1 x0.fn1 x0.fc1, .bool x0.fg2, .slice x0.fA2 x0.fn2 x0.fc2, .slice x0.iA x0.im x0.ic, .slice x0.hA x0.hm x0.hc] rfl rfl hz0 rfl conrSize38 (by simp [Value.oneCell']) ?_
  have hrw := setRow_heap W0 w.heap.size _ #[.int .i64 x0.ent, .int .i64 x0.meth, .int .i64 x0.since, .bool x0.sg1, .slice x0.sA1 x0.sn1 x0.sc1, .bool x0.sg2, .slice x0.sA2 x0.sn2 x0.sc2, .bool x0.fg1, .slice x0.fA1 x0.fn1 x0.fc1, .bool x0.fg2, .slice x0.fA2 x0.fn2 x0.fc2, .slice x0.iA x0.im x0.ic, .slice x0.hA x0.hm x0.hc] _ _ hz0
  have hS2 : (fun W => Below w.heap.size w W /\ W.heap[W2.heap.size]? = some (.cells #[.int .i64 x0.ent, .int .i64 x0.meth, .int .i64 x0.since, .bool x0.sg1, .slice x0.sA1 x0.sn1 x0.sc1, .bool x0.sg2, .slice x0.sA2 x0.sn2 x0.sc2, .bool x0.fg1, .slice x0.fA1 x0.fn1 x0.fc1, .bool x0.fg2, .slice x0.fA2 x0.fn2 x0.fc2, .slice x0.iA x0.im x0.ic, .slice x0.hA x0.hm x0.hc] 62 (0, 0))) (W0.setRow w.heap.size #[.int .i64 x0.ent, .int .i64 x0.meth, .int .i64 x0.since, .bool x0.sg1, .slice x0.sA1 x0.sn1 x0.sc1, .bool x0.sg2, .slice x0.sA2 x0.sn2 x0.sc2, .bool x0.fg1, .slice x0.fA1 x0.fn1 x0.fc1, .bool x0.fg2, .slice x0.fA2 x0.fn2 x0.fc2, .slice x0.iA x0.im x0.ic, .slice x0.hA x0.hm x0.hc]) := ⟨below_setRow hV0.1 (Nat.le_refl _) _, (setRow_other W0 w.heap.size W2.heap.size _ (Ne.symm hne)).trans hV0.2⟩
  refine hK.out _ _ hS2 (fun _ => ?_)
  clear hK K
  try simp only [z]
  refine wpAnyH_ready (rs := [17]) (by kernel_rfl) (by simp) (AllReadyH.cons rfl (fun K hK => ?_) AllReadyH.nil)
  go_simp
  refine hK.out _ _ hS2 (fun _ => ?_)
  clear hK K
  try simp only [z]
  refine wpAnyH_done (by kernel_rfl) ?_ _
  try simp only [z]
  have hload := Lib.hid (run_loadVar_row (P := Tryz.prog) _ _ _ 62 _ _ _ hrw Tryz.underlying62 rfl conrSize38)
  have hBF := Lib.hid hS2.1
  clear hrw hS2
  go_wp2
  exact bodyPost_ret (v := .tuple #[.agg #[.int .i64 x0.ent, .int .i64 x0.meth, .int .i64 x0.since, .bool x0.sg1, .slice x0.sA1 x0.sn1 x0.sc1, .bool x0.sg2, .slice x0.sA2 x0.sn2 x0.sc2, .bool x0.fg1, .slice x0.fA1 x0.fn1 x0.fc1, .bool x0.fg2, .slice x0.fA2 x0.fn2 x0.fc2, .slice x0.iA x0.im x0.ic, .slice x0.hA x0.hm x0.hc], .bool (Cn.isElim l x)]) (by simp [results, Tryz.results23, asAddr, Act.put, hload.out, HB.out]) rfl ⟨by rw [HX.out], hBF.out⟩)
end
def Gr.isOn (c : Int) (a : Int) : Bool := decide (a = c)
section
variable (w : World)
theorem on38_any (A : Option Addr) (n c : Nat) (l : List Itm) (y : Int) (hl : l.length = n) (hn : n <= 1000) (hx : ∀ x ∈ l, x.small) (hA : ItmsAt w w.heap.size A l) :
  Calls Tryz.prog 37 #[.slice A n c, .int .i64 y] w fun e w' => e = .returned (.int .i64 (Gr.sumOf (Gr.isOn y) l)) /\ Below w.heap.size w w' := by
 have HA := Lib.hid hA
 have HX := Lib.hid hx
 have Hl := Lib.hid hl
 clear hA hx hl
 go_enter Tryz.func37, Tryz.ntmps37
 go_wp2
 go_loopw [5, 6] (fun s i wr => ∃ k : Nat, k <= n /\ i = .int .i64 k /\ s = .int .i64 (Gr.sumOf (Gr.isOn y) (l.take k)) /\ Below w.heap.size w wr) (fun _ i _ => n - (intOf i).toNat)
 case atStart => exact ⟨0, Nat.zero_le _, rfl, rfl, Below.refl _ _⟩
 case round =>
  obtain ⟨k, hk, rfl, rfl, hbr⟩ := hrel
  obtain ⟨s, hs⟩ : ∃ s, s = Gr.sumOf (Gr.isOn y) (l.take k) := ⟨_, rfl⟩
  obtain ⟨lo, hi⟩ := Gr.sumOf_take_small (P := Gr.isOn y) k Hl.out hn HX.out
  rw [<- hs] at lo hi ⊢
  have Hs := Lib.hid hs
  have hq := hbr.size
  clear hs
  by_cases hlt : k < n
  ·have hkl : k < l.length := by have := Hl.out; omega
   obtain ⟨b, o, hAe, hbB, hr, c3, c6⟩ := ItmsAt.seven (RowsAt.below HA.out hbr (Nat.le_refl _)) hkl
   cases hAe
   have hbw : b < wr.heap.size := by omega
   have hk0 : (0 : Int) <= (k : Int) := by omega
   have hkn : (k : Int) < n := by omega
   have hsm := HX.out _ (List.getElem_mem hkl)
   obtain ⟨sl, sh⟩ := hsm
   obtain ⟨am, ham⟩ : ∃ am, am = l[k].amt := ⟨_, rfl⟩
   obtain ⟨ac, hac⟩ : ∃ ac, ac = l[k].acct := ⟨_, rfl⟩
   rw [<- ham] at c6 sl sh
   rw [<- hac] at c3
   have HN : Hid (Gr.sumOf (Gr.isOn y) (l.take (k + 1)) = s + (if ac = y then am else 0)) := by
    show _ = _; rw [Gr.sumOf_take _ hkl, <- Hs.out, <- ham, <- hac]; simp [Gr.isOn]
   clear ham hac hr
   by_cases hay : ac = y
   ·have hb : (ac == y) = true := by simp [hay]
    have HN2 : Hid (Gr.sumOf (Gr.isOn y) (l.take (k + 1)) = s + am) := by show _ = _; rw [HN.out, if_pos hay]
    clear hay
    go_wp2
    go_roundw
    case rel => exact ⟨k + 1, by omega, by go_num, by rw [HN2.out], hbr⟩
    case measure => simp [intOf]; omega
   ·have hb : (ac == y) = false := by simp [hay]
    have HN2 : Hid (Gr.sumOf (Gr.isOn y) (l.take (k + 1)) = s) := by show _ = _; rw [HN.out, if_neg hay, Int.add_zero]
    clear hay
    go_wp2
    go_roundw
    case rel => exact ⟨k + 1, by omega, by go_num, by rw [HN2.out], hbr⟩
    case measure => simp [intOf]; omega
  ·obtain rfl : k = n := by omega
   have HV : Hid (Gr.sumOf (Gr.isOn y) l = s) := by
    show _ = _
    have := Hs.out
    rw [<- Hl.out, List.take_length] at this
    exact this.symm
   go_wp2
   go_ret
   exact ⟨by rw [HV.out]; rfl, hbr⟩
end
theorem fig3One (a b c : Int) : (#[.int .i64 a, .int .i64 b, .int .i64 c] : Array Value).all (·.oneCell') = true := by simp [Value.oneCell']
theorem Cn.elim_hold {P : Con -> Cnt -> Prop} (hP : ∀ a b, P a b -> a.ent = b.ent /\ a.meth = b.meth) (x : Int) {l : List Con} {m : List Cnt} (h : Hold P l m) :
  (Cn.isElim l x = false /\ Gr.elim m x = none) ∨ ∃ y, Cn.isElim l x = true /\ Gr.elim m x = some y /\ Cn.cfind m x = some y /\ P (Cn.found l x) y /\ x ≠ 0 /\ (y.meth = 3 ∨ y.meth = 2) := by
 rcases Cn.find_hold (P := P) (fun a b h => (hP a b h).1) x h with ⟨h1, h2⟩ | ⟨a, b, h1, h2, h3⟩
 ·exact .inl ⟨by simp [Cn.isElim, Cn.has, h1], by simp [Gr.elim, h2]⟩
 ·have hf : Cn.found l x = a := by rw [Cn.found, h1]; rfl
  have hh : Cn.has l x = true := by simp [Cn.has, h1]
  have hm := (hP a b h3).2
  by_cases hc : x ≠ 0 /\ (b.meth = 3 ∨ b.meth = 2)
  ·refine .inr ⟨b, ?_, by simp [Gr.elim, h2, hc], h2, by rw [hf]; exact h3, hc.1, hc.2⟩
   rw [Cn.isElim, hh, hf, hm]
   rcases hc.2 with e | e <;> simp [hc.1, e]
  ·refine .inl ⟨?_, by simp only [Gr.elim, h2]; rw [if_neg hc]⟩
   rw [Cn.isElim, hh, hf, hm]
   by_cases h0 : x = 0
   ·simp [h0]
   ·have h3 : ¬ b.meth = 3 := fun e => hc ⟨h0, .inl e⟩
    have h2 : ¬ b.meth = 2 := fun e => hc ⟨h0, .inr e⟩
    simp [h3, h2]
end Go.Proofs.YtccapfbblnnfjaaGreat
