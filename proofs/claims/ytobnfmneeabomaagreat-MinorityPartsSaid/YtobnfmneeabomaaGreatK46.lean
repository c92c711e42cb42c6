/- My texts PostE, PostM, AsP, MinP, PostO. -/
import Derived.Test.YtobnfmneeabomaaGreatG07
import Derived.Test.YtobnfmneeabomaaGreatG40
import Derived.Test.YtobnfmneeabomaaGreatG18
import Derived.Test.YtobnfmneeabomaaGreatH33
import Derived.Test.YtobnfmneeabomaaGreatK34
import Derived.Test.YtobnfmneeabomaaGreatG45
set_option linter.unusedVariables false
set_option linter.unusedSimpArgs false
set_option maxRecDepth 100000
set_option maxHeartbeats 8000000
namespace Go.Proofs.YtobnfmneeabomaaGreat
open Go.RowKit
theorem postSize : (Tryz.prog.info? 53).map (·.size) = some 5 := by kernel_rfl
theorem index4 (i : Int) (hi : i = 0 ∨ i = 1 ∨ i = 2 ∨ i = 3) (W : World) : (Instr.index 160 (.agg #[.int .i64 0, .int .i64 0, .int .i64 0, .int .i64 0]) (.int .i64 i)).run Tryz.prog W = .ok (.int .i64 0) W := by
 rcases hi with rfl | rfl | rfl | rfl <;> kernel_rfl
section
variable (w : World)
theorem order_same (x : Int) : Calls Tryz.prog 73 #[.int .i64 x, .int .i64 x] w fun e w' => e = .returned (.int .i64 0) /\ w' = w := by
 go_enter Tryz.func73, Tryz.ntmps73
 go_wp2
 go_ret
 exact ⟨rfl, rfl⟩
theorem compare_same (k x o r : Int) (A A' : Option Addr) (n c n' c' : Nat) :
  Calls Tryz.prog 45 #[.agg #[.int .i64 k, .int .i64 x, .int .i64 o, .int .i64 r, .slice A n c], .agg #[.int .i64 k, .int .i64 x, .int .i64 o, .int .i64 r, .slice A' n' c']] w fun e w' => e = .returned (.int .i64 0) /\ Below w.heap.size w w' := by
 obtain ⟨W1, hW1, hB0, hb0, hb1, hz⟩ := nw2 w #[.int .i64 k, .int .i64 x, .int .i64 o, .int .i64 r, .slice A n c] #[.int .i64 k, .int .i64 x, .int .i64 o, .int .i64 r, .slice A' n' c'] 53 53
 have HW := Lib.hid hW1
 have x0 := fun j => cell_of_row _ _ j _ _ _ hb0
 have x1 := fun j => cell_of_row _ _ j _ _ _ hb1
 have a0 := x0 0
 have a1 := x0 1
 have a2 := x0 2
 have a3 := x0 3
 have b0 := x1 0
 have b1 := x1 1
 have b2 := x1 2
 have b3 := x1 3
 simp at a0 a1 a2 a3 b0 b1 b2 b3
 have HB0 := Lib.hid hB0
 have s1 : w.heap.size < W1.heap.size := by omega
 have s2 : w.heap.size + 1 < W1.heap.size := by omega
 clear hW1 hz hb0 hb1 x0 x1 hB0
 go_enter Tryz.func45, Tryz.ntmps45
 go_upto_region 1 with (fail)
 rw [<- HW.out]
 go_quiet ((go_at_call 73; exact Calls.quiet_of_same (order_same _ _)))
 go_wp2
 have i0 := index4 0 (by omega)
 have i1 := index4 1 (by omega)
 have i2 := index4 2 (by omega)
 have i3 := index4 3 (by omega)
 refine wp_loop_rounds 5 ?_
 rw [rounds_succ]
 go_wp2
 rw [rounds_succ]
 go_wp2
 rw [rounds_succ]
 go_wp2
 rw [rounds_succ]
 go_wp2
 rw [rounds_succ]
 go_wp2
 go_ret
 exact ⟨rfl, below_drawn HB0.out _⟩
theorem equal_same (k x o r : Int) (A A' : Option Addr) (n c c' : Nat) (l : List Prt) (hl : l.length = n) (hn : n <= 100000) (h : PrtsAt w w.heap.size A l) (h' : PrtsAt w w.heap.size A' l) :
  Calls Tryz.prog 30 #[.agg #[.int .i64 k, .int .i64 x, .int .i64 o, .int .i64 r, .slice A n c], .agg #[.int .i64 k, .int .i64 x, .int .i64 o, .int .i64 r, .slice A' n c']] w fun e w' => e = .returned (.bool true) /\ Below w.heap.size w w' := by
 obtain ⟨W1, hW1, hB0, hb0, hb1, hz⟩ := nw2 w #[.int .i64 k, .int .i64 x, .int .i64 o, .int .i64 r, .slice A n c] #[.int .i64 k, .int .i64 x, .int .i64 o, .int .i64 r, .slice A' n c'] 53 53
 have HW := Lib.hid hW1
 have Hb0 := Lib.hid hb0
 have Hb1 := Lib.hid hb1
 have hr0 := Lib.hid (range_row (cs := [.int .i64 k, .int .i64 x, .int .i64 o, .int .i64 r, .slice A n c]) hb0)
 have hr1 := Lib.hid (range_row (cs := [.int .i64 k, .int .i64 x, .int .i64 o, .int .i64 r, .slice A' n c']) hb1)
 have Hl := Lib.hid hl
 have H := Lib.hid h
 have H' := Lib.hid h'
 have s1 : w.heap.size < W1.heap.size := by omega
 have s2 : w.heap.size + 1 < W1.heap.size := by omega
 clear hW1 hz hb0 hb1 hl h h'
 go_enter Tryz.func30, Tryz.ntmps30
 go_upto_region 1 with (fail)
 rw [<- HW.out]
 go_wp2_with (first | (refine wpList_load_mid rfl 53 (.tmp 2) rfl w.heap.size 0 rfl [.int .i64 k, .int .i64 x, .int .i64 o, .int .i64 r, .slice A n c] _ hr0.out Tryz.underlying53 rfl postSize ?_) | (refine wpList_load_mid rfl 53 (.tmp 3) rfl (w.heap.size + 1) 0 rfl [.int .i64 k, .int .i64 x, .int .i64 o, .int .i64 r, .slice A' n c'] _ hr1.out Tryz.underlying53 rfl postSize ?_))
 refine (compare_same W1 k x o r A A' n c n c').mono ?_
 rintro e W2 ⟨rfl, hB2⟩
 have hB02 := hB0.trans (hB2.mono hB0.size)
 have hc0 := gbox Hb0.out hB2 s1
 have hc1 := gbox Hb1.out hB2 s2
 have a4 := cell_of_row _ _ 4 _ _ _ hc0
 have b4 := cell_of_row _ _ 4 _ _ _ hc1
 simp at a4 b4
 have HA := Lib.hid (RowsAt.below H.out hB02 (Nat.le_refl _))
 have HA' := Lib.hid (RowsAt.below H'.out hB02 (Nat.le_refl _))
 have t1 := some_lt hc0
 have t2 := some_lt hc1
 have hq := hB02.size
 clear hc0 hc1 hr0 hr1
 go_wp2
 go_loopw [5] (fun i wr => ∃ (j q : Nat), j <= n /\ i = .int .i64 j /\ wr = W2.drewN q) (fun i _ => n - (intOf i).toNat)
 case atStart => exact ⟨0, 0, Nat.zero_le _, rfl, rfl⟩
 case round =>
  obtain ⟨j, q, hj, rfl, rfl⟩ := hrel
  by_cases hlt : j < n
  ·have hjl : j < l.length := by have := Hl.out; omega
   obtain ⟨b, o1, hAe, hbB, c0, c1⟩ := PrtsAt.two HA.out hjl
   obtain ⟨b', o2, hAe', hbB', d0, d1⟩ := PrtsAt.two HA'.out hjl
   subst hAe hAe'
   obtain ⟨u, hu⟩ : ∃ u, u = l[j].acct := ⟨_, rfl⟩
   obtain ⟨m, hm⟩ : ∃ m, m = l[j].amt := ⟨_, rfl⟩
   rw [<- hu] at c0 d0
   rw [<- hm] at c1 d1
   have hbw : b < W2.heap.size := by omega
   have hbw' : b' < W2.heap.size := by omega
   clear hu hm
   go_wp2
   go_quiet (fail)
   go_wp2
   go_roundw
   case rel => exact ⟨j + 1, _, by omega, by go_num, rfl⟩
   case measure => simp [intOf]; omega
  ·obtain rfl : j = n := by omega
   go_wp2
   go_ret
   exact ⟨rfl, below_drawn hB02 _⟩
theorem sameparts_any (A A' : Option Addr) (n c c' : Nat) (l : List Prt) (hl : l.length = n) (hn : n <= 100000) (h : PrtsAt w w.heap.size A l) (h' : PrtsAt w w.heap.size A' l) :
  Calls Tryz.prog 14 #[.slice A n c, .slice A' n c'] w fun e w' => e = .returned (.bool true) /\ Below w.heap.size w w' := by
 have He := Lib.hid (equal_same w 0 0 0 0 A A' n c c' l hl hn h h')
 clear hl h h'
 go_enter Tryz.func14, Tryz.ntmps14
 go_wp2_with (fail)
 refine He.out.mono ?_
 rintro e W2 ⟨rfl, hB2⟩
 go_wp2
 go_ret
 exact ⟨rfl, hB2⟩
end
def PostingPost (kd x : Int) (r : List Prt × Int) (w : World) (e : Ending) (w' : World) : Prop :=
 Below w.heap.size w w' /\ ((r.2 ≠ 0 ∨ r.1 = []) /\ e = .returned (.tuple #[.agg #[.int .i64 0, .int .i64 0, .int .i64 0, .int .i64 0, .slice none 0 0], .int .i64 r.2]) ∨
  (r.2 = 0 /\ r.1 ≠ [] /\ ∃ A c, Fresh w.heap.size A /\ e = .returned (.tuple #[.agg #[.int .i64 kd, .int .i64 x, .int .i64 (-1), .int .i64 0, .slice A r.1.length c], .int .i64 0]) /\ PrtsAt w' w'.heap.size A r.1))
theorem postOne (k x o r : Int) (A : Option Addr) (n c : Nat) : (#[.int .i64 k, .int .i64 x, .int .i64 o, .int .i64 r, .slice A n c] : Array Value).all (·.oneCell') = true := by simp [Value.oneCell']
section
variable (w : World)
end
namespace Gr
end Gr
theorem RowsAt.triple {w : World} {b : Nat} {x y z : Prt} {t : TypeId} {fr : Nat × Nat} (h : w.heap[b]? = some (.cells #[.int .i64 x.acct, .int .i64 x.amt, .int .i64 y.acct, .int .i64 y.amt, .int .i64 z.acct, .int .i64 z.amt] t fr)) : PrtsAt w w.heap.size (some ⟨b, 0, none⟩) [x, y, z] :=
 rows_flat (f := Prt.cells) (l := [x, y, z]) h (some_lt h) (by simp [Prt.cells])
section
variable (w : World)
end
namespace Gr
def mpost (g : Grp) (m : List Cnt) (x : Int) : List Prt × Int :=
 if (minor g m x).2 ≠ 0 then ([], (minor g m x).2) else Po.clean [⟨g.r12, -(minor g m x).1.2.2.1⟩, ⟨g.r6, -(minor g m x).1.2.2.2⟩, ⟨g.r5, (minor g m x).1.2.2.1 + (minor g m x).1.2.2.2⟩]
theorem minor_small {R : World -> Nat -> Value -> Int -> Int -> Prop} {w : World} {B : Nat} {g : Grp} {l : List Con} {m : List Cnt} {x : Int} (hm : Hold (fun a b => a.Holds R w B b) l m) :
  (-1100000000000001 <= (minor g m x).1.2.2.1 /\ (minor g m x).1.2.2.1 <= 1100000000000001) /\ -1100000000000001 <= (minor g m x).1.2.2.2 /\ (minor g m x).1.2.2.2 <= 1100000000000001 := by
 unfold minor
 split
 ·simp
 ·rcases Cn.find_hold (P := fun a b => a.Holds R w B b) (fun _ _ h => h.he) x hm with ⟨_, h2⟩ | ⟨a, y, _, h2, h3⟩
  ·rw [h2]; simp
  ·rw [h2]
   simp only []
   split
   ·simp
   ·have hl : y.its.length <= 50 := by rw [h3.hil]; exact h3.hin
    have b1 := sumOf_bd (isResult g) y.its h3.hix
    have b2 := sumOf_bd (isEquity g) y.its h3.hix
    have b3 := sumOf_bd (fun _ => true) y.its h3.hix
    have b4 : sumOf (fun _ => true) y.its = sumAll y.its := rfl
    rw [b4] at b3
    obtain ⟨e0, he0⟩ : ∃ e0, e0 = sumOf (isEquity g) y.its + -(sumAll y.its) := ⟨_, rfl⟩
    have b5 : -100000000000000 <= e0 /\ e0 <= 100000000000000 := by omega
    have r1 := rd_small (n := sumOf (isResult g) y.its) h3.hso (by omega) (by omega)
    have r2 := rd_small (n := e0) h3.hso (by omega) (by omega)
    rw [<- he0]
    exact ⟨by show _ <= sumOf (isResult g) y.its - R1.rd (sumOf (isResult g) y.its) y.sN y.sD /\ sumOf (isResult g) y.its - R1.rd (sumOf (isResult g) y.its) y.sN y.sD <= _; omega, by show _ <= e0 - R1.rd e0 y.sN y.sD; omega, by show e0 - R1.rd e0 y.sN y.sD <= _; omega⟩
theorem roles_wf39 {g : Grp} (h : ∀ r ∈ Gr.roles g, (Lit.int .i64 r.code).wf = true) : (Lit.int .i64 g.r12).wf = true /\ (Lit.int .i64 g.r6).wf = true /\ (Lit.int .i64 g.r5).wf = true := by
 simp only [Gr.roles, List.forall_mem_cons] at h
 obtain ⟨_, _, _, _, _, h5, h6, _, _, _, _, _, h12, _⟩ := h
 exact ⟨h12, h6, h5⟩
theorem mpost_len (g : Grp) (m : List Cnt) (x : Int) : (mpost g m x).1.length <= 3 := by
 unfold mpost
 split
 ·simp
 ·unfold Po.clean
  split
  ·simp
  ·exact Po.parts_length _
end Gr
section
variable (w : World)
theorem mpostd_any (g : Grp) (A : Option Addr) (n c : Nat) (l : List Con) (m : List Cnt) (x : Int) (hl : l.length = n) (hn : n <= 1000) (hA : ConsAt w w.heap.size A l) (hm : Hold (fun a b => a.Holds SD w w.heap.size b) l m) (hg : g.At w w.heap.size) (hwf : ∀ y ∈ m, ∀ z ∈ y.its, (Lit.int .i64 z.acct).wf = true) :
  Calls Tryz.prog 10 #[.agg #[.string g.cur, .int .i64 g.Y, .int .i64 g.M, .int .i64 g.N, .slice g.cA g.cn g.cc, .int .i64 g.r0, .int .i64 g.r1, .int .i64 g.r2, .int .i64 g.r3, .int .i64 g.r4, .int .i64 g.r5, .int .i64 g.r6, .int .i64 g.r7, .int .i64 g.r8, .int .i64 g.r9, .int .i64 g.r10, .int .i64 g.r11, .int .i64 g.r12, .int .i64 g.r13, .int .i64 g.r14, .slice g.eA g.en g.ec], .slice A n c, .int .i64 x] w (PostingPost 6 x (Gr.mpost g m x) w) := by
 obtain ⟨W1, hW1, hB0, hb0, hb1, hz⟩ := nw2 w #[.string g.cur, .int .i64 g.Y, .int .i64 g.M, .int .i64 g.N, .slice g.cA g.cn g.cc, .int .i64 g.r0, .int .i64 g.r1, .int .i64 g.r2, .int .i64 g.r3, .int .i64 g.r4, .int .i64 g.r5, .int .i64 g.r6, .int .i64 g.r7, .int .i64 g.r8, .int .i64 g.r9, .int .i64 g.r10, .int .i64 g.r11, .int .i64 g.r12, .int .i64 g.r13, .int .i64 g.r14, .slice g.eA g.en g.ec] #[.int .i64 0, .int .i64 0, .int .i64 0, .int .i64 0, .slice none 0 0] 36 53
 have HW := Lib.hid hW1
 have Hb0 := Lib.hid hb0
 have Hb1 := Lib.hid hb1
 have hrg := Lib.hid (grp_range hb0)
 have s1 : w.heap.size < W1.heap.size := by omega
 have s1' : w.heap.size + 1 < W1.heap.size := by omega
 have hg1 := hg.at_ hB0
 have HO := Lib.hid (minord_any W1 g A n c l m x hl hn (RowsAt.at_ hA hB0) (hm.imp (Q := fun a b => a.Holds SD W1 W1.heap.size b) fun _ _ h => h.atD hB0) hg1 hwf)
 have Hsm := Lib.hid (Gr.minor_small (g := g) (x := x) hm)
 have hgr := Lib.hid (Gr.roles_wf39 hg.hr)
 clear hW1 hz hb0 hb1 hg hA hm hl hg1
 go_enter Tryz.func10, Tryz.ntmps10
 go_upto_region 1 with (fail)
 rw [<- HW.out]
 go_wp2_with (refine wpList_load_mid rfl 36 (.tmp 3) rfl w.heap.size 0 rfl _ _ hrg.out Tryz.underlying36 rfl grpSize ?_)
 refine HO.out.mono ?_
 rintro e W2 ⟨p, q, u, v, er, has, rfl, hB2⟩
 have hB02 := hB0.trans (hB2.mono hB0.size)
 have hsm := Hsm.out
 rw [has] at hsm
 obtain ⟨⟨u0, u1⟩, v0, v1⟩ := hsm
 have HAS := Lib.hid has
 have hc0 := gbox Hb0.out hB2 s1
 have hc1 := gbox Hb1.out hB2 s1'
 obtain ⟨W3, hW3, hB3, hb3, hz3⟩ := nw1 W2 #[.int .i64 p, .int .i64 q, .int .i64 u, .int .i64 v] 39
 have HW3 := Lib.hid hW3
 have Hb3 := Lib.hid hb3
 have hB03 := hB02.trans (hB3.mono hB02.size)
 have He0 := Lib.hid (gbox hc0 hB3 (some_lt hc0))
 have He1 := Lib.hid (gbox hc1 hB3 (some_lt hc1))
 have s3 := some_lt hb3
 have s30 := some_lt He0.out
 have s31 := some_lt He1.out
 have Hz := Lib.hid (postOne 0 0 0 0 none 0 0)
 clear has hc0 hc1 hb3 hz3 hW3
 go_upto_region 2 with (fail)
 rw [<- HW3.out]
 by_cases h1 : er = 0
 case neg =>
  have h1b : (er != 0) = true := by simp [h1]
  have HV : Hid (Gr.mpost g m x = ([], er)) := by show _ = _; rw [Gr.mpost, HAS.out, if_pos h1]
  have H1 := Lib.hid h1
  have hR := setRow_heap W3 (w.heap.size + 1) _ #[.int .i64 0, .int .i64 0, .int .i64 0, .int .i64 0, .slice none 0 0] _ _ He1.out
  have hload := Lib.hid (run_loadVar_row (P := Tryz.prog) _ _ _ 53 _ _ _ hR Tryz.underlying53 rfl postSize)
  have hBF := Lib.hid (below_setRow hB03 (show w.heap.size <= w.heap.size + 1 by omega) #[.int .i64 0, .int .i64 0, .int .i64 0, .int .i64 0, .slice none 0 0])
  clear h1 hR
  go_wp2_with (refine wpList_store_row rfl 53 (.tmp 6) (.tmp 20) none rfl rfl (w.heap.size + 1) 53 _ #[.int .i64 0, .int .i64 0, .int .i64 0, .int .i64 0, .slice none 0 0] rfl rfl He1.out rfl postSize Hz.out ?_)
  exact bodyPost_ret (v := .tuple #[.agg #[.int .i64 0, .int .i64 0, .int .i64 0, .int .i64 0, .slice none 0 0], .int .i64 er]) (by simp [results, Tryz.results10, asAddr, Act.put, hload.out]) rfl ⟨hBF.out, .inl ⟨.inl (by rw [HV.out]; exact H1.out), by rw [HV.out]⟩⟩
 subst h1
 have HV : Hid (Gr.mpost g m x = Po.clean [⟨g.r12, -u⟩, ⟨g.r6, -v⟩, ⟨g.r5, u + v⟩]) := by show _ = _; rw [Gr.mpost, HAS.out]; exact if_neg (fun h => h rfl)
 have Hf1 := He1
 have hf3 := Hb3.out
 have y2 := cell_of_row _ _ 2 _ _ _ hf3
 have y3 := cell_of_row _ _ 3 _ _ _ hf3
 have hg3 := He0.out
 have z12 := cell_of_row _ _ 17 _ _ _ hg3
 have z6 := cell_of_row _ _ 11 _ _ _ hg3
 have z5 := cell_of_row _ _ 10 _ _ _ hg3
 simp at y2 y3 z12 z6 z5
 obtain ⟨t, ht⟩ : ∃ t, t = u + v := ⟨_, rfl⟩
 obtain ⟨u1, hu1⟩ : ∃ u1, u1 = -u := ⟨_, rfl⟩
 obtain ⟨v1, hv1⟩ : ∃ v1, v1 = -v := ⟨_, rfl⟩
 have hut := ht.symm
 have huu := hu1.symm
 have huv := hv1.symm
 have Hu1 := Lib.hid hu1
 have Hv1 := Lib.hid hv1
 have htb : -2200000000000002 <= t /\ t <= 2200000000000002 := by omega
 have Ht := Lib.hid ht
 obtain ⟨W5, hW5, hB5, hb5, hz5⟩ := nw1 W3 #[.int .i64 g.r12, .int .i64 u1, .int .i64 g.r6, .int .i64 v1, .int .i64 g.r5, .int .i64 t] 67
 have HW5 := Lib.hid hW5
 have hB05 := hB03.trans (hB5.mono hB03.size)
 have Hg1 := Lib.hid (gbox Hf1.out hB5 s31)
 have hwr := hgr
 have HM := Lib.hid (cleand_any W5 (some ⟨W3.heap.size, 0, none⟩) 3 3 [⟨g.r12, u1⟩, ⟨g.r6, v1⟩, ⟨g.r5, t⟩] rfl (by omega) (by
  intro y hy
  simp only [List.mem_cons, List.not_mem_nil, or_false] at hy
  rcases hy with rfl | rfl | rfl
  ·show -10000000000000000 <= u1 /\ u1 <= 10000000000000000; omega
  ·show -10000000000000000 <= v1 /\ v1 <= 10000000000000000; omega
  ·show -10000000000000000 <= t /\ t <= 10000000000000000; omega) (by
  intro y hy
  simp only [List.mem_cons, List.not_mem_nil, or_false] at hy
  rcases hy with rfl | rfl | rfl
  ·exact hwr.out.1
  ·exact hwr.out.2.1
  ·exact hwr.out.2.2) (RowsAt.triple (x := ⟨g.r12, u1⟩) (y := ⟨g.r6, v1⟩) (z := ⟨g.r5, t⟩) hb5))
 clear ht hu1 hv1 hz5 hb5 hW5 hf3 hg3
 go_wp2_with (fail)
 rw [<- HW5.out]
 refine HM.out.mono ?_
 rintro e W6 ⟨hB6, A6, c6, hfr, rfl, hA6⟩
 have hB06 := hB05.trans (hB6.mono hB05.size)
 have Hk := Lib.hid (gbox Hg1.out hB6 (some_lt Hg1.out))
 have HPC : Hid (Gr.mpost g m x = Po.clean [⟨g.r12, u1⟩, ⟨g.r6, v1⟩, ⟨g.r5, t⟩]) := by show _ = _; rw [HV.out, Ht.out, Hu1.out, Hv1.out]
 obtain ⟨ps, hps⟩ : ∃ ps, ps = (Po.clean [⟨g.r12, u1⟩, ⟨g.r6, v1⟩, ⟨g.r5, t⟩]).1 := ⟨_, rfl⟩
 obtain ⟨er, her⟩ : ∃ er, er = (Po.clean [⟨g.r12, u1⟩, ⟨g.r6, v1⟩, ⟨g.r5, t⟩]).2 := ⟨_, rfl⟩
 rw [<- hps] at hA6
 rw [<- hps, <- her]
 have HPS := Lib.hid hps
 have HE := Lib.hid her
 have HA6 := Lib.hid hA6
 have Hfr := Lib.hid hfr
 have Hqq := Lib.hid (show w.heap.size + 1 < W5.heap.size from some_lt Hg1.out)
 have Ho := Lib.hid (postOne 6 x (-1) 0 A6 ps.length c6)
 have hR := setRow_heap W6 (w.heap.size + 1) _ #[.int .i64 0, .int .i64 0, .int .i64 0, .int .i64 0, .slice none 0 0] _ _ Hk.out
 have hload := Lib.hid (run_loadVar_row (P := Tryz.prog) _ _ _ 53 _ _ _ hR Tryz.underlying53 rfl postSize)
 have hBF := Lib.hid (below_setRow hB06 (show w.heap.size <= w.heap.size + 1 by omega) #[.int .i64 0, .int .i64 0, .int .i64 0, .int .i64 0, .slice none 0 0])
 have hR2 := setRow_heap W6 (w.heap.size + 1) _ #[.int .i64 6, .int .i64 x, .int .i64 (-1), .int .i64 0, .slice A6 ps.length c6] _ _ Hk.out
 have hload2 := Lib.hid (run_loadVar_row (P := Tryz.prog) _ _ _ 53 _ _ _ hR2 Tryz.underlying53 rfl postSize)
 have hBF2 := Lib.hid (below_setRow hB06 (show w.heap.size <= w.heap.size + 1 by omega) #[.int .i64 6, .int .i64 x, .int .i64 (-1), .int .i64 0, .slice A6 ps.length c6])
 clear hR hR2 hps her hA6 hfr
 by_cases h2 : er = 0
 case neg =>
  have h2b : (er != 0) = true := by simp [h2]
  have H2 := Lib.hid h2
  clear h2
  go_wp2_with (refine wpList_store_row rfl 53 (.tmp 6) (.tmp 57) none rfl rfl (w.heap.size + 1) 53 _ #[.int .i64 0, .int .i64 0, .int .i64 0, .int .i64 0, .slice none 0 0] rfl rfl Hk.out rfl postSize Hz.out ?_)
  exact bodyPost_ret (v := .tuple #[.agg #[.int .i64 0, .int .i64 0, .int .i64 0, .int .i64 0, .slice none 0 0], .int .i64 er]) (by simp [results, Tryz.results10, asAddr, Act.put, hload.out]) rfl ⟨hBF.out, .inl ⟨.inl (by rw [HPC.out, <- HE.out]; exact H2.out), by rw [HPC.out, <- HE.out]⟩⟩
 have h2b : (er != 0) = false := by simp [h2]
 have H2 := Lib.hid h2
 clear h2
 by_cases h3 : ps.length = 0
 case pos =>
  have H3 : Hid (ps = []) := Lib.hid (List.length_eq_zero_iff.1 h3)
  go_wp2_with (refine wpList_store_row rfl 53 (.tmp 6) (.tmp 57) none rfl rfl (w.heap.size + 1) 53 _ #[.int .i64 0, .int .i64 0, .int .i64 0, .int .i64 0, .slice none 0 0] rfl rfl Hk.out rfl postSize Hz.out ?_)
  exact bodyPost_ret (v := .tuple #[.agg #[.int .i64 0, .int .i64 0, .int .i64 0, .int .i64 0, .slice none 0 0], .int .i64 er]) (by simp [results, Tryz.results10, asAddr, Act.put, hload.out]) rfl ⟨hBF.out, .inl ⟨.inr (by rw [HPC.out, <- HPS.out]; exact H3.out), by rw [HPC.out, <- HE.out]⟩⟩
 have H3 := Lib.hid h3
 go_wp2_with (refine wpList_store_row rfl 53 (.tmp 6) (.tmp 61) none rfl rfl (w.heap.size + 1) 53 _ #[.int .i64 6, .int .i64 x, .int .i64 (-1), .int .i64 0, .slice A6 ps.length c6] rfl rfl Hk.out rfl postSize Ho.out ?_)
 refine bodyPost_ret (v := .tuple #[.agg #[.int .i64 6, .int .i64 x, .int .i64 (-1), .int .i64 0, .slice A6 ps.length c6], .int .i64 0]) (by simp [results, Tryz.results10, asAddr, Act.put, hload2.out]) rfl ⟨hBF2.out, .inr ⟨by rw [HPC.out, <- HE.out]; exact H2.out, by rw [HPC.out, <- HPS.out]; exact fun h => H3.out (by rw [h]; rfl), A6, c6, (fun ad h => Nat.le_trans (by have := Hqq.out; omega) (Hfr.out ad h)), by rw [HPC.out, <- HPS.out], ?_⟩⟩
 rw [HPC.out, <- HPS.out]
 exact RowsAt.other_row HA6.out Hfr.out Hqq.out _
end
namespace Po
def none_ (r : List Prt × Int) : Prop := r.2 ≠ 0 ∨ r.1 = []
instance (r : List Prt × Int) : Decidable (none_ r) := by unfold none_; exact inferInstance
def pk (v : Int) (r : List Prt × Int) : Int := if none_ r then 0 else v
def pl (r : List Prt × Int) : List Prt := if none_ r then [] else r.1
theorem pl_length (r : List Prt × Int) : (pl r).length <= r.1.length := by unfold pl; split <;> simp
theorem pk_yes {v : Int} {r : List Prt × Int} (h : none_ r) : pk v r = 0 := if_pos h
theorem pk_no {v : Int} {r : List Prt × Int} (h : ¬ none_ r) : pk v r = v := if_neg h
theorem pl_yes {r : List Prt × Int} (h : none_ r) : pl r = [] := if_pos h
theorem pl_no {r : List Prt × Int} (h : ¬ none_ r) : pl r = r.1 := if_neg h
end Po
theorem PostingPost.one {kd x : Int} {r : List Prt × Int} {w w' : World} {e : Ending} (h : PostingPost kd x r w e w') :
  Below w.heap.size w w' /\ ∃ A c, Fresh w.heap.size A /\ e = .returned (.tuple #[.agg #[.int .i64 (Po.pk kd r), .int .i64 (Po.pk x r), .int .i64 (Po.pk (-1) r), .int .i64 0, .slice A (Po.pl r).length c], .int .i64 r.2]) /\ PrtsAt w' w'.heap.size A (Po.pl r) := by
 obtain ⟨hb, ⟨h1, rfl⟩ | ⟨h1, h2, A, c, hf, rfl, hA⟩⟩ := h
 ·refine ⟨hb, none, 0, (fun _ h => by cases h), ?_, ?_⟩
  ·rw [Po.pk_yes h1, Po.pk_yes h1, Po.pk_yes h1, Po.pl_yes h1]; rfl
  ·rw [Po.pl_yes h1]; exact .inl rfl
 ·have hn : ¬ Po.none_ r := fun h => by rcases h with h | h <;> contradiction
  refine ⟨hb, A, c, hf, ?_, ?_⟩
  ·rw [Po.pk_no hn, Po.pk_no hn, Po.pk_no hn, Po.pl_no hn, h1]
  ·rw [Po.pl_no hn]; exact hA
theorem RowsAt.stored {α : Type} {f : α -> List Value} {sz : Nat} {w : World} {A : Option Addr} {l : List α} (h : RowsAt f sz w w.heap.size A l) {b : Nat} (hne : l ≠ [] -> ∀ ad, A = some ad -> ad.block ≠ b) (cs : Array Value) : RowsAt f sz (w.setRow b cs) (w.setRow b cs).heap.size A l := by
 rcases h with h | ⟨b', o, e, hl, hc⟩
 ·exact .inl h
 ·by_cases h0 : l = []
  ·exact .inl h0
  ·have hn : b' ≠ b := hne h0 _ e
   exact .inr ⟨b', o, e, by simpa using hl, fun k hk j v hv => (World.cell?_of_block (w := w) (setRow_other w b b' cs hn)).trans (hc k hk j v hv)⟩
end Go.Proofs.YtobnfmneeabomaaGreat
