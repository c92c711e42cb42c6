/- My texts PostE, PostM, AsP. -/
import Derived.Test.YtcblobokjhhboaaGreatG07
import Derived.Test.YtcblobokjhhboaaGreatG18
import Derived.Test.YtcblobokjhhboaaGreatH37
import Derived.Test.YtcblobokjhhboaaGreatG40
import Derived.Test.YtcblobokjhhboaaGreatG45
set_option linter.unusedVariables false
set_option linter.unusedSimpArgs false
set_option maxRecDepth 100000
set_option maxHeartbeats 8000000
namespace Go.Proofs.YtcblobokjhhboaaGreat
open Go.RowKit
theorem postSize : (Tryz.prog.info? 49).map (·.size) = some 5 := by kernel_rfl
theorem index4 (i : Int) (hi : i = 0 ∨ i = 1 ∨ i = 2 ∨ i = 3) (W : World) : (Instr.index 163 (.agg #[.int .i64 0, .int .i64 0, .int .i64 0, .int .i64 0]) (.int .i64 i)).run Tryz.prog W = .ok (.int .i64 0) W := by
 rcases hi with rfl | rfl | rfl | rfl <;> kernel_rfl
section
variable (w : World)
theorem order_same (x : Int) : Calls Tryz.prog 90 #[.int .i64 x, .int .i64 x] w fun e w' => e = .returned (.int .i64 0) /\ w' = w := by
 go_enter Tryz.func90, Tryz.ntmps90
 go_wp2
 go_ret
 exact ⟨rfl, rfl⟩
theorem compare_same (k x o r : Int) (A A' : Option Addr) (n c n' c' : Nat) :
  Calls Tryz.prog 55 #[.agg #[.int .i64 k, .int .i64 x, .int .i64 o, .int .i64 r, .slice A n c], .agg #[.int .i64 k, .int .i64 x, .int .i64 o, .int .i64 r, .slice A' n' c']] w fun e w' => e = .returned (.int .i64 0) /\ Below w.heap.size w w' := by
 obtain ⟨hB0, hb0, hb1, hz⟩ := row_new2 w #[.int .i64 k, .int .i64 x, .int .i64 o, .int .i64 r, .slice A n c] #[.int .i64 k, .int .i64 x, .int .i64 o, .int .i64 r, .slice A' n' c'] 49 49
 obtain ⟨W1, hW1⟩ : ∃ W1, W1 = ((w.alloc (.cells #[.int .i64 k, .int .i64 x, .int .i64 o, .int .i64 r, .slice A n c] 49)).alloc (.cells #[.int .i64 k, .int .i64 x, .int .i64 o, .int .i64 r, .slice A' n' c'] 49)) := ⟨_, rfl⟩
 rw [<- hW1] at hB0 hb0 hb1 hz
 have HW := Lib.hid hW1
 have x0 := fun j => cell_of_row _ _ j _ _ _ hb0
 have x1 := fun j => cell_of_row _ _ j _ _ _ hb1
 have a0 := x0 0
 have a1 := x0 1
 have a2 := x0 2
 have a3 := x0 3
 have b0 := x1 0
 have b1 := x1 1
 have b2 := x1 2
 have b3 := x1 3
 simp at a0 a1 a2 a3 b0 b1 b2 b3
 have HB0 := Lib.hid hB0
 have s1 : w.heap.size < W1.heap.size := by omega
 have s2 : w.heap.size + 1 < W1.heap.size := by omega
 clear hW1 hz hb0 hb1 x0 x1 hB0
 go_enter Tryz.func55, Tryz.ntmps55
 go_upto_region 1 with (fail)
 rw [<- HW.out]
 go_quiet ((go_at_call 90; exact Calls.quiet_of_same (order_same _ _)))
 go_wp2
 have i0 := index4 0 (by omega)
 have i1 := index4 1 (by omega)
 have i2 := index4 2 (by omega)
 have i3 := index4 3 (by omega)
 refine wp_loop_rounds 5 ?_
 rw [rounds_succ]
 go_wp2
 rw [rounds_succ]
 go_wp2
 rw [rounds_succ]
 go_wp2
 rw [rounds_succ]
 go_wp2
 rw [rounds_succ]
 go_wp2
 go_ret
 exact ⟨rfl, below_drawn HB0.out _⟩
theorem equal_same (k x o r : Int) (A A' : Option Addr) (n c c' : Nat) (l : List Prt) (hl : l.length = n) (hn : n <= 100000) (h : PrtsAt w w.heap.size A l) (h' : PrtsAt w w.heap.size A' l) :
  Calls Tryz.prog 21 #[.agg #[.int .i64 k, .int .i64 x, .int .i64 o, .int .i64 r, .slice A n c], .agg #[.int .i64 k, .int .i64 x, .int .i64 o, .int .i64 r, .slice A' n c']] w fun e w' => e = .returned (.bool true) /\ Below w.heap.size w w' := by
 obtain ⟨hB0, hb0, hb1, hz⟩ := row_new2 w #[.int .i64 k, .int .i64 x, .int .i64 o, .int .i64 r, .slice A n c] #[.int .i64 k, .int .i64 x, .int .i64 o, .int .i64 r, .slice A' n c'] 49 49
 obtain ⟨W1, hW1⟩ : ∃ W1, W1 = ((w.alloc (.cells #[.int .i64 k, .int .i64 x, .int .i64 o, .int .i64 r, .slice A n c] 49)).alloc (.cells #[.int .i64 k, .int .i64 x, .int .i64 o, .int .i64 r, .slice A' n c'] 49)) := ⟨_, rfl⟩
 rw [<- hW1] at hB0 hb0 hb1 hz
 have HW := Lib.hid hW1
 have Hb0 := Lib.hid hb0
 have Hb1 := Lib.hid hb1
 have hr0 := Lib.hid (range_row (cs := [.int .i64 k, .int .i64 x, .int .i64 o, .int .i64 r, .slice A n c]) hb0)
 have hr1 := Lib.hid (range_row (cs := [.int .i64 k, .int .i64 x, .int .i64 o, .int .i64 r, .slice A' n c']) hb1)
 have Hl := Lib.hid hl
 have H := Lib.hid h
 have H' := Lib.hid h'
 have s1 : w.heap.size < W1.heap.size := by omega
 have s2 : w.heap.size + 1 < W1.heap.size := by omega
 clear hW1 hz hb0 hb1 hl h h'
 go_enter Tryz.func21, Tryz.ntmps21
 go_upto_region 1 with (fail)
 rw [<- HW.out]
 go_wp2_with (first | (refine wpList_load_mid rfl 49 (.tmp 2) rfl w.heap.size 0 rfl [.int .i64 k, .int .i64 x, .int .i64 o, .int .i64 r, .slice A n c] _ hr0.out Tryz.underlying49 rfl postSize ?_) | (refine wpList_load_mid rfl 49 (.tmp 3) rfl (w.heap.size + 1) 0 rfl [.int .i64 k, .int .i64 x, .int .i64 o, .int .i64 r, .slice A' n c'] _ hr1.out Tryz.underlying49 rfl postSize ?_))
 refine (compare_same W1 k x o r A A' n c n c').mono ?_
 rintro e W2 ⟨rfl, hB2⟩
 have hB02 := hB0.trans (hB2.mono hB0.size)
 have hc0 := gbox Hb0.out hB2 s1
 have hc1 := gbox Hb1.out hB2 s2
 have a4 := cell_of_row _ _ 4 _ _ _ hc0
 have b4 := cell_of_row _ _ 4 _ _ _ hc1
 simp at a4 b4
 have HA := Lib.hid (RowsAt.below H.out hB02 (Nat.le_refl _))
 have HA' := Lib.hid (RowsAt.below H'.out hB02 (Nat.le_refl _))
 have t1 := some_lt hc0
 have t2 := some_lt hc1
 have hq := hB02.size
 clear hc0 hc1 hr0 hr1
 go_wp2
 go_loopw [5] (fun i wr => ∃ (j q : Nat), j <= n /\ i = .int .i64 j /\ wr = W2.drewN q) (fun i _ => n - (intOf i).toNat)
 case atStart => exact ⟨0, 0, Nat.zero_le _, rfl, rfl⟩
 case round =>
  obtain ⟨j, q, hj, rfl, rfl⟩ := hrel
  by_cases hlt : j < n
  ·have hjl : j < l.length := by have := Hl.out; omega
   obtain ⟨b, o1, hAe, hbB, c0, c1⟩ := PrtsAt.two HA.out hjl
   obtain ⟨b', o2, hAe', hbB', d0, d1⟩ := PrtsAt.two HA'.out hjl
   subst hAe hAe'
   obtain ⟨u, hu⟩ : ∃ u, u = l[j].acct := ⟨_, rfl⟩
   obtain ⟨m, hm⟩ : ∃ m, m = l[j].amt := ⟨_, rfl⟩
   rw [<- hu] at c0 d0
   rw [<- hm] at c1 d1
   have hbw : b < W2.heap.size := by omega
   have hbw' : b' < W2.heap.size := by omega
   clear hu hm
   go_wp2
   go_quiet (fail)
   go_wp2
   go_roundw
   case rel => exact ⟨j + 1, _, by omega, by go_num, rfl⟩
   case measure => simp [intOf]; omega
  ·obtain rfl : j = n := by omega
   go_wp2
   go_ret
   exact ⟨rfl, below_drawn hB02 _⟩
theorem sameparts_any (A A' : Option Addr) (n c c' : Nat) (l : List Prt) (hl : l.length = n) (hn : n <= 100000) (h : PrtsAt w w.heap.size A l) (h' : PrtsAt w w.heap.size A' l) :
  Calls Tryz.prog 38 #[.slice A n c, .slice A' n c'] w fun e w' => e = .returned (.bool true) /\ Below w.heap.size w w' := by
 have He := Lib.hid (equal_same w 0 0 0 0 A A' n c c' l hl hn h h')
 clear hl h h'
 go_enter Tryz.func38, Tryz.ntmps38
 go_wp2_with (fail)
 refine He.out.mono ?_
 rintro e W2 ⟨rfl, hB2⟩
 go_wp2
 go_ret
 exact ⟨rfl, hB2⟩
end
def PostingPost (kd x : Int) (r : List Prt × Int) (w : World) (e : Ending) (w' : World) : Prop :=
 Below w.heap.size w w' /\ ((r.2 ≠ 0 ∨ r.1 = []) /\ e = .returned (.tuple #[.agg #[.int .i64 0, .int .i64 0, .int .i64 0, .int .i64 0, .slice none 0 0], .int .i64 r.2]) ∨
  (r.2 = 0 /\ r.1 ≠ [] /\ ∃ A c, Fresh w.heap.size A /\ e = .returned (.tuple #[.agg #[.int .i64 kd, .int .i64 x, .int .i64 (-1), .int .i64 0, .slice A r.1.length c], .int .i64 0]) /\ PrtsAt w' w'.heap.size A r.1))
theorem postOne (k x o r : Int) (A : Option Addr) (n c : Nat) : (#[.int .i64 k, .int .i64 x, .int .i64 o, .int .i64 r, .slice A n c] : Array Value).all (·.oneCell') = true := by simp [Value.oneCell']
section
variable (w : World)
theorem made_any (kd x : Int) (A : Option Addr) (n c : Nat) (l : List Prt) (hl : l.length = n) (hn : n <= 100) (hs : ∀ x ∈ l, -10000000000000000 <= x.amt /\ x.amt <= 10000000000000000) (h : PrtsAt w w.heap.size A l) :
  Calls Tryz.prog 54 #[.int .i64 kd, .int .i64 x, .slice A n c] w (PostingPost kd x (Po.clean l) w) := by
 obtain ⟨hB0, hb0, hz⟩ := row_new w #[.int .i64 0, .int .i64 0, .int .i64 0, .int .i64 0, .slice none 0 0] 49
 obtain ⟨W1, hW1⟩ : ∃ W1, W1 = (w.alloc (.cells #[.int .i64 0, .int .i64 0, .int .i64 0, .int .i64 0, .slice none 0 0] 49)) := ⟨_, rfl⟩
 rw [<- hW1] at hB0 hb0 hz
 have HW := Lib.hid hW1
 have Hb0 := Lib.hid hb0
 have s1 : w.heap.size < W1.heap.size := by omega
 have Hc := Lib.hid (cleanr_any W1 A n c l hl hn hs (RowsAt.at_ h hB0))
 clear hW1 hz hb0 hl hn hs h
 go_enter Tryz.func54, Tryz.ntmps54
 go_upto_region 1 with (fail)
 rw [<- HW.out]
 go_wp2_with (fail)
 refine Hc.out.mono ?_
 rintro e W2 ⟨hB2, A2, c2, hfr, rfl, hA2⟩
 have Hfr := Lib.hid hfr
 obtain ⟨ps, hps⟩ : ∃ ps, ps = (Po.clean l).1 := ⟨_, rfl⟩
 obtain ⟨er, her⟩ : ∃ er, er = (Po.clean l).2 := ⟨_, rfl⟩
 rw [<- hps] at hA2
 rw [<- hps, <- her]
 have Hps := Lib.hid hps
 have Her := Lib.hid her
 have HA2 := Lib.hid hA2
 have hB02 := hB0.trans (hB2.mono hB0.size)
 have hd2 := Lib.hid (gbox Hb0.out hB2 s1)
 have Hz := Lib.hid (postOne 0 0 0 0 none 0 0)
 have hR := setRow_heap W2 w.heap.size _ #[.int .i64 0, .int .i64 0, .int .i64 0, .int .i64 0, .slice none 0 0] _ _ hd2.out
 have hload := Lib.hid (run_loadVar_row (P := Tryz.prog) _ _ _ 49 _ _ _ hR Tryz.underlying49 rfl postSize)
 have hBF := Lib.hid (below_setRow hB02 (Nat.le_refl _) #[.int .i64 0, .int .i64 0, .int .i64 0, .int .i64 0, .slice none 0 0])
 have hR2 := setRow_heap W2 w.heap.size _ #[.int .i64 kd, .int .i64 x, .int .i64 (-1), .int .i64 0, .slice A2 ps.length c2] _ _ hd2.out
 have hload2 := Lib.hid (run_loadVar_row (P := Tryz.prog) _ _ _ 49 _ _ _ hR2 Tryz.underlying49 rfl postSize)
 have hBF2 := Lib.hid (below_setRow hB02 (Nat.le_refl _) #[.int .i64 kd, .int .i64 x, .int .i64 (-1), .int .i64 0, .slice A2 ps.length c2])
 clear hA2 hps her hR hR2 hB2 hfr
 by_cases h1 : er = 0
 case neg =>
  have h1b : (er != 0) = true := by simp [h1]
  have H1 := Lib.hid h1
  clear h1
  go_wp2_with (refine wpList_store_row rfl 49 (.tmp 6) (.tmp 22) none rfl rfl w.heap.size 49 _ #[.int .i64 0, .int .i64 0, .int .i64 0, .int .i64 0, .slice none 0 0] rfl rfl hd2.out rfl postSize Hz.out ?_)
  exact bodyPost_ret (v := .tuple #[.agg #[.int .i64 0, .int .i64 0, .int .i64 0, .int .i64 0, .slice none 0 0], .int .i64 er]) (by simp [results, Tryz.results54, asAddr, Act.put, hload.out]) rfl ⟨hBF.out, .inl ⟨.inl (by rw [<- Her.out]; exact H1.out), by rw [<- Her.out]⟩⟩
 have h1b : (er != 0) = false := by simp [h1]
 have H1 := Lib.hid h1
 clear h1
 by_cases h2 : ps.length = 0
 case pos =>
  have H2 : Hid (ps = []) := Lib.hid (List.length_eq_zero_iff.1 h2)
  go_wp2_with (refine wpList_store_row rfl 49 (.tmp 6) (.tmp 22) none rfl rfl w.heap.size 49 _ #[.int .i64 0, .int .i64 0, .int .i64 0, .int .i64 0, .slice none 0 0] rfl rfl hd2.out rfl postSize Hz.out ?_)
  exact bodyPost_ret (v := .tuple #[.agg #[.int .i64 0, .int .i64 0, .int .i64 0, .int .i64 0, .slice none 0 0], .int .i64 er]) (by simp [results, Tryz.results54, asAddr, Act.put, hload.out]) rfl ⟨hBF.out, .inl ⟨.inr (by rw [<- Hps.out]; exact H2.out), by rw [<- Her.out]⟩⟩
 have H2 := Lib.hid h2
 have Ho := Lib.hid (postOne kd x (-1) 0 A2 ps.length c2)
 go_wp2_with (refine wpList_store_row rfl 49 (.tmp 6) (.tmp 27) none rfl rfl w.heap.size 49 _ #[.int .i64 kd, .int .i64 x, .int .i64 (-1), .int .i64 0, .slice A2 ps.length c2] rfl rfl hd2.out rfl postSize Ho.out ?_)
 refine bodyPost_ret (v := .tuple #[.agg #[.int .i64 kd, .int .i64 x, .int .i64 (-1), .int .i64 0, .slice A2 ps.length c2], .int .i64 0]) (by simp [results, Tryz.results54, asAddr, Act.put, hload2.out]) rfl ⟨hBF2.out, .inr ⟨by rw [<- Her.out]; exact H1.out, by rw [<- Hps.out]; exact fun h => H2.out (by rw [h]; rfl), A2, c2, (fun ad h => Nat.le_trans (by omega) (Hfr.out ad h)), by rw [<- Hps.out], ?_⟩⟩
 rw [<- Hps.out]
 exact RowsAt.other_row HA2.out Hfr.out s1 _
end
namespace Gr
def apost (g : Grp) (m : List Cnt) (x : Int) : List Prt × Int :=
 if (assoc g m x).2 ≠ 0 then ([], (assoc g m x).2) else Po.clean [⟨g.r10, (assoc g m x).1.2.2.1⟩, ⟨g.r6, (assoc g m x).1.2.2.2⟩, ⟨g.r2, -((assoc g m x).1.2.2.1 + (assoc g m x).1.2.2.2)⟩]
theorem assoc_small {R : World -> Nat -> Value -> Int -> Int -> Prop} {w : World} {B : Nat} {g : Grp} {l : List Con} {m : List Cnt} {x : Int} (hm : Hold (fun a b => a.Holds R w B b) l m) :
  (-1000000000000001 <= (assoc g m x).1.2.2.1 /\ (assoc g m x).1.2.2.1 <= 1000000000000001) /\ -1000000000000001 <= (assoc g m x).1.2.2.2 /\ (assoc g m x).1.2.2.2 <= 1000000000000001 := by
 unfold assoc
 split
 ·simp
 ·rcases Cn.find_hold (P := fun a b => a.Holds R w B b) (fun _ _ h => h.he) x hm with ⟨_, h2⟩ | ⟨a, y, _, h2, h3⟩
  ·rw [h2]; simp
  ·rw [h2]
   simp only []
   split
   ·simp
   ·have hl : y.shs.length <= 40 := by rw [h3.hhl]; exact h3.hhn
    have b1 := sumOf_bd (isResult g) y.shs h3.hhx
    have b2 := sumOf_bd (isEquity g) y.shs h3.hhx
    have r1 := rd_small (n := sumOf (isResult g) y.shs) h3.hso (by omega) (by omega)
    have r2 := rd_small (n := sumOf (isEquity g) y.shs) h3.hso (by omega) (by omega)
    exact ⟨r1, r2⟩
end Gr
theorem RowsAt.triple {w : World} {b : Nat} {x y z : Prt} {t : TypeId} {fr : Nat × Nat} (h : w.heap[b]? = some (.cells #[.int .i64 x.acct, .int .i64 x.amt, .int .i64 y.acct, .int .i64 y.amt, .int .i64 z.acct, .int .i64 z.amt] t fr)) : PrtsAt w w.heap.size (some ⟨b, 0, none⟩) [x, y, z] :=
 rows_flat (f := Prt.cells) (l := [x, y, z]) h (some_lt h) (by simp [Prt.cells])
theorem range_part {w : World} {b o : Nat} {a m c : List Value} (h : w.rangeAt b o (a ++ (m ++ c))) : w.rangeAt b (o + a.length) m := fun j v hj => by
 have hjl : j < m.length := (List.getElem?_eq_some_iff.1 hj).1
 have := h (a.length + j) v (by rw [List.getElem?_append_right (by omega), Nat.add_sub_cancel_left, List.getElem?_append_left hjl]; exact hj)
 rw [<- Nat.add_assoc] at this
 exact this
theorem Gr.roles_wf {g : Grp} (h : ∀ r ∈ Gr.roles g, (Lit.int .i64 r.code).wf = true) : (Lit.int .i64 g.r10).wf = true /\ (Lit.int .i64 g.r6).wf = true /\ (Lit.int .i64 g.r2).wf = true := by
 simp only [Gr.roles, List.forall_mem_cons] at h
 obtain ⟨_, _, h2, _, _, _, h6, _, _, _, h10, _⟩ := h
 exact ⟨h10, h6, h2⟩
section
variable (w : World)
theorem apostd_any (g : Grp) (A : Option Addr) (n c : Nat) (l : List Con) (m : List Cnt) (x : Int) (hl : l.length = n) (hn : n <= 1000) (hA : ConsAt w w.heap.size A l) (hm : Hold (fun a b => a.Holds SD w w.heap.size b) l m) (hg : g.At w w.heap.size) :
  Calls Tryz.prog 19 #[.agg #[.string g.cur, .int .i64 g.Y, .int .i64 g.M, .int .i64 g.N, .slice g.cA g.cn g.cc, .int .i64 g.r0, .int .i64 g.r1, .int .i64 g.r2, .int .i64 g.r3, .int .i64 g.r4, .int .i64 g.r5, .int .i64 g.r6, .int .i64 g.r7, .int .i64 g.r8, .int .i64 g.r9, .int .i64 g.r10, .int .i64 g.r11, .int .i64 g.r12, .int .i64 g.r13, .int .i64 g.r14, .slice g.eA g.en g.ec], .slice A n c, .int .i64 x] w (PostingPost 7 x (Gr.apost g m x) w) := by
 obtain ⟨hB0, hb0, hb1, hz⟩ := row_new2 w #[.string g.cur, .int .i64 g.Y, .int .i64 g.M, .int .i64 g.N, .slice g.cA g.cn g.cc, .int .i64 g.r0, .int .i64 g.r1, .int .i64 g.r2, .int .i64 g.r3, .int .i64 g.r4, .int .i64 g.r5, .int .i64 g.r6, .int .i64 g.r7, .int .i64 g.r8, .int .i64 g.r9, .int .i64 g.r10, .int .i64 g.r11, .int .i64 g.r12, .int .i64 g.r13, .int .i64 g.r14, .slice g.eA g.en g.ec] #[.int .i64 0, .int .i64 0, .int .i64 0, .int .i64 0, .slice none 0 0] 29 49
 obtain ⟨W1, hW1⟩ : ∃ W1, W1 = ((w.alloc (.cells #[.string g.cur, .int .i64 g.Y, .int .i64 g.M, .int .i64 g.N, .slice g.cA g.cn g.cc, .int .i64 g.r0, .int .i64 g.r1, .int .i64 g.r2, .int .i64 g.r3, .int .i64 g.r4, .int .i64 g.r5, .int .i64 g.r6, .int .i64 g.r7, .int .i64 g.r8, .int .i64 g.r9, .int .i64 g.r10, .int .i64 g.r11, .int .i64 g.r12, .int .i64 g.r13, .int .i64 g.r14, .slice g.eA g.en g.ec] 29)).alloc (.cells #[.int .i64 0, .int .i64 0, .int .i64 0, .int .i64 0, .slice none 0 0] 49)) := ⟨_, rfl⟩
 rw [<- hW1] at hB0 hb0 hb1 hz
 have HW := Lib.hid hW1
 have Hb0 := Lib.hid hb0
 have Hb1 := Lib.hid hb1
 have hrg := Lib.hid (grp_range hb0)
 have s1 : w.heap.size < W1.heap.size := by omega
 have s1' : w.heap.size + 1 < W1.heap.size := by omega
 have hg1 := hg.at_ hB0
 have HO := Lib.hid (assocd_any W1 g A n c l m x hl hn (RowsAt.at_ hA hB0) (hm.imp (Q := fun a b => a.Holds SD W1 W1.heap.size b) fun _ _ h => h.atD hB0) hg1)
 have Hsm := Lib.hid (Gr.assoc_small (g := g) (x := x) hm)
 have hgr := Lib.hid (Gr.roles_wf hg.hr)
 clear hW1 hz hb0 hb1 hg hA hm hl hg1
 go_enter Tryz.func19, Tryz.ntmps19
 go_upto_region 1 with (fail)
 rw [<- HW.out]
 go_wp2_with (refine wpList_load_mid rfl 29 (.tmp 3) rfl w.heap.size 0 rfl [.string g.cur, .int .i64 g.Y, .int .i64 g.M, .int .i64 g.N, .slice g.cA g.cn g.cc, .int .i64 g.r0, .int .i64 g.r1, .int .i64 g.r2, .int .i64 g.r3, .int .i64 g.r4, .int .i64 g.r5, .int .i64 g.r6, .int .i64 g.r7, .int .i64 g.r8, .int .i64 g.r9, .int .i64 g.r10, .int .i64 g.r11, .int .i64 g.r12, .int .i64 g.r13, .int .i64 g.r14, .slice g.eA g.en g.ec] _ hrg.out Tryz.underlying29 rfl grpSize ?_)
 refine HO.out.mono ?_
 rintro e W2 ⟨p, q, u, v, er, has, rfl, hB2⟩
 have hB02 := hB0.trans (hB2.mono hB0.size)
 have hsm := Hsm.out
 rw [has] at hsm
 obtain ⟨⟨u0, u1⟩, v0, v1⟩ := hsm
 have HAS := Lib.hid has
 have hc0 := gbox Hb0.out hB2 s1
 have hc1 := gbox Hb1.out hB2 s1'
 obtain ⟨hB3, hb3, hz3⟩ := row_new W2 #[.int .i64 p, .int .i64 q, .int .i64 u, .int .i64 v] 37
 obtain ⟨W3, hW3⟩ : ∃ W3, W3 = W2.alloc (.cells #[.int .i64 p, .int .i64 q, .int .i64 u, .int .i64 v] 37) := ⟨_, rfl⟩
 rw [<- hW3] at hB3 hb3 hz3
 have HW3 := Lib.hid hW3
 have Hb3 := Lib.hid hb3
 have hB03 := hB02.trans (hB3.mono hB02.size)
 have He0 := Lib.hid (gbox hc0 hB3 (some_lt hc0))
 have He1 := Lib.hid (gbox hc1 hB3 (some_lt hc1))
 have s3 := some_lt hb3
 have s30 := some_lt He0.out
 have s31 := some_lt He1.out
 have Hz := Lib.hid (postOne 0 0 0 0 none 0 0)
 clear has hc0 hc1 hb3 hz3 hW3
 go_upto_region 2 with (fail)
 rw [<- HW3.out]
 by_cases h1 : er = 0
 case neg =>
  have h1b : (er != 0) = true := by simp [h1]
  have HV : Hid (Gr.apost g m x = ([], er)) := by show _ = _; rw [Gr.apost, HAS.out, if_pos h1]
  have H1 := Lib.hid h1
  have hR := setRow_heap W3 (w.heap.size + 1) _ #[.int .i64 0, .int .i64 0, .int .i64 0, .int .i64 0, .slice none 0 0] _ _ He1.out
  have hload := Lib.hid (run_loadVar_row (P := Tryz.prog) _ _ _ 49 _ _ _ hR Tryz.underlying49 rfl postSize)
  have hBF := Lib.hid (below_setRow hB03 (show w.heap.size <= w.heap.size + 1 by omega) #[.int .i64 0, .int .i64 0, .int .i64 0, .int .i64 0, .slice none 0 0])
  clear h1 hR
  go_wp2_with (refine wpList_store_row rfl 49 (.tmp 6) (.tmp 20) none rfl rfl (w.heap.size + 1) 49 _ #[.int .i64 0, .int .i64 0, .int .i64 0, .int .i64 0, .slice none 0 0] rfl rfl He1.out rfl postSize Hz.out ?_)
  exact bodyPost_ret (v := .tuple #[.agg #[.int .i64 0, .int .i64 0, .int .i64 0, .int .i64 0, .slice none 0 0], .int .i64 er]) (by simp [results, Tryz.results19, asAddr, Act.put, hload.out]) rfl ⟨hBF.out, .inl ⟨.inl (by rw [HV.out]; exact H1.out), by rw [HV.out]⟩⟩
 subst h1
 have HV : Hid (Gr.apost g m x = Po.clean [⟨g.r10, u⟩, ⟨g.r6, v⟩, ⟨g.r2, -(u + v)⟩]) := by show _ = _; rw [Gr.apost, HAS.out]; exact if_neg (fun h => h rfl)
 have Hf1 := He1
 have hf3 := Hb3.out
 have y2 := cell_of_row _ _ 2 _ _ _ hf3
 have y3 := cell_of_row _ _ 3 _ _ _ hf3
 have hg3 := He0.out
 have z10 := cell_of_row _ _ 15 _ _ _ hg3
 have z6 := cell_of_row _ _ 11 _ _ _ hg3
 have z2 := cell_of_row _ _ 7 _ _ _ hg3
 simp at y2 y3 z10 z6 z2
 obtain ⟨t, ht⟩ : ∃ t, t = -(u + v) := ⟨_, rfl⟩
 have htb : -2000000000000002 <= t /\ t <= 2000000000000002 := by omega
 have huv : -(u + v) = t := ht.symm
 have Ht := Lib.hid ht
 obtain ⟨hB5, hb5, hz5⟩ := row_new W3 #[.int .i64 g.r10, .int .i64 u, .int .i64 g.r6, .int .i64 v, .int .i64 g.r2, .int .i64 t] 106
 obtain ⟨W5, hW5⟩ : ∃ W5, W5 = W3.alloc (.cells #[.int .i64 g.r10, .int .i64 u, .int .i64 g.r6, .int .i64 v, .int .i64 g.r2, .int .i64 t] 106) := ⟨_, rfl⟩
 rw [<- hW5] at hB5 hb5 hz5
 have HW5 := Lib.hid hW5
 have hB05 := hB03.trans (hB5.mono hB03.size)
 have Hg1 := Lib.hid (gbox Hf1.out hB5 s31)
 have hwr := hgr
 have HM := Lib.hid (cleand_any W5 (some ⟨W3.heap.size, 0, none⟩) 3 3 [⟨g.r10, u⟩, ⟨g.r6, v⟩, ⟨g.r2, t⟩] rfl (by omega) (by
  intro y hy
  simp only [List.mem_cons, List.not_mem_nil, or_false] at hy
  rcases hy with rfl | rfl | rfl
  ·show -10000000000000000 <= u /\ u <= 10000000000000000; omega
  ·show -10000000000000000 <= v /\ v <= 10000000000000000; omega
  ·show -10000000000000000 <= t /\ t <= 10000000000000000; omega) (by
  intro y hy
  simp only [List.mem_cons, List.not_mem_nil, or_false] at hy
  rcases hy with rfl | rfl | rfl
  ·exact hwr.out.1
  ·exact hwr.out.2.1
  ·exact hwr.out.2.2) (RowsAt.triple (x := ⟨g.r10, u⟩) (y := ⟨g.r6, v⟩) (z := ⟨g.r2, t⟩) hb5))
 clear ht hz5 hb5 hW5 hf3 hg3
 go_wp2_with (fail)
 rw [<- HW5.out]
 refine HM.out.mono ?_
 rintro e W6 ⟨hB6, A6, c6, hfr, rfl, hA6⟩
 have hB06 := hB05.trans (hB6.mono hB05.size)
 have Hk := Lib.hid (gbox Hg1.out hB6 (some_lt Hg1.out))
 have HPC : Hid (Gr.apost g m x = Po.clean [⟨g.r10, u⟩, ⟨g.r6, v⟩, ⟨g.r2, t⟩]) := by show _ = _; rw [HV.out, Ht.out]
 obtain ⟨ps, hps⟩ : ∃ ps, ps = (Po.clean [⟨g.r10, u⟩, ⟨g.r6, v⟩, ⟨g.r2, t⟩]).1 := ⟨_, rfl⟩
 obtain ⟨er, her⟩ : ∃ er, er = (Po.clean [⟨g.r10, u⟩, ⟨g.r6, v⟩, ⟨g.r2, t⟩]).2 := ⟨_, rfl⟩
 rw [<- hps] at hA6
 rw [<- hps, <- her]
 have HPS := Lib.hid hps
 have HE := Lib.hid her
 have HA6 := Lib.hid hA6
 have Hfr := Lib.hid hfr
 have Hqq := Lib.hid (show w.heap.size + 1 < W5.heap.size from some_lt Hg1.out)
 have Ho := Lib.hid (postOne 7 x (-1) 0 A6 ps.length c6)
 have hR := setRow_heap W6 (w.heap.size + 1) _ #[.int .i64 0, .int .i64 0, .int .i64 0, .int .i64 0, .slice none 0 0] _ _ Hk.out
 have hload := Lib.hid (run_loadVar_row (P := Tryz.prog) _ _ _ 49 _ _ _ hR Tryz.underlying49 rfl postSize)
 have hBF := Lib.hid (below_setRow hB06 (show w.heap.size <= w.heap.size + 1 by omega) #[.int .i64 0, .int .i64 0, .int .i64 0, .int .i64 0, .slice none 0 0])
 have hR2 := setRow_heap W6 (w.heap.size + 1) _ #[.int .i64 7, .int .i64 x, .int .i64 (-1), .int .i64 0, .slice A6 ps.length c6] _ _ Hk.out
 have hload2 := Lib.hid (run_loadVar_row (P := Tryz.prog) _ _ _ 49 _ _ _ hR2 Tryz.underlying49 rfl postSize)
 have hBF2 := Lib.hid (below_setRow hB06 (show w.heap.size <= w.heap.size + 1 by omega) #[.int .i64 7, .int .i64 x, .int .i64 (-1), .int .i64 0, .slice A6 ps.length c6])
 clear hR hR2 hps her hA6 hfr
 by_cases h2 : er = 0
 case neg =>
  have h2b : (er != 0) = true := by simp [h2]
  have H2 := Lib.hid h2
  clear h2
  go_wp2_with (refine wpList_store_row rfl 49 (.tmp 6) (.tmp 56) none rfl rfl (w.heap.size + 1) 49 _ #[.int .i64 0, .int .i64 0, .int .i64 0, .int .i64 0, .slice none 0 0] rfl rfl Hk.out rfl postSize Hz.out ?_)
  exact bodyPost_ret (v := .tuple #[.agg #[.int .i64 0, .int .i64 0, .int .i64 0, .int .i64 0, .slice none 0 0], .int .i64 er]) (by simp [results, Tryz.results19, asAddr, Act.put, hload.out]) rfl ⟨hBF.out, .inl ⟨.inl (by rw [HPC.out, <- HE.out]; exact H2.out), by rw [HPC.out, <- HE.out]⟩⟩
 have h2b : (er != 0) = false := by simp [h2]
 have H2 := Lib.hid h2
 clear h2
 by_cases h3 : ps.length = 0
 case pos =>
  have H3 : Hid (ps = []) := Lib.hid (List.length_eq_zero_iff.1 h3)
  go_wp2_with (refine wpList_store_row rfl 49 (.tmp 6) (.tmp 56) none rfl rfl (w.heap.size + 1) 49 _ #[.int .i64 0, .int .i64 0, .int .i64 0, .int .i64 0, .slice none 0 0] rfl rfl Hk.out rfl postSize Hz.out ?_)
  exact bodyPost_ret (v := .tuple #[.agg #[.int .i64 0, .int .i64 0, .int .i64 0, .int .i64 0, .slice none 0 0], .int .i64 er]) (by simp [results, Tryz.results19, asAddr, Act.put, hload.out]) rfl ⟨hBF.out, .inl ⟨.inr (by rw [HPC.out, <- HPS.out]; exact H3.out), by rw [HPC.out, <- HE.out]⟩⟩
 have H3 := Lib.hid h3
 go_wp2_with (refine wpList_store_row rfl 49 (.tmp 6) (.tmp 60) none rfl rfl (w.heap.size + 1) 49 _ #[.int .i64 7, .int .i64 x, .int .i64 (-1), .int .i64 0, .slice A6 ps.length c6] rfl rfl Hk.out rfl postSize Ho.out ?_)
 refine bodyPost_ret (v := .tuple #[.agg #[.int .i64 7, .int .i64 x, .int .i64 (-1), .int .i64 0, .slice A6 ps.length c6], .int .i64 0]) (by simp [results, Tryz.results19, asAddr, Act.put, hload2.out]) rfl ⟨hBF2.out, .inr ⟨by rw [HPC.out, <- HE.out]; exact H2.out, by rw [HPC.out, <- HPS.out]; exact fun h => H3.out (by rw [h]; rfl), A6, c6, (fun ad h => Nat.le_trans (by have := Hqq.out; omega) (Hfr.out ad h)), by rw [HPC.out, <- HPS.out], ?_⟩⟩
 rw [HPC.out, <- HPS.out]
 exact RowsAt.other_row HA6.out Hfr.out Hqq.out _
end
end Go.Proofs.YtcblobokjhhboaaGreat
