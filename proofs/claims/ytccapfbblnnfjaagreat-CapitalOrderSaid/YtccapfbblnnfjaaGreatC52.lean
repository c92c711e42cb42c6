/- My texts CapPo. -/
import Derived.Test.YtccapfbblnnfjaaGreatC51
import Derived.Test.YtccapfbblnnfjaaGreatG45
import Derived.Test.YtccapfbblnnfjaaGreatG46
set_option linter.unusedVariables false
set_option linter.unusedSimpArgs false
set_option maxRecDepth 100000
set_option maxHeartbeats 8000000
namespace Go.Proofs.YtccapfbblnnfjaaGreat
open Go.RowKit
namespace Gr
theorem capital_small {R : World -> Nat -> Value -> Int -> Int -> Prop} {w : World} {B : Nat} {g : Grp} {l : List Con} {m : List Cnt} {x : Int} (hm : Hold (fun a b => a.Holds R w B b) l m) (hn : l.length <= 100) :
  (-4000000000000000 <= (capital g m x).1.1 /\ (capital g m x).1.1 <= 4000000000000000) /\ (-100000000000000 <= (capital g m x).1.2.1 /\ (capital g m x).1.2.1 <= 100000000000000) /\ -1000000000000001 <= (capital g m x).1.2.2 /\ (capital g m x).1.2.2 <= 1000000000000001 := by
 unfold capital
 split
 ·simp
 ·unfold elim
  rcases Cn.find_hold (P := fun a b => a.Holds R w B b) (fun _ _ h => h.he) x hm with ⟨_, h2⟩ | ⟨a, y, _, h2, h3⟩
  ·rw [h2]; simp
  ·rw [h2]
   simp only []
   by_cases hc : x ≠ 0 /\ (y.meth = 3 ∨ y.meth = 2)
   ·rw [if_pos hc]
    have hl : y.its.length <= 40 := by rw [h3.hil]; exact h3.hin
    have b2 := sumOf_bd (fun a => decide (a = g.r7)) y.its h3.hix
    have bi := invest_bd g x y.since false m (Hold.its hm)
    have hl2 := Hold.len hm
    have r1 := rd_small (n := sumOf (fun a => decide (a = g.r7)) y.its) h3.hfo (by omega) (by omega)
    refine ⟨⟨by simp only []; omega, by simp only []; omega⟩, ⟨by simp only []; omega, by simp only []; omega⟩, ?_⟩
    simp only []
    by_cases h3m : y.meth = 3
    ·rw [if_pos h3m]; exact r1
    ·rw [if_neg h3m]; omega
   ·rw [if_neg hc]; simp
theorem roles_wf38 {g : Grp} (h : ∀ r ∈ Gr.roles g, (Lit.int .i64 r.code).wf = true) : (Lit.int .i64 g.r0).wf = true /\ (Lit.int .i64 g.r7).wf = true /\ (Lit.int .i64 g.r5).wf = true /\ (Lit.int .i64 g.r1).wf = true := by
 simp only [Gr.roles, List.forall_mem_cons] at h
 obtain ⟨h0, h1, _, _, _, h5, _, h7, _⟩ := h
 exact ⟨h0, h7, h5, h1⟩
theorem cpost_len (g : Grp) (m : List Cnt) (x : Int) : (cpost g m x).1.length <= 4 := by
 unfold cpost
 split
 ·simp
 ·unfold Po.clean
  split
  ·simp
  ·exact Po.parts_length _
end Gr
theorem RowsAt.quad {w : World} {b : Nat} {x y z u : Prt} {t : TypeId} {fr : Nat × Nat} (h : w.heap[b]? = some (.cells #[.int .i64 x.acct, .int .i64 x.amt, .int .i64 y.acct, .int .i64 y.amt, .int .i64 z.acct, .int .i64 z.amt, .int .i64 u.acct, .int .i64 u.amt] t fr)) : PrtsAt w w.heap.size (some ⟨b, 0, none⟩) [x, y, z, u] :=
 rows_flat (f := Prt.cells) (l := [x, y, z, u]) h (some_lt h) (by simp [Prt.cells])
section
variable (w : World)
theorem cpostr_any (g : Grp) (A : Option Addr) (n c : Nat) (l : List Con) (m : List Cnt) (x : Int) (hl : l.length = n) (hn : n <= 100) (hA : ConsAt w w.heap.size A l) (hm : Hold (fun a b => a.Holds SR w w.heap.size b) l m) (hg : g.At w w.heap.size) :
  Calls Tryz.prog 20 #[.agg #[.string g.cur, .int .i64 g.Y, .int .i64 g.M, .int .i64 g.N, .slice g.cA g.cn g.cc, .int .i64 g.r0, .int .i64 g.r1, .int .i64 g.r2, .int .i64 g.r3, .int .i64 g.r4, .int .i64 g.r5, .int .i64 g.r6, .int .i64 g.r7, .int .i64 g.r8, .int .i64 g.r9, .int .i64 g.r10, .int .i64 g.r11, .int .i64 g.r12, .int .i64 g.r13, .int .i64 g.r14, .slice g.eA g.en g.ec], .slice A n c, .int .i64 x] w (PostingPost 4 x (Gr.cpost g m x) w) := by
 obtain ⟨W1, hW1, hB0, hb0, hb1, hz⟩ := nw2 w #[.string g.cur, .int .i64 g.Y, .int .i64 g.M, .int .i64 g.N, .slice g.cA g.cn g.cc, .int .i64 g.r0, .int .i64 g.r1, .int .i64 g.r2, .int .i64 g.r3, .int .i64 g.r4, .int .i64 g.r5, .int .i64 g.r6, .int .i64 g.r7, .int .i64 g.r8, .int .i64 g.r9, .int .i64 g.r10, .int .i64 g.r11, .int .i64 g.r12, .int .i64 g.r13, .int .i64 g.r14, .slice g.eA g.en g.ec] #[.int .i64 0, .int .i64 0, .int .i64 0, .int .i64 0, .slice none 0 0] 29 49
 have HW := Lib.hid hW1
 have Hb0 := Lib.hid hb0
 have Hb1 := Lib.hid hb1
 have hrg := Lib.hid (grp_range hb0)
 have s1 : w.heap.size < W1.heap.size := by omega
 have s1' : w.heap.size + 1 < W1.heap.size := by omega
 have hg1 := hg.at_ hB0
 have HO := Lib.hid (capr_any W1 g A n c l m x hl hn (RowsAt.at_ hA hB0) (hm.imp (Q := fun a b => a.Holds SR W1 W1.heap.size b) fun _ _ h => h.atR hB0) hg1)
 have Hsm := Lib.hid (Gr.capital_small (g := g) (x := x) hm (by omega))
 clear hW1 hz hb0 hb1 hg hA hm hl hg1
 go_enter Tryz.func20, Tryz.ntmps20
 go_upto_region 1 with (fail)
 rw [<- HW.out]
 go_wp2_with (refine wpList_load_mid rfl 29 (.tmp 3) rfl w.heap.size 0 rfl _ _ hrg.out Tryz.underlying29 rfl grpSize ?_)
 refine HO.out.mono ?_
 rintro e W2 ⟨p, q, u, er, has, rfl, hB2⟩
 have hB02 := hB0.trans (hB2.mono hB0.size)
 have hsm := Hsm.out
 rw [has] at hsm
 obtain ⟨⟨p0, p1⟩, ⟨q0, q1⟩, u0, u1⟩ := hsm
 have HAS := Lib.hid has
 have hc0 := gbox Hb0.out hB2 s1
 have hc1 := gbox Hb1.out hB2 s1'
 obtain ⟨W3, hW3, hB3, hb3, hz3⟩ := nw1 W2 #[.int .i64 p, .int .i64 q, .int .i64 u] 43
 have HW3 := Lib.hid hW3
 have Hb3 := Lib.hid hb3
 have hB03 := hB02.trans (hB3.mono hB02.size)
 have He0 := Lib.hid (gbox hc0 hB3 (some_lt hc0))
 have He1 := Lib.hid (gbox hc1 hB3 (some_lt hc1))
 have s3 := some_lt hb3
 have s30 := some_lt He0.out
 have s31 := some_lt He1.out
 have Hz := Lib.hid (postOne 0 0 0 0 none 0 0)
 clear has hc0 hc1 hb3 hz3 hW3
 go_upto_region 2 with (fail)
 rw [<- HW3.out]
 by_cases h1 : er = 0
 case neg =>
  have h1b : (er != 0) = true := by simp [h1]
  have HV : Hid (Gr.cpost g m x = ([], er)) := by show _ = _; rw [Gr.cpost, HAS.out, if_pos h1]
  have H1 := Lib.hid h1
  have hR := setRow_heap W3 (w.heap.size + 1) _ #[.int .i64 0, .int .i64 0, .int .i64 0, .int .i64 0, .slice none 0 0] _ _ He1.out
  have hload := Lib.hid (run_loadVar_row (P := Tryz.prog) _ _ _ 49 _ _ _ hR Tryz.underlying49 rfl postSize)
  have hBF := Lib.hid (below_setRow hB03 (show w.heap.size <= w.heap.size + 1 by omega) #[.int .i64 0, .int .i64 0, .int .i64 0, .int .i64 0, .slice none 0 0])
  clear h1 hR
  go_wp2_with (refine wpList_store_row rfl 49 (.tmp 6) (.tmp 20) none rfl rfl (w.heap.size + 1) 49 _ #[.int .i64 0, .int .i64 0, .int .i64 0, .int .i64 0, .slice none 0 0] rfl rfl He1.out rfl postSize Hz.out ?_)
  exact bodyPost_ret (v := .tuple #[.agg #[.int .i64 0, .int .i64 0, .int .i64 0, .int .i64 0, .slice none 0 0], .int .i64 er]) (by simp [results, Tryz.results20, asAddr, Act.put, hload.out]) rfl ⟨hBF.out, .inl ⟨.inl (by rw [HV.out]; exact H1.out), by rw [HV.out]⟩⟩
 subst h1
 have HV : Hid (Gr.cpost g m x = Po.clean [⟨g.r0, -p⟩, ⟨g.r7, -q⟩, ⟨g.r5, q - u⟩, ⟨g.r1, p + u⟩]) := by show _ = _; rw [Gr.cpost, HAS.out]; exact if_neg (fun h => h rfl)
 have hrr := Lib.hid (roles_range He0.out)
 obtain ⟨W4, hW4, hB4, hb4, hz4⟩ := nw1 W3 #[.int .i64 g.r0, .int .i64 g.r1, .int .i64 g.r2, .int .i64 g.r3, .int .i64 g.r4, .int .i64 g.r5, .int .i64 g.r6, .int .i64 g.r7, .int .i64 g.r8, .int .i64 g.r9, .int .i64 g.r10, .int .i64 g.r11, .int .i64 g.r12, .int .i64 g.r13, .int .i64 g.r14] 26
 have HW4 := Lib.hid hW4
 have hB04 := hB03.trans (hB4.mono hB03.size)
 have Hf1 := Lib.hid (gbox He1.out hB4 s31)
 have hf3 := gbox Hb3.out hB4 s3
 have y0 := cell_of_row _ _ 0 _ _ _ hf3
 have y1 := cell_of_row _ _ 1 _ _ _ hf3
 have y2 := cell_of_row _ _ 2 _ _ _ hf3
 have z0 := cell_of_row _ _ 0 _ _ _ hb4
 have z7 := cell_of_row _ _ 7 _ _ _ hb4
 have z5 := cell_of_row _ _ 5 _ _ _ hb4
 have z1 := cell_of_row _ _ 1 _ _ _ hb4
 simp at y0 y1 y2 z0 z7 z5 z1
 have s4 := some_lt hb4
 have s43 := some_lt hf3
 have s41 := some_lt Hf1.out
 clear hW4 hz4 hb4 hf3
 go_upto_region 5 with (refine wpList_load_mid rfl 26 (.tmp 22) rfl w.heap.size 5 rfl [.int .i64 g.r0, .int .i64 g.r1, .int .i64 g.r2, .int .i64 g.r3, .int .i64 g.r4, .int .i64 g.r5, .int .i64 g.r6, .int .i64 g.r7, .int .i64 g.r8, .int .i64 g.r9, .int .i64 g.r10, .int .i64 g.r11, .int .i64 g.r12, .int .i64 g.r13, .int .i64 g.r14] _ hrr.out Tryz.underlying26 rfl rolesSize ?_)
 rw [<- HW4.out]
 obtain ⟨a1, ha1⟩ : ∃ a1, a1 = -p := ⟨_, rfl⟩
 have ea1 := ha1.symm
 have Ha1 := Lib.hid ha1
 obtain ⟨a2, ha2⟩ : ∃ a2, a2 = -q := ⟨_, rfl⟩
 have ea2 := ha2.symm
 have Ha2 := Lib.hid ha2
 obtain ⟨a3, ha3⟩ : ∃ a3, a3 = q - u := ⟨_, rfl⟩
 have ea3 := ha3.symm
 have Ha3 := Lib.hid ha3
 obtain ⟨a4, ha4⟩ : ∃ a4, a4 = p + u := ⟨_, rfl⟩
 have ea4 := ha4.symm
 have Ha4 := Lib.hid ha4
 obtain ⟨W5, hW5, hB5, hb5, hz5⟩ := nw1 W4 #[.int .i64 g.r0, .int .i64 a1, .int .i64 g.r7, .int .i64 a2, .int .i64 g.r5, .int .i64 a3, .int .i64 g.r1, .int .i64 a4] 99
 have HW5 := Lib.hid hW5
 have hB05 := hB04.trans (hB5.mono hB04.size)
 have Hg1 := Lib.hid (gbox Hf1.out hB5 s41)
 have HM := Lib.hid (made_any W5 4 x (some ⟨W4.heap.size, 0, none⟩) 4 4 [⟨g.r0, a1⟩, ⟨g.r7, a2⟩, ⟨g.r5, a3⟩, ⟨g.r1, a4⟩] rfl (by omega) (by
  intro y hy
  simp only [List.mem_cons, List.not_mem_nil, or_false] at hy
  rcases hy with rfl | rfl | rfl | rfl
  ·show -10000000000000000 <= a1 /\ a1 <= 10000000000000000; omega
  ·show -10000000000000000 <= a2 /\ a2 <= 10000000000000000; omega
  ·show -10000000000000000 <= a3 /\ a3 <= 10000000000000000; omega
  ·show -10000000000000000 <= a4 /\ a4 <= 10000000000000000; omega) (RowsAt.quad (x := ⟨g.r0, a1⟩) (y := ⟨g.r7, a2⟩) (z := ⟨g.r5, a3⟩) (u := ⟨g.r1, a4⟩) hb5))
 clear ha1 ha2 ha3 ha4 hz5 hb5 hW5
 go_wp2_with (fail)
 rw [<- HW5.out]
 refine HM.out.mono ?_
 rintro e W6 ⟨hB6, hP⟩
 have hB06 := hB05.trans (hB6.mono hB05.size)
 have Hk := Lib.hid (gbox Hg1.out hB6 (some_lt Hg1.out))
 have HPC : Hid (Gr.cpost g m x = Po.clean [⟨g.r0, a1⟩, ⟨g.r7, a2⟩, ⟨g.r5, a3⟩, ⟨g.r1, a4⟩]) := by show _ = _; rw [HV.out, Ha1.out, Ha2.out, Ha3.out, Ha4.out]
 rcases hP with ⟨h2, rfl⟩ | ⟨h2, h3, A6, c6, hfr, rfl, hA6⟩
 ·have H2 := Lib.hid h2
  have hR := setRow_heap W6 (w.heap.size + 1) _ #[.int .i64 0, .int .i64 0, .int .i64 0, .int .i64 0, .slice none 0 0] _ _ Hk.out
  have hload := Lib.hid (run_loadVar_row (P := Tryz.prog) _ _ _ 49 _ _ _ hR Tryz.underlying49 rfl postSize)
  have hBF := Lib.hid (below_setRow hB06 (show w.heap.size <= w.heap.size + 1 by omega) #[.int .i64 0, .int .i64 0, .int .i64 0, .int .i64 0, .slice none 0 0])
  obtain ⟨er, her⟩ : ∃ er, er = (Po.clean [⟨g.r0, a1⟩, ⟨g.r7, a2⟩, ⟨g.r5, a3⟩, ⟨g.r1, a4⟩]).2 := ⟨_, rfl⟩
  rw [<- her]
  have HE := Lib.hid her
  clear h2 hR her
  go_wp2_with (refine wpList_store_row rfl 49 (.tmp 6) (.tmp 55) none rfl rfl (w.heap.size + 1) 49 _ #[.int .i64 0, .int .i64 0, .int .i64 0, .int .i64 0, .slice none 0 0] rfl rfl Hk.out rfl postSize Hz.out ?_)
  exact bodyPost_ret (v := .tuple #[.agg #[.int .i64 0, .int .i64 0, .int .i64 0, .int .i64 0, .slice none 0 0], .int .i64 er]) (by simp [results, Tryz.results20, asAddr, Act.put, hload.out]) rfl ⟨hBF.out, .inl ⟨by rw [HPC.out]; exact H2.out, by rw [HPC.out, <- HE.out]⟩⟩
 ·obtain ⟨ps, hps⟩ : ∃ ps, ps = (Po.clean [⟨g.r0, a1⟩, ⟨g.r7, a2⟩, ⟨g.r5, a3⟩, ⟨g.r1, a4⟩]).1 := ⟨_, rfl⟩
  rw [<- hps] at hA6
  rw [<- hps]
  have HPS := Lib.hid hps
  have H2 := Lib.hid h2
  have H3 := Lib.hid h3
  have HA6 := Lib.hid hA6
  have Hfr := Lib.hid hfr
  have Hqq := Lib.hid (show w.heap.size + 1 < W5.heap.size from some_lt Hg1.out)
  have Ho := Lib.hid (postOne 4 x (-1) 0 A6 ps.length c6)
  have hR := setRow_heap W6 (w.heap.size + 1) _ #[.int .i64 4, .int .i64 x, .int .i64 (-1), .int .i64 0, .slice A6 ps.length c6] _ _ Hk.out
  have hload := Lib.hid (run_loadVar_row (P := Tryz.prog) _ _ _ 49 _ _ _ hR Tryz.underlying49 rfl postSize)
  have hBF := Lib.hid (below_setRow hB06 (show w.heap.size <= w.heap.size + 1 by omega) #[.int .i64 4, .int .i64 x, .int .i64 (-1), .int .i64 0, .slice A6 ps.length c6])
  clear h2 h3 hR hps hA6 hfr
  go_wp2_with (refine wpList_store_row rfl 49 (.tmp 6) (.tmp 55) none rfl rfl (w.heap.size + 1) 49 _ #[.int .i64 4, .int .i64 x, .int .i64 (-1), .int .i64 0, .slice A6 ps.length c6] rfl rfl Hk.out rfl postSize Ho.out ?_)
  refine bodyPost_ret (v := .tuple #[.agg #[.int .i64 4, .int .i64 x, .int .i64 (-1), .int .i64 0, .slice A6 ps.length c6], .int .i64 0]) (by simp [results, Tryz.results20, asAddr, Act.put, hload.out]) rfl ⟨hBF.out, .inr ⟨by rw [HPC.out]; exact H2.out, by rw [HPC.out]; exact H3.out, A6, c6, (fun ad h => Nat.le_trans (by have := Hqq.out; omega) (Hfr.out ad h)), by rw [HPC.out, <- HPS.out], ?_⟩⟩
  rw [HPC.out, <- HPS.out]
  exact RowsAt.other_row HA6.out Hfr.out Hqq.out _
theorem cpostd_any (g : Grp) (A : Option Addr) (n c : Nat) (l : List Con) (m : List Cnt) (x : Int) (hl : l.length = n) (hn : n <= 100) (hA : ConsAt w w.heap.size A l) (hm : Hold (fun a b => a.Holds SD w w.heap.size b) l m) (hg : g.At w w.heap.size) :
  Calls Tryz.prog 19 #[.agg #[.string g.cur, .int .i64 g.Y, .int .i64 g.M, .int .i64 g.N, .slice g.cA g.cn g.cc, .int .i64 g.r0, .int .i64 g.r1, .int .i64 g.r2, .int .i64 g.r3, .int .i64 g.r4, .int .i64 g.r5, .int .i64 g.r6, .int .i64 g.r7, .int .i64 g.r8, .int .i64 g.r9, .int .i64 g.r10, .int .i64 g.r11, .int .i64 g.r12, .int .i64 g.r13, .int .i64 g.r14, .slice g.eA g.en g.ec], .slice A n c, .int .i64 x] w (PostingPost 4 x (Gr.cpost g m x) w) := by
 obtain ⟨W1, hW1, hB0, hb0, hb1, hz⟩ := nw2 w #[.string g.cur, .int .i64 g.Y, .int .i64 g.M, .int .i64 g.N, .slice g.cA g.cn g.cc, .int .i64 g.r0, .int .i64 g.r1, .int .i64 g.r2, .int .i64 g.r3, .int .i64 g.r4, .int .i64 g.r5, .int .i64 g.r6, .int .i64 g.r7, .int .i64 g.r8, .int .i64 g.r9, .int .i64 g.r10, .int .i64 g.r11, .int .i64 g.r12, .int .i64 g.r13, .int .i64 g.r14, .slice g.eA g.en g.ec] #[.int .i64 0, .int .i64 0, .int .i64 0, .int .i64 0, .slice none 0 0] 29 49
 have HW := Lib.hid hW1
 have Hb0 := Lib.hid hb0
 have Hb1 := Lib.hid hb1
 have hrg := Lib.hid (grp_range hb0)
 have s1 : w.heap.size < W1.heap.size := by omega
 have s1' : w.heap.size + 1 < W1.heap.size := by omega
 have hg1 := hg.at_ hB0
 have HO := Lib.hid (capd_any W1 g A n c l m x hl hn (RowsAt.at_ hA hB0) (hm.imp (Q := fun a b => a.Holds SD W1 W1.heap.size b) fun _ _ h => h.atD hB0) hg1)
 have Hsm := Lib.hid (Gr.capital_small (g := g) (x := x) hm (by omega))
 have hgr := Lib.hid (Gr.roles_wf38 hg.hr)
 clear hW1 hz hb0 hb1 hg hA hm hl hg1
 go_enter Tryz.func19, Tryz.ntmps19
 go_upto_region 1 with (fail)
 rw [<- HW.out]
 go_wp2_with (refine wpList_load_mid rfl 29 (.tmp 3) rfl w.heap.size 0 rfl _ _ hrg.out Tryz.underlying29 rfl grpSize ?_)
 refine HO.out.mono ?_
 rintro e W2 ⟨p, q, u, er, has, rfl, hB2⟩
 have hB02 := hB0.trans (hB2.mono hB0.size)
 have hsm := Hsm.out
 rw [has] at hsm
 obtain ⟨⟨p0, p1⟩, ⟨q0, q1⟩, u0, u1⟩ := hsm
 have HAS := Lib.hid has
 have hc0 := gbox Hb0.out hB2 s1
 have hc1 := gbox Hb1.out hB2 s1'
 obtain ⟨W3, hW3, hB3, hb3, hz3⟩ := nw1 W2 #[.int .i64 p, .int .i64 q, .int .i64 u] 37
 have HW3 := Lib.hid hW3
 have Hb3 := Lib.hid hb3
 have hB03 := hB02.trans (hB3.mono hB02.size)
 have He0 := Lib.hid (gbox hc0 hB3 (some_lt hc0))
 have He1 := Lib.hid (gbox hc1 hB3 (some_lt hc1))
 have s3 := some_lt hb3
 have s30 := some_lt He0.out
 have s31 := some_lt He1.out
 have Hz := Lib.hid (postOne 0 0 0 0 none 0 0)
 clear has hc0 hc1 hb3 hz3 hW3
 go_upto_region 2 with (fail)
 rw [<- HW3.out]
 by_cases h1 : er = 0
 case neg =>
  have h1b : (er != 0) = true := by simp [h1]
  have HV : Hid (Gr.cpost g m x = ([], er)) := by show _ = _; rw [Gr.cpost, HAS.out, if_pos h1]
  have H1 := Lib.hid h1
  have hR := setRow_heap W3 (w.heap.size + 1) _ #[.int .i64 0, .int .i64 0, .int .i64 0, .int .i64 0, .slice none 0 0] _ _ He1.out
  have hload := Lib.hid (run_loadVar_row (P := Tryz.prog) _ _ _ 49 _ _ _ hR Tryz.underlying49 rfl postSize)
  have hBF := Lib.hid (below_setRow hB03 (show w.heap.size <= w.heap.size + 1 by omega) #[.int .i64 0, .int .i64 0, .int .i64 0, .int .i64 0, .slice none 0 0])
  clear h1 hR
  go_wp2_with (refine wpList_store_row rfl 49 (.tmp 6) (.tmp 20) none rfl rfl (w.heap.size + 1) 49 _ #[.int .i64 0, .int .i64 0, .int .i64 0, .int .i64 0, .slice none 0 0] rfl rfl He1.out rfl postSize Hz.out ?_)
  exact bodyPost_ret (v := .tuple #[.agg #[.int .i64 0, .int .i64 0, .int .i64 0, .int .i64 0, .slice none 0 0], .int .i64 er]) (by simp [results, Tryz.results19, asAddr, Act.put, hload.out]) rfl ⟨hBF.out, .inl ⟨.inl (by rw [HV.out]; exact H1.out), by rw [HV.out]⟩⟩
 subst h1
 have HV : Hid (Gr.cpost g m x = Po.clean [⟨g.r0, -p⟩, ⟨g.r7, -q⟩, ⟨g.r5, q - u⟩, ⟨g.r1, p + u⟩]) := by show _ = _; rw [Gr.cpost, HAS.out]; exact if_neg (fun h => h rfl)
 have Hf1 := He1
 have hf3 := Hb3.out
 have y0 := cell_of_row _ _ 0 _ _ _ hf3
 have y1 := cell_of_row _ _ 1 _ _ _ hf3
 have y2 := cell_of_row _ _ 2 _ _ _ hf3
 have hg3 := He0.out
 have z0 := cell_of_row _ _ 5 _ _ _ hg3
 have z7 := cell_of_row _ _ 12 _ _ _ hg3
 have z5 := cell_of_row _ _ 10 _ _ _ hg3
 have z1 := cell_of_row _ _ 6 _ _ _ hg3
 simp at y0 y1 y2 z0 z7 z5 z1
 obtain ⟨a1, ha1⟩ : ∃ a1, a1 = -p := ⟨_, rfl⟩
 have ea1 := ha1.symm
 have Ha1 := Lib.hid ha1
 obtain ⟨a2, ha2⟩ : ∃ a2, a2 = -q := ⟨_, rfl⟩
 have ea2 := ha2.symm
 have Ha2 := Lib.hid ha2
 obtain ⟨a3, ha3⟩ : ∃ a3, a3 = q - u := ⟨_, rfl⟩
 have ea3 := ha3.symm
 have Ha3 := Lib.hid ha3
 obtain ⟨a4, ha4⟩ : ∃ a4, a4 = p + u := ⟨_, rfl⟩
 have ea4 := ha4.symm
 have Ha4 := Lib.hid ha4
 obtain ⟨W5, hW5, hB5, hb5, hz5⟩ := nw1 W3 #[.int .i64 g.r0, .int .i64 a1, .int .i64 g.r7, .int .i64 a2, .int .i64 g.r5, .int .i64 a3, .int .i64 g.r1, .int .i64 a4] 99
 have HW5 := Lib.hid hW5
 have hB05 := hB03.trans (hB5.mono hB03.size)
 have Hg1 := Lib.hid (gbox Hf1.out hB5 s31)
 have hwr := hgr
 have HM := Lib.hid (cleand_any W5 (some ⟨W3.heap.size, 0, none⟩) 4 4 [⟨g.r0, a1⟩, ⟨g.r7, a2⟩, ⟨g.r5, a3⟩, ⟨g.r1, a4⟩] rfl (by omega) (by
  intro y hy
  simp only [List.mem_cons, List.not_mem_nil, or_false] at hy
  rcases hy with rfl | rfl | rfl | rfl
  ·show -10000000000000000 <= a1 /\ a1 <= 10000000000000000; omega
  ·show -10000000000000000 <= a2 /\ a2 <= 10000000000000000; omega
  ·show -10000000000000000 <= a3 /\ a3 <= 10000000000000000; omega
  ·show -10000000000000000 <= a4 /\ a4 <= 10000000000000000; omega) (by
  intro y hy
  simp only [List.mem_cons, List.not_mem_nil, or_false] at hy
  rcases hy with rfl | rfl | rfl | rfl
  ·exact hwr.out.1
  ·exact hwr.out.2.1
  ·exact hwr.out.2.2.1
  ·exact hwr.out.2.2.2) (RowsAt.quad (x := ⟨g.r0, a1⟩) (y := ⟨g.r7, a2⟩) (z := ⟨g.r5, a3⟩) (u := ⟨g.r1, a4⟩) hb5))
 clear ha1 ha2 ha3 ha4 hz5 hb5 hW5 hf3 hg3
 go_wp2_with (fail)
 rw [<- HW5.out]
 refine HM.out.mono ?_
 rintro e W6 ⟨hB6, A6, c6, hfr, rfl, hA6⟩
 have hB06 := hB05.trans (hB6.mono hB05.size)
 have Hk := Lib.hid (gbox Hg1.out hB6 (some_lt Hg1.out))
 have HPC : Hid (Gr.cpost g m x = Po.clean [⟨g.r0, a1⟩, ⟨g.r7, a2⟩, ⟨g.r5, a3⟩, ⟨g.r1, a4⟩]) := by show _ = _; rw [HV.out, Ha1.out, Ha2.out, Ha3.out, Ha4.out]
 obtain ⟨ps, hps⟩ : ∃ ps, ps = (Po.clean [⟨g.r0, a1⟩, ⟨g.r7, a2⟩, ⟨g.r5, a3⟩, ⟨g.r1, a4⟩]).1 := ⟨_, rfl⟩
 obtain ⟨er, her⟩ : ∃ er, er = (Po.clean [⟨g.r0, a1⟩, ⟨g.r7, a2⟩, ⟨g.r5, a3⟩, ⟨g.r1, a4⟩]).2 := ⟨_, rfl⟩
 rw [<- hps] at hA6
 rw [<- hps, <- her]
 have HPS := Lib.hid hps
 have HE := Lib.hid her
 have HA6 := Lib.hid hA6
 have Hfr := Lib.hid hfr
 have Hqq := Lib.hid (show w.heap.size + 1 < W5.heap.size from some_lt Hg1.out)
 have Ho := Lib.hid (postOne 4 x (-1) 0 A6 ps.length c6)
 have hR := setRow_heap W6 (w.heap.size + 1) _ #[.int .i64 0, .int .i64 0, .int .i64 0, .int .i64 0, .slice none 0 0] _ _ Hk.out
 have hload := Lib.hid (run_loadVar_row (P := Tryz.prog) _ _ _ 49 _ _ _ hR Tryz.underlying49 rfl postSize)
 have hBF := Lib.hid (below_setRow hB06 (show w.heap.size <= w.heap.size + 1 by omega) #[.int .i64 0, .int .i64 0, .int .i64 0, .int .i64 0, .slice none 0 0])
 have hR2 := setRow_heap W6 (w.heap.size + 1) _ #[.int .i64 4, .int .i64 x, .int .i64 (-1), .int .i64 0, .slice A6 ps.length c6] _ _ Hk.out
 have hload2 := Lib.hid (run_loadVar_row (P := Tryz.prog) _ _ _ 49 _ _ _ hR2 Tryz.underlying49 rfl postSize)
 have hBF2 := Lib.hid (below_setRow hB06 (show w.heap.size <= w.heap.size + 1 by omega) #[.int .i64 4, .int .i64 x, .int .i64 (-1), .int .i64 0, .slice A6 ps.length c6])
 clear hR hR2 hps her hA6 hfr
 by_cases h2 : er = 0
 case neg =>
  have h2b : (er != 0) = true := by simp [h2]
  have H2 := Lib.hid h2
  clear h2
  go_wp2_with (refine wpList_store_row rfl 49 (.tmp 6) (.tmp 66) none rfl rfl (w.heap.size + 1) 49 _ #[.int .i64 0, .int .i64 0, .int .i64 0, .int .i64 0, .slice none 0 0] rfl rfl Hk.out rfl postSize Hz.out ?_)
  exact bodyPost_ret (v := .tuple #[.agg #[.int .i64 0, .int .i64 0, .int .i64 0, .int .i64 0, .slice none 0 0], .int .i64 er]) (by simp [results, Tryz.results19, asAddr, Act.put, hload.out]) rfl ⟨hBF.out, .inl ⟨.inl (by rw [HPC.out, <- HE.out]; exact H2.out), by rw [HPC.out, <- HE.out]⟩⟩
 have h2b : (er != 0) = false := by simp [h2]
 have H2 := Lib.hid h2
 clear h2
 by_cases h3 : ps.length = 0
 case pos =>
  have H3 : Hid (ps = []) := Lib.hid (List.length_eq_zero_iff.1 h3)
  go_wp2_with (refine wpList_store_row rfl 49 (.tmp 6) (.tmp 66) none rfl rfl (w.heap.size + 1) 49 _ #[.int .i64 0, .int .i64 0, .int .i64 0, .int .i64 0, .slice none 0 0] rfl rfl Hk.out rfl postSize Hz.out ?_)
  exact bodyPost_ret (v := .tuple #[.agg #[.int .i64 0, .int .i64 0, .int .i64 0, .int .i64 0, .slice none 0 0], .int .i64 er]) (by simp [results, Tryz.results19, asAddr, Act.put, hload.out]) rfl ⟨hBF.out, .inl ⟨.inr (by rw [HPC.out, <- HPS.out]; exact H3.out), by rw [HPC.out, <- HE.out]⟩⟩
 have H3 := Lib.hid h3
 go_wp2_with (refine wpList_store_row rfl 49 (.tmp 6) (.tmp 70) none rfl rfl (w.heap.size + 1) 49 _ #[.int .i64 4, .int .i64 x, .int .i64 (-1), .int .i64 0, .slice A6 ps.length c6] rfl rfl Hk.out rfl postSize Ho.out ?_)
 refine bodyPost_ret (v := .tuple #[.agg #[.int .i64 4, .int .i64 x, .int .i64 (-1), .int .i64 0, .slice A6 ps.length c6], .int .i64 0]) (by simp [results, Tryz.results19, asAddr, Act.put, hload2.out]) rfl ⟨hBF2.out, .inr ⟨by rw [HPC.out, <- HE.out]; exact H2.out, by rw [HPC.out, <- HPS.out]; exact fun h => H3.out (by rw [h]; rfl), A6, c6, (fun ad h => Nat.le_trans (by have := Hqq.out; omega) (Hfr.out ad h)), by rw [HPC.out, <- HPS.out], ?_⟩⟩
 rw [HPC.out, <- HPS.out]
 exact RowsAt.other_row HA6.out Hfr.out Hqq.out _
end
end Go.Proofs.YtccapfbblnnfjaaGreat
