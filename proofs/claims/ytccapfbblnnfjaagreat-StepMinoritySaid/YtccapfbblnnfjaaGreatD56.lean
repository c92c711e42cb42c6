/- My texts LawM40. -/
import Derived.Test.YtccapfbblnnfjaaGreatC52
import Derived.Test.YtccapfbblnnfjaaGreatE00
import Derived.Test.YtccapfbblnnfjaaGreatD52
import Derived.Test.YtccapfbblnnfjaaGreatD53
set_option linter.unusedVariables false
set_option linter.unusedSimpArgs false
set_option maxRecDepth 100000
set_option maxHeartbeats 8000000
namespace Go.Proofs.YtccapfbblnnfjaaGreat
open Go.RowKit
section
variable (w : World)
theorem law_minority40 (A : Option Addr) (n c : Nat) (l : List Raw) (x : Int) (hl : l.length = n) (hn : n <= maxLen) (hr : RawsAt w w.heap.size A l) (hx : ∀ a ∈ l, a.At w w.heap.size) :
  Calls Tryz.prog 12 #[.slice A n c, .int .i64 x] w fun e w' => e = .returned (.bool true) /\ Below w.heap.size w w' := by
 have Hl := Lib.hid hl
 have Hr := Lib.hid hr
 have Hx := Lib.hid hx
 unfold maxLen at hn
 have Hn := Lib.hid hn
 clear hl hr hx hn
 go_enter Tryz.func12, Tryz.ntmps12
 go_wp2_with (fail)
 refine (awake40_any w).mono ?_
 rintro e W2 ⟨rfl, hB2⟩
 have Hr2 := Lib.hid (RowsAt.at_ Hr.out hB2)
 have Hx2 := Lib.hid (fun a ha => ((Hx.out a ha).below hB2 (Nat.le_refl _)).more hB2.size : ∀ a ∈ l, a.At W2 W2.heap.size)
 go_wp2_with (fail)
 refine (contrr_any W2 A n c l Hl.out Hn.out Hr2.out Hx2.out).mono ?_
 rintro e W3 ⟨hB3, v, ok, rfl, hok⟩
 have hB03 := hB2.trans (hB3.mono hB2.size)
 have Hr3 := Lib.hid (RowsAt.at_ Hr2.out hB3)
 have Hx3 := Lib.hid (fun a ha => ((Hx2.out a ha).below hB3 (Nat.le_refl _)).more hB3.size : ∀ a ∈ l, a.At W3 W3.heap.size)
 cases ok with
 | false =>
  clear hok
  go_wp2
  go_ret
  exact ⟨rfl, hB03⟩
 | true =>
 obtain ⟨h8, hall, Ar, cr, cs, rfl, hcl, hcs, hho⟩ := hok rfl
 have H8 := Lib.hid h8
 have Hall := Lib.hid hall
 have Hcl := Lib.hid hcl
 have Hcs := Lib.hid hcs
 have Hho := Lib.hid hho
 have Hlr := Lib.hid (show l.length <= 100 by omega)
 clear hok h8 hall hcl hcs hho
 go_wp2_with (fail)
 refine (sample_any W3).mono ?_
 rintro e W4 ⟨hB4, g, rfl, hg, hgs⟩
 have HGS := Lib.hid hgs
 have hB04 := hB03.trans (hB4.mono hB03.size)
 obtain ⟨W5, hW5, hB5, hb5, hz5⟩ := nw1 W4 #[.string g.cur, .int .i64 g.Y, .int .i64 g.M, .int .i64 g.N, .slice g.cA g.cn g.cc, .int .i64 g.r0, .int .i64 g.r1, .int .i64 g.r2, .int .i64 g.r3, .int .i64 g.r4, .int .i64 g.r5, .int .i64 g.r6, .int .i64 g.r7, .int .i64 g.r8, .int .i64 g.r9, .int .i64 g.r10, .int .i64 g.r11, .int .i64 g.r12, .int .i64 g.r13, .int .i64 g.r14, .slice g.eA g.en g.ec] 29
 have HW5 := Lib.hid hW5
 have hB35 := hB4.trans (hB5.mono hB4.size)
 have hB05 := hB04.trans (hB5.mono hB04.size)
 have Hga := Lib.hid (hg.at_ hB5)
 have Hb5 := Lib.hid hb5
 have s5 : W4.heap.size < W5.heap.size := by omega
 have Hr5 := Lib.hid (RowsAt.at_ Hr3.out hB35)
 have Hx5 := Lib.hid (fun a ha => ((Hx3.out a ha).below hB35 (Nat.le_refl _)).more hB35.size : ∀ a ∈ l, a.At W5 W5.heap.size)
 have Hcs5 := Lib.hid (RowsAt.at_ Hcs.out hB35)
 have Hho5 := Lib.hid (Hho.out.imp (Q := fun a b => a.Holds SR W5 W5.heap.size b) fun _ _ h => h.atR hB35)
 have hrg5 := Lib.hid (grp_range hb5)
 obtain ⟨ln, hln⟩ : ∃ ln, ln = l.length := ⟨_, rfl⟩
 have Hln := Lib.hid hln
 rw [<- hln]
 have HRO := Lib.hid (Smp.roles38 hgs)
 have HRQ := Lib.hid (Smp.roles40 hgs)
 obtain ⟨kk, hkk⟩ : ∃ kk, kk = Po.pk 4 (Gr.cpost g (l.map Raw.cnt) x) := ⟨_, rfl⟩
 obtain ⟨ee, hee⟩ : ∃ ee, ee = Po.pk x (Gr.cpost g (l.map Raw.cnt) x) := ⟨_, rfl⟩
 obtain ⟨oo, hoo⟩ : ∃ oo, oo = Po.pk (-1) (Gr.cpost g (l.map Raw.cnt) x) := ⟨_, rfl⟩
 obtain ⟨ep, hep⟩ : ∃ ep, ep = (Gr.cpost g (l.map Raw.cnt) x).2 := ⟨_, rfl⟩
 obtain ⟨ps, hps⟩ : ∃ ps, ps = Po.pl (Gr.cpost g (l.map Raw.cnt) x) := ⟨_, rfl⟩
 obtain ⟨np, hnp⟩ : ∃ np, np = ps.length := ⟨_, rfl⟩
 have HKK := Lib.hid hkk
 have HEE := Lib.hid hee
 have HOO := Lib.hid hoo
 have HEP := Lib.hid hep
 have HPS := Lib.hid hps
 have HNP := Lib.hid hnp
 clear hkk hee hoo hep hps hnp
 obtain ⟨kkq, hkk⟩ : ∃ kk, kk = Po.pk 5 (Gr.spost g (l.map Raw.cnt) x) := ⟨_, rfl⟩
 obtain ⟨eeq, hee⟩ : ∃ ee, ee = Po.pk x (Gr.spost g (l.map Raw.cnt) x) := ⟨_, rfl⟩
 obtain ⟨ooq, hoo⟩ : ∃ oo, oo = Po.pk (-1) (Gr.spost g (l.map Raw.cnt) x) := ⟨_, rfl⟩
 obtain ⟨epq, hep⟩ : ∃ ep, ep = (Gr.spost g (l.map Raw.cnt) x).2 := ⟨_, rfl⟩
 obtain ⟨psq, hps⟩ : ∃ ps, ps = Po.pl (Gr.spost g (l.map Raw.cnt) x) := ⟨_, rfl⟩
 obtain ⟨npq, hnp⟩ : ∃ np, np = psq.length := ⟨_, rfl⟩
 have HKKq := Lib.hid hkk
 have HEEq := Lib.hid hee
 have HOOq := Lib.hid hoo
 have HEPq := Lib.hid hep
 have HPSq := Lib.hid hps
 have HNPq := Lib.hid hnp
 clear hkk hee hoo hep hps hnp
 have HPT : Hid (ep = 0 -> Po.part ps g.r5 = (Gr.capital g (l.map Raw.cnt) x).1.2.1 - (Gr.capital g (l.map Raw.cnt) x).1.2.2) := Lib.hid fun h => by
  rw [HPS.out]; exact (Gr.cpost_parts HRO.out (by rw [<- HEP.out]; exact h)).2.2.1
 have HPTq : Hid (epq = 0 -> Po.part psq g.r5 = (Gr.step g (l.map Raw.cnt) x).1.2.1 - (Gr.step g (l.map Raw.cnt) x).1.2.2) := Lib.hid fun h => by
  rw [HPSq.out]; exact (Gr.spost_parts HRQ.out (by rw [<- HEPq.out]; exact h)).2.1
 have HSM := Lib.hid (Gr.capital_small (g := g) (x := x) Hho.out (by have := Hcl.out; have := Hlr.out; omega))
 have HSMq := Lib.hid (Gr.step_small (g := g) (x := x) Hho.out (by have := Hcl.out; have := Hlr.out; omega))
 have HN4 : Hid (np <= 4) := by show _ <= _; rw [HNP.out, HPS.out]; exact Nat.le_trans (Po.pl_length _) (Gr.cpost_len _ _ _)
 have HN4q : Hid (npq <= 3) := by show _ <= _; rw [HNPq.out, HPSq.out]; exact Nat.le_trans (Po.pl_length _) (Gr.spost_len _ _ _)
 have HC0 : Hid (ep = 0 -> (Gr.capital g (l.map Raw.cnt) x).2 = 0) := Lib.hid fun h => Gr.cpost_ok (by rw [<- HEP.out]; exact h)
 have HC0q : Hid (epq = 0 -> (Gr.step g (l.map Raw.cnt) x).2 = 0) := Lib.hid fun h => Gr.spost_ok (by rw [<- HEPq.out]; exact h)
 have h1c : ∀ v ∈ (#[.string g.cur, .int .i64 g.Y, .int .i64 g.M, .int .i64 g.N, .slice g.cA g.cn g.cc, .int .i64 g.r0, .int .i64 g.r1, .int .i64 g.r2, .int .i64 g.r3, .int .i64 g.r4, .int .i64 g.r5, .int .i64 g.r6, .int .i64 g.r7, .int .i64 g.r8, .int .i64 g.r9, .int .i64 g.r10, .int .i64 g.r11, .int .i64 g.r12, .int .i64 g.r13, .int .i64 g.r14, .slice g.eA g.en g.ec] : Array Value).toList, v.oneCell' = true := by simp [Value.oneCell']
 clear hg hgs hW5 hb5 hz5 hln
 go_upto_region 7 with (refine wpList_store_new rfl 29 _ _ rfl 29 _ #[.string g.cur, .int .i64 g.Y, .int .i64 g.M, .int .i64 g.N, .slice g.cA g.cn g.cc, .int .i64 g.r0, .int .i64 g.r1, .int .i64 g.r2, .int .i64 g.r3, .int .i64 g.r4, .int .i64 g.r5, .int .i64 g.r6, .int .i64 g.r7, .int .i64 g.r8, .int .i64 g.r9, .int .i64 g.r10, .int .i64 g.r11, .int .i64 g.r12, .int .i64 g.r13, .int .i64 g.r14, .slice g.eA g.en g.ec] rfl rfl rfl h1c grpSize ?_)
 clear h1c
 rw [<- HW5.out]
 go_wp2_with (fail)
 refine (own40_any W5 A n c l Hl.out (by have := Hl.out; have := H8.out; omega) Hr5.out Hx5.out Hall.out).mono ?_
 rintro e W6 ⟨hB6, Ao, co, ds, rfl, hdl0, hds, hdo⟩
 rw [<- Hln.out]
 have hdl := hdl0.trans Hln.out.symm
 have hC5_6 := hB6
 have hC6_6 : Below W6.heap.size W6 W6 := Below.refl _ _
 have Hds := Lib.hid hds
 have Hdo := Lib.hid hdo
 have Hdl := Lib.hid hdl
 clear hdl0 hds hdo hdl
 have Hrg6 := Lib.hid (range_below hrg5.out hC5_6 s5)
 have Hcall := Lib.hid (cpostd_any W6 g Ao ln co ds (l.map Raw.cnt) x Hdl.out (by have := Hln.out; have := Hlr.out; omega) (RowsAt.at_ Hds.out hC6_6) (Hdo.out.imp (Q := fun a b => a.Holds SD W6 W6.heap.size b) fun _ _ h => h.atD hC6_6) (Hga.out.at_ hC5_6))
 go_wp2_with (refine wpList_load_mid rfl 29 (.tmp 7) rfl W4.heap.size 0 rfl _ _ Hrg6.out Tryz.underlying29 rfl grpSize ?_)
 refine Hcall.out.mono ?_
 rintro e W7 hpp
 obtain ⟨hB7, Ap, cp, _, rfl, hP⟩ := PostingPost.one hpp
 clear hpp Hcall
 rw [<- HPS.out] at hP
 rw [<- HKK.out, <- HEE.out, <- HOO.out, <- HEP.out, <- HPS.out, <- HNP.out]
 have HP := Lib.hid hP
 clear hP
 have hC5_7 := hC5_6.trans (hB7.mono hC5_6.size)
 have hC6_7 := hC6_6.trans (hB7.mono hC6_6.size)
 obtain ⟨W8, hW8, hB8, hb8, hz8⟩ := nw1 W7 #[.int .i64 kk, .int .i64 ee, .int .i64 oo, .int .i64 0, .slice Ap np cp] 49
 have HW8 := Lib.hid hW8
 have Hb8 := Lib.hid hb8
 have s8 := some_lt hb8
 clear hW8 hz8 hb8
 have hC5_8 := hC5_7.trans (hB8.mono hC5_7.size)
 have hC6_8 := hC6_7.trans (hB8.mono hC6_7.size)
 go_upto_region 9 with (fail)
 rw [<- HW8.out]
 have hC7_8 := hB8
 have hC8_8 : Below W8.heap.size W8 W8 := Below.refl _ _
 have Hrg8 := Lib.hid (range_below hrg5.out hC5_8 s5)
 have Hcall := Lib.hid (spostd_any W8 g Ao ln co ds (l.map Raw.cnt) x Hdl.out (by have := Hln.out; have := Hlr.out; omega) (RowsAt.at_ Hds.out hC6_8) (Hdo.out.imp (Q := fun a b => a.Holds SD W8 W8.heap.size b) fun _ _ h => h.atD hC6_8) (Hga.out.at_ hC5_8))
 go_wp2_with (refine wpList_load_mid rfl 29 (.tmp 7) rfl W4.heap.size 0 rfl _ _ Hrg8.out Tryz.underlying29 rfl grpSize ?_)
 refine Hcall.out.mono ?_
 rintro e W9 hpp
 obtain ⟨hB9, Aq, cq, _, rfl, hPq⟩ := PostingPost.one hpp
 clear hpp Hcall
 rw [<- HPSq.out] at hPq
 rw [<- HKKq.out, <- HEEq.out, <- HOOq.out, <- HEPq.out, <- HPSq.out, <- HNPq.out]
 have HPq := Lib.hid hPq
 clear hPq
 have hC5_9 := hC5_8.trans (hB9.mono hC5_8.size)
 have hC6_9 := hC6_8.trans (hB9.mono hC6_8.size)
 obtain ⟨W10, hW10, hB10, hb10, hz10⟩ := nw1 W9 #[.int .i64 kkq, .int .i64 eeq, .int .i64 ooq, .int .i64 0, .slice Aq npq cq] 49
 have HW10 := Lib.hid hW10
 have Hb10 := Lib.hid hb10
 have s10 := some_lt hb10
 clear hW10 hz10 hb10
 have hC5_10 := hC5_9.trans (hB10.mono hC5_9.size)
 have hC6_10 := hC6_9.trans (hB10.mono hC6_9.size)
 go_upto_region 10 with (fail)
 rw [<- HW10.out]
 have hC8_9 := hC8_8.trans (hB9.mono hC8_8.size)
 have hC7_9 := hC7_8.trans (hB9.mono hC7_8.size)
 have hC8_10 := hC8_9.trans (hB10.mono hC8_9.size)
 have hC7_10 := hC7_9.trans (hB10.mono hC7_9.size)
 have hC9_10 := hB10
 have hC10_10 : Below W10.heap.size W10 W10 := Below.refl _ _
 have HF0 := Lib.hid (Hdo.out.imp (Q := fun a b => a.Holds SD W10 W10.heap.size b) fun _ _ h => h.atD hC6_10)
 have Hcall := Lib.hid (confd_any W10 Ao ln co ds x Hdl.out (by have := Hln.out; have := Hlr.out; omega) (RowsAt.at_ Hds.out hC6_10))
 go_wp2_with (fail)
 refine Hcall.out.mono ?_
 rintro e W11 ⟨rfl, hB11⟩
 clear Hcall
 obtain ⟨x0, hx0⟩ : ∃ x0, x0 = Cn.found ds x := ⟨_, rfl⟩
 obtain ⟨ok, hok⟩ : ∃ ok, ok = Cn.has ds x := ⟨_, rfl⟩
 have HEL : Hid (ok = true -> x ≠ 0 -> x0.meth = 3 -> ∃ y, Gr.elim (l.map Raw.cnt) x = some y /\ y.meth = 3) := Lib.hid fun h1 h2 h3 => by
  rcases Cn.elim_hold2 (P := fun a b => a.Holds SD W10 W10.heap.size b) (fun _ _ h => ⟨h.he, h.hm⟩) x HF0.out with ⟨h, _⟩ | ⟨y, _, _, _, h4, h5⟩
  ·rcases h with h | h | h
   ·rw [<- hok, h1] at h; cases h
   ·exact absurd h h2
   ·exact absurd (by rw [hx0] at h3; exact h3) h.1
  ·exact ⟨y, h4, by rw [<- h5.hm, <- hx0]; exact h3⟩
 rw [<- hx0, <- hok]
 have hC5_11 := hC5_10.trans (hB11.mono hC5_10.size)
 have hC6_11 := hC6_10.trans (hB11.mono hC6_10.size)
 have hC7_11 := hC7_10.trans (hB11.mono hC7_10.size)
 have hC8_11 := hC8_10.trans (hB11.mono hC8_10.size)
 have hC9_11 := hC9_10.trans (hB11.mono hC9_10.size)
 have hC10_11 := hC10_10.trans (hB11.mono hC10_10.size)
 obtain ⟨W12, hW12, hB12, hb12, hz12⟩ := nw1 W11 #[.int .i64 x0.ent, .int .i64 x0.meth, .int .i64 x0.since, .bool x0.sg1, .slice x0.sA1 x0.sn1 x0.sc1, .bool x0.sg2, .slice x0.sA2 x0.sn2 x0.sc2, .bool x0.fg1, .slice x0.fA1 x0.fn1 x0.fc1, .bool x0.fg2, .slice x0.fA2 x0.fn2 x0.fc2, .slice x0.iA x0.im x0.ic, .slice x0.hA x0.hm x0.hc] 94
 have HW12 := Lib.hid hW12
 have Hb12 := Lib.hid hb12
 have s12 := some_lt hb12
 clear hW12 hz12 hb12
 have hC5_12 := hC5_11.trans (hB12.mono hC5_11.size)
 have hC6_12 := hC6_11.trans (hB12.mono hC6_11.size)
 have hC7_12 := hC7_11.trans (hB12.mono hC7_11.size)
 have hC8_12 := hC8_11.trans (hB12.mono hC8_11.size)
 have hC9_12 := hC9_11.trans (hB12.mono hC9_11.size)
 have hC10_12 := hC10_11.trans (hB12.mono hC10_11.size)
 have hC11_12 := hB12
 have m1 := cell_of_row _ _ 1 _ _ _ Hb12.out
 simp at m1
 obtain ⟨mt, hmt⟩ : ∃ mt, mt = x0.meth := ⟨_, rfl⟩
 rw [<- hmt] at m1 HEL
 have hB012 := hB05.trans (hC5_12.mono hB05.size)
 clear hx0 hok hmt
 go_upto_region 11 with (fail)
 rw [<- HW12.out]
 by_cases h1 : ep = 0
 case neg =>
  have h1b : (ep != 0) = true := by simp [h1]
  clear h1
  go_upto_region 12 with (fail)
  go_wp2
  go_ret
  exact ⟨rfl, hB012⟩
 have h1b : (ep != 0) = false := by simp [h1]
 have H1 := Lib.hid h1
 clear h1
 by_cases h2 : epq = 0
 case neg =>
  have h2b : (epq != 0) = true := by simp [h2]
  clear h2
  go_upto_region 12 with (fail)
  go_wp2
  go_ret
  exact ⟨rfl, hB012⟩
 have h2b : (epq != 0) = false := by simp [h2]
 have H2 := Lib.hid h2
 clear h2
 cases ok with
 | false =>
  go_upto_region 12 with (fail)
  go_wp2
  go_ret
  exact ⟨rfl, hB012⟩
 | true =>
 by_cases h3 : x = 0
 case pos =>
  have h3b : (x == 0) = true := by simp [h3]
  clear h3
  go_upto_region 12 with (fail)
  go_wp2
  go_ret
  exact ⟨rfl, hB012⟩
 have h3b : (x == 0) = false := by simp [h3]
 have H3 := Lib.hid h3
 clear h3
 by_cases h4 : mt = 3
 case neg =>
  have h4b : (mt != 3) = true := by simp [h4]
  clear h4
  go_upto_region 12 with (fail)
  go_wp2
  go_ret
  exact ⟨rfl, hB012⟩
 have h4b : (mt != 3) = false := by simp [h4]
 have HY := Lib.hid (HEL.out rfl H3.out h4)
 clear h4
 go_upto_region 13 with (fail)
 clear m1
 have hC12_12 : Below W12.heap.size W12 W12 := Below.refl _ _
 have Hrg12 := Lib.hid (range_below hrg5.out hC5_12 s5)
 have Hcall := Lib.hid (capd_any W12 g Ao ln co ds (l.map Raw.cnt) x Hdl.out (by have := Hln.out; have := Hlr.out; omega) (RowsAt.at_ Hds.out hC6_12) (Hdo.out.imp (Q := fun a b => a.Holds SD W12 W12.heap.size b) fun _ _ h => h.atD hC6_12) (Hga.out.at_ hC5_12))
 go_wp2_with (refine wpList_load_mid rfl 29 (.tmp 7) rfl W4.heap.size 0 rfl _ _ Hrg12.out Tryz.underlying29 rfl grpSize ?_)
 refine Hcall.out.mono ?_
 rintro e W13 ⟨fa, fb, fc, er, hf12, rfl, hB13⟩
 clear Hcall
 have HFg12 := Lib.hid hf12
 clear hf12
 have hC5_13 := hC5_12.trans (hB13.mono hC5_12.size)
 have hC6_13 := hC6_12.trans (hB13.mono hC6_12.size)
 have hC7_13 := hC7_12.trans (hB13.mono hC7_12.size)
 have hC8_13 := hC8_12.trans (hB13.mono hC8_12.size)
 have hC9_13 := hC9_12.trans (hB13.mono hC9_12.size)
 have hC10_13 := hC10_12.trans (hB13.mono hC10_12.size)
 have hC11_13 := hC11_12.trans (hB13.mono hC11_12.size)
 have hC12_13 := hC12_12.trans (hB13.mono hC12_12.size)
 obtain ⟨W14, hW14, hB14, hb14, hz14⟩ := nw1 W13 #[.int .i64 fa, .int .i64 fb, .int .i64 fc] 37
 have HW14 := Lib.hid hW14
 have Hb14 := Lib.hid hb14
 have s14 := some_lt hb14
 clear hW14 hz14 hb14
 have hC5_14 := hC5_13.trans (hB14.mono hC5_13.size)
 have hC6_14 := hC6_13.trans (hB14.mono hC6_13.size)
 have hC7_14 := hC7_13.trans (hB14.mono hC7_13.size)
 have hC8_14 := hC8_13.trans (hB14.mono hC8_13.size)
 have hC9_14 := hC9_13.trans (hB14.mono hC9_13.size)
 have hC10_14 := hC10_13.trans (hB14.mono hC10_13.size)
 have hC11_14 := hC11_13.trans (hB14.mono hC11_13.size)
 have hC12_14 := hC12_13.trans (hB14.mono hC12_13.size)
 have hC13_14 := hB14
 have hC14_14 : Below W14.heap.size W14 W14 := Below.refl _ _
 go_upto_region 14 with (fail)
 rw [<- HW14.out]
 have Hrg14 := Lib.hid (range_below hrg5.out hC5_14 s5)
 have Hcall := Lib.hid (stepd_any W14 g Ao ln co ds (l.map Raw.cnt) x Hdl.out (by have := Hln.out; have := Hlr.out; omega) (RowsAt.at_ Hds.out hC6_14) (Hdo.out.imp (Q := fun a b => a.Holds SD W14 W14.heap.size b) fun _ _ h => h.atD hC6_14) (Hga.out.at_ hC5_14))
 go_wp2_with (refine wpList_load_mid rfl 29 (.tmp 7) rfl W4.heap.size 0 rfl _ _ Hrg14.out Tryz.underlying29 rfl grpSize ?_)
 refine Hcall.out.mono ?_
 rintro e W15 ⟨ga, gb, gc, eq, hf14, rfl, hB15⟩
 clear Hcall
 have HFg14 := Lib.hid hf14
 clear hf14
 have hC5_15 := hC5_14.trans (hB15.mono hC5_14.size)
 have hC6_15 := hC6_14.trans (hB15.mono hC6_14.size)
 have hC7_15 := hC7_14.trans (hB15.mono hC7_14.size)
 have hC8_15 := hC8_14.trans (hB15.mono hC8_14.size)
 have hC9_15 := hC9_14.trans (hB15.mono hC9_14.size)
 have hC10_15 := hC10_14.trans (hB15.mono hC10_14.size)
 have hC11_15 := hC11_14.trans (hB15.mono hC11_14.size)
 have hC12_15 := hC12_14.trans (hB15.mono hC12_14.size)
 have hC13_15 := hC13_14.trans (hB15.mono hC13_14.size)
 have hC14_15 := hC14_14.trans (hB15.mono hC14_14.size)
 obtain ⟨W16, hW16, hB16, hb16, hz16⟩ := nw1 W15 #[.int .i64 ga, .int .i64 gb, .int .i64 gc] 70
 have HW16 := Lib.hid hW16
 have Hb16 := Lib.hid hb16
 have s16 := some_lt hb16
 clear hW16 hz16 hb16
 have hC5_16 := hC5_15.trans (hB16.mono hC5_15.size)
 have hC6_16 := hC6_15.trans (hB16.mono hC6_15.size)
 have hC7_16 := hC7_15.trans (hB16.mono hC7_15.size)
 have hC8_16 := hC8_15.trans (hB16.mono hC8_15.size)
 have hC9_16 := hC9_15.trans (hB16.mono hC9_15.size)
 have hC10_16 := hC10_15.trans (hB16.mono hC10_15.size)
 have hC11_16 := hC11_15.trans (hB16.mono hC11_15.size)
 have hC12_16 := hC12_15.trans (hB16.mono hC12_15.size)
 have hC13_16 := hC13_15.trans (hB16.mono hC13_15.size)
 have hC14_16 := hC14_15.trans (hB16.mono hC14_15.size)
 have hC15_16 := hB16
 have hC16_16 : Below W16.heap.size W16 W16 := Below.refl _ _
 go_upto_region 15 with (fail)
 rw [<- HW16.out]
 have hB016 := hB05.trans (hC5_16.mono hB05.size)
 have hsm := HSM.out
 have hsq := HSMq.out
 have q5 := HPT.out H1.out
 have q5q := HPTq.out H2.out
 have e1 := HC0.out H1.out
 have e2 := HC0q.out H2.out
 obtain ⟨y, hy1, hy2⟩ := HY.out
 have hoo2 := Gr.step_capital (g := g) hy1 hy2
 rw [HFg12.out] at hsm q5 e1 hoo2
 rw [HFg14.out] at hsq q5q e2 hoo2
 simp only [] at hsm hsq q5 q5q e1 e2 hoo2
 subst e1 e2 hoo2
 obtain ⟨⟨b0, b1⟩, ⟨b2, b3⟩, b4, b5⟩ := hsm
 obtain ⟨⟨d0, d1⟩, ⟨d2, d3⟩, d4, d5⟩ := hsq
 have Q5 := Lib.hid q5
 have Q5q := Lib.hid q5q
 have Hpr := Lib.hid (gbox Hb8.out hC8_16 s8)
 have Hqr := Lib.hid (gbox Hb10.out hC10_16 s10)
 have Har := Lib.hid (gbox Hb14.out hC14_16 s14)
 have Hbr := Lib.hid Hb16.out
 have Hgr := Lib.hid (gbox Hb5.out hC5_16 s5)
 have HPR := Lib.hid (range_row (cs := [.int .i64 kk, .int .i64 ee, .int .i64 oo, .int .i64 0, .slice Ap np cp]) Hpr.out)
 have HQR := Lib.hid (range_row (cs := [.int .i64 kkq, .int .i64 eeq, .int .i64 ooq, .int .i64 0, .slice Aq npq cq]) Hqr.out)
 have sp := some_lt Hpr.out
 have sq := some_lt Hqr.out
 have sa := some_lt Har.out
 have sb := some_lt Hbr.out
 have sg2 := some_lt Hgr.out
 have HP1 := Lib.hid ((HP.out.below hC7_16 (Nat.le_refl _)).more hC7_16.size)
 have HP2 := Lib.hid ((HPq.out.below hC9_16 (Nat.le_refl _)).more hC9_16.size)
 have hS : Below W16.heap.size W16 W16.drew := below_drawn (Below.refl _ _) 1
 clear q5 q5q hy1 hy2 hC5_16 hC6_16 hC7_16 hC8_16 hC9_16 hC10_16
 refine wp_region_held (S := Below W16.heap.size W16) (by kernel_rfl) ?_
 change wpAnyH _ _ _ _ _ _ _ _ (World.drew W16)
 obtain ⟨WC0, hWd⟩ : ∃ W0, W0 = W16.drew := ⟨_, rfl⟩
 rw [<- hWd] at hS ⊢
 clear hWd
 refine tk (i := 0) (v := .int .i64 0) rfl (by kernel_rfl) (fun _ _ _ h => h) (.inl ⟨by rfl, fun W' hS' => by go_simp⟩) hS ?_
 try simp only [z]
 refine tk (i := 1) (v := .bool true) rfl (by kernel_rfl) (fun _ _ _ h => h) (.inl ⟨by rfl, fun W' hS' => by go_simp⟩) hS ?_
 try simp only [z]
 refine tk (i := 2) (v := .bool true) rfl (by kernel_rfl) (fun _ _ _ h => h) (.inl ⟨by rfl, fun W' hS' => by go_simp⟩) hS ?_
 try simp only [z]
 refine tk (i := 3) (v := .int .i64 0) rfl (by kernel_rfl) (fun _ _ _ h => h) (.inl ⟨by rfl, fun W' hS' => by go_simp⟩) hS ?_
 try simp only [z]
 refine tk (i := 4) (v := .bool true) rfl (by kernel_rfl) (fun _ _ _ h => h) (.inl ⟨by rfl, fun W' hS' => by go_simp⟩) hS ?_
 try simp only [z]
 refine tk (i := 5) (v := .bool true) rfl (by kernel_rfl) (fun _ _ _ h => h) (.inl ⟨by rfl, fun W' hS' => by go_simp⟩) hS ?_
 try simp only [z]
 refine tk (i := 6) (v := .bool true) rfl (by kernel_rfl) (fun _ _ _ h => h) (.inl ⟨by rfl, fun W' hS' => by go_simp⟩) hS ?_
 try simp only [z]
 refine tk (i := 7) (v := .pointer (some ⟨W13.heap.size, 2, none⟩)) rfl (by kernel_rfl) (fun _ _ _ h => h) (.inl ⟨by rfl, fun W' hS' => by go_simp⟩) hS ?_
 try simp only [z]
 refine tk (i := 8) (v := .int .i64 fc) rfl (by kernel_rfl) (fun _ _ _ h => h) (.inl ⟨by rfl, fun W' hS' => by have hc := cell_of_row _ _ 2 _ _ _ ((hS'.block _ sa).trans Har.out); simp at hc; have hl9 := Nat.lt_of_lt_of_le sa hS'.size; go_simp⟩) hS ?_
 try simp only [z]
 refine tk (i := 9) (v := .pointer (some ⟨W15.heap.size, 1, none⟩)) rfl (by kernel_rfl) (fun _ _ _ h => h) (.inl ⟨by rfl, fun W' hS' => by go_simp⟩) hS ?_
 try simp only [z]
 refine tk (i := 10) (v := .int .i64 fc) rfl (by kernel_rfl) (fun _ _ _ h => h) (.inl ⟨by rfl, fun W' hS' => by have hc := cell_of_row _ _ 1 _ _ _ ((hS'.block _ sb).trans Hbr.out); simp at hc; have hl9 := Nat.lt_of_lt_of_le sb hS'.size; go_simp⟩) hS ?_
 try simp only [z]
 refine tk (i := 11) (v := .bool true) rfl (by kernel_rfl) (fun _ _ _ h => h) (.inl ⟨by rfl, fun W' hS' => by go_simp⟩) hS ?_
 try simp only [z]
 refine tk (i := 12) (v := .bool true) rfl (by kernel_rfl) (fun _ _ _ h => h) (.inl ⟨by rfl, fun W' hS' => by go_simp⟩) hS ?_
 try simp only [z]
 refine tk (i := 13) (v := .bool true) rfl (by kernel_rfl) (fun _ _ _ h => h) (.inl ⟨by rfl, fun W' hS' => by go_simp⟩) hS ?_
 try simp only [z]
 refine tk (i := 14) (v := .agg #[.int .i64 kk, .int .i64 ee, .int .i64 oo, .int .i64 0, .slice Ap np cp]) rfl (by kernel_rfl) (fun _ _ _ h => h) (yieldsIf_load_mid (by rfl) 49 _ rfl W7.heap.size 0 rfl [.int .i64 kk, .int .i64 ee, .int .i64 oo, .int .i64 0, .slice Ap np cp] _ (fun W' hS' => range_below HPR.out hS' sp) Tryz.underlying49 rfl postSize) hS ?_
 try simp only [z]
 refine tk (i := 15) (v := .pointer (some ⟨W4.heap.size, 5, none⟩)) rfl (by kernel_rfl) (fun _ _ _ h => h) (.inl ⟨by rfl, fun W' hS' => by go_simp⟩) hS ?_
 try simp only [z]
 refine tk (i := 16) (v := .pointer (some ⟨W4.heap.size, 10, none⟩)) rfl (by kernel_rfl) (fun _ _ _ h => h) (.inl ⟨by rfl, fun W' hS' => by go_simp⟩) hS ?_
 try simp only [z]
 refine tk (i := 17) (v := .int .i64 g.r5) rfl (by kernel_rfl) (fun _ _ _ h => h) (.inl ⟨by rfl, fun W' hS' => by have hc := cell_of_row _ _ 10 _ _ _ ((hS'.block _ sg2).trans Hgr.out); simp at hc; have hl9 := Nat.lt_of_lt_of_le sg2 hS'.size; go_simp⟩) hS ?_
 try simp only [z]
 refine tk (i := 19) (v := .agg #[.int .i64 kkq, .int .i64 eeq, .int .i64 ooq, .int .i64 0, .slice Aq npq cq]) rfl (by kernel_rfl) (fun _ _ _ h => h) (yieldsIf_load_mid (by rfl) 49 _ rfl W9.heap.size 0 rfl [.int .i64 kkq, .int .i64 eeq, .int .i64 ooq, .int .i64 0, .slice Aq npq cq] _ (fun W' hS' => range_below HQR.out hS' sq) Tryz.underlying49 rfl postSize) hS ?_
 try simp only [z]
 refine tk (i := 20) (v := .pointer (some ⟨W4.heap.size, 5, none⟩)) rfl (by kernel_rfl) (fun _ _ _ h => h) (.inl ⟨by rfl, fun W' hS' => by go_simp⟩) hS ?_
 try simp only [z]
 refine tk (i := 21) (v := .pointer (some ⟨W4.heap.size, 10, none⟩)) rfl (by kernel_rfl) (fun _ _ _ h => h) (.inl ⟨by rfl, fun W' hS' => by go_simp⟩) hS ?_
 try simp only [z]
 refine tk (i := 22) (v := .int .i64 g.r5) rfl (by kernel_rfl) (fun _ _ _ h => h) (.inl ⟨by rfl, fun W' hS' => by have hc := cell_of_row _ _ 10 _ _ _ ((hS'.block _ sg2).trans Hgr.out); simp at hc; have hl9 := Nat.lt_of_lt_of_le sg2 hS'.size; go_simp⟩) hS ?_
 try simp only [z]
 refine tk (i := 25) (v := .pointer (some ⟨W13.heap.size, 1, none⟩)) rfl (by kernel_rfl) (fun _ _ _ h => h) (.inl ⟨by rfl, fun W' hS' => by go_simp⟩) hS ?_
 try simp only [z]
 refine tk (i := 26) (v := .int .i64 fb) rfl (by kernel_rfl) (fun _ _ _ h => h) (.inl ⟨by rfl, fun W' hS' => by have hc := cell_of_row _ _ 1 _ _ _ ((hS'.block _ sa).trans Har.out); simp at hc; have hl9 := Nat.lt_of_lt_of_le sa hS'.size; go_simp⟩) hS ?_
 try simp only [z]
 refine tk (i := 27) (v := .pointer (some ⟨W15.heap.size, 2, none⟩)) rfl (by kernel_rfl) (fun _ _ _ h => h) (.inl ⟨by rfl, fun W' hS' => by go_simp⟩) hS ?_
 try simp only [z]
 refine tk (i := 28) (v := .int .i64 gc) rfl (by kernel_rfl) (fun _ _ _ h => h) (.inl ⟨by rfl, fun W' hS' => by have hc := cell_of_row _ _ 2 _ _ _ ((hS'.block _ sb).trans Hbr.out); simp at hc; have hl9 := Nat.lt_of_lt_of_le sb hS'.size; go_simp⟩) hS ?_
 try simp only [z]
 refine tk (i := 29) (v := .int .i64 (fb - gc)) rfl (by kernel_rfl) (fun _ _ _ h => h) (.inl ⟨by rfl, fun W' hS' => by have hw : wrap64 (fb - gc) = fb - gc := IntWalk.wrap64_in _ (by omega); (go_simp; try (rw [IntKind.wrap_i64]; clear hw; omega))⟩) hS ?_
 try simp only [z]
 refine wpAnyH_ready (rs := [18]) (by kernel_rfl) (by simp) (AllReadyH.cons rfl (fun K hK => ?_) AllReadyH.nil)
 go_simp
 refine (part40_any WC0 kk ee oo 0 Ap np cp ps g.r5 HNP.out.symm (by have := HN4.out; omega) ((HP1.out.below hS (Nat.le_refl _)).more hS.size)).mono ?_
 rw [Q5.out]
 rintro e WC1 ⟨rfl, hBc⟩
 have hVC1 := hS.trans (hBc.mono hS.size)
 clear hBc
 refine hK.out _ _ hVC1 (fun _ => ?_)
 clear hK K
 try simp only [z]
 refine wpAnyH_ready (rs := [23]) (by kernel_rfl) (by simp) (AllReadyH.cons rfl (fun K hK => ?_) AllReadyH.nil)
 go_simp
 refine (part40_any WC1 kkq eeq ooq 0 Aq npq cq psq g.r5 HNPq.out.symm (by have := HN4q.out; omega) ((HP2.out.below hVC1 (Nat.le_refl _)).more hVC1.size)).mono ?_
 rw [Q5q.out]
 rintro e WC2 ⟨rfl, hBc⟩
 have hVC2 := hVC1.trans (hBc.mono hVC1.size)
 clear hBc
 refine hK.out _ _ hVC2 (fun _ => ?_)
 clear hK K
 try simp only [z]
 refine tk (i := 24) (v := .int .i64 (fb - gc)) rfl (by kernel_rfl) (fun _ _ _ h => h) (.inl ⟨by rfl, fun W' hS' => by have hw : wrap64 (fb - fc + (fc - gc)) = fb - fc + (fc - gc) := IntWalk.wrap64_in _ (by omega); (go_simp; try (rw [IntKind.wrap_i64]; clear hw; omega))⟩) hVC2 ?_
 try simp only [z]
 refine tk (i := 30) (v := .bool true) rfl (by kernel_rfl) (fun _ _ _ h => h) (.inl ⟨by rfl, fun W' hS' => by go_simp⟩) hVC2 ?_
 try simp only [z]
 refine tk (i := 31) (v := .bool true) rfl (by kernel_rfl) (fun _ _ _ h => h) (.inl ⟨by rfl, fun W' hS' => by go_simp⟩) hVC2 ?_
 try simp only [z]
 refine wpAnyH_ready (rs := [32]) (by kernel_rfl) (by simp) (AllReadyH.cons rfl (fun K hK => ?_) AllReadyH.nil)
 go_simp
 refine hK.out _ _ hVC2 (fun _ => ?_)
 clear hK K
 try simp only [z]
 refine wpAnyH_done (by kernel_rfl) ?_ _
 try simp only [z]
 have hB017 := hB016.trans (hVC2.mono hB016.size)
 go_wp2
 go_ret
 exact ⟨rfl, hB017⟩
end
end Go.Proofs.YtccapfbblnnfjaaGreat
