/- My texts CapR, CapD. -/
import Derived.Test.YtccapfbblnnfjaaGreatC46
import Derived.Test.YtccapfbblnnfjaaGreatC47
set_option linter.unusedVariables false
set_option linter.unusedSimpArgs false
set_option maxRecDepth 100000
set_option maxHeartbeats 8000000
namespace Go.Proofs.YtccapfbblnnfjaaGreat
open Go.RowKit
def CpPost (g : Grp) (m : List Cnt) (x : Int) (w : World) (e : Ending) (w' : World) : Prop :=
 ∃ a b c er, Gr.capital g m x = ((a, b, c), er) /\ e = .returned (.tuple #[.agg #[.int .i64 a, .int .i64 b, .int .i64 c], .int .i64 er]) /\ Below w.heap.size w w'
theorem figr38Size : (Tryz.prog.info? 43).map (·.size) = some 3 := by kernel_rfl
section
variable (w : World)
theorem capr_any (g : Grp) (A : Option Addr) (n c : Nat) (l : List Con) (m : List Cnt) (x : Int) (hl : l.length = n) (hn : n <= 100) (hA : ConsAt w w.heap.size A l) (hm : Hold (fun a b => a.Holds SR w w.heap.size b) l m) (hg : g.At w w.heap.size) :
  Calls Tryz.prog 18 #[.agg #[.string g.cur, .int .i64 g.Y, .int .i64 g.M, .int .i64 g.N, .slice g.cA g.cn g.cc, .int .i64 g.r0, .int .i64 g.r1, .int .i64 g.r2, .int .i64 g.r3, .int .i64 g.r4, .int .i64 g.r5, .int .i64 g.r6, .int .i64 g.r7, .int .i64 g.r8, .int .i64 g.r9, .int .i64 g.r10, .int .i64 g.r11, .int .i64 g.r12, .int .i64 g.r13, .int .i64 g.r14, .slice g.eA g.en g.ec], .slice A n c, .int .i64 x] w (CpPost g m x w) := by
 obtain ⟨W1, hW1, hB0, hb0, hb1, hz⟩ := nw2 w #[.string g.cur, .int .i64 g.Y, .int .i64 g.M, .int .i64 g.N, .slice g.cA g.cn g.cc, .int .i64 g.r0, .int .i64 g.r1, .int .i64 g.r2, .int .i64 g.r3, .int .i64 g.r4, .int .i64 g.r5, .int .i64 g.r6, .int .i64 g.r7, .int .i64 g.r8, .int .i64 g.r9, .int .i64 g.r10, .int .i64 g.r11, .int .i64 g.r12, .int .i64 g.r13, .int .i64 g.r14, .slice g.eA g.en g.ec] #[.int .i64 0, .int .i64 0, .int .i64 0] 29 43
 have HW := Lib.hid hW1
 have Hb0 := Lib.hid hb0
 have Hb1 := Lib.hid hb1
 have hrg := Lib.hid (grp_range hb0)
 have s1 : w.heap.size < W1.heap.size := by omega
 have s1' : w.heap.size + 1 < W1.heap.size := by omega
 have hg1 := hg.at_ hB0
 have HA := Lib.hid (RowsAt.at_ hA hB0)
 have HM := Lib.hid (hm.imp (Q := fun a b => a.Holds SR W1 W1.heap.size b) fun _ _ h => h.atR hB0)
 have Hl := Lib.hid hl
 have Ho := Lib.hid (fig3One 0 0 0)
 have hfin : ∀ (W : World) (h : W.heap[w.heap.size + 1]? = some (.cells #[.int .i64 0, .int .i64 0, .int .i64 0] 43 (0, 0))), Hid ((loadVar 43 ⟨w.heap.size + 1, 0, none⟩).run Tryz.prog (W.setRow (w.heap.size + 1) #[.int .i64 0, .int .i64 0, .int .i64 0]) = .ok (.agg #[.int .i64 0, .int .i64 0, .int .i64 0]) (W.setRow (w.heap.size + 1) #[.int .i64 0, .int .i64 0, .int .i64 0])) := fun W h =>
  Lib.hid (run_loadVar_row (P := Tryz.prog) _ _ _ 43 _ _ _ (setRow_heap W (w.heap.size + 1) _ #[.int .i64 0, .int .i64 0, .int .i64 0] _ _ h) Tryz.underlying43 rfl figr38Size)
 have Hfin := Lib.hid hfin
 clear hW1 hz hb0 hb1 hg hA hm hl hfin
 go_enter Tryz.func18, Tryz.ntmps18
 go_upto_region 1 with (fail)
 rw [<- HW.out]
 go_wp2_with (refine wpList_load_mid rfl 29 (.tmp 3) rfl w.heap.size 0 rfl _ _ hrg.out Tryz.underlying29 rfl grpSize ?_)
 refine (check_any W1 g x hg1).mono ?_
 rintro e W2 ⟨rfl, hB2⟩
 have hB02 := hB0.trans (hB2.mono hB0.size)
 have Hc0 := Lib.hid (gbox Hb0.out hB2 s1)
 have Hc1 := Lib.hid (gbox Hb1.out hB2 s1')
 have Hg2 := Lib.hid (hg1.at_ hB2)
 have HA2 := Lib.hid (RowsAt.at_ HA.out hB2)
 have HM2 := Lib.hid (HM.out.imp (Q := fun a b => a.Holds SR W2 W2.heap.size b) fun _ _ h => h.atR hB2)
 obtain ⟨er, her⟩ : ∃ er, er = Gr.check g x := ⟨_, rfl⟩
 rw [<- her]
 have Her := Lib.hid her
 clear her hg1
 by_cases he : er = 0
 case neg =>
  have heb : (er != 0) = true := by simp [he]
  have HV : Hid (Gr.capital g m x = ((0, 0, 0), er)) := by show _ = _; rw [Gr.capital, if_pos (by rw [<- Her.out]; exact he), <- Her.out]
  have hload := Hfin.out W2 Hc1.out
  have hBF := Lib.hid (below_setRow hB02 (show w.heap.size <= w.heap.size + 1 by omega) #[.int .i64 0, .int .i64 0, .int .i64 0])
  clear he
  go_wp2_with (refine wpList_store_row rfl 43 (.tmp 6) (.tmp 19) none rfl rfl (w.heap.size + 1) 43 _ #[.int .i64 0, .int .i64 0, .int .i64 0] rfl rfl Hc1.out rfl figr38Size Ho.out ?_)
  exact bodyPost_ret (v := .tuple #[.agg #[.int .i64 0, .int .i64 0, .int .i64 0], .int .i64 er]) (by simp [results, Tryz.results18, asAddr, Act.put, hload.out]) rfl ⟨0, 0, 0, er, HV.out, rfl, hBF.out⟩
 subst he
 have hfnd := Cn.elim_hold (P := fun a b => a.Holds SR W2 W2.heap.size b) (fun _ _ h => ⟨h.he, h.hm⟩) x HM2.out
 have HF := Lib.hid hfnd
 clear hfnd
 go_wp2_with (fail)
 refine (elimr_any W2 A n c l x Hl.out hn HA2.out).mono ?_
 rintro e W3 ⟨rfl, hB3⟩
 have hB03 := hB02.trans (hB3.mono hB02.size)
 obtain ⟨x0, hx0⟩ : ∃ x0, x0 = Cn.found l x := ⟨_, rfl⟩
 obtain ⟨ok, hok⟩ : ∃ ok, ok = Cn.isElim l x := ⟨_, rfl⟩
 rw [<- hx0, <- hok]
 have HX := Lib.hid hx0
 have HK := Lib.hid hok
 have hd0 := gbox Hc0.out hB3 (some_lt Hc0.out)
 have hd1 := gbox Hc1.out hB3 (some_lt Hc1.out)
 obtain ⟨hB4, hb4, hz4⟩ := row_new W3 #[.int .i64 x0.ent, .int .i64 x0.meth, .int .i64 x0.since, .bool x0.sg1, .slice x0.sA1 x0.sn1 x0.sc1, .bool x0.sg2, .slice x0.sA2 x0.sn2 x0.sc2, .bool x0.fg1, .slice x0.fA1 x0.fn1 x0.fc1, .bool x0.fg2, .slice x0.fA2 x0.fn2 x0.fc2, .slice x0.iA x0.im x0.ic, .slice x0.hA x0.hm x0.hc] 62
 have hB04 := hB03.trans (hB4.mono hB03.size)
 have He0 := Lib.hid (gbox hd0 hB4 (some_lt hd0))
 have He1 := Lib.hid (gbox hd1 hB4 (some_lt hd1))
 have hq3 := hB03.size
 obtain ⟨W4, hW4⟩ : ∃ W4, W4 = W3.alloc (.cells #[.int .i64 x0.ent, .int .i64 x0.meth, .int .i64 x0.since, .bool x0.sg1, .slice x0.sA1 x0.sn1 x0.sc1, .bool x0.sg2, .slice x0.sA2 x0.sn2 x0.sc2, .bool x0.fg1, .slice x0.fA1 x0.fn1 x0.fc1, .bool x0.fg2, .slice x0.fA2 x0.fn2 x0.fc2, .slice x0.iA x0.im x0.ic, .slice x0.hA x0.hm x0.hc] 62) := ⟨_, rfl⟩
 rw [<- hW4] at hB4 hb4 hz4 hB04 He0 He1
 have HW4 := Lib.hid hW4
 have Hb4 := Lib.hid hb4
 have x1 := cell_of_row _ _ 1 _ _ _ hb4
 simp at x1
 have s4 : W3.heap.size < W4.heap.size := by omega
 have s4' : w.heap.size + 1 < W4.heap.size := some_lt He1.out
 have hload := Hfin.out W4 He1.out
 have hBF := Lib.hid (below_setRow hB04 (show w.heap.size <= w.heap.size + 1 by omega) #[.int .i64 0, .int .i64 0, .int .i64 0])
 clear hx0 hok hd0 hd1 hb4 hz4 hW4
 go_upto_region 5 with (fail)
 rw [<- HW4.out]
 by_cases hko : ok = true
 case neg =>
  have hko' : ok = false := by simpa using hko
  have HV : Hid (Gr.capital g m x = ((0, 0, 0), 0)) := by
   show _ = _
   rw [Gr.capital, if_neg (by rw [<- Her.out]; simp)]
   rcases HF.out with ⟨_, h2⟩ | ⟨y, h1, _⟩
   ·rw [h2]
   ·have := HK.out; rw [hko', h1] at this; cases this
  rw [hko']
  clear hko hko'
  go_wp2_with (refine wpList_store_row rfl 43 (.tmp 6) (.tmp 29) none rfl rfl (w.heap.size + 1) 43 _ #[.int .i64 0, .int .i64 0, .int .i64 0] rfl rfl He1.out rfl figr38Size Ho.out ?_)
  exact bodyPost_ret (v := .tuple #[.agg #[.int .i64 0, .int .i64 0, .int .i64 0], .int .i64 0]) (by simp [results, Tryz.results18, asAddr, Act.put, hload.out]) rfl ⟨0, 0, 0, 0, HV.out, rfl, hBF.out⟩
 subst hko
 obtain ⟨y, hel, hyh, hx0ne, hmm⟩ : ∃ y, Gr.elim m x = some y /\ x0.Holds SR W4 W4.heap.size y /\ x ≠ 0 /\ (y.meth = 3 ∨ y.meth = 2) := by
  rcases HF.out with ⟨h1, h2⟩ | ⟨y, h1, h2, _, h3, h4, h5⟩
  ·have := HK.out; rw [h1] at this; cases this
  ·exact ⟨y, h2, by rw [HX.out]; exact (h3.atR hB3).atR hB4, h4, h5⟩
 have HEL := Lib.hid hel
 have HY := Lib.hid hyh
 have Hme := Lib.hid hyh.hm
 have hsi := hyh.hs
 obtain ⟨cost, hcost⟩ : ∃ cost, cost = Gr.invest g x y.since false m := ⟨_, rfl⟩
 obtain ⟨acq, hacq⟩ : ∃ acq, acq = Gr.sumOf (Gr.isOn g.r7) y.its := ⟨_, rfl⟩
 have HC := Lib.hid hcost
 have HQ := Lib.hid hacq
 have hqb := Gr.sumOf_bd (Gr.isOn g.r7) y.its hyh.hix
 rw [<- hacq] at hqb
 have hlen := hyh.hil
 have hin := hyh.hin
 obtain ⟨q0, q1⟩ : -100000000000000 <= acq /\ acq <= 100000000000000 := by omega
 have hg4 := Lib.hid ((Hg2.out.at_ hB3).at_ hB4)
 have hgr4 := Lib.hid (grp_range He0.out)
 have hco4 := Lib.hid (range_row (cs := [.int .i64 x0.ent, .int .i64 x0.meth, .int .i64 x0.since, .bool x0.sg1, .slice x0.sA1 x0.sn1 x0.sc1, .bool x0.sg2, .slice x0.sA2 x0.sn2 x0.sc2, .bool x0.fg1, .slice x0.fA1 x0.fn1 x0.fc1, .bool x0.fg2, .slice x0.fA2 x0.fn2 x0.fc2, .slice x0.iA x0.im x0.ic, .slice x0.hA x0.hm x0.hc]) Hb4.out)
 have x2 := Lib.hid (show W4.cell? ⟨W3.heap.size, 2, none⟩ = some (.int .i64 x0.since) from hco4.out 2 _ rfl)
 have x11 := Lib.hid (show W4.cell? ⟨W3.heap.size, 11, none⟩ = some (.slice x0.iA x0.im x0.ic) from hco4.out 11 _ rfl)
 have g12 := Lib.hid (show W4.cell? ⟨w.heap.size, 12, none⟩ = some (.int .i64 g.r7) from hgr4.out 12 _ rfl)
 have HA4 := Lib.hid (RowsAt.at_ (RowsAt.at_ HA2.out hB3) hB4)
 have HM4 := Lib.hid ((HM2.out.imp (Q := fun a b => a.Holds SR W3 W3.heap.size b) fun _ _ h => h.atR hB3).imp (Q := fun a b => a.Holds SR W4 W4.heap.size b) fun _ _ h => h.atR hB4)
 have swx : w.heap.size < W4.heap.size := by omega
 have hS : Below W4.heap.size W4 W4.drew := below_drawn (Below.refl _ _) 1
 have hcap : Hid (∀ o, o = (if y.meth = 3 then R1.rd acq y.fN y.fD else acq) -> Gr.capital g m x = ((cost, acq, o), 0)) := Lib.hid fun o ho => by
  rw [Gr.capital, if_neg (by rw [<- Her.out]; simp), HEL.out]
  simp only []
  have e : Gr.sumOf (fun a => decide (a = g.r7)) y.its = acq := HQ.out.symm
  rw [e, <- HC.out, ho]
 rw [<- hsi] at hcost
 have HC2 := Lib.hid hcost
 clear hel hyh hacq hqb hlen hcost hx0ne hsi
 go_upto_region 7 with (fail)
 refine wp_region_held (S := Below W4.heap.size W4) (by kernel_rfl) ?_
 change wpAnyH _ _ _ _ _ _ _ _ (World.drew W4)
 obtain ⟨W0, hWd⟩ : ∃ W0, W0 = W4.drew := ⟨_, rfl⟩
 rw [<- hWd] at hS ⊢
 clear hWd
 refine tk (i := 0) (v := .agg #[.string g.cur, .int .i64 g.Y, .int .i64 g.M, .int .i64 g.N, .slice g.cA g.cn g.cc, .int .i64 g.r0, .int .i64 g.r1, .int .i64 g.r2, .int .i64 g.r3, .int .i64 g.r4, .int .i64 g.r5, .int .i64 g.r6, .int .i64 g.r7, .int .i64 g.r8, .int .i64 g.r9, .int .i64 g.r10, .int .i64 g.r11, .int .i64 g.r12, .int .i64 g.r13, .int .i64 g.r14, .slice g.eA g.en g.ec]) rfl (by kernel_rfl) (fun _ _ _ h => h) (yieldsIf_load_mid (by rfl) 29 _ rfl w.heap.size 0 rfl [.string g.cur, .int .i64 g.Y, .int .i64 g.M, .int .i64 g.N, .slice g.cA g.cn g.cc, .int .i64 g.r0, .int .i64 g.r1, .int .i64 g.r2, .int .i64 g.r3, .int .i64 g.r4, .int .i64 g.r5, .int .i64 g.r6, .int .i64 g.r7, .int .i64 g.r8, .int .i64 g.r9, .int .i64 g.r10, .int .i64 g.r11, .int .i64 g.r12, .int .i64 g.r13, .int .i64 g.r14, .slice g.eA g.en g.ec] _ (fun W' hS' => range_below hgr4.out hS' swx) Tryz.underlying29 rfl grpSize) hS ?_
 try simp only [z]
 refine tk (i := 1) (v := .slice A n c) rfl (by kernel_rfl) (fun _ _ _ h => h) (.inl ⟨by rfl, fun W' hS' => by go_simp⟩) hS ?_
 try simp only [z]
 refine tk (i := 2) (v := .int .i64 x) rfl (by kernel_rfl) (fun _ _ _ h => h) (.inl ⟨by rfl, fun W' hS' => by go_simp⟩) hS ?_
 try simp only [z]
 refine tk (i := 3) (v := .pointer (some ⟨W3.heap.size, 2, none⟩)) rfl (by kernel_rfl) (fun _ _ _ h => h) (.inl ⟨by rfl, fun W' hS' => by go_simp⟩) hS ?_
 try simp only [z]
 refine tk (i := 4) (v := .int .i64 x0.since) rfl (by kernel_rfl) (fun _ _ _ h => h) (.inl ⟨by rfl, fun W' hS' => by have hc := (hS'.cell (p := ⟨W3.heap.size, 2, none⟩) s4).trans x2.out; go_simp⟩) hS ?_
 try simp only [z]
 refine tk (i := 6) (v := .pointer (some ⟨W3.heap.size, 11, none⟩)) rfl (by kernel_rfl) (fun _ _ _ h => h) (.inl ⟨by rfl, fun W' hS' => by go_simp⟩) hS ?_
 try simp only [z]
 refine tk (i := 7) (v := .slice x0.iA x0.im x0.ic) rfl (by kernel_rfl) (fun _ _ _ h => h) (.inl ⟨by rfl, fun W' hS' => by have hc := (hS'.cell (p := ⟨W3.heap.size, 11, none⟩) s4).trans x11.out; go_simp⟩) hS ?_
 try simp only [z]
 refine tk (i := 8) (v := .pointer (some ⟨w.heap.size, 5, none⟩)) rfl (by kernel_rfl) (fun _ _ _ h => h) (.inl ⟨by rfl, fun W' hS' => by go_simp⟩) hS ?_
 try simp only [z]
 refine tk (i := 9) (v := .pointer (some ⟨w.heap.size, 12, none⟩)) rfl (by kernel_rfl) (fun _ _ _ h => h) (.inl ⟨by rfl, fun W' hS' => by go_simp⟩) hS ?_
 try simp only [z]
 refine tk (i := 10) (v := .int .i64 g.r7) rfl (by kernel_rfl) (fun _ _ _ h => h) (.inl ⟨by rfl, fun W' hS' => by have hc := (hS'.cell (p := ⟨w.heap.size, 12, none⟩) swx).trans g12.out; go_simp⟩) hS ?_
 try simp only [z]
 refine wpAnyH_letters fun md' ops' Q' a' hlm hlo hlq hla => ?_
 have fin : ∀ (W' : World) (p : Nat), Below W4.heap.size W4 W' -> W'.heap[p]? = some (.cells #[.int .i64 0, .int .i64 0, .int .i64 0] 43 (0, 0)) -> W4.heap.size <= p -> wpAnyH Tryz.prog md' ops' Q' (Below W4.heap.size W4) 1 #[true, true, true, true, true, true, true, true, true, true, true, true, true, true, false] ((((a'.put (some 35) (.int .i64 cost)).put (some 41) (.int .i64 acq)).put (some 42) (.agg #[.int .i64 cost, .int .i64 acq, .int .i64 0])).put (some 11) (.pointer (some ⟨p, 0, none⟩))) W' := by
  intro W' p hS' hrow hp
  subst hlm hlo hlq hla
  try simp only [z]
  refine wpAnyH_ready (rs := [14]) (by kernel_rfl) (by simp) (AllReadyH.cons rfl (fun K hK => ?_) AllReadyH.nil)
  rw [if_pos (by rfl)]
  refine wp_store_row 43 _ _ none rfl rfl p 43 _ #[.int .i64 cost, .int .i64 acq, .int .i64 0] rfl rfl hrow rfl figr38Size (fig3One _ _ _) ?_
  have hrow5 := setRow_heap W' p _ #[.int .i64 cost, .int .i64 acq, .int .i64 0] _ _ hrow
  have hS5 := below_setRow hS' hp #[.int .i64 cost, .int .i64 acq, .int .i64 0]
  refine hK.out _ _ hS5 (fun _ => ?_)
  clear hK K
  try simp only [z]
  refine wpAnyH_done (by kernel_rfl) ?_ _
  try simp only [z]
  obtain ⟨W5, hW5⟩ : ∃ W5, W5 = W'.setRow p #[.int .i64 cost, .int .i64 acq, .int .i64 0] := ⟨_, rfl⟩
  rw [<- hW5] at hrow5 hS5 ⊢
  clear hW5 hrow hS'
  have z1 := cell_of_row _ _ 1 _ _ _ hrow5
  have z2 := cell_of_row _ _ 2 _ _ _ hrow5
  have zf := fun j => frozen_of_row _ _ j _ _ hrow5
  have sp := some_lt hrow5
  simp at z1 z2
  have hrow6 := heap_setCell_same W5 p 2 _ _ (.int .i64 acq) hrow5
  simp at hrow6
  have hS6 := hS5.setCell (p := ⟨p, 2, none⟩) hp (.int .i64 acq)
  have Hrow6 := Lib.hid hrow6
  have HS6 := Lib.hid hS6
  clear hrow5 hrow6 hS5 hS6
  go_upto_region 9 with (fail)
  obtain ⟨W6, hW6⟩ : ∃ W6, W6 = W5.setCell ⟨p, 2, none⟩ (.int .i64 acq) := ⟨_, rfl⟩
  have hrow6 := Hrow6.out
  have hS6 := HS6.out
  rw [<- hW6] at hrow6 hS6 ⊢
  clear hW6 Hrow6 HS6 z1 z2 zf
  have hco6 := gbox Hb4.out hS6 s4
  have m1 := cell_of_row _ _ 1 _ _ _ hco6
  have z1 := cell_of_row _ _ 1 _ _ _ hrow6
  simp at m1 z1
  have sc6 := some_lt hco6
  have sp6 := some_lt hrow6
  have HF6 := Lib.hid (gbox He1.out hS6 s4')
  have hB06 := hB04.trans (hS6.mono hB04.size)
  have HR6 := Lib.hid hrow6
  by_cases h3 : x0.meth = 3
  case neg =>
   have h3b : (x0.meth == 3) = false := by simp [h3]
   have HO : Hid (acq = (if y.meth = 3 then R1.rd acq y.fN y.fD else acq)) := by show _ = _; rw [if_neg (by rw [<- Hme.out]; exact h3)]
   clear h3 hrow6 hS6 hco6
   have HRg := Lib.hid (range_row (cs := [.int .i64 cost, .int .i64 acq, .int .i64 acq]) HR6.out)
   have Ho2 := Lib.hid (fig3One cost acq acq)
   have hload2 := Lib.hid (run_loadVar_row (P := Tryz.prog) _ _ _ 43 _ _ _ (setRow_heap _ (w.heap.size + 1) _ #[.int .i64 cost, .int .i64 acq, .int .i64 acq] _ _ HF6.out) Tryz.underlying43 rfl figr38Size)
   have hBF2 := Lib.hid (below_setRow hB06 (show w.heap.size <= w.heap.size + 1 by omega) #[.int .i64 cost, .int .i64 acq, .int .i64 acq])
   go_wp2_with (first | (refine wpList_load_mid rfl 43 (.tmp 11) rfl p 0 rfl [.int .i64 cost, .int .i64 acq, .int .i64 acq] _ HRg.out Tryz.underlying43 rfl figr38Size ?_) | (refine wpList_store_row rfl 43 (.tmp 6) (.tmp 62) none rfl rfl (w.heap.size + 1) 43 _ #[.int .i64 cost, .int .i64 acq, .int .i64 acq] rfl rfl HF6.out rfl figr38Size Ho2.out ?_))
   exact bodyPost_ret (v := .tuple #[.agg #[.int .i64 cost, .int .i64 acq, .int .i64 acq], .int .i64 0]) (by simp [results, Tryz.results18, asAddr, Act.put, hload2.out]) rfl ⟨cost, acq, acq, 0, hcap.out acq HO.out, rfl, hBF2.out⟩
  have h3b : (x0.meth == 3) = true := by simp [h3]
  obtain ⟨u, hu⟩ : ∃ u, u = R1.rd acq y.fN y.fD := ⟨_, rfl⟩
  have HU := Lib.hid hu
  have HO : Hid (u = (if y.meth = 3 then R1.rd acq y.fN y.fD else acq)) := by show _ = _; rw [if_pos (by rw [<- Hme.out]; exact h3)]; exact hu
  have hy6 := HY.out.atR hS6
  have hfo := Lib.hid hy6.hfo
  have hfi := Lib.hid hy6.hfi
  have hub := rd_small hy6.hfo q0 q1
  rw [<- hu] at hub
  have hsr6 : Hid (W6.rangeAt W3.heap.size 7 [.bool x0.fg1, .slice x0.fA1 x0.fn1 x0.fc1, .bool x0.fg2, .slice x0.fA2 x0.fn2 x0.fc2]) := Lib.hid (fun j v hj => by
   have hr := range_row (cs := [.int .i64 x0.ent, .int .i64 x0.meth, .int .i64 x0.since, .bool x0.sg1, .slice x0.sA1 x0.sn1 x0.sc1, .bool x0.sg2, .slice x0.sA2 x0.sn2 x0.sc2, .bool x0.fg1, .slice x0.fA1 x0.fn1 x0.fc1, .bool x0.fg2, .slice x0.fA2 x0.fn2 x0.fc2, .slice x0.iA x0.im x0.ic, .slice x0.hA x0.hm x0.hc]) hco6
   match j with
   | 0 => exact hr 7 _ (by simpa using hj)
   | 1 => exact hr 8 _ (by simpa using hj)
   | 2 => exact hr 9 _ (by simpa using hj)
   | 3 => exact hr 10 _ (by simpa using hj)
   | j + 4 => simp at hj)
  clear h3 hu hco6 hy6 hrow6
  go_upto_region 10 with (fail)
  go_wp2_with (refine wpList_load_mid rfl 59 (.tmp 52) rfl W3.heap.size 7 rfl [.bool x0.fg1, .slice x0.fA1 x0.fn1 x0.fc1, .bool x0.fg2, .slice x0.fA2 x0.fn2 x0.fc2] _ hsr6.out Tryz.underlying59 rfl ratSize ?_)
  refine (R1.round_any W6 5 5 _ acq y.fN y.fD (by omega) (by omega) hfo.out.1 (by omega) (by omega) (by rw [<- HU.out]; omega) (by rw [<- HU.out]; omega) hfi.out).mono ?_
  rw [<- HU.out]
  rintro e W7 ⟨rfl, hB7⟩
  have hrow7 := gbox HR6.out hB7 sp6
  have z2 := cell_of_row _ _ 2 _ _ _ hrow7
  have zf := fun j => frozen_of_row _ _ j _ _ hrow7
  have sp7 := some_lt hrow7
  simp at z2
  have hrow8 := heap_setCell_same W7 p 2 _ _ (.int .i64 u) hrow7
  simp at hrow8
  have hS7 := hS6.trans (hB7.mono hS6.size)
  have hS8 := hS7.setCell (p := ⟨p, 2, none⟩) hp (.int .i64 u)
  have Hrow8 := Lib.hid hrow8
  have HF8 := Lib.hid (gbox He1.out hS8 s4')
  have HB08 := Lib.hid (hB04.trans (hS8.mono hB04.size))
  clear hrow7 hrow8 hS7 hS8
  have HRg := Lib.hid (range_row (cs := [.int .i64 cost, .int .i64 acq, .int .i64 u]) Hrow8.out)
  have Ho2 := Lib.hid (fig3One cost acq u)
  have hload2 := Lib.hid (run_loadVar_row (P := Tryz.prog) _ _ _ 43 _ _ _ (setRow_heap _ (w.heap.size + 1) _ #[.int .i64 cost, .int .i64 acq, .int .i64 u] _ _ HF8.out) Tryz.underlying43 rfl figr38Size)
  have hBF2 := Lib.hid (below_setRow HB08.out (show w.heap.size <= w.heap.size + 1 by omega) #[.int .i64 cost, .int .i64 acq, .int .i64 u])
  go_wp2_with (first | (refine wpList_load_mid rfl 43 (.tmp 11) rfl p 0 rfl [.int .i64 cost, .int .i64 acq, .int .i64 u] _ HRg.out Tryz.underlying43 rfl figr38Size ?_) | (refine wpList_store_row rfl 43 (.tmp 6) (.tmp 62) none rfl rfl (w.heap.size + 1) 43 _ #[.int .i64 cost, .int .i64 acq, .int .i64 u] rfl rfl HF8.out rfl figr38Size Ho2.out ?_))
  exact bodyPost_ret (v := .tuple #[.agg #[.int .i64 cost, .int .i64 acq, .int .i64 u], .int .i64 0]) (by simp [results, Tryz.results18, asAddr, Act.put, hload2.out]) rfl ⟨cost, acq, u, 0, hcap.out u HO.out, rfl, hBF2.out⟩
 subst hlm hlo hlq hla
 refine wpAnyH_ready (rs := [5, 13]) (by kernel_rfl) (by simp) (AllReadyH.cons rfl (fun K hK => ?_) (AllReadyH.cons rfl (fun K hK => ?_) AllReadyH.nil))
 ·skip
  have Hc := Lib.hid (invr_any W0 g A n c l m x x0.since false Hl.out hn (RowsAt.at_ HA4.out hS) (HM4.out.imp (Q := fun a b => a.Holds SR W0 W0.heap.size b) fun _ _ h => h.atR hS) (hg4.out.at_ hS))
  go_simp
  refine Hc.out.mono ?_
  rw [<- HC2.out]
  rintro e V1 ⟨rfl, hBi⟩
  have hVi := hS.trans (hBi.mono hS.size)
  clear Hc
  refine hK.out _ _ hVi (fun _ => ?_)
  clear hK K
  try simp only [z]
  refine wpAnyH_ready (rs := [11, 13]) (by kernel_rfl) (by simp) (AllReadyH.cons rfl (fun K hK => ?_) (AllReadyH.cons rfl (fun K hK => ?_) AllReadyH.nil))
  ·skip
   have Hc := Lib.hid (on38_any V1 x0.iA x0.im x0.ic y.its g.r7 HY.out.hil (by omega) HY.out.hix (RowsAt.at_ HY.out.hiA hVi))
   go_simp
   refine Hc.out.mono ?_
   rw [<- HQ.out]
   rintro e V2 ⟨rfl, hBn⟩
   have hVn := hVi.trans (hBn.mono hVi.size)
   clear Hc
   refine hK.out _ _ hVn (fun _ => ?_)
   clear hK K
   try simp only [z]
   refine tk (i := 12) (v := .agg #[.int .i64 cost, .int .i64 acq, .int .i64 0]) rfl (by kernel_rfl) (fun _ _ _ h => h) (.inl ⟨by rfl, fun W' hS' => by go_simp⟩) hVn ?_
   try simp only [z]
   refine wpAnyH_ready (rs := [13]) (by kernel_rfl) (by simp) (AllReadyH.cons rfl (fun K hK => ?_) AllReadyH.nil)
   obtain ⟨hBa, hrw, _⟩ := row_new V2 #[.int .i64 0, .int .i64 0, .int .i64 0] 43
   go_simp
   obtain ⟨V3, hWn⟩ : ∃ V3, V3 = V2.alloc (.cells #[.int .i64 0, .int .i64 0, .int .i64 0] 43) := ⟨_, rfl⟩
   rw [<- hWn] at hBa hrw ⊢
   clear hWn
   have hVa := hVn.trans (hBa.mono hVn.size)
   refine hK.out _ _ hVa (fun _ => ?_)
   clear hK K
   try simp only [z]
   have hn2 := fin V3 V2.heap.size hVa hrw hVn.size
   try simp only [z] at hn2
   exact hn2
  ·skip
   obtain ⟨hBa, hrw, _⟩ := row_new V1 #[.int .i64 0, .int .i64 0, .int .i64 0] 43
   go_simp
   obtain ⟨V2, hWn⟩ : ∃ V2, V2 = V1.alloc (.cells #[.int .i64 0, .int .i64 0, .int .i64 0] 43) := ⟨_, rfl⟩
   rw [<- hWn] at hBa hrw ⊢
   clear hWn
   have hVa := hVi.trans (hBa.mono hVi.size)
   refine hK.out _ _ hVa (fun _ => ?_)
   clear hK K
   try simp only [z]
   refine wpAnyH_ready (rs := [11]) (by kernel_rfl) (by simp) (AllReadyH.cons rfl (fun K hK => ?_) AllReadyH.nil)
   have Hc := Lib.hid (on38_any V2 x0.iA x0.im x0.ic y.its g.r7 HY.out.hil (by omega) HY.out.hix (RowsAt.at_ HY.out.hiA hVa))
   go_simp
   refine Hc.out.mono ?_
   rw [<- HQ.out]
   rintro e V3 ⟨rfl, hBn⟩
   have hVn := hVa.trans (hBn.mono hVa.size)
   clear Hc
   refine hK.out _ _ hVn (fun _ => ?_)
   clear hK K
   try simp only [z]
   refine tk (i := 12) (v := .agg #[.int .i64 cost, .int .i64 acq, .int .i64 0]) rfl (by kernel_rfl) (fun _ _ _ h => h) (.inl ⟨by rfl, fun W' hS' => by go_simp⟩) hVn ?_
   try simp only [z]
   have hn2 := fin V3 V1.heap.size hVn (gbox hrw hBn (some_lt hrw)) hVi.size
   try simp only [z] at hn2
   exact hn2
 ·skip
  obtain ⟨hBa, hrw, _⟩ := row_new W0 #[.int .i64 0, .int .i64 0, .int .i64 0] 43
  go_simp
  obtain ⟨V1, hWn⟩ : ∃ V1, V1 = W0.alloc (.cells #[.int .i64 0, .int .i64 0, .int .i64 0] 43) := ⟨_, rfl⟩
  rw [<- hWn] at hBa hrw ⊢
  clear hWn
  have hVa := hS.trans (hBa.mono hS.size)
  refine hK.out _ _ hVa (fun _ => ?_)
  clear hK K
  try simp only [z]
  refine wpAnyH_ready (rs := [5]) (by kernel_rfl) (by simp) (AllReadyH.cons rfl (fun K hK => ?_) AllReadyH.nil)
  have Hc := Lib.hid (invr_any V1 g A n c l m x x0.since false Hl.out hn (RowsAt.at_ HA4.out hVa) (HM4.out.imp (Q := fun a b => a.Holds SR V1 V1.heap.size b) fun _ _ h => h.atR hVa) (hg4.out.at_ hVa))
  go_simp
  refine Hc.out.mono ?_
  rw [<- HC2.out]
  rintro e V2 ⟨rfl, hBi⟩
  have hVi := hVa.trans (hBi.mono hVa.size)
  clear Hc
  refine hK.out _ _ hVi (fun _ => ?_)
  clear hK K
  try simp only [z]
  refine wpAnyH_ready (rs := [11]) (by kernel_rfl) (by simp) (AllReadyH.cons rfl (fun K hK => ?_) AllReadyH.nil)
  have Hc := Lib.hid (on38_any V2 x0.iA x0.im x0.ic y.its g.r7 HY.out.hil (by omega) HY.out.hix (RowsAt.at_ HY.out.hiA hVi))
  go_simp
  refine Hc.out.mono ?_
  rw [<- HQ.out]
  rintro e V3 ⟨rfl, hBn⟩
  have hVn := hVi.trans (hBn.mono hVi.size)
  clear Hc
  refine hK.out _ _ hVn (fun _ => ?_)
  clear hK K
  try simp only [z]
  refine tk (i := 12) (v := .agg #[.int .i64 cost, .int .i64 acq, .int .i64 0]) rfl (by kernel_rfl) (fun _ _ _ h => h) (.inl ⟨by rfl, fun W' hS' => by go_simp⟩) hVn ?_
  try simp only [z]
  have hn2 := fin V3 W0.heap.size hVn (gbox (gbox hrw hBi (some_lt hrw)) hBn (some_lt (gbox hrw hBi (some_lt hrw)))) hS.size
  try simp only [z] at hn2
  exact hn2
end
theorem figd38Size : (Tryz.prog.info? 37).map (·.size) = some 3 := by kernel_rfl
section
variable (w : World)
theorem capd_any (g : Grp) (A : Option Addr) (n c : Nat) (l : List Con) (m : List Cnt) (x : Int) (hl : l.length = n) (hn : n <= 100) (hA : ConsAt w w.heap.size A l) (hm : Hold (fun a b => a.Holds SD w w.heap.size b) l m) (hg : g.At w w.heap.size) :
  Calls Tryz.prog 16 #[.agg #[.string g.cur, .int .i64 g.Y, .int .i64 g.M, .int .i64 g.N, .slice g.cA g.cn g.cc, .int .i64 g.r0, .int .i64 g.r1, .int .i64 g.r2, .int .i64 g.r3, .int .i64 g.r4, .int .i64 g.r5, .int .i64 g.r6, .int .i64 g.r7, .int .i64 g.r8, .int .i64 g.r9, .int .i64 g.r10, .int .i64 g.r11, .int .i64 g.r12, .int .i64 g.r13, .int .i64 g.r14, .slice g.eA g.en g.ec], .slice A n c, .int .i64 x] w (CpPost g m x w) := by
 obtain ⟨hB0, hb0, hbe, hb1, hz⟩ := row_new3 w #[.string g.cur, .int .i64 g.Y, .int .i64 g.M, .int .i64 g.N, .slice g.cA g.cn g.cc, .int .i64 g.r0, .int .i64 g.r1, .int .i64 g.r2, .int .i64 g.r3, .int .i64 g.r4, .int .i64 g.r5, .int .i64 g.r6, .int .i64 g.r7, .int .i64 g.r8, .int .i64 g.r9, .int .i64 g.r10, .int .i64 g.r11, .int .i64 g.r12, .int .i64 g.r13, .int .i64 g.r14, .slice g.eA g.en g.ec] #[.int .i64 x] #[.int .i64 0, .int .i64 0, .int .i64 0] 29 3 37
 obtain ⟨W1, hW1⟩ : ∃ W1, W1 = (((w.alloc (.cells #[.string g.cur, .int .i64 g.Y, .int .i64 g.M, .int .i64 g.N, .slice g.cA g.cn g.cc, .int .i64 g.r0, .int .i64 g.r1, .int .i64 g.r2, .int .i64 g.r3, .int .i64 g.r4, .int .i64 g.r5, .int .i64 g.r6, .int .i64 g.r7, .int .i64 g.r8, .int .i64 g.r9, .int .i64 g.r10, .int .i64 g.r11, .int .i64 g.r12, .int .i64 g.r13, .int .i64 g.r14, .slice g.eA g.en g.ec] 29)).alloc (.cells #[.int .i64 x] 3)).alloc (.cells #[.int .i64 0, .int .i64 0, .int .i64 0] 37)) := ⟨_, rfl⟩
 rw [<- hW1] at hB0 hb0 hbe hb1 hz
 have HW := Lib.hid hW1
 have Hb0 := Lib.hid hb0
 have Hbe := Lib.hid hbe
 have Hb1 := Lib.hid hb1
 have hrg := Lib.hid (grp_range hb0)
 have s1 : w.heap.size < W1.heap.size := by omega
 have s1e : w.heap.size + 1 < W1.heap.size := by omega
 have s1' : w.heap.size + 2 < W1.heap.size := by omega
 have hg1 := hg.at_ hB0
 have HA := Lib.hid (RowsAt.at_ hA hB0)
 have HM := Lib.hid (hm.imp (Q := fun a b => a.Holds SD W1 W1.heap.size b) fun _ _ h => h.atD hB0)
 have Hl := Lib.hid hl
 have Hml := Lib.hid (Hold.len hm)
 have Hits := Lib.hid (Hold.its hm)
 have Ho := Lib.hid (fig3One 0 0 0)
 have hfin : ∀ (W : World) (h : W.heap[w.heap.size + 2]? = some (.cells #[.int .i64 0, .int .i64 0, .int .i64 0] 37 (0, 0))), Hid ((loadVar 37 ⟨w.heap.size + 2, 0, none⟩).run Tryz.prog (W.setRow (w.heap.size + 2) #[.int .i64 0, .int .i64 0, .int .i64 0]) = .ok (.agg #[.int .i64 0, .int .i64 0, .int .i64 0]) (W.setRow (w.heap.size + 2) #[.int .i64 0, .int .i64 0, .int .i64 0])) := fun W h =>
  Lib.hid (run_loadVar_row (P := Tryz.prog) _ _ _ 37 _ _ _ (setRow_heap W (w.heap.size + 2) _ #[.int .i64 0, .int .i64 0, .int .i64 0] _ _ h) Tryz.underlying37 rfl figd38Size)
 have Hfin := Lib.hid hfin
 clear hW1 hz hb0 hbe hb1 hg hA hm hl hfin
 go_enter Tryz.func16, Tryz.ntmps16
 go_upto_region 1 with (fail)
 rw [<- HW.out]
 go_wp2_with (refine wpList_load_mid rfl 29 (.tmp 3) rfl w.heap.size 0 rfl _ _ hrg.out Tryz.underlying29 rfl grpSize ?_)
 refine (grpd_any W1 g hg1).mono ?_
 rintro e W2 ⟨rfl, hB2⟩
 have hB02 := hB0.trans (hB2.mono hB0.size)
 have hc0 := gbox Hb0.out hB2 s1
 have hce := gbox Hbe.out hB2 s1e
 have Hc0 := Lib.hid hc0
 have Hce := Lib.hid hce
 have Hc1 := Lib.hid (gbox Hb1.out hB2 s1')
 have x20 := cell_of_row _ _ 20 _ _ _ hc0
 have e0 := cell_of_row _ _ 0 _ _ _ hce
 simp at x20 e0
 have s2 : w.heap.size < W2.heap.size := some_lt hc0
 have s2e : w.heap.size + 1 < W2.heap.size := some_lt hce
 have Hg2 := Lib.hid (hg1.at_ hB2)
 have HA2 := Lib.hid (RowsAt.at_ HA.out hB2)
 have HM2 := Lib.hid (HM.out.imp (Q := fun a b => a.Holds SD W2 W2.heap.size b) fun _ _ h => h.atD hB2)
 have hBF := Lib.hid (below_setRow hB02 (show w.heap.size <= w.heap.size + 2 by omega) #[.int .i64 0, .int .i64 0, .int .i64 0])
 clear hc0 hce hg1
 by_cases hv : Gr.valid g = true
 case neg =>
  have hv' : Gr.valid g = false := by simpa using hv
  have hck : Gr.check g x = 1 := by rw [Gr.check, if_pos hv']
  have HV : Hid (Gr.capital g m x = ((0, 0, 0), 1)) := by show _ = _; rw [Gr.capital, if_pos (by rw [hck]; simp), hck]
  rw [hv']
  clear hv hv' hck
  have hload := Hfin.out W2 Hc1.out
  go_wp2_with (refine wpList_store_row rfl 37 (.tmp 6) (.tmp 16) none rfl rfl (w.heap.size + 2) 37 _ #[.int .i64 0, .int .i64 0, .int .i64 0] rfl rfl Hc1.out rfl figd38Size Ho.out ?_)
  exact bodyPost_ret (v := .tuple #[.agg #[.int .i64 0, .int .i64 0, .int .i64 0], .int .i64 1]) (by simp [results, Tryz.results16, asAddr, Act.put, hload.out]) rfl ⟨0, 0, 0, 1, HV.out, rfl, hBF.out⟩
 have HVA := Lib.hid hv
 rw [hv]
 clear hv
 have hbad : (x < 0 ∨ (g.en : Int) <= x) -> Hid (Gr.capital g m x = ((0, 0, 0), 2)) := fun h => by
  have hck : Gr.check g x = 2 := by rw [Gr.check, if_neg (by rw [HVA.out]; simp), if_pos h]
  show _ = _; rw [Gr.capital, if_pos (by rw [hck]; simp), hck]
 by_cases h2 : x < 0
 case pos =>
  have HV := hbad (.inl h2)
  clear hbad
  have hload := Hfin.out W2 Hc1.out
  go_wp2_with (refine wpList_store_row rfl 37 (.tmp 6) (.tmp 26) none rfl rfl (w.heap.size + 2) 37 _ #[.int .i64 0, .int .i64 0, .int .i64 0] rfl rfl Hc1.out rfl figd38Size Ho.out ?_)
  exact bodyPost_ret (v := .tuple #[.agg #[.int .i64 0, .int .i64 0, .int .i64 0], .int .i64 2]) (by simp [results, Tryz.results16, asAddr, Act.put, hload.out]) rfl ⟨0, 0, 0, 2, HV.out, rfl, hBF.out⟩
 by_cases h3 : (g.en : Int) <= x
 case pos =>
  have HV := hbad (.inr h3)
  clear hbad
  have hload := Hfin.out W2 Hc1.out
  go_wp2_with (refine wpList_store_row rfl 37 (.tmp 6) (.tmp 26) none rfl rfl (w.heap.size + 2) 37 _ #[.int .i64 0, .int .i64 0, .int .i64 0] rfl rfl Hc1.out rfl figd38Size Ho.out ?_)
  exact bodyPost_ret (v := .tuple #[.agg #[.int .i64 0, .int .i64 0, .int .i64 0], .int .i64 2]) (by simp [results, Tryz.results16, asAddr, Act.put, hload.out]) rfl ⟨0, 0, 0, 2, HV.out, rfl, hBF.out⟩
 have Hck : Hid (Gr.check g x = 0) := by show _ = _; rw [Gr.check, if_neg (by rw [HVA.out]; simp), if_neg (by omega)]
 have HF := Lib.hid (Cn.elim_hold (P := fun a b => a.Holds SD W2 W2.heap.size b) (fun _ _ h => ⟨h.he, h.hm⟩) x HM2.out)
 clear hbad hBF
 go_wp2_with (fail)
 refine (elimd_any W2 A n c l x Hl.out hn HA2.out).mono ?_
 rintro e W3 ⟨rfl, hB3⟩
 have hB03 := hB02.trans (hB3.mono hB02.size)
 obtain ⟨x0, hx0⟩ : ∃ x0, x0 = Cn.found l x := ⟨_, rfl⟩
 obtain ⟨ok, hok⟩ : ∃ ok, ok = Cn.isElim l x := ⟨_, rfl⟩
 rw [<- hx0, <- hok]
 have HX := Lib.hid hx0
 have HK := Lib.hid hok
 have hd0 := gbox Hc0.out hB3 (some_lt Hc0.out)
 have hde := gbox Hce.out hB3 (some_lt Hce.out)
 have hd1 := gbox Hc1.out hB3 (some_lt Hc1.out)
 obtain ⟨hB4, hb4, hz4⟩ := row_new W3 #[.int .i64 x0.ent, .int .i64 x0.meth, .int .i64 x0.since, .bool x0.sg1, .slice x0.sA1 x0.sn1 x0.sc1, .bool x0.sg2, .slice x0.sA2 x0.sn2 x0.sc2, .bool x0.fg1, .slice x0.fA1 x0.fn1 x0.fc1, .bool x0.fg2, .slice x0.fA2 x0.fn2 x0.fc2, .slice x0.iA x0.im x0.ic, .slice x0.hA x0.hm x0.hc] 94
 have hB04 := hB03.trans (hB4.mono hB03.size)
 have He0 := Lib.hid (gbox hd0 hB4 (some_lt hd0))
 have Hee := Lib.hid (gbox hde hB4 (some_lt hde))
 have He1 := Lib.hid (gbox hd1 hB4 (some_lt hd1))
 have hq3 := hB03.size
 obtain ⟨W4, hW4⟩ : ∃ W4, W4 = W3.alloc (.cells #[.int .i64 x0.ent, .int .i64 x0.meth, .int .i64 x0.since, .bool x0.sg1, .slice x0.sA1 x0.sn1 x0.sc1, .bool x0.sg2, .slice x0.sA2 x0.sn2 x0.sc2, .bool x0.fg1, .slice x0.fA1 x0.fn1 x0.fc1, .bool x0.fg2, .slice x0.fA2 x0.fn2 x0.fc2, .slice x0.iA x0.im x0.ic, .slice x0.hA x0.hm x0.hc] 94) := ⟨_, rfl⟩
 rw [<- hW4] at hB4 hb4 hz4 hB04 He0 Hee He1
 have HW4 := Lib.hid hW4
 have Hb4 := Lib.hid hb4
 have s4 : W3.heap.size < W4.heap.size := by omega
 have s40 : w.heap.size < W4.heap.size := some_lt He0.out
 have s4e : w.heap.size + 1 < W4.heap.size := some_lt Hee.out
 have s4' : w.heap.size + 2 < W4.heap.size := some_lt He1.out
 have hload := Hfin.out W4 He1.out
 have hBF := Lib.hid (below_setRow hB04 (show w.heap.size <= w.heap.size + 2 by omega) #[.int .i64 0, .int .i64 0, .int .i64 0])
 have HB34 := Lib.hid (hB3.trans (hB4.mono hB3.size))
 clear hx0 hok hd0 hde hd1 hb4 hz4 hW4 x20 e0
 go_upto_region 6 with (fail)
 rw [<- HW4.out]
 by_cases hko : ok = true
 case neg =>
  have hko' : ok = false := by simpa using hko
  have HV : Hid (Gr.capital g m x = ((0, 0, 0), 0)) := by
   show _ = _
   rw [Gr.capital, if_neg (by rw [Hck.out]; simp)]
   rcases HF.out with ⟨_, h2⟩ | ⟨y, h1, _⟩
   ·rw [h2]
   ·have := HK.out; rw [hko', h1] at this; cases this
  rw [hko']
  clear hko hko'
  go_wp2_with (refine wpList_store_row rfl 37 (.tmp 6) (.tmp 35) none rfl rfl (w.heap.size + 2) 37 _ #[.int .i64 0, .int .i64 0, .int .i64 0] rfl rfl He1.out rfl figd38Size Ho.out ?_)
  exact bodyPost_ret (v := .tuple #[.agg #[.int .i64 0, .int .i64 0, .int .i64 0], .int .i64 0]) (by simp [results, Tryz.results16, asAddr, Act.put, hload.out]) rfl ⟨0, 0, 0, 0, HV.out, rfl, hBF.out⟩
 subst hko
 obtain ⟨y, hel, hyh, hmm⟩ : ∃ y, Gr.elim m x = some y /\ x0.Holds SD W4 W4.heap.size y /\ (y.meth = 3 ∨ y.meth = 2) := by
  rcases HF.out with ⟨h1, h2⟩ | ⟨y, h1, h2, _, h3, h4, h5⟩
  ·have := HK.out; rw [h1] at this; cases this
  ·exact ⟨y, h2, by rw [HX.out]; exact h3.atD HB34.out, h5⟩
 have HEL := Lib.hid hel
 have HY := Lib.hid hyh
 have Hme := Lib.hid hyh.hm
 have hsi := hyh.hs
 obtain ⟨acq, hacq⟩ : ∃ acq, acq = Gr.sumIf (fun z => decide (z.acct = g.r7)) y.its := ⟨_, rfl⟩
 have HQ := Lib.hid hacq
 have hqb := Gr.sumIf_bd (fun z => decide (z.acct = g.r7)) y.its hyh.hix
 rw [<- hacq] at hqb
 have hlen := hyh.hil
 have hin := hyh.hin
 obtain ⟨q0, q1⟩ : -100000000000000 <= acq /\ acq <= 100000000000000 := by omega
 obtain ⟨si, hsi2⟩ : ∃ si, si = x0.since := ⟨_, rfl⟩
 have HSi := Lib.hid hsi2
 have HSy : Hid (si = y.since) := Lib.hid (hsi2.trans hsi)
 have Hg4 := Lib.hid ((Hg2.out.at_ (HB34.out)))
 have HA4 := Lib.hid (RowsAt.at_ HA2.out HB34.out)
 have HM4 := Lib.hid (HM2.out.imp (Q := fun a b => a.Holds SD W4 W4.heap.size b) fun _ _ h => h.atD HB34.out)
 have x11 := cell_of_row _ _ 11 _ _ _ Hb4.out
 simp at x11
 have g12 : W4.cell? ⟨w.heap.size, 12, none⟩ = some (.int .i64 g.r7) := grp_range He0.out 12 _ rfl
 have hcap : Hid (∀ o, o = (if y.meth = 3 then R1.rd acq y.fN y.fD else acq) -> Gr.capital g m x = ((Gr.invest g x si false m, acq, o), 0)) := Lib.hid fun o ho => by
  rw [Gr.capital, if_neg (by rw [Hck.out]; simp), HEL.out]
  simp only []
  have e : Gr.sumOf (fun a => decide (a = g.r7)) y.its = acq := (Gr.sumIf_on g.r7 y.its).symm.trans HQ.out.symm
  rw [e, HSy.out, ho]
 have Hc1s := Lib.hid (capsum1_any W4 x0.iA x0.im x0.ic y.its hyh.hil hyh.hin hyh.hix hyh.hiA w.heap.size g.r7 s40 g12)
 clear hel hyh hacq hqb hlen hsi hsi2 hBF g12 hmm
 go_upto_region 8 with (fail)
 go_wp2_with (fail)
 refine Hc1s.out.mono ?_
 rw [<- HQ.out]
 rintro e W5 ⟨rfl, hB5⟩
 have hq5 := hB5.size
 obtain ⟨W6, hW6, hB6, hb6, hz6⟩ := nw1 W5 #[.int .i64 0, .int .i64 acq, .int .i64 0] 37
 have HW6 := Lib.hid hW6
 have Hb6 := Lib.hid hb6
 have hB46 := hB5.trans (hB6.mono hB5.size)
 have HB46 := Lib.hid hB46
 have s6 : W5.heap.size < W6.heap.size := by omega
 clear hW6 hb6 hz6 x11 Hc1s
 go_upto_region 9 with (fail)
 rw [<- HW6.out]
 go_wp2
 go_loopw [43] (fun i wr => ∃ k : Nat, k <= n /\ i = .int .i64 k /\ Below W4.heap.size W4 wr /\ wr.heap[W5.heap.size]? = some (.cells #[.int .i64 (Gr.invest g x si false (m.take k)), .int .i64 acq, .int .i64 0] 37 (0, 0))) (fun i _ => n - (intOf i).toNat)
 case atStart => exact ⟨0, Nat.zero_le _, rfl, HB46.out, by rw [List.take_zero]; exact Hb6.out⟩
 case round =>
  obtain ⟨k, hk, rfl, hbr, hrow⟩ := hrel
  have Hrow := Lib.hid hrow
  have hqr := hbr.size
  have hpw := some_lt hrow
  clear hrow
  by_cases hlt : k < n
  ·have hkl : k < l.length := by have := Hl.out; omega
   have hkm : k < m.length := by have := Hml.out; omega
   obtain ⟨b, o, hAe, hbB, hr⟩ := RowsAt.look (RowsAt.below HA4.out hbr (Nat.le_refl _)) hkl
   cases hAe
   have hHo := (HM4.out.get k hkl hkm).belowD hbr (Nat.le_refl _)
   obtain ⟨xk, hxk⟩ : ∃ xk, xk = l[k] := ⟨_, rfl⟩
   obtain ⟨yk, hyk⟩ : ∃ yk, yk = m[k] := ⟨_, rfl⟩
   have HN : Hid (Gr.invest g x si false (m.take (k + 1)) = Gr.invest g x si false (m.take k) + (if yk.meth = 3 then Gr.sumIf (Gr.invest1 g x si false) yk.its else 0)) := by show _ = _; rw [Gr.invest_take _ _ _ _ hkm, <- hyk]
   rw [<- hxk] at hr hHo
   rw [<- hyk] at hHo
   have Hr := Lib.hid hr
   have Hmk := Lib.hid hHo.hm
   have hbw : b < wr.heap.size := by omega
   have hk0 : (0 : Int) <= (k : Int) := by omega
   have hkn : (k : Int) < n := by omega
   obtain ⟨W7, hW7, hB7, hb7, hz7⟩ := nw1 wr #[.int .i64 xk.ent, .int .i64 xk.meth, .int .i64 xk.since, .bool xk.sg1, .slice xk.sA1 xk.sn1 xk.sc1, .bool xk.sg2, .slice xk.sA2 xk.sn2 xk.sc2, .bool xk.fg1, .slice xk.fA1 xk.fn1 xk.fc1, .bool xk.fg2, .slice xk.fA2 xk.fn2 xk.fc2, .slice xk.iA xk.im xk.ic, .slice xk.hA xk.hm xk.hc] 94
   have HW7 := Lib.hid hW7
   have Hb7 := Lib.hid hb7
   have hbr7 := hbr.trans (hB7.mono hqr)
   have Hrow7 := Lib.hid (gbox Hrow.out hB7 hpw)
   have k1 := cell_of_row _ _ 1 _ _ _ hb7
   simp at k1
   have s7 : wr.heap.size < W7.heap.size := by omega
   have Hyk := Lib.hid ((hHo.moreD hqr).atD hB7)
   obtain ⟨s, hs⟩ : ∃ s, s = Gr.invest g x si false (m.take k) := ⟨_, rfl⟩
   have hsb := Gr.invest_bd g x si false (m.take k) fun y hy => Hits.out y (List.mem_of_mem_take hy)
   have htl : (m.take k).length <= 100 := by rw [List.length_take]; omega
   rw [<- hs] at hsb
   obtain ⟨lo, hi⟩ : -4000000000000000 <= s /\ s <= 4000000000000000 := by omega
   have hrow7 := Hrow7.out
   rw [<- hs] at hrow7 HN
   have HR7 := Lib.hid hrow7
   have HBR7 := Lib.hid hbr7
   have s75 := some_lt hrow7
   clear hxk hyk hr hHo hb7 hz7 hW7 hs hsb htl hrow7 Hrow7
   go_upto_region 12 with (refine wpList_load_mid rfl 94 (.tmp 45) rfl b (o + k * 13) rfl [.int .i64 xk.ent, .int .i64 xk.meth, .int .i64 xk.since, .bool xk.sg1, .slice xk.sA1 xk.sn1 xk.sc1, .bool xk.sg2, .slice xk.sA2 xk.sn2 xk.sc2, .bool xk.fg1, .slice xk.fA1 xk.fn1 xk.fc1, .bool xk.fg2, .slice xk.fA2 xk.fn2 xk.fc2, .slice xk.iA xk.im xk.ic, .slice xk.hA xk.hm xk.hc] _ Hr.out Tryz.underlying94 rfl condSize38 ?_)
   rw [<- HW7.out]
   by_cases hmt : xk.meth = 3
   case neg =>
    have hmb : (xk.meth == 3) = false := by simp [hmt]
    have HN2 : Hid (Gr.invest g x si false (m.take (k + 1)) = s) := by show _ = _; rw [HN.out, if_neg (by rw [<- Hmk.out]; exact hmt), Int.add_zero]
    clear hmt
    go_wp2
    go_roundw
    case rel => exact ⟨k + 1, by omega, by go_num, HBR7.out, by rw [HN2.out]; exact HR7.out⟩
    case measure => simp [intOf]; omega
   have hmb : (xk.meth == 3) = true := by simp [hmt]
   obtain ⟨t, ht⟩ : ∃ t, t = Gr.sumIf (Gr.invest1 g x si false) yk.its := ⟨_, rfl⟩
   have HN2 : Hid (Gr.invest g x si false (m.take (k + 1)) = s + t) := by show _ = _; rw [HN.out, if_pos (by rw [<- Hmk.out]; exact hmt), <- ht]
   have htb := Gr.sumIf_bd (Gr.invest1 g x si false) yk.its Hyk.out.hix
   rw [<- ht] at htb
   obtain ⟨t0, t1⟩ : -100000000000000 <= t /\ t <= 100000000000000 := by have h1 := Hyk.out.hil; have h2 := Hyk.out.hin; omega
   have HT := Lib.hid ht
   have hG5 : ∀ W, Below W4.heap.size W4 W -> W.cell? ⟨w.heap.size, 5, none⟩ = some (.int .i64 g.r0) /\ W.cell? ⟨w.heap.size + 1, 0, none⟩ = some (.int .i64 x) /\ W.cell? ⟨W3.heap.size, 2, none⟩ = some (.int .i64 si) := fun W hB => by
    refine ⟨(hB.cell (p := ⟨w.heap.size, 5, none⟩) s40).trans (grp_range He0.out 5 _ rfl), (hB.cell (p := ⟨w.heap.size + 1, 0, none⟩) s4e).trans ?_, (hB.cell (p := ⟨W3.heap.size, 2, none⟩) s4).trans ?_⟩
    ·exact range_row (cs := [.int .i64 x]) Hee.out 0 _ rfl
    ·rw [HSi.out]; exact range_row (cs := [.int .i64 x0.ent, .int .i64 x0.meth, .int .i64 x0.since, .bool x0.sg1, .slice x0.sA1 x0.sn1 x0.sc1, .bool x0.sg2, .slice x0.sA2 x0.sn2 x0.sc2, .bool x0.fg1, .slice x0.fA1 x0.fn1 x0.fc1, .bool x0.fg2, .slice x0.fA2 x0.fn2 x0.fc2, .slice x0.iA x0.im x0.ic, .slice x0.hA x0.hm x0.hc]) Hb4.out 2 _ rfl
   have HG5 := Lib.hid hG5
   have hV0 : (fun W => Below W4.heap.size W4 W /\ W.heap[wr.heap.size]? = some (.cells #[.int .i64 xk.ent, .int .i64 xk.meth, .int .i64 xk.since, .bool xk.sg1, .slice xk.sA1 xk.sn1 xk.sc1, .bool xk.sg2, .slice xk.sA2 xk.sn2 xk.sc2, .bool xk.fg1, .slice xk.fA1 xk.fn1 xk.fc1, .bool xk.fg2, .slice xk.fA2 xk.fn2 xk.fc2, .slice xk.iA xk.im xk.ic, .slice xk.hA xk.hm xk.hc] 94 (0, 0))) W7.drew := ⟨below_drawn HBR7.out 1, Hb7.out⟩
   have hrow0 : W7.drew.heap[W5.heap.size]? = some (.cells #[.int .i64 s, .int .i64 acq, .int .i64 0] 37 (0, 0)) := HR7.out
   have hyd : xk.Holds SD W7.drew W7.drew.heap.size yk := Hyk.out.atD (below_drawn (Below.refl _ _) 1)
   have hq7 : W4.heap.size <= W7.heap.size := HBR7.out.size
   have hne5 : wr.heap.size ≠ W5.heap.size := by omega
   clear hmt ht htb hG5
   go_upto_region 13 with (fail)
   refine wp_region_held (S := (fun W => Below W4.heap.size W4 W /\ W.heap[wr.heap.size]? = some (.cells #[.int .i64 xk.ent, .int .i64 xk.meth, .int .i64 xk.since, .bool xk.sg1, .slice xk.sA1 xk.sn1 xk.sc1, .bool xk.sg2, .slice xk.sA2 xk.sn2 xk.sc2, .bool xk.fg1, .slice xk.fA1 xk.fn1 xk.fc1, .bool xk.fg2, .slice xk.fA2 xk.fn2 xk.fc2, .slice xk.iA xk.im xk.ic, .slice xk.hA xk.hm xk.hc] 94 (0, 0)))) (by kernel_rfl) ?_
   change wpAnyH _ _ _ _ _ _ _ _ (World.drew W7)
   obtain ⟨W0, hWd⟩ : ∃ W0, W0 = W7.drew := ⟨_, rfl⟩
   rw [<- hWd] at hV0 hrow0 hyd ⊢
   clear hWd
   refine tk (i := 0) (v := .pointer (some ⟨W5.heap.size, 0, none⟩)) rfl (by kernel_rfl) (fun _ _ _ h => h) (.inl ⟨by rfl, fun W' hS' => by go_simp⟩) hV0 ?_
   try simp only [z]
   refine tk (i := 2) (v := .pointer (some ⟨wr.heap.size, 11, none⟩)) rfl (by kernel_rfl) (fun _ _ _ h => h) (.inl ⟨by rfl, fun W' hS' => by go_simp⟩) hV0 ?_
   try simp only [z]
   refine tk (i := 3) (v := .slice xk.iA xk.im xk.ic) rfl (by kernel_rfl) (fun _ _ _ h => h) (.inl ⟨by rfl, fun W' hS' => by have hc : W'.cell? ⟨wr.heap.size, 11, none⟩ = some (.slice xk.iA xk.im xk.ic) := (by have := cell_of_row _ _ 11 _ _ _ hS'.2; simpa using this); have hl2 := some_lt hS'.2; go_simp⟩) hV0 ?_
   try simp only [z]
   refine tk (i := 4) (v := .func (.func 49) #[] #[.pointer (some ⟨w.heap.size, 0, none⟩), .pointer (some ⟨w.heap.size + 1, 0, none⟩), .pointer (some ⟨W3.heap.size, 0, none⟩)]) rfl (by kernel_rfl) (fun _ _ _ h => h) (.inl ⟨by rfl, fun W' hS' => by go_simp⟩) hV0 ?_
   try simp only [z]
   refine wpAnyH_letters fun md' ops' Q' a' hlm hlo hlq hla => ?_
   have fin : ∀ (W' : World), (fun W => Below W4.heap.size W4 W /\ W.heap[wr.heap.size]? = some (.cells #[.int .i64 xk.ent, .int .i64 xk.meth, .int .i64 xk.since, .bool xk.sg1, .slice xk.sA1 xk.sn1 xk.sc1, .bool xk.sg2, .slice xk.sA2 xk.sn2 xk.sc2, .bool xk.fg1, .slice xk.fA1 xk.fn1 xk.fc1, .bool xk.fg2, .slice xk.fA2 xk.fn2 xk.fc2, .slice xk.iA xk.im xk.ic, .slice xk.hA xk.hm xk.hc] 94 (0, 0))) W' -> W'.heap[W5.heap.size]? = some (.cells #[.int .i64 s, .int .i64 acq, .int .i64 0] 37 (0, 0)) -> wpAnyH Tryz.prog md' ops' Q' (fun W => Below W4.heap.size W4 W /\ W.heap[wr.heap.size]? = some (.cells #[.int .i64 xk.ent, .int .i64 xk.meth, .int .i64 xk.since, .bool xk.sg1, .slice xk.sA1 xk.sn1 xk.sc1, .bool xk.sg2, .slice xk.sA2 xk.sn2 xk.sc2, .bool xk.fg1, .slice xk.fA1 xk.fn1 xk.fc1, .bool xk.fg2, .slice xk.fA2 xk.fn2 xk.fc2, .slice xk.iA xk.im xk.ic, .slice xk.hA xk.hm xk.hc] 94 (0, 0))) 3 #[true, true, true, true, true, true, false, false, false] ((a'.put (some 51) (.int .i64 s)).put (some 55) (.int .i64 t)) W' := by
    intro W' hS hrow
    subst hlm hlo hlq hla
    try simp only [z]
    refine tk (i := 6) (v := .int .i64 (s + t)) rfl (by kernel_rfl) (fun _ _ _ h => h) (.inl ⟨by rfl, fun W' hS' => by have hw : wrap64 (s + t) = s + t := IntWalk.wrap64_in _ (by omega); (go_simp; rw [IntKind.wrap_i64]; clear hw; omega)⟩) hS ?_
    try simp only [z]
    refine tk (i := 7) (v := .pointer (some ⟨W5.heap.size, 0, none⟩)) rfl (by kernel_rfl) (fun _ _ _ h => h) (.inl ⟨by rfl, fun W' hS' => by go_simp⟩) hS ?_
    try simp only [z]
    refine wpAnyH_ready (rs := [8]) (by kernel_rfl) (by simp) (AllReadyH.cons rfl (fun K hK => ?_) AllReadyH.nil)
    have z0 := cell_of_row _ _ 0 _ _ _ hrow
    have zf := fun j => frozen_of_row _ _ j _ _ hrow
    have zl := some_lt hrow
    simp at z0
    go_simp
    have hrow2 := heap_setCell_same W' W5.heap.size 0 _ _ (.int .i64 (s + t)) hrow
    simp at hrow2
    have hS2 : (fun W => Below W4.heap.size W4 W /\ W.heap[wr.heap.size]? = some (.cells #[.int .i64 xk.ent, .int .i64 xk.meth, .int .i64 xk.since, .bool xk.sg1, .slice xk.sA1 xk.sn1 xk.sc1, .bool xk.sg2, .slice xk.sA2 xk.sn2 xk.sc2, .bool xk.fg1, .slice xk.fA1 xk.fn1 xk.fc1, .bool xk.fg2, .slice xk.fA2 xk.fn2 xk.fc2, .slice xk.iA xk.im xk.ic, .slice xk.hA xk.hm xk.hc] 94 (0, 0))) (W'.setCell ⟨W5.heap.size, 0, none⟩ (.int .i64 (s + t))) := ⟨hS.1.setCell (p := ⟨W5.heap.size, 0, none⟩) hq5 _, by rw [heap_setCell_other _ _ _ _ hne5]; exact hS.2⟩
    refine hK.out _ _ hS2 (fun _ => ?_)
    clear hK K
    try simp only [z]
    refine wpAnyH_done (by kernel_rfl) ?_ _
    try simp only [z]
    have Hr2 := Lib.hid hrow2
    have Hs2 := Lib.hid hS2.1
    clear hrow2 z0 zf
    go_wp2
    go_roundw
    case rel => exact ⟨k + 1, by omega, by go_num, Hs2.out, by rw [HN2.out]; exact Hr2.out⟩
    case measure => simp [intOf]; omega
   subst hlm hlo hlq hla
   refine wpAnyH_ready (rs := [1, 5]) (by kernel_rfl) (by simp) (AllReadyH.cons rfl (fun K hK => ?_) (AllReadyH.cons rfl (fun K hK => ?_) AllReadyH.nil))
   ·skip
    have z0 := cell_of_row _ _ 0 _ _ _ hrow0
    have zl := some_lt hrow0
    simp at z0
    go_simp
    clear z0 zl
    refine hK.out _ _ hV0 (fun _ => ?_)
    clear hK K
    try simp only [z]
    refine wpAnyH_ready (rs := [5]) (by kernel_rfl) (by simp) (AllReadyH.cons rfl (fun K hK => ?_) AllReadyH.nil)
    have Hc := Lib.hid (capsum2_any W0 xk.iA xk.im xk.ic yk.its hyd.hil hyd.hin hyd.hix hyd.hiA g w.heap.size (w.heap.size + 1) W3.heap.size x si (by have := hV0.1.size; omega) (by have := hV0.1.size; omega) (by have := hV0.1.size; omega) (HG5.out W0 hV0.1).1 (HG5.out W0 hV0.1).2.1 (HG5.out W0 hV0.1).2.2)
    go_simp
    refine Hc.out.mono ?_
    rw [<- HT.out]
    rintro e V1 ⟨rfl, hBc⟩
    have hVc : (fun W => Below W4.heap.size W4 W /\ W.heap[wr.heap.size]? = some (.cells #[.int .i64 xk.ent, .int .i64 xk.meth, .int .i64 xk.since, .bool xk.sg1, .slice xk.sA1 xk.sn1 xk.sc1, .bool xk.sg2, .slice xk.sA2 xk.sn2 xk.sc2, .bool xk.fg1, .slice xk.fA1 xk.fn1 xk.fc1, .bool xk.fg2, .slice xk.fA2 xk.fn2 xk.fc2, .slice xk.iA xk.im xk.ic, .slice xk.hA xk.hm xk.hc] 94 (0, 0))) V1 := ⟨hV0.1.trans (hBc.mono hV0.1.size), gbox hV0.2 hBc (some_lt hV0.2)⟩
    clear Hc
    refine hK.out _ _ hVc (fun _ => ?_)
    clear hK K
    try simp only [z]
    have hn2 := fin V1 hVc (gbox hrow0 hBc (some_lt hrow0))
    try simp only [z] at hn2
    exact hn2
   ·skip
    have Hc := Lib.hid (capsum2_any W0 xk.iA xk.im xk.ic yk.its hyd.hil hyd.hin hyd.hix hyd.hiA g w.heap.size (w.heap.size + 1) W3.heap.size x si (by have := hV0.1.size; omega) (by have := hV0.1.size; omega) (by have := hV0.1.size; omega) (HG5.out W0 hV0.1).1 (HG5.out W0 hV0.1).2.1 (HG5.out W0 hV0.1).2.2)
    go_simp
    refine Hc.out.mono ?_
    rw [<- HT.out]
    rintro e V1 ⟨rfl, hBc⟩
    have hVc : (fun W => Below W4.heap.size W4 W /\ W.heap[wr.heap.size]? = some (.cells #[.int .i64 xk.ent, .int .i64 xk.meth, .int .i64 xk.since, .bool xk.sg1, .slice xk.sA1 xk.sn1 xk.sc1, .bool xk.sg2, .slice xk.sA2 xk.sn2 xk.sc2, .bool xk.fg1, .slice xk.fA1 xk.fn1 xk.fc1, .bool xk.fg2, .slice xk.fA2 xk.fn2 xk.fc2, .slice xk.iA xk.im xk.ic, .slice xk.hA xk.hm xk.hc] 94 (0, 0))) V1 := ⟨hV0.1.trans (hBc.mono hV0.1.size), gbox hV0.2 hBc (some_lt hV0.2)⟩
    clear Hc
    refine hK.out _ _ hVc (fun _ => ?_)
    clear hK K
    try simp only [z]
    refine wpAnyH_ready (rs := [1]) (by kernel_rfl) (by simp) (AllReadyH.cons rfl (fun K hK => ?_) AllReadyH.nil)
    have hrow1 := gbox hrow0 hBc (some_lt hrow0)
    have z0 := cell_of_row _ _ 0 _ _ _ hrow1
    have zl := some_lt hrow1
    simp at z0
    go_simp
    clear z0 zl
    refine hK.out _ _ hVc (fun _ => ?_)
    clear hK K
    try simp only [z]
    have hn2 := fin V1 hVc hrow1
    try simp only [z] at hn2
    exact hn2
  ·obtain rfl : k = n := by omega
   have hrow := Hrow.out
   rw [List.take_of_length_le (by have := Hml.out; have := Hl.out; omega)] at hrow
   obtain ⟨cost, hcost⟩ : ∃ cost, cost = Gr.invest g x si false m := ⟨_, rfl⟩
   rw [<- hcost] at hrow
   rw [<- hcost] at hcap
   have z1 := cell_of_row _ _ 1 _ _ _ hrow
   have z2 := cell_of_row _ _ 2 _ _ _ hrow
   have zf := fun j => frozen_of_row _ _ j _ _ hrow
   simp at z1 z2
   have hrow6 := heap_setCell_same wr W5.heap.size 2 _ _ (.int .i64 acq) hrow
   simp at hrow6
   have hS6 := hbr.setCell (p := ⟨W5.heap.size, 2, none⟩) (show W4.heap.size <= W5.heap.size from hq5) (.int .i64 acq)
   have Hrow6 := Lib.hid hrow6
   have HS6 := Lib.hid hS6
   clear hrow hrow6 hS6 hcost Hrow
   go_upto_region 16 with (fail)
   obtain ⟨V6, hV6⟩ : ∃ V6, V6 = wr.setCell ⟨W5.heap.size, 2, none⟩ (.int .i64 acq) := ⟨_, rfl⟩
   have hrow6 := Hrow6.out
   have hS6 := HS6.out
   rw [<- hV6] at hrow6 hS6 ⊢
   clear hV6 Hrow6 HS6 z1 z2 zf
   have hco6 := gbox Hb4.out hS6 s4
   have m1 := cell_of_row _ _ 1 _ _ _ hco6
   have z1 := cell_of_row _ _ 1 _ _ _ hrow6
   simp at m1 z1
   have sc6 := some_lt hco6
   have sp6 := some_lt hrow6
   have HF6 := Lib.hid (gbox He1.out hS6 s4')
   have hB06 := hB04.trans (hS6.mono hB04.size)
   have HR6 := Lib.hid hrow6
   by_cases h3 : x0.meth = 3
   case neg =>
    have h3b : (x0.meth == 3) = false := by simp [h3]
    have HO : Hid (acq = (if y.meth = 3 then R1.rd acq y.fN y.fD else acq)) := by show _ = _; rw [if_neg (by rw [<- Hme.out]; exact h3)]
    clear h3 hrow6 hS6 hco6
    have HRg := Lib.hid (range_row (cs := [.int .i64 cost, .int .i64 acq, .int .i64 acq]) HR6.out)
    have Ho2 := Lib.hid (fig3One cost acq acq)
    have hload2 := Lib.hid (run_loadVar_row (P := Tryz.prog) _ _ _ 37 _ _ _ (setRow_heap _ (w.heap.size + 2) _ #[.int .i64 cost, .int .i64 acq, .int .i64 acq] _ _ HF6.out) Tryz.underlying37 rfl figd38Size)
    have hBF2 := Lib.hid (below_setRow hB06 (show w.heap.size <= w.heap.size + 2 by omega) #[.int .i64 cost, .int .i64 acq, .int .i64 acq])
    go_wp2_with (first | (refine wpList_load_mid rfl 37 (.tmp 10) rfl W5.heap.size 0 rfl [.int .i64 cost, .int .i64 acq, .int .i64 acq] _ HRg.out Tryz.underlying37 rfl figd38Size ?_) | (refine wpList_store_row rfl 37 (.tmp 6) (.tmp 77) none rfl rfl (w.heap.size + 2) 37 _ #[.int .i64 cost, .int .i64 acq, .int .i64 acq] rfl rfl HF6.out rfl figd38Size Ho2.out ?_))
    exact bodyPost_ret (v := .tuple #[.agg #[.int .i64 cost, .int .i64 acq, .int .i64 acq], .int .i64 0]) (by simp [results, Tryz.results16, asAddr, Act.put, hload2.out]) rfl ⟨cost, acq, acq, 0, hcap.out acq HO.out, rfl, hBF2.out⟩
   have h3b : (x0.meth == 3) = true := by simp [h3]
   obtain ⟨u, hu⟩ : ∃ u, u = R1.rd acq y.fN y.fD := ⟨_, rfl⟩
   have HU := Lib.hid hu
   have HO : Hid (u = (if y.meth = 3 then R1.rd acq y.fN y.fD else acq)) := by show _ = _; rw [if_pos (by rw [<- Hme.out]; exact h3)]; exact hu
   have hy6 := HY.out.belowD hS6 (Nat.le_refl _)
   have hfi := Lib.hid (RI.more hy6.hfi hS6.size (Nat.le_refl _) (Nat.le_refl _))
   have hfo := Lib.hid hy6.hfo
   have hsr6 : Hid (V6.rangeAt W3.heap.size 7 [.bool x0.fg1, .slice x0.fA1 x0.fn1 x0.fc1, .bool x0.fg2, .slice x0.fA2 x0.fn2 x0.fc2]) := Lib.hid (fun j v hj => by
    have hr := range_row (cs := [.int .i64 x0.ent, .int .i64 x0.meth, .int .i64 x0.since, .bool x0.sg1, .slice x0.sA1 x0.sn1 x0.sc1, .bool x0.sg2, .slice x0.sA2 x0.sn2 x0.sc2, .bool x0.fg1, .slice x0.fA1 x0.fn1 x0.fc1, .bool x0.fg2, .slice x0.fA2 x0.fn2 x0.fc2, .slice x0.iA x0.im x0.ic, .slice x0.hA x0.hm x0.hc]) hco6
    match j with
    | 0 => exact hr 7 _ (by simpa using hj)
    | 1 => exact hr 8 _ (by simpa using hj)
    | 2 => exact hr 9 _ (by simpa using hj)
    | 3 => exact hr 10 _ (by simpa using hj)
    | j + 4 => simp at hj)
   clear h3 hu hco6 hy6 hrow6
   go_upto_region 17 with (fail)
   go_wp2_with (refine wpList_load_mid rfl 92 (.tmp 68) rfl W3.heap.size 7 rfl [.bool x0.fg1, .slice x0.fA1 x0.fn1 x0.fc1, .bool x0.fg2, .slice x0.fA2 x0.fn2 x0.fc2] _ hsr6.out Tryz.underlying92 rfl ratSize ?_)
   refine (times38_any V6 acq y.fN y.fD _ _ _ _ _ _ _ _ q0 q1 hfi.out hfo.out).mono ?_
   rw [<- HU.out]
   rintro e W7 ⟨rfl, hB7⟩
   have hrow7 := gbox HR6.out hB7 sp6
   have z2 := cell_of_row _ _ 2 _ _ _ hrow7
   have zf := fun j => frozen_of_row _ _ j _ _ hrow7
   have sp7 := some_lt hrow7
   simp at z2
   have hrow8 := heap_setCell_same W7 W5.heap.size 2 _ _ (.int .i64 u) hrow7
   simp at hrow8
   have hS7 := hS6.trans (hB7.mono hS6.size)
   have hS8 := hS7.setCell (p := ⟨W5.heap.size, 2, none⟩) (show W4.heap.size <= W5.heap.size from hq5) (.int .i64 u)
   have Hrow8 := Lib.hid hrow8
   have HF8 := Lib.hid (gbox He1.out hS8 s4')
   have HB08 := Lib.hid (hB04.trans (hS8.mono hB04.size))
   clear hrow7 hrow8 hS7 hS8
   have HRg := Lib.hid (range_row (cs := [.int .i64 cost, .int .i64 acq, .int .i64 u]) Hrow8.out)
   have Ho2 := Lib.hid (fig3One cost acq u)
   have hload2 := Lib.hid (run_loadVar_row (P := Tryz.prog) _ _ _ 37 _ _ _ (setRow_heap _ (w.heap.size + 2) _ #[.int .i64 cost, .int .i64 acq, .int .i64 u] _ _ HF8.out) Tryz.underlying37 rfl figd38Size)
   have hBF2 := Lib.hid (below_setRow HB08.out (show w.heap.size <= w.heap.size + 2 by omega) #[.int .i64 cost, .int .i64 acq, .int .i64 u])
   go_wp2_with (first | (refine wpList_load_mid rfl 37 (.tmp 10) rfl W5.heap.size 0 rfl [.int .i64 cost, .int .i64 acq, .int .i64 u] _ HRg.out Tryz.underlying37 rfl figd38Size ?_) | (refine wpList_store_row rfl 37 (.tmp 6) (.tmp 77) none rfl rfl (w.heap.size + 2) 37 _ #[.int .i64 cost, .int .i64 acq, .int .i64 u] rfl rfl HF8.out rfl figd38Size Ho2.out ?_))
   exact bodyPost_ret (v := .tuple #[.agg #[.int .i64 cost, .int .i64 acq, .int .i64 u], .int .i64 0]) (by simp [results, Tryz.results16, asAddr, Act.put, hload2.out]) rfl ⟨cost, acq, u, 0, hcap.out u HO.out, rfl, hBF2.out⟩
end
end Go.Proofs.YtccapfbblnnfjaaGreat
