/- My texts CapR. -/
import Derived.Test.YtccapfbblnnfjaaGreatC47
set_option linter.unusedVariables false
set_option linter.unusedSimpArgs false
set_option maxRecDepth 100000
set_option maxHeartbeats 8000000
namespace Go.Proofs.YtccapfbblnnfjaaGreat
open Go.RowKit
def CpPost (g : Grp) (m : List Cnt) (x : Int) (w : World) (e : Ending) (w' : World) : Prop :=
 ∃ a b c er, Gr.capital g m x = ((a, b, c), er) /\ e = .returned (.tuple #[.agg #[.int .i64 a, .int .i64 b, .int .i64 c], .int .i64 er]) /\ Below w.heap.size w w'
theorem figr38Size : (Tryz.prog.info? 43).map (·.size) = some 3 := by kernel_rfl
theorem fig3One (a b c : Int) : (#[.int .i64 a, .int .i64 b, .int .i64 c] : Array Value).all (·.oneCell') = true := by simp [Value.oneCell']
theorem Cn.elim_hold {P : Con -> Cnt -> Prop} (hP : ∀ a b, P a b -> a.ent = b.ent /\ a.meth = b.meth) (x : Int) {l : List Con} {m : List Cnt} (h : Hold P l m) :
  (Cn.isElim l x = false /\ Gr.elim m x = none) ∨ ∃ y, Cn.isElim l x = true /\ Gr.elim m x = some y /\ Cn.cfind m x = some y /\ P (Cn.found l x) y /\ x ≠ 0 /\ (y.meth = 3 ∨ y.meth = 2) := by
 rcases Cn.find_hold (P := P) (fun a b h => (hP a b h).1) x h with ⟨h1, h2⟩ | ⟨a, b, h1, h2, h3⟩
 ·exact .inl ⟨by simp [Cn.isElim, Cn.has, h1], by simp [Gr.elim, h2]⟩
 ·have hf : Cn.found l x = a := by rw [Cn.found, h1]; rfl
  have hh : Cn.has l x = true := by simp [Cn.has, h1]
  have hm := (hP a b h3).2
  by_cases hc : x ≠ 0 /\ (b.meth = 3 ∨ b.meth = 2)
  ·refine .inr ⟨b, ?_, by simp [Gr.elim, h2, hc], h2, by rw [hf]; exact h3, hc.1, hc.2⟩
   rw [Cn.isElim, hh, hf, hm]
   rcases hc.2 with e | e <;> simp [hc.1, e]
  ·refine .inl ⟨?_, by simp only [Gr.elim, h2]; rw [if_neg hc]⟩
   rw [Cn.isElim, hh, hf, hm]
   by_cases h0 : x = 0
   ·simp [h0]
   ·have h3 : ¬ b.meth = 3 := fun e => hc ⟨h0, .inl e⟩
    have h2 : ¬ b.meth = 2 := fun e => hc ⟨h0, .inr e⟩
    simp [h3, h2]
section
variable (w : World)
theorem capr_any (g : Grp) (A : Option Addr) (n c : Nat) (l : List Con) (m : List Cnt) (x : Int) (hl : l.length = n) (hn : n <= 100) (hA : ConsAt w w.heap.size A l) (hm : Hold (fun a b => a.Holds SR w w.heap.size b) l m) (hg : g.At w w.heap.size) :
  Calls Tryz.prog 18 #[.agg #[.string g.cur, .int .i64 g.Y, .int .i64 g.M, .int .i64 g.N, .slice g.cA g.cn g.cc, .int .i64 g.r0, .int .i64 g.r1, .int .i64 g.r2, .int .i64 g.r3, .int .i64 g.r4, .int .i64 g.r5, .int .i64 g.r6, .int .i64 g.r7, .int .i64 g.r8, .int .i64 g.r9, .int .i64 g.r10, .int .i64 g.r11, .int .i64 g.r12, .int .i64 g.r13, .int .i64 g.r14, .slice g.eA g.en g.ec], .slice A n c, .int .i64 x] w (CpPost g m x w) := by
 obtain ⟨W1, hW1, hB0, hb0, hb1, hz⟩ := nw2 w #[.string g.cur, .int .i64 g.Y, .int .i64 g.M, .int .i64 g.N, .slice g.cA g.cn g.cc, .int .i64 g.r0, .int .i64 g.r1, .int .i64 g.r2, .int .i64 g.r3, .int .i64 g.r4, .int .i64 g.r5, .int .i64 g.r6, .int .i64 g.r7, .int .i64 g.r8, .int .i64 g.r9, .int .i64 g.r10, .int .i64 g.r11, .int .i64 g.r12, .int .i64 g.r13, .int .i64 g.r14, .slice g.eA g.en g.ec] #[.int .i64 0, .int .i64 0, .int .i64 0] 29 43
 have HW := Lib.hid hW1
 have Hb0 := Lib.hid hb0
 have Hb1 := Lib.hid hb1
 have hrg := Lib.hid (grp_range hb0)
 have s1 : w.heap.size < W1.heap.size := by omega
 have s1' : w.heap.size + 1 < W1.heap.size := by omega
 have hg1 := hg.at_ hB0
 have HA := Lib.hid (RowsAt.at_ hA hB0)
 have HM := Lib.hid (hm.imp (Q := fun a b => a.Holds SR W1 W1.heap.size b) fun _ _ h => h.atR hB0)
 have Hl := Lib.hid hl
 have Ho := Lib.hid (fig3One 0 0 0)
 have hfin : ∀ (W : World) (h : W.heap[w.heap.size + 1]? = some (.cells #[.int .i64 0, .int .i64 0, .int .i64 0] 43 (0, 0))), Hid ((loadVar 43 ⟨w.heap.size + 1, 0, none⟩).run Tryz.prog (W.setRow (w.heap.size + 1) #[.int .i64 0, .int .i64 0, .int .i64 0]) = .ok (.agg #[.int .i64 0, .int .i64 0, .int .i64 0]) (W.setRow (w.heap.size + 1) #[.int .i64 0, .int .i64 0, .int .i64 0])) := fun W h =>
  Lib.hid (run_loadVar_row (P := Tryz.prog) _ _ _ 43 _ _ _ (setRow_heap W (w.heap.size + 1) _ #[.int .i64 0, .int .i64 0, .int .i64 0] _ _ h) Tryz.underlying43 rfl figr38Size)
 have Hfin := Lib.hid hfin
 clear hW1 hz hb0 hb1 hg hA hm hl hfin
 go_enter Tryz.func18, Tryz.ntmps18
 go_upto_region 1 with (fail)
 rw [<- HW.out]
 go_wp2_with (refine wpList_load_mid rfl 29 (.tmp 3) rfl w.heap.size 0 rfl _ _ hrg.out Tryz.underlying29 rfl grpSize ?_)
 refine (check_any W1 g x hg1).mono ?_
 rintro e W2 ⟨rfl, hB2⟩
 have hB02 := hB0.trans (hB2.mono hB0.size)
 have Hc0 := Lib.hid (gbox Hb0.out hB2 s1)
 have Hc1 := Lib.hid (gbox Hb1.out hB2 s1')
 have Hg2 := Lib.hid (hg1.at_ hB2)
 have HA2 := Lib.hid (RowsAt.at_ HA.out hB2)
 have HM2 := Lib.hid (HM.out.imp (Q := fun a b => a.Holds SR W2 W2.heap.size b) fun _ _ h => h.atR hB2)
 obtain ⟨er, her⟩ : ∃ er, er = Gr.check g x := ⟨_, rfl⟩
 rw [<- her]
 have Her := Lib.hid her
 clear her hg1
 by_cases he : er = 0
 case neg =>
  have heb : (er != 0) = true := by simp [he]
  have HV : Hid (Gr.capital g m x = ((0, 0, 0), er)) := by show _ = _; rw [Gr.capital, if_pos (by rw [<- Her.out]; exact he), <- Her.out]
  have hload := Hfin.out W2 Hc1.out
  have hBF := Lib.hid (below_setRow hB02 (show w.heap.size <= w.heap.size + 1 by omega) #[.int .i64 0, .int .i64 0, .int .i64 0])
  clear he
  go_wp2_with (refine wpList_store_row rfl 43 (.tmp 6) (.tmp 19) none rfl rfl (w.heap.size + 1) 43 _ #[.int .i64 0, .int .i64 0, .int .i64 0] rfl rfl Hc1.out rfl figr38Size Ho.out ?_)
  exact bodyPost_ret (v := .tuple #[.agg #[.int .i64 0, .int .i64 0, .int .i64 0], .int .i64 er]) (by simp [results, Tryz.results18, asAddr, Act.put, hload.out]) rfl ⟨0, 0, 0, er, HV.out, rfl, hBF.out⟩
 subst he
 have hfnd := Cn.elim_hold (P := fun a b => a.Holds SR W2 W2.heap.size b) (fun _ _ h => ⟨h.he, h.hm⟩) x HM2.out
 have HF := Lib.hid hfnd
 clear hfnd
 go_wp2_with (fail)
 refine (elimr_any W2 A n c l x Hl.out hn HA2.out).mono ?_
 rintro e W3 ⟨rfl, hB3⟩
 have hB03 := hB02.trans (hB3.mono hB02.size)
 obtain ⟨x0, hx0⟩ : ∃ x0, x0 = Cn.found l x := ⟨_, rfl⟩
 obtain ⟨ok, hok⟩ : ∃ ok, ok = Cn.isElim l x := ⟨_, rfl⟩
 rw [<- hx0, <- hok]
 have HX := Lib.hid hx0
 have HK := Lib.hid hok
 have hd0 := gbox Hc0.out hB3 (some_lt Hc0.out)
 have hd1 := gbox Hc1.out hB3 (some_lt Hc1.out)
 obtain ⟨hB4, hb4, hz4⟩ := row_new W3 #[.int .i64 x0.ent, .int .i64 x0.meth, .int .i64 x0.since, .bool x0.sg1, .slice x0.sA1 x0.sn1 x0.sc1, .bool x0.sg2, .slice x0.sA2 x0.sn2 x0.sc2, .bool x0.fg1, .slice x0.fA1 x0.fn1 x0.fc1, .bool x0.fg2, .slice x0.fA2 x0.fn2 x0.fc2, .slice x0.iA x0.im x0.ic, .slice x0.hA x0.hm x0.hc] 62
 have hB04 := hB03.trans (hB4.mono hB03.size)
 have He0 := Lib.hid (gbox hd0 hB4 (some_lt hd0))
 have He1 := Lib.hid (gbox hd1 hB4 (some_lt hd1))
 have hq3 := hB03.size
 obtain ⟨W4, hW4⟩ : ∃ W4, W4 = W3.alloc (.cells #[.int .i64 x0.ent, .int .i64 x0.meth, .int .i64 x0.since, .bool x0.sg1, .slice x0.sA1 x0.sn1 x0.sc1, .bool x0.sg2, .slice x0.sA2 x0.sn2 x0.sc2, .bool x0.fg1, .slice x0.fA1 x0.fn1 x0.fc1, .bool x0.fg2, .slice x0.fA2 x0.fn2 x0.fc2, .slice x0.iA x0.im x0.ic, .slice x0.hA x0.hm x0.hc] 62) := ⟨_, rfl⟩
 rw [<- hW4] at hB4 hb4 hz4 hB04 He0 He1
 have HW4 := Lib.hid hW4
 have Hb4 := Lib.hid hb4
 have x1 := cell_of_row _ _ 1 _ _ _ hb4
 simp at x1
 have s4 : W3.heap.size < W4.heap.size := by omega
 have s4' : w.heap.size + 1 < W4.heap.size := some_lt He1.out
 have hload := Hfin.out W4 He1.out
 have hBF := Lib.hid (below_setRow hB04 (show w.heap.size <= w.heap.size + 1 by omega) #[.int .i64 0, .int .i64 0, .int .i64 0])
 clear hx0 hok hd0 hd1 hb4 hz4 hW4
 go_upto_region 5 with (fail)
 rw [<- HW4.out]
 by_cases hko : ok = true
 case neg =>
  have hko' : ok = false := by simpa using hko
  have HV : Hid (Gr.capital g m x = ((0, 0, 0), 0)) := by
   show _ = _
   rw [Gr.capital, if_neg (by rw [<- Her.out]; simp)]
   rcases HF.out with ⟨_, h2⟩ | ⟨y, h1, _⟩
   ·rw [h2]
   ·have := HK.out; rw [hko', h1] at this; cases this
  rw [hko']
  clear hko hko'
  go_wp2_with (refine wpList_store_row rfl 43 (.tmp 6) (.tmp 29) none rfl rfl (w.heap.size + 1) 43 _ #[.int .i64 0, .int .i64 0, .int .i64 0] rfl rfl He1.out rfl figr38Size Ho.out ?_)
  exact bodyPost_ret (v := .tuple #[.agg #[.int .i64 0, .int .i64 0, .int .i64 0], .int .i64 0]) (by simp [results, Tryz.results18, asAddr, Act.put, hload.out]) rfl ⟨0, 0, 0, 0, HV.out, rfl, hBF.out⟩
 subst hko
 obtain ⟨y, hel, hyh, hx0ne, hmm⟩ : ∃ y, Gr.elim m x = some y /\ x0.Holds SR W4 W4.heap.size y /\ x ≠ 0 /\ (y.meth = 3 ∨ y.meth = 2) := by
  rcases HF.out with ⟨h1, h2⟩ | ⟨y, h1, h2, _, h3, h4, h5⟩
  ·have := HK.out; rw [h1] at this; cases this
  ·exact ⟨y, h2, by rw [HX.out]; exact (h3.atR hB3).atR hB4, h4, h5⟩
 have HEL := Lib.hid hel
 have HY := Lib.hid hyh
 have Hme := Lib.hid hyh.hm
 have hsi := hyh.hs
 obtain ⟨cost, hcost⟩ : ∃ cost, cost = Gr.invest g x y.since false m := ⟨_, rfl⟩
 obtain ⟨acq, hacq⟩ : ∃ acq, acq = Gr.sumOf (Gr.isOn g.r7) y.its := ⟨_, rfl⟩
 have HC := Lib.hid hcost
 have HQ := Lib.hid hacq
 have hqb := Gr.sumOf_bd (Gr.isOn g.r7) y.its hyh.hix
 rw [<- hacq] at hqb
 have hlen := hyh.hil
 have hin := hyh.hin
 obtain ⟨q0, q1⟩ : -100000000000000 <= acq /\ acq <= 100000000000000 := by omega
 have hg4 := Lib.hid ((Hg2.out.at_ hB3).at_ hB4)
 have hgr4 := Lib.hid (grp_range He0.out)
 have hco4 := Lib.hid (range_row (cs := [.int .i64 x0.ent, .int .i64 x0.meth, .int .i64 x0.since, .bool x0.sg1, .slice x0.sA1 x0.sn1 x0.sc1, .bool x0.sg2, .slice x0.sA2 x0.sn2 x0.sc2, .bool x0.fg1, .slice x0.fA1 x0.fn1 x0.fc1, .bool x0.fg2, .slice x0.fA2 x0.fn2 x0.fc2, .slice x0.iA x0.im x0.ic, .slice x0.hA x0.hm x0.hc]) Hb4.out)
 have x2 := Lib.hid (show W4.cell? ⟨W3.heap.size, 2, none⟩ = some (.int .i64 x0.since) from hco4.out 2 _ rfl)
 have x11 := Lib.hid (show W4.cell? ⟨W3.heap.size, 11, none⟩ = some (.slice x0.iA x0.im x0.ic) from hco4.out 11 _ rfl)
 have g12 := Lib.hid (show W4.cell? ⟨w.heap.size, 12, none⟩ = some (.int .i64 g.r7) from hgr4.out 12 _ rfl)
 have HA4 := Lib.hid (RowsAt.at_ (RowsAt.at_ HA2.out hB3) hB4)
 have HM4 := Lib.hid ((HM2.out.imp (Q := fun a b => a.Holds SR W3 W3.heap.size b) fun _ _ h => h.atR hB3).imp (Q := fun a b => a.Holds SR W4 W4.heap.size b) fun _ _ h => h.atR hB4)
 have swx : w.heap.size < W4.heap.size := by omega
 have hS : Below W4.heap.size W4 W4.drew := below_drawn (Below.refl _ _) 1
 have hcap : Hid (∀ o, o = (if y.meth = 3 then R1.rd acq y.fN y.fD else acq) -> Gr.capital g m x = ((cost, acq, o), 0)) := Lib.hid fun o ho => by
  rw [Gr.capital, if_neg (by rw [<- Her.out]; simp), HEL.out]
  simp only []
  have e : Gr.sumOf (fun a => decide (a = g.r7)) y.its = acq := HQ.out.symm
  rw [e, <- HC.out, ho]
 rw [<- hsi] at hcost
 have HC2 := Lib.hid hcost
 clear hel hyh hacq hqb hlen hcost hx0ne hsi
 go_upto_region 7 with (fail)
 refine wp_region_held (S := Below W4.heap.size W4) (by kernel_rfl) ?_
 change wpAnyH _ _ _ _ _ _ _ _ (World.drew W4)
 obtain ⟨W0, hWd⟩ : ∃ W0, W0 = W4.drew := ⟨_, rfl⟩
 rw [<- hWd] at hS ⊢
 clear hWd
 refine tk (i := 0) (v := .agg #[.string g.cur, .int .i64 g.Y, .int .i64 g.M, .int .i64 g.N, .slice g.cA g.cn g.cc, .int .i64 g.r0, .int .i64 g.r1, .int .i64 g.r2, .int .i64 g.r3, .int .i64 g.r4, .int .i64 g.r5, .int .i64 g.r6, .int .i64 g.r7, .int .i64 g.r8, .int .i64 g.r9, .int .i64 g.r10, .int .i64 g.r11, .int .i64 g.r12, .int .i64 g.r13, .int .i64 g.r14, .slice g.eA g.en g.ec]) rfl (by kernel_rfl) (fun _ _ _ h => h) (yieldsIf_load_mid (by rfl) 29 _ rfl w.heap.size 0 rfl [.string g.cur, .int .i64 g.Y, .int .i64 g.M, .int .i64 g.N, .slice g.cA g.cn g.cc, .int .i64 g.r0, .int .i64 g.r1, .int .i64 g.r2, .int .i64 g.r3, .int .i64 g.r4, .int .i64 g.r5, .int .i64 g.r6, .int .i64 g.r7, .int .i64 g.r8, .int .i64 g.r9, .int .i64 g.r10, .int .i64 g.r11, .int .i64 g.r12, .int .i64 g.r13, .int .i64 g.r14, .slice g.eA g.en g.ec] _ (fun W' hS' => range_below hgr4.out hS' swx) Tryz.underlying29 rfl grpSize) hS ?_
 try simp only [z]
 refine tk (i := 1) (v := .slice A n c) rfl (by kernel_rfl) (fun _ _ _ h => h) (.inl ⟨by rfl, fun W' hS' => by go_simp⟩) hS ?_
 try simp only [z]
 refine tk (i := 2) (v := .int .i64 x) rfl (by kernel_rfl) (fun _ _ _ h => h) (.inl ⟨by rfl, fun W' hS' => by go_simp⟩) hS ?_
 try simp only [z]
 refine tk (i := 3) (v := .pointer (some ⟨W3.heap.size, 2, none⟩)) rfl (by kernel_rfl) (fun _ _ _ h => h) (.inl ⟨by rfl, fun W' hS' => by go_simp⟩) hS ?_
 try simp only [z]
 refine tk (i := 4) (v := .int .i64 x0.since) rfl (by kernel_rfl) (fun _ _ _ h => h) (.inl ⟨by rfl, fun W' hS' => by have hc := (hS'.cell (p := ⟨W3.heap.size, 2, none⟩) s4).trans x2.out; go_simp⟩) hS ?_
 try simp only [z]
 refine tk (i := 6) (v := .pointer (some ⟨W3.heap.size, 11, none⟩)) rfl (by kernel_rfl) (fun _ _ _ h => h) (.inl ⟨by rfl, fun W' hS' => by go_simp⟩) hS ?_
 try simp only [z]
 refine tk (i := 7) (v := .slice x0.iA x0.im x0.ic) rfl (by kernel_rfl) (fun _ _ _ h => h) (.inl ⟨by rfl, fun W' hS' => by have hc := (hS'.cell (p := ⟨W3.heap.size, 11, none⟩) s4).trans x11.out; go_simp⟩) hS ?_
 try simp only [z]
 refine tk (i := 8) (v := .pointer (some ⟨w.heap.size, 5, none⟩)) rfl (by kernel_rfl) (fun _ _ _ h => h) (.inl ⟨by rfl, fun W' hS' => by go_simp⟩) hS ?_
 try simp only [z]
 refine tk (i := 9) (v := .pointer (some ⟨w.heap.size, 12, none⟩)) rfl (by kernel_rfl) (fun _ _ _ h => h) (.inl ⟨by rfl, fun W' hS' => by go_simp⟩) hS ?_
 try simp only [z]
 refine tk (i := 10) (v := .int .i64 g.r7) rfl (by kernel_rfl) (fun _ _ _ h => h) (.inl ⟨by rfl, fun W' hS' => by have hc := (hS'.cell (p := ⟨w.heap.size, 12, none⟩) swx).trans g12.out; go_simp⟩) hS ?_
 try simp only [z]
 refine wpAnyH_letters fun md' ops' Q' a' hlm hlo hlq hla => ?_
 have fin : ∀ (W' : World) (p : Nat), Below W4.heap.size W4 W' -> W'.heap[p]? = some (.cells #[.int .i64 0, .int .i64 0, .int .i64 0] 43 (0, 0)) -> W4.heap.size <= p -> wpAnyH Tryz.prog md' ops' Q' (Below W4.heap.size W4) 1 #[true, true, true, true, true, true, true, true, true, true, true, true, true, true, false] ((((a'.put (some 35) (.int .i64 cost)).put (some 41) (.int .i64 acq)).put (some 42) (.agg #[.int .i64 cost, .int .i64 acq, .int .i64 0])).put (some 11) (.pointer (some ⟨p, 0, none⟩))) W' := by
  intro W' p hS' hrow hp
  subst hlm hlo hlq hla
  try simp only [z]
  refine wpAnyH_ready (rs := [14]) (by kernel_rfl) (by simp) (AllReadyH.cons rfl (fun K hK => ?_) AllReadyH.nil)
  rw [if_pos (by rfl)]
  refine wp_store_row 43 _ _ none rfl rfl p 43 _ #[.int .i64 cost, .int .i64 acq, .int .i64 0] rfl rfl hrow rfl figr38Size (fig3One _ _ _) ?_
  have hrow5 := setRow_heap W' p _ #[.int .i64 cost, .int .i64 acq, .int .i64 0] _ _ hrow
  have hS5 := below_setRow hS' hp #[.int .i64 cost, .int .i64 acq, .int .i64 0]
  refine hK.out _ _ hS5 (fun _ => ?_)
  clear hK K
  try simp only [z]
  refine wpAnyH_done (by kernel_rfl) ?_ _
  try simp only [z]
  obtain ⟨W5, hW5⟩ : ∃ W5, W5 = W'.setRow p #[.int .i64 cost, .int .i64 acq, .int .i64 0] := ⟨_, rfl⟩
  rw [<- hW5] at hrow5 hS5 ⊢
  clear hW5 hrow hS'
  have z1 := cell_of_row _ _ 1 _ _ _ hrow5
  have z2 := cell_of_row _ _ 2 _ _ _ hrow5
  have zf := fun j => frozen_of_row _ _ j _ _ hrow5
  have sp := some_lt hrow5
  simp at z1 z2
  have hrow6 := heap_setCell_same W5 p 2 _ _ (.int .i64 acq) hrow5
  simp at hrow6
  have hS6 := hS5.setCell (p := ⟨p, 2, none⟩) hp (.int .i64 acq)
  have Hrow6 := Lib.hid hrow6
  have HS6 := Lib.hid hS6
  clear hrow5 hrow6 hS5 hS6
  go_upto_region 9 with (fail)
  obtain ⟨W6, hW6⟩ : ∃ W6, W6 = W5.setCell ⟨p, 2, none⟩ (.int .i64 acq) := ⟨_, rfl⟩
  have hrow6 := Hrow6.out
  have hS6 := HS6.out
  rw [<- hW6] at hrow6 hS6 ⊢
  clear hW6 Hrow6 HS6 z1 z2 zf
  have hco6 := gbox Hb4.out hS6 s4
  have m1 := cell_of_row _ _ 1 _ _ _ hco6
  have z1 := cell_of_row _ _ 1 _ _ _ hrow6
  simp at m1 z1
  have sc6 := some_lt hco6
  have sp6 := some_lt hrow6
  have HF6 := Lib.hid (gbox He1.out hS6 s4')
  have hB06 := hB04.trans (hS6.mono hB04.size)
  have HR6 := Lib.hid hrow6
  by_cases h3 : x0.meth = 3
  case neg =>
   have h3b : (x0.meth == 3) = false := by simp [h3]
   have HO : Hid (acq = (if y.meth = 3 then R1.rd acq y.fN y.fD else acq)) := by show _ = _; rw [if_neg (by rw [<- Hme.out]; exact h3)]
   clear h3 hrow6 hS6 hco6
   have HRg := Lib.hid (range_row (cs := [.int .i64 cost, .int .i64 acq, .int .i64 acq]) HR6.out)
   have Ho2 := Lib.hid (fig3One cost acq acq)
   have hload2 := Lib.hid (run_loadVar_row (P := Tryz.prog) _ _ _ 43 _ _ _ (setRow_heap _ (w.heap.size + 1) _ #[.int .i64 cost, .int .i64 acq, .int .i64 acq] _ _ HF6.out) Tryz.underlying43 rfl figr38Size)
   have hBF2 := Lib.hid (below_setRow hB06 (show w.heap.size <= w.heap.size + 1 by omega) #[.int .i64 cost, .int .i64 acq, .int .i64 acq])
   go_wp2_with (first | (refine wpList_load_mid rfl 43 (.tmp 11) rfl p 0 rfl [.int .i64 cost, .int .i64 acq, .int .i64 acq] _ HRg.out Tryz.underlying43 rfl figr38Size ?_) | (refine wpList_store_row rfl 43 (.tmp 6) (.tmp 62) none rfl rfl (w.heap.size + 1) 43 _ #[.int .i64 cost, .int .i64 acq, .int .i64 acq] rfl rfl HF6.out rfl figr38Size Ho2.out ?_))
   exact bodyPost_ret (v := .tuple #[.agg #[.int .i64 cost, .int .i64 acq, .int .i64 acq], .int .i64 0]) (by simp [results, Tryz.results18, asAddr, Act.put, hload2.out]) rfl ⟨cost, acq, acq, 0, hcap.out acq HO.out, rfl, hBF2.out⟩
  have h3b : (x0.meth == 3) = true := by simp [h3]
  obtain ⟨u, hu⟩ : ∃ u, u = R1.rd acq y.fN y.fD := ⟨_, rfl⟩
  have HU := Lib.hid hu
  have HO : Hid (u = (if y.meth = 3 then R1.rd acq y.fN y.fD else acq)) := by show _ = _; rw [if_pos (by rw [<- Hme.out]; exact h3)]; exact hu
  have hy6 := HY.out.atR hS6
  have hfo := Lib.hid hy6.hfo
  have hfi := Lib.hid hy6.hfi
  have hub := rd_small hy6.hfo q0 q1
  rw [<- hu] at hub
  have hsr6 : Hid (W6.rangeAt W3.heap.size 7 [.bool x0.fg1, .slice x0.fA1 x0.fn1 x0.fc1, .bool x0.fg2, .slice x0.fA2 x0.fn2 x0.fc2]) := Lib.hid (fun j v hj => by
   have hr := range_row (cs := [.int .i64 x0.ent, .int .i64 x0.meth, .int .i64 x0.since, .bool x0.sg1, .slice x0.sA1 x0.sn1 x0.sc1, .bool x0.sg2, .slice x0.sA2 x0.sn2 x0.sc2, .bool x0.fg1, .slice x0.fA1 x0.fn1 x0.fc1, .bool x0.fg2, .slice x0.fA2 x0.fn2 x0.fc2, .slice x0.iA x0.im x0.ic, .slice x0.hA x0.hm x0.hc]) hco6
   match j with
   | 0 => exact hr 7 _ (by simpa using hj)
   | 1 => exact hr 8 _ (by simpa using hj)
   | 2 => exact hr 9 _ (by simpa using hj)
   | 3 => exact hr 10 _ (by simpa using hj)
   | j + 4 => simp at hj)
  clear h3 hu hco6 hy6 hrow6
  go_upto_region 10 with (fail)
  go_wp2_with (refine wpList_load_mid rfl 59 (.tmp 52) rfl W3.heap.size 7 rfl [.bool x0.fg1, .slice x0.fA1 x0.fn1 x0.fc1, .bool x0.fg2, .slice x0.fA2 x0.fn2 x0.fc2] _ hsr6.out Tryz.underlying59 rfl ratSize ?_)
  refine (R1.round_any W6 5 5 _ acq y.fN y.fD (by omega) (by omega) hfo.out.1 (by omega) (by omega) (by rw [<- HU.out]; omega) (by rw [<- HU.out]; omega) hfi.out).mono ?_
  rw [<- HU.out]
  rintro e W7 ⟨rfl, hB7⟩
  have hrow7 := gbox HR6.out hB7 sp6
  have z2 := cell_of_row _ _ 2 _ _ _ hrow7
  have zf := fun j => frozen_of_row _ _ j _ _ hrow7
  have sp7 := some_lt hrow7
  simp at z2
  have hrow8 := heap_setCell_same W7 p 2 _ _ (.int .i64 u) hrow7
  simp at hrow8
  have hS7 := hS6.trans (hB7.mono hS6.size)
  have hS8 := hS7.setCell (p := ⟨p, 2, none⟩) hp (.int .i64 u)
  have Hrow8 := Lib.hid hrow8
  have HF8 := Lib.hid (gbox He1.out hS8 s4')
  have HB08 := Lib.hid (hB04.trans (hS8.mono hB04.size))
  clear hrow7 hrow8 hS7 hS8
  have HRg := Lib.hid (range_row (cs := [.int .i64 cost, .int .i64 acq, .int .i64 u]) Hrow8.out)
  have Ho2 := Lib.hid (fig3One cost acq u)
  have hload2 := Lib.hid (run_loadVar_row (P := Tryz.prog) _ _ _ 43 _ _ _ (setRow_heap _ (w.heap.size + 1) _ #[.int .i64 cost, .int .i64 acq, .int .i64 u] _ _ HF8.out) Tryz.underlying43 rfl figr38Size)
  have hBF2 := Lib.hid (below_setRow HB08.out (show w.heap.size <= w.heap.size + 1 by omega) #[.int .i64 cost, .int .i64 acq, .int .i64 u])
  go_wp2_with (first | (refine wpList_load_mid rfl 43 (.tmp 11) rfl p 0 rfl [.int .i64 cost, .int .i64 acq, .int .i64 u] _ HRg.out Tryz.underlying43 rfl figr38Size ?_) | (refine wpList_store_row rfl 43 (.tmp 6) (.tmp 62) none rfl rfl (w.heap.size + 1) 43 _ #[.int .i64 cost, .int .i64 acq, .int .i64 u] rfl rfl HF8.out rfl figr38Size Ho2.out ?_))
  exact bodyPost_ret (v := .tuple #[.agg #[.int .i64 cost, .int .i64 acq, .int .i64 u], .int .i64 0]) (by simp [results, Tryz.results18, asAddr, Act.put, hload2.out]) rfl ⟨cost, acq, u, 0, hcap.out u HO.out, rfl, hBF2.out⟩
 subst hlm hlo hlq hla
 refine wpAnyH_ready (rs := [5, 13]) (by kernel_rfl) (by simp) (AllReadyH.cons rfl (fun K hK => ?_) (AllReadyH.cons rfl (fun K hK => ?_) AllReadyH.nil))
 ·skip
  have Hc := Lib.hid (invr_any W0 g A n c l m x x0.since false Hl.out hn (RowsAt.at_ HA4.out hS) (HM4.out.imp (Q := fun a b => a.Holds SR W0 W0.heap.size b) fun _ _ h => h.atR hS) (hg4.out.at_ hS))
  go_simp
  refine Hc.out.mono ?_
  rw [<- HC2.out]
  rintro e V1 ⟨rfl, hBi⟩
  have hVi := hS.trans (hBi.mono hS.size)
  clear Hc
  refine hK.out _ _ hVi (fun _ => ?_)
  clear hK K
  try simp only [z]
  refine wpAnyH_ready (rs := [11, 13]) (by kernel_rfl) (by simp) (AllReadyH.cons rfl (fun K hK => ?_) (AllReadyH.cons rfl (fun K hK => ?_) AllReadyH.nil))
  ·skip
   have Hc := Lib.hid (on38_any V1 x0.iA x0.im x0.ic y.its g.r7 HY.out.hil (by omega) HY.out.hix (RowsAt.at_ HY.out.hiA hVi))
   go_simp
   refine Hc.out.mono ?_
   rw [<- HQ.out]
   rintro e V2 ⟨rfl, hBn⟩
   have hVn := hVi.trans (hBn.mono hVi.size)
   clear Hc
   refine hK.out _ _ hVn (fun _ => ?_)
   clear hK K
   try simp only [z]
   refine tk (i := 12) (v := .agg #[.int .i64 cost, .int .i64 acq, .int .i64 0]) rfl (by kernel_rfl) (fun _ _ _ h => h) (.inl ⟨by rfl, fun W' hS' => by go_simp⟩) hVn ?_
   try simp only [z]
   refine wpAnyH_ready (rs := [13]) (by kernel_rfl) (by simp) (AllReadyH.cons rfl (fun K hK => ?_) AllReadyH.nil)
   obtain ⟨hBa, hrw, _⟩ := row_new V2 #[.int .i64 0, .int .i64 0, .int .i64 0] 43
   go_simp
   obtain ⟨V3, hWn⟩ : ∃ V3, V3 = V2.alloc (.cells #[.int .i64 0, .int .i64 0, .int .i64 0] 43) := ⟨_, rfl⟩
   rw [<- hWn] at hBa hrw ⊢
   clear hWn
   have hVa := hVn.trans (hBa.mono hVn.size)
   refine hK.out _ _ hVa (fun _ => ?_)
   clear hK K
   try simp only [z]
   have hn2 := fin V3 V2.heap.size hVa hrw hVn.size
   try simp only [z] at hn2
   exact hn2
  ·skip
   obtain ⟨hBa, hrw, _⟩ := row_new V1 #[.int .i64 0, .int .i64 0, .int .i64 0] 43
   go_simp
   obtain ⟨V2, hWn⟩ : ∃ V2, V2 = V1.alloc (.cells #[.int .i64 0, .int .i64 0, .int .i64 0] 43) := ⟨_, rfl⟩
   rw [<- hWn] at hBa hrw ⊢
   clear hWn
   have hVa := hVi.trans (hBa.mono hVi.size)
   refine hK.out _ _ hVa (fun _ => ?_)
   clear hK K
   try simp only [z]
   refine wpAnyH_ready (rs := [11]) (by kernel_rfl) (by simp) (AllReadyH.cons rfl (fun K hK => ?_) AllReadyH.nil)
   have Hc := Lib.hid (on38_any V2 x0.iA x0.im x0.ic y.its g.r7 HY.out.hil (by omega) HY.out.hix (RowsAt.at_ HY.out.hiA hVa))
   go_simp
   refine Hc.out.mono ?_
   rw [<- HQ.out]
   rintro e V3 ⟨rfl, hBn⟩
   have hVn := hVa.trans (hBn.mono hVa.size)
   clear Hc
   refine hK.out _ _ hVn (fun _ => ?_)
   clear hK K
   try simp only [z]
   refine tk (i := 12) (v := .agg #[.int .i64 cost, .int .i64 acq, .int .i64 0]) rfl (by kernel_rfl) (fun _ _ _ h => h) (.inl ⟨by rfl, fun W' hS' => by go_simp⟩) hVn ?_
   try simp only [z]
   have hn2 := fin V3 V1.heap.size hVn (gbox hrw hBn (some_lt hrw)) hVi.size
   try simp only [z] at hn2
   exact hn2
 ·skip
  obtain ⟨hBa, hrw, _⟩ := row_new W0 #[.int .i64 0, .int .i64 0, .int .i64 0] 43
  go_simp
  obtain ⟨V1, hWn⟩ : ∃ V1, V1 = W0.alloc (.cells #[.int .i64 0, .int .i64 0, .int .i64 0] 43) := ⟨_, rfl⟩
  rw [<- hWn] at hBa hrw ⊢
  clear hWn
  have hVa := hS.trans (hBa.mono hS.size)
  refine hK.out _ _ hVa (fun _ => ?_)
  clear hK K
  try simp only [z]
  refine wpAnyH_ready (rs := [5]) (by kernel_rfl) (by simp) (AllReadyH.cons rfl (fun K hK => ?_) AllReadyH.nil)
  have Hc := Lib.hid (invr_any V1 g A n c l m x x0.since false Hl.out hn (RowsAt.at_ HA4.out hVa) (HM4.out.imp (Q := fun a b => a.Holds SR V1 V1.heap.size b) fun _ _ h => h.atR hVa) (hg4.out.at_ hVa))
  go_simp
  refine Hc.out.mono ?_
  rw [<- HC2.out]
  rintro e V2 ⟨rfl, hBi⟩
  have hVi := hVa.trans (hBi.mono hVa.size)
  clear Hc
  refine hK.out _ _ hVi (fun _ => ?_)
  clear hK K
  try simp only [z]
  refine wpAnyH_ready (rs := [11]) (by kernel_rfl) (by simp) (AllReadyH.cons rfl (fun K hK => ?_) AllReadyH.nil)
  have Hc := Lib.hid (on38_any V2 x0.iA x0.im x0.ic y.its g.r7 HY.out.hil (by omega) HY.out.hix (RowsAt.at_ HY.out.hiA hVi))
  go_simp
  refine Hc.out.mono ?_
  rw [<- HQ.out]
  rintro e V3 ⟨rfl, hBn⟩
  have hVn := hVi.trans (hBn.mono hVi.size)
  clear Hc
  refine hK.out _ _ hVn (fun _ => ?_)
  clear hK K
  try simp only [z]
  refine tk (i := 12) (v := .agg #[.int .i64 cost, .int .i64 acq, .int .i64 0]) rfl (by kernel_rfl) (fun _ _ _ h => h) (.inl ⟨by rfl, fun W' hS' => by go_simp⟩) hVn ?_
  try simp only [z]
  have hn2 := fin V3 W0.heap.size hVn (gbox (gbox hrw hBi (some_lt hrw)) hBn (some_lt (gbox hrw hBi (some_lt hrw)))) hS.size
  try simp only [z] at hn2
  exact hn2
end
end Go.Proofs.YtccapfbblnnfjaaGreat
