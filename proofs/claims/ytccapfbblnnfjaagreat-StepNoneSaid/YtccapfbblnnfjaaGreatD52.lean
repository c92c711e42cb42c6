/- My texts StepP, StepPo, StepQ. -/
import Derived.Test.YtccapfbblnnfjaaGreatC46
import Derived.Test.YtccapfbblnnfjaaGreatG45
import Derived.Test.YtccapfbblnnfjaaGreatG46
import Derived.Test.YtccapfbblnnfjaaGreatD51
import Derived.Test.YtccapfbblnnfjaaGreatE00
import Derived.Test.YtccapfbblnnfjaaGreatE02
set_option linter.unusedVariables false
set_option linter.unusedSimpArgs false
set_option maxRecDepth 100000
set_option maxHeartbeats 8000000
namespace Go.Proofs.YtccapfbblnnfjaaGreat
open Go.RowKit
namespace Gr
def prop (m : List Cnt) (x : Int) : Bool := match Cn.cfind m x with
 | none => false
 | some y => decide (y.meth = 2)
def srest (g : Grp) (m : List Cnt) (x : Int) : Int := if prop m x = true then g.r1 else g.r8
def spost (g : Grp) (m : List Cnt) (x : Int) : List Prt × Int :=
 if (step g m x).2 ≠ 0 then ([], (step g m x).2) else Po.clean [⟨g.r0, -(step g m x).1.1⟩, ⟨g.r5, (step g m x).1.2.1 - (step g m x).1.2.2⟩, ⟨srest g m x, (step g m x).1.1 - (step g m x).1.2.1 + (step g m x).1.2.2⟩]
theorem step_prop {g : Grp} {m : List Cnt} {x : Int} (h : prop m x = true) : (step g m x).1.2.1 = 0 /\ (step g m x).1.2.2 = 0 := by
 unfold step
 split
 ·simp
 ·unfold prop at h
  unfold elim
  cases hc : Cn.cfind m x with
  | none => simp
  | some y =>
   rw [hc] at h
   have hm : y.meth = 2 := by simpa using h
   simp only []
   by_cases hc2 : x ≠ 0 /\ (y.meth = 3 ∨ y.meth = 2)
   ·rw [if_pos hc2]
    simp only []
    rw [if_neg (by rw [hm]; decide)]
    exact ⟨rfl, rfl⟩
   ·rw [if_neg hc2]
    exact ⟨rfl, rfl⟩
theorem spost_prop {g : Grp} {m : List Cnt} {x : Int} (h : prop m x = true) (he : (step g m x).2 = 0) : spost g m x = Po.clean [⟨g.r0, -(step g m x).1.1⟩, ⟨g.r1, (step g m x).1.1⟩] := by
 obtain ⟨h1, h2⟩ := step_prop (g := g) h
 unfold spost
 rw [if_neg (by rw [he]; simp), h1, h2]
 refine Po.clean_eq fun a => ?_
 simp only [Po.sum, srest, if_pos h]
 split <;> split <;> split <;> omega
end Gr
namespace Gr
theorem step_small {R : World -> Nat -> Value -> Int -> Int -> Prop} {w : World} {B : Nat} {g : Grp} {l : List Con} {m : List Cnt} {x : Int} (hm : Hold (fun a b => a.Holds R w B b) l m) (hn : l.length <= 100) :
  (-4000000000000000 <= (step g m x).1.1 /\ (step g m x).1.1 <= 4000000000000000) /\ (-1000000000000001 <= (step g m x).1.2.1 /\ (step g m x).1.2.1 <= 1000000000000001) /\ -1000000000000001 <= (step g m x).1.2.2 /\ (step g m x).1.2.2 <= 1000000000000001 := by
 unfold step
 split
 ·simp
 ·unfold elim
  rcases Cn.find_hold (P := fun a b => a.Holds R w B b) (fun _ _ h => h.he) x hm with ⟨_, h2⟩ | ⟨a, y, _, h2, h3⟩
  ·rw [h2]; simp
  ·rw [h2]
   simp only []
   by_cases hc : x ≠ 0 /\ (y.meth = 3 ∨ y.meth = 2)
   ·rw [if_pos hc]
    have hl : y.its.length <= 40 := by rw [h3.hil]; exact h3.hin
    have b2 := sumOf_bd (fun a => decide (a = g.r7)) y.its h3.hix
    have bi := invest_bd g x y.since true m (Hold.its hm)
    have hl2 := Hold.len hm
    have r1 := rd_small (n := sumOf (fun a => decide (a = g.r7)) y.its) h3.hfo (by omega) (by omega)
    have r2 := rd_small (n := sumOf (fun a => decide (a = g.r7)) y.its) h3.hso (by omega) (by omega)
    simp only []
    by_cases h3m : y.meth = 3
    ·rw [if_pos h3m]; exact ⟨⟨by simp only []; omega, by simp only []; omega⟩, r1, r2⟩
    ·rw [if_neg h3m]; exact ⟨⟨by simp only []; omega, by simp only []; omega⟩, by simp, by simp⟩
   ·rw [if_neg hc]; simp
theorem roles_wf40 {g : Grp} (h : ∀ r ∈ Gr.roles g, (Lit.int .i64 r.code).wf = true) : (Lit.int .i64 g.r0).wf = true /\ (Lit.int .i64 g.r5).wf = true /\ (Lit.int .i64 g.r8).wf = true /\ (Lit.int .i64 g.r1).wf = true := by
 simp only [Gr.roles, List.forall_mem_cons] at h
 obtain ⟨h0, h1, _, _, _, h5, _, _, h8, _⟩ := h
 exact ⟨h0, h5, h8, h1⟩
theorem spost_len (g : Grp) (m : List Cnt) (x : Int) : (spost g m x).1.length <= 3 := by
 unfold spost
 split
 ·simp
 ·unfold Po.clean
  split
  ·simp
  ·exact Po.parts_length _
theorem prop_found {P : Con -> Cnt -> Prop} (hP : ∀ a b, P a b -> a.ent = b.ent /\ a.meth = b.meth) (x : Int) {l : List Con} {m : List Cnt} (h : Hold P l m) : prop m x = decide ((Cn.found l x).meth = 2) := by
 rcases Cn.find_hold (P := P) (fun a b h => (hP a b h).1) x h with ⟨h1, h2⟩ | ⟨a, b, h1, h2, h3⟩
 ·rw [prop, h2, Cn.found, h1]; rfl
 ·rw [prop, h2, Cn.found, h1]
  show decide (b.meth = 2) = decide (a.meth = 2)
  rw [(hP a b h3).2]
end Gr
theorem RowsAt.duo {w : World} {b : Nat} {x y : Prt} {t : TypeId} {fr : Nat × Nat} (h : w.heap[b]? = some (.cells #[.int .i64 x.acct, .int .i64 x.amt, .int .i64 y.acct, .int .i64 y.amt] t fr)) : PrtsAt w w.heap.size (some ⟨b, 0, none⟩) [x, y] :=
 rows_flat (f := Prt.cells) (l := [x, y]) h (some_lt h) (by simp [Prt.cells])
section
variable (w : World)
theorem spostr_any (g : Grp) (A : Option Addr) (n c : Nat) (l : List Con) (m : List Cnt) (x : Int) (hl : l.length = n) (hn : n <= 100) (hA : ConsAt w w.heap.size A l) (hm : Hold (fun a b => a.Holds SR w w.heap.size b) l m) (hg : g.At w w.heap.size) :
  Calls Tryz.prog 32 #[.agg #[.string g.cur, .int .i64 g.Y, .int .i64 g.M, .int .i64 g.N, .slice g.cA g.cn g.cc, .int .i64 g.r0, .int .i64 g.r1, .int .i64 g.r2, .int .i64 g.r3, .int .i64 g.r4, .int .i64 g.r5, .int .i64 g.r6, .int .i64 g.r7, .int .i64 g.r8, .int .i64 g.r9, .int .i64 g.r10, .int .i64 g.r11, .int .i64 g.r12, .int .i64 g.r13, .int .i64 g.r14, .slice g.eA g.en g.ec], .slice A n c, .int .i64 x] w (PostingPost 5 x (Gr.spost g m x) w) := by
 obtain ⟨W1, hW1, hB0, hb0, hb1, hz⟩ := nw2 w #[.string g.cur, .int .i64 g.Y, .int .i64 g.M, .int .i64 g.N, .slice g.cA g.cn g.cc, .int .i64 g.r0, .int .i64 g.r1, .int .i64 g.r2, .int .i64 g.r3, .int .i64 g.r4, .int .i64 g.r5, .int .i64 g.r6, .int .i64 g.r7, .int .i64 g.r8, .int .i64 g.r9, .int .i64 g.r10, .int .i64 g.r11, .int .i64 g.r12, .int .i64 g.r13, .int .i64 g.r14, .slice g.eA g.en g.ec] #[.int .i64 0, .int .i64 0, .int .i64 0, .int .i64 0, .slice none 0 0] 29 49
 have HW := Lib.hid hW1
 have Hb0 := Lib.hid hb0
 have Hb1 := Lib.hid hb1
 have hrg := Lib.hid (grp_range hb0)
 have s1 : w.heap.size < W1.heap.size := by omega
 have s1' : w.heap.size + 1 < W1.heap.size := by omega
 have hg1 := hg.at_ hB0
 have HO := Lib.hid (stepr_any W1 g A n c l m x hl hn (RowsAt.at_ hA hB0) (hm.imp (Q := fun a b => a.Holds SR W1 W1.heap.size b) fun _ _ h => h.atR hB0) hg1)
 have Hsm := Lib.hid (Gr.step_small (g := g) (x := x) hm (by omega))
 have HMl := Lib.hid (RowsAt.at_ hA hB0)
 have Hl := Lib.hid hl
 have HPR := Lib.hid (Gr.prop_found (P := fun a b => a.Holds SR w w.heap.size b) (fun _ _ h => ⟨h.he, h.hm⟩) x hm)
 clear hW1 hz hb0 hb1 hg hA hm hl hg1
 go_enter Tryz.func32, Tryz.ntmps32
 go_upto_region 1 with (fail)
 rw [<- HW.out]
 go_wp2_with (refine wpList_load_mid rfl 29 (.tmp 3) rfl w.heap.size 0 rfl _ _ hrg.out Tryz.underlying29 rfl grpSize ?_)
 refine HO.out.mono ?_
 rintro e W2 ⟨p, q, u, er, has, rfl, hB2⟩
 have hB02 := hB0.trans (hB2.mono hB0.size)
 have hsm := Hsm.out
 rw [has] at hsm
 obtain ⟨⟨p0, p1⟩, ⟨q0, q1⟩, u0, u1⟩ := hsm
 have HAS := Lib.hid has
 have hc0 := gbox Hb0.out hB2 s1
 have hc1 := gbox Hb1.out hB2 s1'
 obtain ⟨W3, hW3, hB3, hb3, hz3⟩ := nw1 W2 #[.int .i64 p, .int .i64 q, .int .i64 u] 73
 have HW3 := Lib.hid hW3
 have Hb3 := Lib.hid hb3
 have hB03 := hB02.trans (hB3.mono hB02.size)
 have He0 := Lib.hid (gbox hc0 hB3 (some_lt hc0))
 have He1 := Lib.hid (gbox hc1 hB3 (some_lt hc1))
 have s3 := some_lt hb3
 have s30 := some_lt He0.out
 have s31 := some_lt He1.out
 have Hz := Lib.hid (postOne 0 0 0 0 none 0 0)
 clear has hc0 hc1 hb3 hz3 hW3
 go_upto_region 2 with (fail)
 rw [<- HW3.out]
 by_cases h1 : er = 0
 case neg =>
  have h1b : (er != 0) = true := by simp [h1]
  have HV : Hid (Gr.spost g m x = ([], er)) := by show _ = _; rw [Gr.spost, HAS.out, if_pos h1]
  have H1 := Lib.hid h1
  have hR := setRow_heap W3 (w.heap.size + 1) _ #[.int .i64 0, .int .i64 0, .int .i64 0, .int .i64 0, .slice none 0 0] _ _ He1.out
  have hload := Lib.hid (run_loadVar_row (P := Tryz.prog) _ _ _ 49 _ _ _ hR Tryz.underlying49 rfl postSize)
  have hBF := Lib.hid (below_setRow hB03 (show w.heap.size <= w.heap.size + 1 by omega) #[.int .i64 0, .int .i64 0, .int .i64 0, .int .i64 0, .slice none 0 0])
  clear h1 hR
  go_wp2_with (refine wpList_store_row rfl 49 (.tmp 6) (.tmp 22) none rfl rfl (w.heap.size + 1) 49 _ #[.int .i64 0, .int .i64 0, .int .i64 0, .int .i64 0, .slice none 0 0] rfl rfl He1.out rfl postSize Hz.out ?_)
  exact bodyPost_ret (v := .tuple #[.agg #[.int .i64 0, .int .i64 0, .int .i64 0, .int .i64 0, .slice none 0 0], .int .i64 er]) (by simp [results, Tryz.results32, asAddr, Act.put, hload.out]) rfl ⟨hBF.out, .inl ⟨.inl (by rw [HV.out]; exact H1.out), by rw [HV.out]⟩⟩
 subst h1
 have hrr := Lib.hid (roles_range He0.out)
 obtain ⟨W4, hW4, hB4, hb4, hz4⟩ := nw1 W3 #[.int .i64 g.r0, .int .i64 g.r1, .int .i64 g.r2, .int .i64 g.r3, .int .i64 g.r4, .int .i64 g.r5, .int .i64 g.r6, .int .i64 g.r7, .int .i64 g.r8, .int .i64 g.r9, .int .i64 g.r10, .int .i64 g.r11, .int .i64 g.r12, .int .i64 g.r13, .int .i64 g.r14] 26
 have HW4 := Lib.hid hW4
 have Hb4 := Lib.hid hb4
 have hB34 := hB3.trans (hB4.mono hB3.size)
 have hB14 := Lib.hid (hB2.trans (hB34.mono hB2.size))
 have hB04 := hB03.trans (hB4.mono hB03.size)
 have Hf1 := Lib.hid (gbox He1.out hB4 s31)
 have Hf3 := Lib.hid (gbox Hb3.out hB4 s3)
 have s4 := some_lt hb4
 clear hW4 hz4 hb4
 go_upto_region 5 with (refine wpList_load_mid rfl 26 (.tmp 24) rfl w.heap.size 5 rfl [.int .i64 g.r0, .int .i64 g.r1, .int .i64 g.r2, .int .i64 g.r3, .int .i64 g.r4, .int .i64 g.r5, .int .i64 g.r6, .int .i64 g.r7, .int .i64 g.r8, .int .i64 g.r9, .int .i64 g.r10, .int .i64 g.r11, .int .i64 g.r12, .int .i64 g.r13, .int .i64 g.r14] _ hrr.out Tryz.underlying26 rfl rolesSize ?_)
 rw [<- HW4.out]
 go_wp2_with (fail)
 refine (elimr_any W4 A n c l x Hl.out hn (RowsAt.at_ HMl.out hB14.out)).mono ?_
 rintro e V5 ⟨rfl, hC5⟩
 obtain ⟨x0, hx0⟩ : ∃ x0, x0 = Cn.found l x := ⟨_, rfl⟩
 have HPR2 : Hid (Gr.prop m x = decide (x0.meth = 2)) := by show _ = _; rw [hx0]; exact HPR.out
 rw [<- hx0]
 obtain ⟨hC6, hb6, hz6⟩ := row_new V5 #[.int .i64 x0.ent, .int .i64 x0.meth, .int .i64 x0.since, .bool x0.sg1, .slice x0.sA1 x0.sn1 x0.sc1, .bool x0.sg2, .slice x0.sA2 x0.sn2 x0.sc2, .bool x0.fg1, .slice x0.fA1 x0.fn1 x0.fc1, .bool x0.fg2, .slice x0.fA2 x0.fn2 x0.fc2, .slice x0.iA x0.im x0.ic, .slice x0.hA x0.hm x0.hc] 62
 have hC46 := hC5.trans (hC6.mono hC5.size)
 obtain ⟨V6, hV6⟩ : ∃ V6, V6 = V5.alloc (.cells #[.int .i64 x0.ent, .int .i64 x0.meth, .int .i64 x0.since, .bool x0.sg1, .slice x0.sA1 x0.sn1 x0.sc1, .bool x0.sg2, .slice x0.sA2 x0.sn2 x0.sc2, .bool x0.fg1, .slice x0.fA1 x0.fn1 x0.fc1, .bool x0.fg2, .slice x0.fA2 x0.fn2 x0.fc2, .slice x0.iA x0.im x0.ic, .slice x0.hA x0.hm x0.hc] 62) := ⟨_, rfl⟩
 rw [<- hV6] at hC6 hb6 hz6 hC46
 have HV6 := Lib.hid hV6
 have hB06' := hB04.trans (hC46.mono hB04.size)
 have Hf1' := Lib.hid (gbox Hf1.out hC46 (some_lt Hf1.out))
 have hf3 := gbox Hf3.out hC46 (some_lt Hf3.out)
 have hb4' := gbox Hb4.out hC46 (some_lt Hb4.out)
 have m1 := cell_of_row _ _ 1 _ _ _ hb6
 have y0 := cell_of_row _ _ 0 _ _ _ hf3
 have y1 := cell_of_row _ _ 1 _ _ _ hf3
 have y2 := cell_of_row _ _ 2 _ _ _ hf3
 have z0 := cell_of_row _ _ 0 _ _ _ hb4'
 have z1 := cell_of_row _ _ 1 _ _ _ hb4'
 have z5 := cell_of_row _ _ 5 _ _ _ hb4'
 have z8 := cell_of_row _ _ 8 _ _ _ hb4'
 simp at m1 y0 y1 y2 z0 z1 z5 z8
 have s46 := some_lt hb6
 have s44 := some_lt hb4'
 have s43 := some_lt hf3
 have s41 := some_lt Hf1'.out
 obtain ⟨mt, hmt⟩ : ∃ mt, mt = x0.meth := ⟨_, rfl⟩
 rw [<- hmt] at m1 HPR2
 clear hmt hx0 hb6 hz6 hV6 hf3 hb4'
 go_upto_region 6 with (fail)
 rw [<- HV6.out]
 by_cases h2 : mt = 2
 case pos =>
  have h2b : (mt == 2) = true := by simp [h2]
  have HPF : Hid (Gr.prop m x = true) := by show _ = _; rw [HPR2.out]; simp [h2]
  clear h2
  have HV : Hid (Gr.spost g m x = Po.clean [⟨g.r0, -p⟩, ⟨g.r1, p⟩]) := by
   show _ = _
   have h := Gr.spost_prop (g := g) HPF.out (by rw [HAS.out])
   rw [HAS.out] at h
   exact h
  obtain ⟨a1, ha1⟩ : ∃ a1, a1 = -p := ⟨_, rfl⟩
  have ea1 := ha1.symm
  have Ha1 := Lib.hid ha1
  obtain ⟨W5, hW5, hB5, hb5, hz5⟩ := nw1 V6 #[.int .i64 g.r0, .int .i64 a1, .int .i64 g.r1, .int .i64 p] 99
  have HW5 := Lib.hid hW5
  have hB05 := hB06'.trans (hB5.mono hB06'.size)
  have Hg1 := Lib.hid (gbox Hf1'.out hB5 s41)
  have HM := Lib.hid (made_any W5 5 x (some ⟨V6.heap.size, 0, none⟩) 2 2 [⟨g.r0, a1⟩, ⟨g.r1, p⟩] rfl (by omega) (by
   intro y hy
   simp only [List.mem_cons, List.not_mem_nil, or_false] at hy
   rcases hy with rfl | rfl
   ·show -10000000000000000 <= a1 /\ a1 <= 10000000000000000; omega
   ·show -10000000000000000 <= p /\ p <= 10000000000000000; omega) (RowsAt.duo (x := ⟨g.r0, a1⟩) (y := ⟨g.r1, p⟩) hb5))
  clear ha1 hz5 hb5 hW5
  go_wp2_with (fail)
  rw [<- HW5.out]
  refine HM.out.mono ?_
  rintro e W6 ⟨hB6, hP⟩
  have hB06 := hB05.trans (hB6.mono hB05.size)
  have Hk := Lib.hid (gbox Hg1.out hB6 (some_lt Hg1.out))
  have HPC : Hid (Gr.spost g m x = Po.clean [⟨g.r0, a1⟩, ⟨g.r1, p⟩]) := by show _ = _; rw [HV.out, Ha1.out]
  rcases hP with ⟨h2, rfl⟩ | ⟨h2, h3, A6, c6, hfr, rfl, hA6⟩
  ·have H2 := Lib.hid h2
   have hR := setRow_heap W6 (w.heap.size + 1) _ #[.int .i64 0, .int .i64 0, .int .i64 0, .int .i64 0, .slice none 0 0] _ _ Hk.out
   have hload := Lib.hid (run_loadVar_row (P := Tryz.prog) _ _ _ 49 _ _ _ hR Tryz.underlying49 rfl postSize)
   have hBF := Lib.hid (below_setRow hB06 (show w.heap.size <= w.heap.size + 1 by omega) #[.int .i64 0, .int .i64 0, .int .i64 0, .int .i64 0, .slice none 0 0])
   obtain ⟨er, her⟩ : ∃ er, er = (Po.clean [⟨g.r0, a1⟩, ⟨g.r1, p⟩]).2 := ⟨_, rfl⟩
   rw [<- her]
   have HE := Lib.hid her
   clear h2 hR her
   go_wp2_with (refine wpList_store_row rfl 49 (.tmp 6) (.tmp 49) none rfl rfl (w.heap.size + 1) 49 _ #[.int .i64 0, .int .i64 0, .int .i64 0, .int .i64 0, .slice none 0 0] rfl rfl Hk.out rfl postSize Hz.out ?_)
   exact bodyPost_ret (v := .tuple #[.agg #[.int .i64 0, .int .i64 0, .int .i64 0, .int .i64 0, .slice none 0 0], .int .i64 er]) (by simp [results, Tryz.results32, asAddr, Act.put, hload.out]) rfl ⟨hBF.out, .inl ⟨by rw [HPC.out]; exact H2.out, by rw [HPC.out, <- HE.out]⟩⟩
  ·obtain ⟨ps, hps⟩ : ∃ ps, ps = (Po.clean [⟨g.r0, a1⟩, ⟨g.r1, p⟩]).1 := ⟨_, rfl⟩
   rw [<- hps] at hA6
   rw [<- hps]
   have HPS := Lib.hid hps
   have H2 := Lib.hid h2
   have H3 := Lib.hid h3
   have HA6 := Lib.hid hA6
   have Hfr := Lib.hid hfr
   have Hqq := Lib.hid (show w.heap.size + 1 < W5.heap.size from some_lt Hg1.out)
   have Ho := Lib.hid (postOne 5 x (-1) 0 A6 ps.length c6)
   have hR := setRow_heap W6 (w.heap.size + 1) _ #[.int .i64 5, .int .i64 x, .int .i64 (-1), .int .i64 0, .slice A6 ps.length c6] _ _ Hk.out
   have hload := Lib.hid (run_loadVar_row (P := Tryz.prog) _ _ _ 49 _ _ _ hR Tryz.underlying49 rfl postSize)
   have hBF := Lib.hid (below_setRow hB06 (show w.heap.size <= w.heap.size + 1 by omega) #[.int .i64 5, .int .i64 x, .int .i64 (-1), .int .i64 0, .slice A6 ps.length c6])
   clear h2 h3 hR hps hA6 hfr
   go_wp2_with (refine wpList_store_row rfl 49 (.tmp 6) (.tmp 49) none rfl rfl (w.heap.size + 1) 49 _ #[.int .i64 5, .int .i64 x, .int .i64 (-1), .int .i64 0, .slice A6 ps.length c6] rfl rfl Hk.out rfl postSize Ho.out ?_)
   refine bodyPost_ret (v := .tuple #[.agg #[.int .i64 5, .int .i64 x, .int .i64 (-1), .int .i64 0, .slice A6 ps.length c6], .int .i64 0]) (by simp [results, Tryz.results32, asAddr, Act.put, hload.out]) rfl ⟨hBF.out, .inr ⟨by rw [HPC.out]; exact H2.out, by rw [HPC.out]; exact H3.out, A6, c6, (fun ad h => Nat.le_trans (by have := Hqq.out; omega) (Hfr.out ad h)), by rw [HPC.out, <- HPS.out], ?_⟩⟩
   rw [HPC.out, <- HPS.out]
   exact RowsAt.other_row HA6.out Hfr.out Hqq.out _
 have h2b : (mt == 2) = false := by simp [h2]
 have HPF : Hid (Gr.prop m x = false) := by show _ = _; rw [HPR2.out]; simp [h2]
 clear h2
 have HV : Hid (Gr.spost g m x = Po.clean [⟨g.r0, -p⟩, ⟨g.r5, q - u⟩, ⟨g.r8, p - q + u⟩]) := by
  show _ = _
  rw [Gr.spost, HAS.out, Gr.srest, HPF.out]
  exact if_neg (fun h => h rfl)
 obtain ⟨a1, ha1⟩ : ∃ a1, a1 = -p := ⟨_, rfl⟩
 have ea1 := ha1.symm
 have Ha1 := Lib.hid ha1
 obtain ⟨a2, ha2⟩ : ∃ a2, a2 = q - u := ⟨_, rfl⟩
 have ea2 := ha2.symm
 have Ha2 := Lib.hid ha2
 obtain ⟨d0, hd0⟩ : ∃ d0, d0 = p - q := ⟨_, rfl⟩
 have ed0 := hd0.symm
 have Hd0 := Lib.hid hd0
 obtain ⟨a3, ha3⟩ : ∃ a3, a3 = d0 + u := ⟨_, rfl⟩
 have ea3 := ha3.symm
 have Ha3 := Lib.hid ha3
 obtain ⟨W5, hW5, hB5, hb5, hz5⟩ := nw1 V6 #[.int .i64 g.r0, .int .i64 a1, .int .i64 g.r5, .int .i64 a2, .int .i64 g.r8, .int .i64 a3] 99
 have HW5 := Lib.hid hW5
 have hB05 := hB06'.trans (hB5.mono hB06'.size)
 have Hg1 := Lib.hid (gbox Hf1'.out hB5 s41)
 have HM := Lib.hid (made_any W5 5 x (some ⟨V6.heap.size, 0, none⟩) 3 3 [⟨g.r0, a1⟩, ⟨g.r5, a2⟩, ⟨g.r8, a3⟩] rfl (by omega) (by
  intro y hy
  simp only [List.mem_cons, List.not_mem_nil, or_false] at hy
  rcases hy with rfl | rfl | rfl
  ·show -10000000000000000 <= a1 /\ a1 <= 10000000000000000; omega
  ·show -10000000000000000 <= a2 /\ a2 <= 10000000000000000; omega
  ·show -10000000000000000 <= a3 /\ a3 <= 10000000000000000; omega) (RowsAt.triple (x := ⟨g.r0, a1⟩) (y := ⟨g.r5, a2⟩) (z := ⟨g.r8, a3⟩) hb5))
 clear ha1 ha2 ha3 hd0 hz5 hb5 hW5
 go_wp2_with (fail)
 rw [<- HW5.out]
 refine HM.out.mono ?_
 rintro e W6 ⟨hB6, hP⟩
 have hB06 := hB05.trans (hB6.mono hB05.size)
 have Hk := Lib.hid (gbox Hg1.out hB6 (some_lt Hg1.out))
 have HPC : Hid (Gr.spost g m x = Po.clean [⟨g.r0, a1⟩, ⟨g.r5, a2⟩, ⟨g.r8, a3⟩]) := by show _ = _; rw [HV.out, Ha1.out, Ha2.out, Ha3.out, Hd0.out]
 rcases hP with ⟨h2, rfl⟩ | ⟨h2, h3, A6, c6, hfr, rfl, hA6⟩
 ·have H2 := Lib.hid h2
  have hR := setRow_heap W6 (w.heap.size + 1) _ #[.int .i64 0, .int .i64 0, .int .i64 0, .int .i64 0, .slice none 0 0] _ _ Hk.out
  have hload := Lib.hid (run_loadVar_row (P := Tryz.prog) _ _ _ 49 _ _ _ hR Tryz.underlying49 rfl postSize)
  have hBF := Lib.hid (below_setRow hB06 (show w.heap.size <= w.heap.size + 1 by omega) #[.int .i64 0, .int .i64 0, .int .i64 0, .int .i64 0, .slice none 0 0])
  obtain ⟨er, her⟩ : ∃ er, er = (Po.clean [⟨g.r0, a1⟩, ⟨g.r5, a2⟩, ⟨g.r8, a3⟩]).2 := ⟨_, rfl⟩
  rw [<- her]
  have HE := Lib.hid her
  clear h2 hR her
  go_wp2_with (refine wpList_store_row rfl 49 (.tmp 6) (.tmp 79) none rfl rfl (w.heap.size + 1) 49 _ #[.int .i64 0, .int .i64 0, .int .i64 0, .int .i64 0, .slice none 0 0] rfl rfl Hk.out rfl postSize Hz.out ?_)
  exact bodyPost_ret (v := .tuple #[.agg #[.int .i64 0, .int .i64 0, .int .i64 0, .int .i64 0, .slice none 0 0], .int .i64 er]) (by simp [results, Tryz.results32, asAddr, Act.put, hload.out]) rfl ⟨hBF.out, .inl ⟨by rw [HPC.out]; exact H2.out, by rw [HPC.out, <- HE.out]⟩⟩
 ·obtain ⟨ps, hps⟩ : ∃ ps, ps = (Po.clean [⟨g.r0, a1⟩, ⟨g.r5, a2⟩, ⟨g.r8, a3⟩]).1 := ⟨_, rfl⟩
  rw [<- hps] at hA6
  rw [<- hps]
  have HPS := Lib.hid hps
  have H2 := Lib.hid h2
  have H3 := Lib.hid h3
  have HA6 := Lib.hid hA6
  have Hfr := Lib.hid hfr
  have Hqq := Lib.hid (show w.heap.size + 1 < W5.heap.size from some_lt Hg1.out)
  have Ho := Lib.hid (postOne 5 x (-1) 0 A6 ps.length c6)
  have hR := setRow_heap W6 (w.heap.size + 1) _ #[.int .i64 5, .int .i64 x, .int .i64 (-1), .int .i64 0, .slice A6 ps.length c6] _ _ Hk.out
  have hload := Lib.hid (run_loadVar_row (P := Tryz.prog) _ _ _ 49 _ _ _ hR Tryz.underlying49 rfl postSize)
  have hBF := Lib.hid (below_setRow hB06 (show w.heap.size <= w.heap.size + 1 by omega) #[.int .i64 5, .int .i64 x, .int .i64 (-1), .int .i64 0, .slice A6 ps.length c6])
  clear h2 h3 hR hps hA6 hfr
  go_wp2_with (refine wpList_store_row rfl 49 (.tmp 6) (.tmp 79) none rfl rfl (w.heap.size + 1) 49 _ #[.int .i64 5, .int .i64 x, .int .i64 (-1), .int .i64 0, .slice A6 ps.length c6] rfl rfl Hk.out rfl postSize Ho.out ?_)
  refine bodyPost_ret (v := .tuple #[.agg #[.int .i64 5, .int .i64 x, .int .i64 (-1), .int .i64 0, .slice A6 ps.length c6], .int .i64 0]) (by simp [results, Tryz.results32, asAddr, Act.put, hload.out]) rfl ⟨hBF.out, .inr ⟨by rw [HPC.out]; exact H2.out, by rw [HPC.out]; exact H3.out, A6, c6, (fun ad h => Nat.le_trans (by have := Hqq.out; omega) (Hfr.out ad h)), by rw [HPC.out, <- HPS.out], ?_⟩⟩
  rw [HPC.out, <- HPS.out]
  exact RowsAt.other_row HA6.out Hfr.out Hqq.out _
theorem spostd_any (g : Grp) (A : Option Addr) (n c : Nat) (l : List Con) (m : List Cnt) (x : Int) (hl : l.length = n) (hn : n <= 100) (hA : ConsAt w w.heap.size A l) (hm : Hold (fun a b => a.Holds SD w w.heap.size b) l m) (hg : g.At w w.heap.size) :
  Calls Tryz.prog 31 #[.agg #[.string g.cur, .int .i64 g.Y, .int .i64 g.M, .int .i64 g.N, .slice g.cA g.cn g.cc, .int .i64 g.r0, .int .i64 g.r1, .int .i64 g.r2, .int .i64 g.r3, .int .i64 g.r4, .int .i64 g.r5, .int .i64 g.r6, .int .i64 g.r7, .int .i64 g.r8, .int .i64 g.r9, .int .i64 g.r10, .int .i64 g.r11, .int .i64 g.r12, .int .i64 g.r13, .int .i64 g.r14, .slice g.eA g.en g.ec], .slice A n c, .int .i64 x] w (PostingPost 5 x (Gr.spost g m x) w) := by
 obtain ⟨W1, hW1, hB0, hb0, hb1, hz⟩ := nw2 w #[.string g.cur, .int .i64 g.Y, .int .i64 g.M, .int .i64 g.N, .slice g.cA g.cn g.cc, .int .i64 g.r0, .int .i64 g.r1, .int .i64 g.r2, .int .i64 g.r3, .int .i64 g.r4, .int .i64 g.r5, .int .i64 g.r6, .int .i64 g.r7, .int .i64 g.r8, .int .i64 g.r9, .int .i64 g.r10, .int .i64 g.r11, .int .i64 g.r12, .int .i64 g.r13, .int .i64 g.r14, .slice g.eA g.en g.ec] #[.int .i64 0, .int .i64 0, .int .i64 0, .int .i64 0, .slice none 0 0] 29 49
 have HW := Lib.hid hW1
 have Hb0 := Lib.hid hb0
 have Hb1 := Lib.hid hb1
 have hrg := Lib.hid (grp_range hb0)
 have s1 : w.heap.size < W1.heap.size := by omega
 have s1' : w.heap.size + 1 < W1.heap.size := by omega
 have hg1 := hg.at_ hB0
 have HO := Lib.hid (stepd_any W1 g A n c l m x hl hn (RowsAt.at_ hA hB0) (hm.imp (Q := fun a b => a.Holds SD W1 W1.heap.size b) fun _ _ h => h.atD hB0) hg1)
 have Hsm := Lib.hid (Gr.step_small (g := g) (x := x) hm (by omega))
 have hgr := Lib.hid (Gr.roles_wf40 hg.hr)
 have HMl := Lib.hid (RowsAt.at_ hA hB0)
 have Hl := Lib.hid hl
 have HPR := Lib.hid (Gr.prop_found (P := fun a b => a.Holds SD w w.heap.size b) (fun _ _ h => ⟨h.he, h.hm⟩) x hm)
 clear hW1 hz hb0 hb1 hg hA hm hl hg1
 go_enter Tryz.func31, Tryz.ntmps31
 go_upto_region 1 with (fail)
 rw [<- HW.out]
 go_wp2_with (refine wpList_load_mid rfl 29 (.tmp 3) rfl w.heap.size 0 rfl _ _ hrg.out Tryz.underlying29 rfl grpSize ?_)
 refine HO.out.mono ?_
 rintro e W2 ⟨p, q, u, er, has, rfl, hB2⟩
 have hB02 := hB0.trans (hB2.mono hB0.size)
 have hsm := Hsm.out
 rw [has] at hsm
 obtain ⟨⟨p0, p1⟩, ⟨q0, q1⟩, u0, u1⟩ := hsm
 have HAS := Lib.hid has
 have hc0 := gbox Hb0.out hB2 s1
 have hc1 := gbox Hb1.out hB2 s1'
 obtain ⟨W3, hW3, hB3, hb3, hz3⟩ := nw1 W2 #[.int .i64 p, .int .i64 q, .int .i64 u] 70
 have HW3 := Lib.hid hW3
 have Hb3 := Lib.hid hb3
 have hB03 := hB02.trans (hB3.mono hB02.size)
 have He0 := Lib.hid (gbox hc0 hB3 (some_lt hc0))
 have He1 := Lib.hid (gbox hc1 hB3 (some_lt hc1))
 have s3 := some_lt hb3
 have s30 := some_lt He0.out
 have s31 := some_lt He1.out
 have Hz := Lib.hid (postOne 0 0 0 0 none 0 0)
 clear has hc0 hc1 hb3 hz3 hW3
 go_upto_region 2 with (fail)
 rw [<- HW3.out]
 by_cases h1 : er = 0
 case neg =>
  have h1b : (er != 0) = true := by simp [h1]
  have HV : Hid (Gr.spost g m x = ([], er)) := by show _ = _; rw [Gr.spost, HAS.out, if_pos h1]
  have H1 := Lib.hid h1
  have hR := setRow_heap W3 (w.heap.size + 1) _ #[.int .i64 0, .int .i64 0, .int .i64 0, .int .i64 0, .slice none 0 0] _ _ He1.out
  have hload := Lib.hid (run_loadVar_row (P := Tryz.prog) _ _ _ 49 _ _ _ hR Tryz.underlying49 rfl postSize)
  have hBF := Lib.hid (below_setRow hB03 (show w.heap.size <= w.heap.size + 1 by omega) #[.int .i64 0, .int .i64 0, .int .i64 0, .int .i64 0, .slice none 0 0])
  clear h1 hR
  go_wp2_with (refine wpList_store_row rfl 49 (.tmp 6) (.tmp 23) none rfl rfl (w.heap.size + 1) 49 _ #[.int .i64 0, .int .i64 0, .int .i64 0, .int .i64 0, .slice none 0 0] rfl rfl He1.out rfl postSize Hz.out ?_)
  exact bodyPost_ret (v := .tuple #[.agg #[.int .i64 0, .int .i64 0, .int .i64 0, .int .i64 0, .slice none 0 0], .int .i64 er]) (by simp [results, Tryz.results31, asAddr, Act.put, hload.out]) rfl ⟨hBF.out, .inl ⟨.inl (by rw [HV.out]; exact H1.out), by rw [HV.out]⟩⟩
 subst h1
 have hB13 := Lib.hid (hB2.trans (hB3.mono hB2.size))
 go_upto_region 4 with (fail)
 go_wp2_with (fail)
 refine (confd_any W3 A n c l x Hl.out (by omega) (RowsAt.at_ HMl.out hB13.out)).mono ?_
 rintro e V5 ⟨rfl, hC5⟩
 obtain ⟨x0, hx0⟩ : ∃ x0, x0 = Cn.found l x := ⟨_, rfl⟩
 have HPR2 : Hid (Gr.prop m x = decide (x0.meth = 2)) := by show _ = _; rw [hx0]; exact HPR.out
 rw [<- hx0]
 obtain ⟨hC6, hb6, hz6⟩ := row_new V5 #[.int .i64 x0.ent, .int .i64 x0.meth, .int .i64 x0.since, .bool x0.sg1, .slice x0.sA1 x0.sn1 x0.sc1, .bool x0.sg2, .slice x0.sA2 x0.sn2 x0.sc2, .bool x0.fg1, .slice x0.fA1 x0.fn1 x0.fc1, .bool x0.fg2, .slice x0.fA2 x0.fn2 x0.fc2, .slice x0.iA x0.im x0.ic, .slice x0.hA x0.hm x0.hc] 94
 have hC36 := hC5.trans (hC6.mono hC5.size)
 obtain ⟨V6, hV6⟩ : ∃ V6, V6 = V5.alloc (.cells #[.int .i64 x0.ent, .int .i64 x0.meth, .int .i64 x0.since, .bool x0.sg1, .slice x0.sA1 x0.sn1 x0.sc1, .bool x0.sg2, .slice x0.sA2 x0.sn2 x0.sc2, .bool x0.fg1, .slice x0.fA1 x0.fn1 x0.fc1, .bool x0.fg2, .slice x0.fA2 x0.fn2 x0.fc2, .slice x0.iA x0.im x0.ic, .slice x0.hA x0.hm x0.hc] 94) := ⟨_, rfl⟩
 rw [<- hV6] at hC6 hb6 hz6 hC36
 have HV6 := Lib.hid hV6
 have hB06' := hB03.trans (hC36.mono hB03.size)
 have Hf1' := Lib.hid (gbox He1.out hC36 s31)
 have hf3 := gbox Hb3.out hC36 s3
 have hg3 := gbox He0.out hC36 s30
 have m1 := cell_of_row _ _ 1 _ _ _ hb6
 have y0 := cell_of_row _ _ 0 _ _ _ hf3
 have y1 := cell_of_row _ _ 1 _ _ _ hf3
 have y2 := cell_of_row _ _ 2 _ _ _ hf3
 have z0 := cell_of_row _ _ 5 _ _ _ hg3
 have z1 := cell_of_row _ _ 6 _ _ _ hg3
 have z5 := cell_of_row _ _ 10 _ _ _ hg3
 have z8 := cell_of_row _ _ 13 _ _ _ hg3
 simp at m1 y0 y1 y2 z0 z1 z5 z8
 have s46 := some_lt hb6
 have s44 := some_lt hg3
 have s43 := some_lt hf3
 have s41 := some_lt Hf1'.out
 obtain ⟨mt, hmt⟩ : ∃ mt, mt = x0.meth := ⟨_, rfl⟩
 rw [<- hmt] at m1 HPR2
 clear hmt hx0 hb6 hz6 hV6 hf3 hg3
 go_upto_region 5 with (fail)
 rw [<- HV6.out]
 refine (Classical.em (mt = 2)).elim (fun h2 => ?_) (fun h2 => ?_)
 focus
  have h2b : (mt == 2) = true := by simp [h2]
  obtain ⟨rs, hrs⟩ : ∃ rs, rs = g.r1 := ⟨_, rfl⟩
  have HRS : Hid (Gr.srest g m x = rs) := by show _ = _; rw [Gr.srest, HPR2.out]; simp [h2, hrs]
  have HRW : Hid ((Lit.int .i64 rs).wf = true) := by show _ = _; rw [hrs]; exact hgr.out.2.2.2
  rw [<- hrs] at z1
  clear h2 hrs
 rotate_left
 focus
  have h2b : (mt == 2) = false := by simp [h2]
  obtain ⟨rs, hrs⟩ : ∃ rs, rs = g.r8 := ⟨_, rfl⟩
  have HRS : Hid (Gr.srest g m x = rs) := by show _ = _; rw [Gr.srest, HPR2.out]; simp [h2, hrs]
  have HRW : Hid ((Lit.int .i64 rs).wf = true) := by show _ = _; rw [hrs]; exact hgr.out.2.2.1
  rw [<- hrs] at z8
  clear h2 hrs
 all_goals (
  have HV : Hid (Gr.spost g m x = Po.clean [⟨g.r0, -p⟩, ⟨g.r5, q - u⟩, ⟨rs, p - q + u⟩]) := by
   show _ = _
   rw [Gr.spost, HAS.out, HRS.out]
   exact if_neg (fun h => h rfl)
  obtain ⟨a1, ha1⟩ : ∃ a1, a1 = -p := ⟨_, rfl⟩
  have ea1 := ha1.symm
  have Ha1 := Lib.hid ha1
  obtain ⟨a2, ha2⟩ : ∃ a2, a2 = q - u := ⟨_, rfl⟩
  have ea2 := ha2.symm
  have Ha2 := Lib.hid ha2
  obtain ⟨d0, hd0⟩ : ∃ d0, d0 = p - q := ⟨_, rfl⟩
  have ed0 := hd0.symm
  have Hd0 := Lib.hid hd0
  obtain ⟨a3, ha3⟩ : ∃ a3, a3 = d0 + u := ⟨_, rfl⟩
  have ea3 := ha3.symm
  have Ha3 := Lib.hid ha3
  obtain ⟨W5, hW5, hB5, hb5, hz5⟩ := nw1 V6 #[.int .i64 g.r0, .int .i64 a1, .int .i64 g.r5, .int .i64 a2, .int .i64 rs, .int .i64 a3] 99
  have HW5 := Lib.hid hW5
  have hB05 := hB06'.trans (hB5.mono hB06'.size)
  have Hg1 := Lib.hid (gbox Hf1'.out hB5 s41)
  have hwr := hgr
  have HM := Lib.hid (cleand_any W5 (some ⟨V6.heap.size, 0, none⟩) 3 3 [⟨g.r0, a1⟩, ⟨g.r5, a2⟩, ⟨rs, a3⟩] rfl (by omega) (by
   intro y hy
   simp only [List.mem_cons, List.not_mem_nil, or_false] at hy
   rcases hy with rfl | rfl | rfl
   ·show -10000000000000000 <= a1 /\ a1 <= 10000000000000000; omega
   ·show -10000000000000000 <= a2 /\ a2 <= 10000000000000000; omega
   ·show -10000000000000000 <= a3 /\ a3 <= 10000000000000000; omega) (by
   intro y hy
   simp only [List.mem_cons, List.not_mem_nil, or_false] at hy
   rcases hy with rfl | rfl | rfl
   ·exact hwr.out.1
   ·exact hwr.out.2.1
   ·exact HRW.out) (RowsAt.triple (x := ⟨g.r0, a1⟩) (y := ⟨g.r5, a2⟩) (z := ⟨rs, a3⟩) hb5))
  clear ha1 ha2 ha3 hd0 hz5 hb5 hW5
  go_wp2_with (fail)
  rw [<- HW5.out]
  refine HM.out.mono ?_
  rintro e W6 ⟨hB6, A6, c6, hfr, rfl, hA6⟩
  have hB06 := hB05.trans (hB6.mono hB05.size)
  have Hk := Lib.hid (gbox Hg1.out hB6 (some_lt Hg1.out))
  have HPC : Hid (Gr.spost g m x = Po.clean [⟨g.r0, a1⟩, ⟨g.r5, a2⟩, ⟨rs, a3⟩]) := by show _ = _; rw [HV.out, Ha1.out, Ha2.out, Ha3.out, Hd0.out]
  obtain ⟨ps, hps⟩ : ∃ ps, ps = (Po.clean [⟨g.r0, a1⟩, ⟨g.r5, a2⟩, ⟨rs, a3⟩]).1 := ⟨_, rfl⟩
  obtain ⟨er, her⟩ : ∃ er, er = (Po.clean [⟨g.r0, a1⟩, ⟨g.r5, a2⟩, ⟨rs, a3⟩]).2 := ⟨_, rfl⟩
  rw [<- hps] at hA6
  rw [<- hps, <- her]
  have HPS := Lib.hid hps
  have HE := Lib.hid her
  have HA6 := Lib.hid hA6
  have Hfr := Lib.hid hfr
  have Hqq := Lib.hid (show w.heap.size + 1 < W5.heap.size from some_lt Hg1.out)
  have Ho := Lib.hid (postOne 5 x (-1) 0 A6 ps.length c6)
  have hR := setRow_heap W6 (w.heap.size + 1) _ #[.int .i64 0, .int .i64 0, .int .i64 0, .int .i64 0, .slice none 0 0] _ _ Hk.out
  have hload := Lib.hid (run_loadVar_row (P := Tryz.prog) _ _ _ 49 _ _ _ hR Tryz.underlying49 rfl postSize)
  have hBF := Lib.hid (below_setRow hB06 (show w.heap.size <= w.heap.size + 1 by omega) #[.int .i64 0, .int .i64 0, .int .i64 0, .int .i64 0, .slice none 0 0])
  have hR2 := setRow_heap W6 (w.heap.size + 1) _ #[.int .i64 5, .int .i64 x, .int .i64 (-1), .int .i64 0, .slice A6 ps.length c6] _ _ Hk.out
  have hload2 := Lib.hid (run_loadVar_row (P := Tryz.prog) _ _ _ 49 _ _ _ hR2 Tryz.underlying49 rfl postSize)
  have hBF2 := Lib.hid (below_setRow hB06 (show w.heap.size <= w.heap.size + 1 by omega) #[.int .i64 5, .int .i64 x, .int .i64 (-1), .int .i64 0, .slice A6 ps.length c6])
  clear hR hR2 hps her hA6 hfr
  by_cases h2 : er = 0
  case neg =>
   have h2b : (er != 0) = true := by simp [h2]
   have H2 := Lib.hid h2
   clear h2
   go_wp2_with (refine wpList_store_row rfl 49 (.tmp 6) (.tmp 78) none rfl rfl (w.heap.size + 1) 49 _ #[.int .i64 0, .int .i64 0, .int .i64 0, .int .i64 0, .slice none 0 0] rfl rfl Hk.out rfl postSize Hz.out ?_)
   exact bodyPost_ret (v := .tuple #[.agg #[.int .i64 0, .int .i64 0, .int .i64 0, .int .i64 0, .slice none 0 0], .int .i64 er]) (by simp [results, Tryz.results31, asAddr, Act.put, hload.out]) rfl ⟨hBF.out, .inl ⟨.inl (by rw [HPC.out, <- HE.out]; exact H2.out), by rw [HPC.out, <- HE.out]⟩⟩
  have h2b : (er != 0) = false := by simp [h2]
  have H2 := Lib.hid h2
  clear h2
  by_cases h3 : ps.length = 0
  case pos =>
   have H3 : Hid (ps = []) := Lib.hid (List.length_eq_zero_iff.1 h3)
   go_wp2_with (refine wpList_store_row rfl 49 (.tmp 6) (.tmp 78) none rfl rfl (w.heap.size + 1) 49 _ #[.int .i64 0, .int .i64 0, .int .i64 0, .int .i64 0, .slice none 0 0] rfl rfl Hk.out rfl postSize Hz.out ?_)
   exact bodyPost_ret (v := .tuple #[.agg #[.int .i64 0, .int .i64 0, .int .i64 0, .int .i64 0, .slice none 0 0], .int .i64 er]) (by simp [results, Tryz.results31, asAddr, Act.put, hload.out]) rfl ⟨hBF.out, .inl ⟨.inr (by rw [HPC.out, <- HPS.out]; exact H3.out), by rw [HPC.out, <- HE.out]⟩⟩
  have H3 := Lib.hid h3
  go_wp2_with (refine wpList_store_row rfl 49 (.tmp 6) (.tmp 82) none rfl rfl (w.heap.size + 1) 49 _ #[.int .i64 5, .int .i64 x, .int .i64 (-1), .int .i64 0, .slice A6 ps.length c6] rfl rfl Hk.out rfl postSize Ho.out ?_)
  refine bodyPost_ret (v := .tuple #[.agg #[.int .i64 5, .int .i64 x, .int .i64 (-1), .int .i64 0, .slice A6 ps.length c6], .int .i64 0]) (by simp [results, Tryz.results31, asAddr, Act.put, hload2.out]) rfl ⟨hBF2.out, .inr ⟨by rw [HPC.out, <- HE.out]; exact H2.out, by rw [HPC.out, <- HPS.out]; exact fun h => H3.out (by rw [h]; rfl), A6, c6, (fun ad h => Nat.le_trans (by have := Hqq.out; omega) (Hfr.out ad h)), by rw [HPC.out, <- HPS.out], ?_⟩⟩
  rw [HPC.out, <- HPS.out]
  exact RowsAt.other_row HA6.out Hfr.out Hqq.out _)
end
theorem Smp.roles40 {g : Grp} (h : Smp.Is g) : (g.r0 ≠ g.r5 /\ g.r0 ≠ g.r8 /\ g.r0 ≠ g.r1) /\ (g.r5 ≠ g.r8 /\ g.r5 ≠ g.r1) /\ g.r8 ≠ g.r1 := by
 obtain ⟨a, b, d, e, x0, x1, x2, x3, rfl⟩ := h
 refine ⟨⟨?_, ?_, ?_⟩, ⟨?_, ?_⟩, ?_⟩ <;> (simp only [Smp.grp]; decide)
namespace Gr
theorem spost_ok {g : Grp} {m : List Cnt} {x : Int} (h : (spost g m x).2 = 0) : (step g m x).2 = 0 := by
 by_cases h1 : (step g m x).2 = 0
 ·exact h1
 ·unfold spost at h
  rw [if_pos h1] at h
  exact h
theorem srest_or (g : Grp) (m : List Cnt) (x : Int) : srest g m x = g.r1 ∨ srest g m x = g.r8 := by
 unfold srest
 split
 ·exact .inl rfl
 ·exact .inr rfl
theorem spost_parts {g : Grp} {m : List Cnt} {x : Int} (hd : (g.r0 ≠ g.r5 /\ g.r0 ≠ g.r8 /\ g.r0 ≠ g.r1) /\ (g.r5 ≠ g.r8 /\ g.r5 ≠ g.r1) /\ g.r8 ≠ g.r1) (h : (spost g m x).2 = 0) :
  Po.part (Po.pl (spost g m x)) g.r0 = -(step g m x).1.1 /\ Po.part (Po.pl (spost g m x)) g.r5 = (step g m x).1.2.1 - (step g m x).1.2.2 /\ Po.part (Po.pl (spost g m x)) (srest g m x) = (step g m x).1.1 - (step g m x).1.2.1 + (step g m x).1.2.2 := by
 obtain ⟨⟨d1, d2, d3⟩, ⟨d4, d5⟩, d6⟩ := hd
 have h0 := spost_ok h
 rw [pl_ok h]
 have hc : spost g m x = Po.clean [⟨g.r0, -(step g m x).1.1⟩, ⟨g.r5, (step g m x).1.2.1 - (step g m x).1.2.2⟩, ⟨srest g m x, (step g m x).1.1 - (step g m x).1.2.1 + (step g m x).1.2.2⟩] := by
  unfold spost; rw [if_neg (by rw [h0]; simp)]
 rw [hc] at h ⊢
 rcases srest_or g m x with e | e <;> rw [e] at h ⊢ <;> refine ⟨?_, ?_, ?_⟩ <;> (rw [Po.part_clean h]; simp [Po.sum, d1, d2, d3, d4, d5, d6, Ne.symm d1, Ne.symm d2, Ne.symm d3, Ne.symm d4, Ne.symm d5, Ne.symm d6])
theorem spost_none {g : Grp} {m : List Cnt} {x : Int} (h : (spost g m x).2 ≠ 0 ∨ elim m x = none) : Po.pl (spost g m x) = [] := by
 rcases h with h | h
 ·exact Po.pl_yes (.inl h)
 ·by_cases hc : check g x = 0
  ·have h1 : step g m x = ((0, 0, 0), 0) := by unfold step; rw [if_neg (by rw [hc]; simp), h]
   refine Po.pl_yes (.inr ?_)
   unfold spost
   rw [if_neg (by rw [h1]; simp), h1, clean_zero (fun a => by simp [Po.sum])]
  ·have h1 : (step g m x).2 ≠ 0 := by unfold step; rw [if_pos hc]; exact hc
   refine Po.pl_yes (.inl ?_)
   unfold spost
   rw [if_pos h1]; exact h1
theorem step_capital {g : Grp} {m : List Cnt} {x : Int} {y : Cnt} (he : elim m x = some y) (hm : y.meth = 3) : (capital g m x).1.2.2 = (step g m x).1.2.1 := by
 unfold capital step
 split
 ·rfl
 ·rw [he]
  simp only []
  rw [if_pos hm, if_pos hm]
end Gr
end Go.Proofs.YtccapfbblnnfjaaGreat
