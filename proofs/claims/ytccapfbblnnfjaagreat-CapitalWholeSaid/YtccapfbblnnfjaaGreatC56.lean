/- My texts LawW38. -/
import Derived.Test.YtccapfbblnnfjaaGreatC52
import Derived.Test.YtccapfbblnnfjaaGreatC53
import Derived.Test.YtccapfbblnnfjaaGreatE00
import Derived.Test.YtccapfbblnnfjaaGreatE02
import Derived.Test.YtccapfbblnnfjaaGreatE01
set_option linter.unusedVariables false
set_option linter.unusedSimpArgs false
set_option maxRecDepth 100000
set_option maxHeartbeats 8000000
namespace Go.Proofs.YtccapfbblnnfjaaGreat
open Go.RowKit
section
variable (w : World)
theorem law_whole38 (A : Option Addr) (n c : Nat) (l : List Raw) (x : Int) (hl : l.length = n) (hn : n <= maxLen) (hr : RawsAt w w.heap.size A l) (hx : ∀ a ∈ l, a.At w w.heap.size) :
  Calls Tryz.prog 5 #[.slice A n c, .int .i64 x] w fun e w' => e = .returned (.bool true) /\ Below w.heap.size w w' := by
 have Hl := Lib.hid hl
 have Hr := Lib.hid hr
 have Hx := Lib.hid hx
 unfold maxLen at hn
 have Hn := Lib.hid hn
 clear hl hr hx hn
 go_enter Tryz.func5, Tryz.ntmps5
 go_wp2_with (fail)
 refine (awake38_any w).mono ?_
 rintro e W2 ⟨rfl, hB2⟩
 have Hr2 := Lib.hid (RowsAt.at_ Hr.out hB2)
 have Hx2 := Lib.hid (fun a ha => ((Hx.out a ha).below hB2 (Nat.le_refl _)).more hB2.size : ∀ a ∈ l, a.At W2 W2.heap.size)
 go_wp2_with (fail)
 refine (contrr_any W2 A n c l Hl.out Hn.out Hr2.out Hx2.out).mono ?_
 rintro e W3 ⟨hB3, v, ok, rfl, hok⟩
 have hB03 := hB2.trans (hB3.mono hB2.size)
 have Hr3 := Lib.hid (RowsAt.at_ Hr2.out hB3)
 have Hx3 := Lib.hid (fun a ha => ((Hx2.out a ha).below hB3 (Nat.le_refl _)).more hB3.size : ∀ a ∈ l, a.At W3 W3.heap.size)
 cases ok with
 | false =>
  clear hok
  go_wp2
  go_ret
  exact ⟨rfl, hB03⟩
 | true =>
 obtain ⟨h8, hall, Ar, cr, cs, rfl, hcl, hcs, hho⟩ := hok rfl
 have H8 := Lib.hid h8
 have Hall := Lib.hid hall
 have Hcl := Lib.hid hcl
 have Hcs := Lib.hid hcs
 have Hho := Lib.hid hho
 have Hlr := Lib.hid (show l.length <= 100 by omega)
 clear hok h8 hall hcl hcs hho
 go_wp2_with (fail)
 refine (sample_any W3).mono ?_
 rintro e W4 ⟨hB4, g, rfl, hg, hgs⟩
 have HGS := Lib.hid hgs
 have hB04 := hB03.trans (hB4.mono hB03.size)
 obtain ⟨W5, hW5, hB5, hb5, hz5⟩ := nw1 W4 #[.string g.cur, .int .i64 g.Y, .int .i64 g.M, .int .i64 g.N, .slice g.cA g.cn g.cc, .int .i64 g.r0, .int .i64 g.r1, .int .i64 g.r2, .int .i64 g.r3, .int .i64 g.r4, .int .i64 g.r5, .int .i64 g.r6, .int .i64 g.r7, .int .i64 g.r8, .int .i64 g.r9, .int .i64 g.r10, .int .i64 g.r11, .int .i64 g.r12, .int .i64 g.r13, .int .i64 g.r14, .slice g.eA g.en g.ec] 29
 have HW5 := Lib.hid hW5
 have hB35 := hB4.trans (hB5.mono hB4.size)
 have hB05 := hB04.trans (hB5.mono hB04.size)
 have Hga := Lib.hid (hg.at_ hB5)
 have Hb5 := Lib.hid hb5
 have s5 : W4.heap.size < W5.heap.size := by omega
 have Hr5 := Lib.hid (RowsAt.at_ Hr3.out hB35)
 have Hx5 := Lib.hid (fun a ha => ((Hx3.out a ha).below hB35 (Nat.le_refl _)).more hB35.size : ∀ a ∈ l, a.At W5 W5.heap.size)
 have Hcs5 := Lib.hid (RowsAt.at_ Hcs.out hB35)
 have Hho5 := Lib.hid (Hho.out.imp (Q := fun a b => a.Holds SR W5 W5.heap.size b) fun _ _ h => h.atR hB35)
 have hrg5 := Lib.hid (grp_range hb5)
 obtain ⟨ln, hln⟩ : ∃ ln, ln = l.length := ⟨_, rfl⟩
 have Hln := Lib.hid hln
 rw [<- hln]
 have HRO := Lib.hid (Smp.roles38 hgs)
 obtain ⟨kk, hkk⟩ : ∃ kk, kk = Po.pk 4 (Gr.cpost g (l.map Raw.cnt) x) := ⟨_, rfl⟩
 obtain ⟨ee, hee⟩ : ∃ ee, ee = Po.pk x (Gr.cpost g (l.map Raw.cnt) x) := ⟨_, rfl⟩
 obtain ⟨oo, hoo⟩ : ∃ oo, oo = Po.pk (-1) (Gr.cpost g (l.map Raw.cnt) x) := ⟨_, rfl⟩
 obtain ⟨ep, hep⟩ : ∃ ep, ep = (Gr.cpost g (l.map Raw.cnt) x).2 := ⟨_, rfl⟩
 obtain ⟨ps, hps⟩ : ∃ ps, ps = Po.pl (Gr.cpost g (l.map Raw.cnt) x) := ⟨_, rfl⟩
 obtain ⟨np, hnp⟩ : ∃ np, np = ps.length := ⟨_, rfl⟩
 have HKK := Lib.hid hkk
 have HEE := Lib.hid hee
 have HOO := Lib.hid hoo
 have HEP := Lib.hid hep
 have HPS := Lib.hid hps
 have HNP := Lib.hid hnp
 clear hkk hee hoo hep hps hnp
 have HNO : Hid (ep ≠ 0 ∨ Gr.elim (l.map Raw.cnt) x = none -> np = 0) := Lib.hid fun h => by
  rw [HNP.out, HPS.out, Gr.cpost_none (by rw [<- HEP.out]; exact h)]; rfl
 have HPT : Hid (ep = 0 -> Po.part ps g.r0 = -(Gr.capital g (l.map Raw.cnt) x).1.1 /\ Po.part ps g.r7 = -(Gr.capital g (l.map Raw.cnt) x).1.2.1 /\ Po.part ps g.r5 = (Gr.capital g (l.map Raw.cnt) x).1.2.1 - (Gr.capital g (l.map Raw.cnt) x).1.2.2 /\ Po.part ps g.r1 = (Gr.capital g (l.map Raw.cnt) x).1.1 + (Gr.capital g (l.map Raw.cnt) x).1.2.2) := Lib.hid fun h => by
  rw [HPS.out]; exact Gr.cpost_parts HRO.out (by rw [<- HEP.out]; exact h)
 have HSM := Lib.hid (Gr.capital_small (g := g) (x := x) Hho.out (by have := Hcl.out; have := Hlr.out; omega))
 have HN4 : Hid (np <= 4) := by show _ <= _; rw [HNP.out, HPS.out]; exact Nat.le_trans (Po.pl_length _) (Gr.cpost_len _ _ _)
 have h1c : ∀ v ∈ (#[.string g.cur, .int .i64 g.Y, .int .i64 g.M, .int .i64 g.N, .slice g.cA g.cn g.cc, .int .i64 g.r0, .int .i64 g.r1, .int .i64 g.r2, .int .i64 g.r3, .int .i64 g.r4, .int .i64 g.r5, .int .i64 g.r6, .int .i64 g.r7, .int .i64 g.r8, .int .i64 g.r9, .int .i64 g.r10, .int .i64 g.r11, .int .i64 g.r12, .int .i64 g.r13, .int .i64 g.r14, .slice g.eA g.en g.ec] : Array Value).toList, v.oneCell' = true := by simp [Value.oneCell']
 clear hg hgs hW5 hb5 hz5 hln
 go_upto_region 7 with (refine wpList_store_new rfl 29 _ _ rfl 29 _ #[.string g.cur, .int .i64 g.Y, .int .i64 g.M, .int .i64 g.N, .slice g.cA g.cn g.cc, .int .i64 g.r0, .int .i64 g.r1, .int .i64 g.r2, .int .i64 g.r3, .int .i64 g.r4, .int .i64 g.r5, .int .i64 g.r6, .int .i64 g.r7, .int .i64 g.r8, .int .i64 g.r9, .int .i64 g.r10, .int .i64 g.r11, .int .i64 g.r12, .int .i64 g.r13, .int .i64 g.r14, .slice g.eA g.en g.ec] rfl rfl rfl h1c grpSize ?_)
 clear h1c
 rw [<- HW5.out]
 have hS : Below W5.heap.size W5 W5.drew := below_drawn (Below.refl _ _) 1
 refine wp_region_held (S := Below W5.heap.size W5) (by kernel_rfl) ?_
 change wpAnyH _ _ _ _ _ _ _ _ (World.drew W5)
 obtain ⟨W_0, hWd⟩ : ∃ W0, W0 = W5.drew := ⟨_, rfl⟩
 rw [<- hWd] at hS ⊢
 clear hWd
 refine tk (i := 0) (v := .agg #[.string g.cur, .int .i64 g.Y, .int .i64 g.M, .int .i64 g.N, .slice g.cA g.cn g.cc, .int .i64 g.r0, .int .i64 g.r1, .int .i64 g.r2, .int .i64 g.r3, .int .i64 g.r4, .int .i64 g.r5, .int .i64 g.r6, .int .i64 g.r7, .int .i64 g.r8, .int .i64 g.r9, .int .i64 g.r10, .int .i64 g.r11, .int .i64 g.r12, .int .i64 g.r13, .int .i64 g.r14, .slice g.eA g.en g.ec]) rfl (by kernel_rfl) (fun _ _ _ h => h) (yieldsIf_load_mid (by rfl) 29 _ rfl W4.heap.size 0 rfl [.string g.cur, .int .i64 g.Y, .int .i64 g.M, .int .i64 g.N, .slice g.cA g.cn g.cc, .int .i64 g.r0, .int .i64 g.r1, .int .i64 g.r2, .int .i64 g.r3, .int .i64 g.r4, .int .i64 g.r5, .int .i64 g.r6, .int .i64 g.r7, .int .i64 g.r8, .int .i64 g.r9, .int .i64 g.r10, .int .i64 g.r11, .int .i64 g.r12, .int .i64 g.r13, .int .i64 g.r14, .slice g.eA g.en g.ec] _ (fun W' hS' => range_below hrg5.out hS' s5) Tryz.underlying29 rfl grpSize) hS ?_
 try simp only [z]
 refine tk (i := 1) (v := .slice A n c) rfl (by kernel_rfl) (fun _ _ _ h => h) (.inl ⟨by rfl, fun W' hS' => by go_simp⟩) hS ?_
 try simp only [z]
 refine tk (i := 3) (v := .int .i64 x) rfl (by kernel_rfl) (fun _ _ _ h => h) (.inl ⟨by rfl, fun W' hS' => by go_simp⟩) hS ?_
 try simp only [z]
 have hV0 := hS.size
 refine wpAnyH_letters fun md' ops' Q' a' hlm hlo hlq hla => ?_
 obtain ⟨RG, hRG⟩ : ∃ R : World -> Prop, R = Below W5.heap.size W5 := ⟨_, rfl⟩
 rw [<- hRG] at hS ⊢
 have n2 : ∀ (m : Nat) (W : World) (Ao : Option Addr) (co : Nat) (ds : List Con) (Ap : Option Addr) (cp : Nat) (bp : Bool) (vp : Value) (pp : Nat), 2 + cond bp 0 1 <= m -> RG W -> W_0.heap.size <= W.heap.size -> (PrtsAt W W.heap.size Ap ps) -> (bp = true -> ps ≠ [] -> ∀ ad, Ap = some ad -> ad.block ≠ pp) -> Mk W_0 W bp vp pp #[.int .i64 0, .int .i64 0, .int .i64 0, .int .i64 0, .slice none 0 0] 49 -> wpAnyH Tryz.prog md' ops' Q' RG m #[true, true, true, true, true, true, true, true, bp, false, false] ((((((a'.put (some 26) (.slice Ao ln co)).put (some 28) (.tuple #[.agg #[.int .i64 kk, .int .i64 ee, .int .i64 oo, .int .i64 0, .slice Ap np cp], .int .i64 ep])).put (some 23) (.tuple #[.agg #[.int .i64 kk, .int .i64 ee, .int .i64 oo, .int .i64 0, .slice Ap np cp], .int .i64 ep])).put (some 29) (.agg #[.int .i64 kk, .int .i64 ee, .int .i64 oo, .int .i64 0, .slice Ap np cp])).put (some 30) (.int .i64 ep)).put (some 8) vp) W := by
  intro m
  induction m with
  | zero => intros; omega
  | succ m ih =>
  intro W Ao co ds Ap cp bp vp pp hm hS hz hPp hq Hp
  subst hlm hlo hlq hla hRG
  try simp only [z]
  by_cases hb : bp = true
  rotate_left
  ·refine wpAnyH_ready (rs := (cond bp [] [8] ++ [])) (by revert hb; cases bp <;> intro hb <;> first | exact absurd (by decide) hb | kernel_rfl) (by revert hb; cases bp <;> decide) (ropt (fun hp => .cons rfl (fun K hK => ?_) .nil) .nil)
   ·subst hp
    obtain ⟨W', hWn, hB, hrow, _⟩ := nw1 W #[.int .i64 0, .int .i64 0, .int .i64 0, .int .i64 0, .slice none 0 0] 49
    go_simp
    rw [<- hWn]
    clear hWn
    have hS' := hS.trans (hB.mono hS.size)
    refine hK.out _ _ hS' (fun _ => ?_)
    clear hK K
    try simp only [z]
    have hn := ih W' Ao co ds Ap cp true (.pointer (some ⟨W.heap.size, 0, none⟩)) W.heap.size (by simp only [cond_true, cond_false] at hm ⊢; omega) hS' (Nat.le_trans hz hB.size) (RowsAt.at_ hPp hB) (fun _ h ad e => Nat.ne_of_lt (RowsAt.lt hPp h ad e)) (fun _ => ⟨rfl, hz, hrow⟩) 
    try simp only [z] at hn
    exact hn
  subst hb
  obtain ⟨rfl, gp, hp⟩ := Hp rfl
  obtain ⟨m, rfl⟩ : ∃ k, m = k + 1 := ⟨m - 1, by simp only [cond_true] at hm; omega⟩
  clear ih hm
  refine wpAnyH_ready (rs := [9]) (by kernel_rfl) (by simp) (AllReadyH.cons rfl (fun K hK => ?_) AllReadyH.nil)
  rw [if_pos (by rfl)]
  refine wp_store_row 49 _ _ none rfl rfl pp 49 _ #[.int .i64 kk, .int .i64 ee, .int .i64 oo, .int .i64 0, .slice Ap np cp] rfl rfl hp rfl postSize (by simp [Value.oneCell']) ?_
  have hPb := RowsAt.stored hPp (hq rfl) #[.int .i64 kk, .int .i64 ee, .int .i64 oo, .int .i64 0, .slice Ap np cp]
  have hrw := setRow_heap W pp _ #[.int .i64 kk, .int .i64 ee, .int .i64 oo, .int .i64 0, .slice Ap np cp] _ _ hp
  have hS2 := below_setRow hS (Nat.le_trans (show W5.heap.size <= W_0.heap.size from hV0) gp) #[.int .i64 kk, .int .i64 ee, .int .i64 oo, .int .i64 0, .slice Ap np cp]
  refine hK.out _ _ hS2 (fun _ => ?_)
  clear hK K
  try simp only [z]
  refine wpAnyH_ready (rs := [10]) (by kernel_rfl) (by simp) (AllReadyH.cons rfl (fun K hK => ?_) AllReadyH.nil)
  go_simp
  refine hK.out _ _ hS2 (fun _ => ?_)
  clear hK K
  try simp only [z]
  refine wpAnyH_done (by kernel_rfl) ?_ _
  try simp only [z]
  obtain ⟨W6, hWn⟩ : ∃ W6, W6 = W.setRow pp #[.int .i64 kk, .int .i64 ee, .int .i64 oo, .int .i64 0, .slice Ap np cp] := ⟨_, rfl⟩
  rw [<- hWn] at hrw hS2 hPb ⊢
  clear hWn hS hp hPp hq hz
  have hB06 := hB05.trans (hS2.mono hB05.size)
  have Hpb := Lib.hid hPb
  have Hpx := Lib.hid hrw
  have sp6 := some_lt hrw
  have Hcs6 := Lib.hid (RowsAt.at_ Hcs5.out hS2)
  have Hho6 := Lib.hid (Hho5.out.imp (Q := fun a b => a.Holds SR W6 W6.heap.size b) fun _ _ h => h.atR hS2)
  have Hgb6 := Lib.hid ((hS2.block _ s5).trans Hb5.out)
  have HB06 := Lib.hid hB06
  clear hrw hS2 hPb gp hB06
  go_wp2_with (fail)
  refine (elimr_any W6 Ar ln cr cs x (Hcl.out.trans Hln.out.symm) (by have := Hln.out; have := Hlr.out; omega) Hcs6.out).mono ?_
  rintro e V6 ⟨rfl, hC6⟩
  obtain ⟨x0, hx0⟩ : ∃ x0, x0 = Cn.found cs x := ⟨_, rfl⟩
  obtain ⟨ok, hok⟩ : ∃ ok, ok = Cn.isElim cs x := ⟨_, rfl⟩
  have HEL : Hid ((ok = false /\ Gr.elim (l.map Raw.cnt) x = none) ∨ ∃ y, ok = true /\ Gr.elim (l.map Raw.cnt) x = some y /\ x0.Holds SR W6 W6.heap.size y) := by
   show _ ∨ _
   rw [hx0, hok]
   rcases Cn.elim_hold (P := fun a b => a.Holds SR W6 W6.heap.size b) (fun _ _ h => ⟨h.he, h.hm⟩) x Hho6.out with h | ⟨y, h1, h2, _, h3, _⟩
   ·exact .inl h
   ·exact .inr ⟨y, h1, h2, h3⟩
  rw [<- hx0, <- hok]
  obtain ⟨W7, hW7, hB7, hb7, hz7⟩ := nw1 V6 #[.int .i64 x0.ent, .int .i64 x0.meth, .int .i64 x0.since, .bool x0.sg1, .slice x0.sA1 x0.sn1 x0.sc1, .bool x0.sg2, .slice x0.sA2 x0.sn2 x0.sc2, .bool x0.fg1, .slice x0.fA1 x0.fn1 x0.fc1, .bool x0.fg2, .slice x0.fA2 x0.fn2 x0.fc2, .slice x0.iA x0.im x0.ic, .slice x0.hA x0.hm x0.hc] 62
  have HW7 := Lib.hid hW7
  have hC67 := hC6.trans (hB7.mono hC6.size)
  have hB07 := HB06.out.trans (hC67.mono HB06.out.size)
  have hp7 := gbox Hpx.out hC67 sp6
  have p4 := cell_of_row _ _ 4 _ _ _ hp7
  have m1 := cell_of_row _ _ 1 _ _ _ hb7
  simp at p4 m1
  have s7 := some_lt hb7
  have sp7 := some_lt hp7
  have Hp7 := Lib.hid hp7
  have HC67 := Lib.hid hC67
  have Hb7 := Lib.hid hb7
  obtain ⟨mt, hmt⟩ : ∃ mt, mt = x0.meth := ⟨_, rfl⟩
  rw [<- hmt] at m1
  have Hmt := Lib.hid hmt
  clear hx0 hok hW7 hb7 hz7 hp7 hC67 hmt
  go_upto_region 9 with (fail)
  rw [<- HW7.out]
  by_cases h1 : ep = 0
  case neg =>
   have h1b : (ep != 0) = true := by simp [h1]
   have h0 := HNO.out (.inl h1)
   subst h0
   clear h1
   go_wp2
   go_ret
   exact ⟨by simp, hB07⟩
  have h1b : (ep != 0) = false := by simp [h1]
  have H1 := Lib.hid h1
  clear h1
  cases ok with
  | false =>
   have h0 := HNO.out (.inr (by rcases HEL.out with ⟨_, h⟩ | ⟨y, h, _⟩; exact h; cases h))
   subst h0
   go_wp2
   go_ret
   exact ⟨by simp, hB07⟩
  | true =>
  obtain ⟨y, hel, hyh⟩ : ∃ y, Gr.elim (l.map Raw.cnt) x = some y /\ x0.Holds SR W6 W6.heap.size y := by
   rcases HEL.out with ⟨h, _⟩ | ⟨y, _, h1, h2⟩
   ·cases h
   ·exact ⟨y, h1, h2⟩
  have HE := Lib.hid hel
  have HY := Lib.hid hyh
  have hF : W7.rangeAt V6.heap.size 7 [.bool x0.fg1, .slice x0.fA1 x0.fn1 x0.fc1, .bool x0.fg2, .slice x0.fA2 x0.fn2 x0.fc2] := fun j v hj => by
   have hr := range_row (cs := [.int .i64 x0.ent, .int .i64 x0.meth, .int .i64 x0.since, .bool x0.sg1, .slice x0.sA1 x0.sn1 x0.sc1, .bool x0.sg2, .slice x0.sA2 x0.sn2 x0.sc2, .bool x0.fg1, .slice x0.fA1 x0.fn1 x0.fc1, .bool x0.fg2, .slice x0.fA2 x0.fn2 x0.fc2, .slice x0.iA x0.im x0.ic, .slice x0.hA x0.hm x0.hc]) Hb7.out
   match j with
   | 0 => exact hr 7 _ (by simpa using hj)
   | 1 => exact hr 8 _ (by simpa using hj)
   | 2 => exact hr 9 _ (by simpa using hj)
   | 3 => exact hr 10 _ (by simpa using hj)
   | j + 4 => simp at hj
  have HF := Lib.hid hF
  have HYf := Lib.hid (hyh.atR HC67.out).hfi
  have HYo := Lib.hid hyh.hfo
  obtain ⟨sc, hsc⟩ : ∃ sc, sc = sg (R1.subN y.fN y.fD 1 1) := ⟨_, rfl⟩
  have HSC := Lib.hid hsc
  obtain ⟨wh, hwh⟩ : ∃ wh, wh = (sc == 0) := ⟨_, rfl⟩
  have hwb := hwh.symm
  have HWH : Hid (wh = true -> y.fN = y.fD) := Lib.hid fun h => by
   have h1 : sc = 0 := by rw [hwh] at h; simpa using h
   have h2 : R1.subN y.fN y.fD 1 1 = 0 := by
    rw [hsc] at h1
    rcases Int.lt_trichotomy (R1.subN y.fN y.fD 1 1) 0 with h | h | h
    ·rw [sg_pos.2.1.2 h] at h1; cases h1
    ·exact h
    ·rw [sg_pos.1.2 h] at h1; cases h1
   have h3 := (R1.subN_zero HYo.out.1 (by decide)).1 h2
   omega
  clear hel hyh hF hsc hwh m1 p4
  go_upto_region 11 with (fail)
  have hS : Below W7.heap.size W7 W7.drew := below_drawn (Below.refl _ _) 1
  refine wp_region_held (S := Below W7.heap.size W7) (by kernel_rfl) ?_
  change wpAnyH _ _ _ _ _ _ _ _ (World.drew W7)
  obtain ⟨W_1, hWd⟩ : ∃ W0, W0 = W7.drew := ⟨_, rfl⟩
  rw [<- hWd] at hS ⊢
  clear hWd
  refine tk (i := 0) (v := .pointer (some ⟨V6.heap.size, 7, none⟩)) rfl (by kernel_rfl) (fun _ _ _ h => h) (.inl ⟨by rfl, fun W' hS' => by go_simp⟩) hS ?_
  try simp only [z]
  refine tk (i := 1) (v := .agg #[.bool x0.fg1, .slice x0.fA1 x0.fn1 x0.fc1, .bool x0.fg2, .slice x0.fA2 x0.fn2 x0.fc2]) rfl (by kernel_rfl) (fun _ _ _ h => h) (yieldsIf_load_mid (by rfl) 59 _ rfl V6.heap.size 7 rfl [.bool x0.fg1, .slice x0.fA1 x0.fn1 x0.fc1, .bool x0.fg2, .slice x0.fA2 x0.fn2 x0.fc2] _ (fun W' hS' => range_below HF.out hS' s7) Tryz.underlying59 rfl ratSize) hS ?_
  try simp only [z]
  refine wpAnyH_ready (rs := [2]) (by kernel_rfl) (by simp) (AllReadyH.cons rfl (fun K hK => ?_) AllReadyH.nil)
  go_simp
  refine (R1.ratint_any W_1 1 (by omega) (by omega)).mono ?_
  rintro e W_2 ⟨⟨r2, rfl, hr2⟩, hD2⟩
  obtain ⟨g5, A5, n5, c5, g6, A6, n6, c6, rfl⟩ := hr2.open
  have hS2 := hS.trans (hD2.mono hS.size)
  refine hK.out _ _ hS2 (fun _ => ?_)
  clear hK K
  try simp only [z]
  refine wpAnyH_ready (rs := [3]) (by kernel_rfl) (by simp) (AllReadyH.cons rfl (fun K hK => ?_) AllReadyH.nil)
  go_simp
  refine (R1.cmp_rat W_2 5 5 5 5 _ _ y.fN y.fD 1 1 (by omega) (by omega) (by omega) HYo.out.1 (by omega) (R1.RI.at_ HYf.out hS2) hr2).mono ?_
  rw [<- HSC.out]
  rintro e W_3 ⟨rfl, hD3⟩
  have hS3 := hS2.trans (hD3.mono hS2.size)
  refine hK.out _ _ hS3 (fun _ => ?_)
  clear hK K
  try simp only [z]
  refine tk (i := 4) (v := .bool wh) rfl (by kernel_rfl) (fun _ _ _ h => h) (.inl ⟨by rfl, fun W' hS' => by have h' := hwb; go_simp⟩) hS3 ?_
  try simp only [z]
  refine wpAnyH_ready (rs := [5]) (by kernel_rfl) (by simp) (AllReadyH.cons rfl (fun K hK => ?_) AllReadyH.nil)
  go_simp
  refine hK.out _ _ hS3 (fun _ => ?_)
  clear hK K
  try simp only [z]
  refine wpAnyH_done (by kernel_rfl) ?_ _
  try simp only [z]
  obtain ⟨W8, hW8⟩ : ∃ W8, W8 = W_3 := ⟨_, rfl⟩
  rw [<- hW8] at hS3 ⊢
  clear hW8 hS hS2 hD2 hD3 hr2
  have hB08 := hB07.trans (hS3.mono hB07.size)
  have hb8 := gbox Hb7.out hS3 s7
  have m1 := cell_of_row _ _ 1 _ _ _ hb8
  simp at m1
  rw [<- Hmt.out] at m1
  have s8 := some_lt hb8
  have Hp8 := Lib.hid (gbox Hp7.out hS3 sp7)
  have HC68 := Lib.hid (HC67.out.trans (hS3.mono HC67.out.size))
  have hgl6 := some_lt Hgb6.out
  have Hg8 := Lib.hid ((HC68.out.block _ hgl6).trans Hgb6.out)
  have Hpb8 := Lib.hid ((Hpb.out.below HC68.out (Nat.le_refl _)).more HC68.out.size)
  have HR8 := Lib.hid (range_row (cs := [.int .i64 kk, .int .i64 ee, .int .i64 oo, .int .i64 0, .slice Ap np cp]) Hp8.out)
  have sg8 := some_lt Hg8.out
  have sp8 := some_lt Hp8.out
  clear hb8 hgl6
  refine (Classical.em (mt = 2)).elim (fun h2 => ?_) (fun h2 => ?_)
  focus
   have h2b : (mt == 2) = true := by simp [h2]
   have HWQ := Lib.hid (Gr.capital_whole (g := g) HE.out HYo.out.1 (.inl (by rw [<- HY.out.hm, <- Hmt.out]; exact h2)))
   clear h2
  rotate_left
  have h2b : (mt == 2) = false := by simp [h2]
  rcases wh with _ | _
  ·clear h2 hwb
   go_wp2
   go_ret
   exact ⟨rfl, hB08⟩
  have HWQ := Lib.hid (Gr.capital_whole (g := g) HE.out HYo.out.1 (.inr (HWH.out rfl)))
  clear h2
  rotate_left
  all_goals (
   obtain ⟨q0, q7, q5, q1⟩ := HPT.out H1.out
   have hwq := HWQ.out
   obtain ⟨⟨b0, b1⟩, ⟨b2, b3⟩, b4, b5⟩ := HSM.out
   obtain ⟨a0, ha0⟩ : ∃ a0, a0 = -(Gr.capital g (l.map Raw.cnt) x).1.1 := ⟨_, rfl⟩
   obtain ⟨a7, ha7⟩ : ∃ a7, a7 = -(Gr.capital g (l.map Raw.cnt) x).1.2.1 := ⟨_, rfl⟩
   obtain ⟨a1, ha1⟩ : ∃ a1, a1 = (Gr.capital g (l.map Raw.cnt) x).1.1 + (Gr.capital g (l.map Raw.cnt) x).1.2.2 := ⟨_, rfl⟩
   have q5' : Po.part ps g.r5 = 0 := by rw [q5]; omega
   rw [<- ha0] at q0
   rw [<- ha7] at q7
   rw [<- ha1] at q1
   have Hs : a1 = -a0 - a7 := by omega
   have k0 : -4000000000000000 <= a0 /\ a0 <= 4000000000000000 := by omega
   have k7 : -100000000000000 <= a7 /\ a7 <= 100000000000000 := by omega
   have Q0 := Lib.hid q0
   have Q7 := Lib.hid q7
   have Q5 := Lib.hid q5'
   have Q1 := Lib.hid q1
   have HS1 := Lib.hid Hs
   clear q0 q7 q5 q1 hwq b0 b1 b2 b3 b4 b5 ha0 ha7 ha1 q5' Hs
   go_upto_region 13 with (fail)
   have hS : Below W8.heap.size W8 W8.drew := below_drawn (Below.refl _ _) 1
   refine wp_region_held (S := Below W8.heap.size W8) (by kernel_rfl) ?_
   change wpAnyH _ _ _ _ _ _ _ _ (World.drew W8)
   obtain ⟨WC0, hWd⟩ : ∃ W0, W0 = W8.drew := ⟨_, rfl⟩
   rw [<- hWd] at hS ⊢
   clear hWd
   refine tk (i := 0) (v := .agg #[.int .i64 kk, .int .i64 ee, .int .i64 oo, .int .i64 0, .slice Ap np cp]) rfl (by kernel_rfl) (fun _ _ _ h => h) (yieldsIf_load_mid (by rfl) 49 _ rfl pp 0 rfl [.int .i64 kk, .int .i64 ee, .int .i64 oo, .int .i64 0, .slice Ap np cp] _ (fun W' hS' => range_below HR8.out hS' sp8) Tryz.underlying49 rfl postSize) hS ?_
   try simp only [z]
   refine tk (i := 1) (v := .pointer (some ⟨W4.heap.size, 5, none⟩)) rfl (by kernel_rfl) (fun _ _ _ h => h) (.inl ⟨by rfl, fun W' hS' => by go_simp⟩) hS ?_
   try simp only [z]
   refine tk (i := 2) (v := .pointer (some ⟨W4.heap.size, 10, none⟩)) rfl (by kernel_rfl) (fun _ _ _ h => h) (.inl ⟨by rfl, fun W' hS' => by go_simp⟩) hS ?_
   try simp only [z]
   refine tk (i := 3) (v := .int .i64 g.r5) rfl (by kernel_rfl) (fun _ _ _ h => h) (.inl ⟨by rfl, fun W' hS' => by have hc := cell_of_row _ _ 10 _ _ _ ((hS'.block _ sg8).trans Hg8.out); simp at hc; go_simp⟩) hS ?_
   try simp only [z]
   refine wpAnyH_ready (rs := [4]) (by kernel_rfl) (by simp) (AllReadyH.cons rfl (fun K hK => ?_) AllReadyH.nil)
   go_simp
   refine (part38_any WC0 kk ee oo 0 Ap np cp ps g.r5 HNP.out.symm (by have := HN4.out; omega) ((Hpb8.out.below hS (Nat.le_refl _)).more hS.size)).mono ?_
   rw [Q5.out]
   rintro e WC1 ⟨rfl, hBc⟩
   have hVC1 := hS.trans (hBc.mono hS.size)
   clear hBc
   refine hK.out _ _ hVC1 (fun _ => ?_)
   clear hK K
   try simp only [z]
   refine tk (i := 5) (v := .bool true) rfl (by kernel_rfl) (fun _ _ _ h => h) (.inl ⟨by rfl, fun W' hS' => by go_simp⟩) hVC1 ?_
   try simp only [z]
   refine tk (i := 6) (v := .bool true) rfl (by kernel_rfl) (fun _ _ _ h => h) (.inl ⟨by rfl, fun W' hS' => by go_simp⟩) hVC1 ?_
   try simp only [z]
   refine tk (i := 7) (v := .agg #[.int .i64 kk, .int .i64 ee, .int .i64 oo, .int .i64 0, .slice Ap np cp]) rfl (by kernel_rfl) (fun _ _ _ h => h) (yieldsIf_load_mid (by rfl) 49 _ rfl pp 0 rfl [.int .i64 kk, .int .i64 ee, .int .i64 oo, .int .i64 0, .slice Ap np cp] _ (fun W' hS' => range_below HR8.out hS' sp8) Tryz.underlying49 rfl postSize) hVC1 ?_
   try simp only [z]
   refine tk (i := 8) (v := .pointer (some ⟨W4.heap.size, 5, none⟩)) rfl (by kernel_rfl) (fun _ _ _ h => h) (.inl ⟨by rfl, fun W' hS' => by go_simp⟩) hVC1 ?_
   try simp only [z]
   refine tk (i := 9) (v := .pointer (some ⟨W4.heap.size, 6, none⟩)) rfl (by kernel_rfl) (fun _ _ _ h => h) (.inl ⟨by rfl, fun W' hS' => by go_simp⟩) hVC1 ?_
   try simp only [z]
   refine tk (i := 10) (v := .int .i64 g.r1) rfl (by kernel_rfl) (fun _ _ _ h => h) (.inl ⟨by rfl, fun W' hS' => by have hc := cell_of_row _ _ 6 _ _ _ ((hS'.block _ sg8).trans Hg8.out); simp at hc; go_simp⟩) hVC1 ?_
   try simp only [z]
   refine tk (i := 12) (v := .agg #[.int .i64 kk, .int .i64 ee, .int .i64 oo, .int .i64 0, .slice Ap np cp]) rfl (by kernel_rfl) (fun _ _ _ h => h) (yieldsIf_load_mid (by rfl) 49 _ rfl pp 0 rfl [.int .i64 kk, .int .i64 ee, .int .i64 oo, .int .i64 0, .slice Ap np cp] _ (fun W' hS' => range_below HR8.out hS' sp8) Tryz.underlying49 rfl postSize) hVC1 ?_
   try simp only [z]
   refine tk (i := 13) (v := .pointer (some ⟨W4.heap.size, 5, none⟩)) rfl (by kernel_rfl) (fun _ _ _ h => h) (.inl ⟨by rfl, fun W' hS' => by go_simp⟩) hVC1 ?_
   try simp only [z]
   refine tk (i := 14) (v := .pointer (some ⟨W4.heap.size, 5, none⟩)) rfl (by kernel_rfl) (fun _ _ _ h => h) (.inl ⟨by rfl, fun W' hS' => by go_simp⟩) hVC1 ?_
   try simp only [z]
   refine tk (i := 15) (v := .int .i64 g.r0) rfl (by kernel_rfl) (fun _ _ _ h => h) (.inl ⟨by rfl, fun W' hS' => by have hc := cell_of_row _ _ 5 _ _ _ ((hS'.block _ sg8).trans Hg8.out); simp at hc; go_simp⟩) hVC1 ?_
   try simp only [z]
   refine tk (i := 18) (v := .agg #[.int .i64 kk, .int .i64 ee, .int .i64 oo, .int .i64 0, .slice Ap np cp]) rfl (by kernel_rfl) (fun _ _ _ h => h) (yieldsIf_load_mid (by rfl) 49 _ rfl pp 0 rfl [.int .i64 kk, .int .i64 ee, .int .i64 oo, .int .i64 0, .slice Ap np cp] _ (fun W' hS' => range_below HR8.out hS' sp8) Tryz.underlying49 rfl postSize) hVC1 ?_
   try simp only [z]
   refine tk (i := 19) (v := .pointer (some ⟨W4.heap.size, 5, none⟩)) rfl (by kernel_rfl) (fun _ _ _ h => h) (.inl ⟨by rfl, fun W' hS' => by go_simp⟩) hVC1 ?_
   try simp only [z]
   refine tk (i := 20) (v := .pointer (some ⟨W4.heap.size, 12, none⟩)) rfl (by kernel_rfl) (fun _ _ _ h => h) (.inl ⟨by rfl, fun W' hS' => by go_simp⟩) hVC1 ?_
   try simp only [z]
   refine tk (i := 21) (v := .int .i64 g.r7) rfl (by kernel_rfl) (fun _ _ _ h => h) (.inl ⟨by rfl, fun W' hS' => by have hc := cell_of_row _ _ 12 _ _ _ ((hS'.block _ sg8).trans Hg8.out); simp at hc; go_simp⟩) hVC1 ?_
   try simp only [z]
   refine wpAnyH_ready (rs := [11]) (by kernel_rfl) (by simp) (AllReadyH.cons rfl (fun K hK => ?_) AllReadyH.nil)
   go_simp
   refine (part38_any WC1 kk ee oo 0 Ap np cp ps g.r1 HNP.out.symm (by have := HN4.out; omega) ((Hpb8.out.below hVC1 (Nat.le_refl _)).more hVC1.size)).mono ?_
   rw [Q1.out]
   rintro e WC2 ⟨rfl, hBc⟩
   have hVC2 := hVC1.trans (hBc.mono hVC1.size)
   clear hBc
   refine hK.out _ _ hVC2 (fun _ => ?_)
   clear hK K
   try simp only [z]
   refine wpAnyH_ready (rs := [16]) (by kernel_rfl) (by simp) (AllReadyH.cons rfl (fun K hK => ?_) AllReadyH.nil)
   go_simp
   refine (part38_any WC2 kk ee oo 0 Ap np cp ps g.r0 HNP.out.symm (by have := HN4.out; omega) ((Hpb8.out.below hVC2 (Nat.le_refl _)).more hVC2.size)).mono ?_
   rw [Q0.out]
   rintro e WC3 ⟨rfl, hBc⟩
   have hVC3 := hVC2.trans (hBc.mono hVC2.size)
   clear hBc
   refine hK.out _ _ hVC3 (fun _ => ?_)
   clear hK K
   try simp only [z]
   refine tk (i := 17) (v := .int .i64 (-a0)) rfl (by kernel_rfl) (fun _ _ _ h => h) (.inl ⟨by rfl, fun W' hS' => by have hw : wrap64 (-a0) = -a0 := IntWalk.wrap64_in _ (by omega); (go_simp; try (rw [IntKind.wrap_i64]; clear hw; omega))⟩) hVC3 ?_
   try simp only [z]
   refine wpAnyH_ready (rs := [22]) (by kernel_rfl) (by simp) (AllReadyH.cons rfl (fun K hK => ?_) AllReadyH.nil)
   go_simp
   refine (part38_any WC3 kk ee oo 0 Ap np cp ps g.r7 HNP.out.symm (by have := HN4.out; omega) ((Hpb8.out.below hVC3 (Nat.le_refl _)).more hVC3.size)).mono ?_
   rw [Q7.out]
   rintro e WC4 ⟨rfl, hBc⟩
   have hVC4 := hVC3.trans (hBc.mono hVC3.size)
   clear hBc
   refine hK.out _ _ hVC4 (fun _ => ?_)
   clear hK K
   try simp only [z]
   refine tk (i := 23) (v := .int .i64 a1) rfl (by kernel_rfl) (fun _ _ _ h => h) (.inl ⟨by rfl, fun W' hS' => by have hw : wrap64 (-a0 - a7) = -a0 - a7 := IntWalk.wrap64_in _ (by omega); (rw [HS1.out]; go_simp; try (rw [IntKind.wrap_i64]; clear hw; omega))⟩) hVC4 ?_
   try simp only [z]
   refine tk (i := 24) (v := .bool true) rfl (by kernel_rfl) (fun _ _ _ h => h) (.inl ⟨by rfl, fun W' hS' => by go_simp⟩) hVC4 ?_
   try simp only [z]
   refine tk (i := 25) (v := .bool true) rfl (by kernel_rfl) (fun _ _ _ h => h) (.inl ⟨by rfl, fun W' hS' => by go_simp⟩) hVC4 ?_
   try simp only [z]
   refine wpAnyH_ready (rs := [26]) (by kernel_rfl) (by simp) (AllReadyH.cons rfl (fun K hK => ?_) AllReadyH.nil)
   go_simp
   refine hK.out _ _ hVC4 (fun _ => ?_)
   clear hK K
   try simp only [z]
   refine wpAnyH_done (by kernel_rfl) ?_ _
   try simp only [z]
   have hB09 := hB08.trans (hVC4.mono hB08.size)
   go_wp2
   go_ret
   exact ⟨rfl, hB09⟩)
 have n1 : ∀ (m : Nat) (W : World) (Ao : Option Addr) (co : Nat) (ds : List Con) (bp : Bool) (vp : Value) (pp : Nat), 6 + cond bp 0 1 <= m -> RG W -> W_0.heap.size <= W.heap.size -> (ds.length = l.length) -> (ConsAt W W.heap.size Ao ds) -> (Hold (fun a b => a.Holds SD W W.heap.size b) ds (l.map Raw.cnt)) -> Mk W_0 W bp vp pp #[.int .i64 0, .int .i64 0, .int .i64 0, .int .i64 0, .slice none 0 0] 49 -> wpAnyH Tryz.prog md' ops' Q' RG m #[true, true, true, true, false, false, false, false, bp, false, false] ((a'.put (some 26) (.slice Ao ln co)).put (some 8) vp) W := by
  intro m
  induction m with
  | zero => intros; omega
  | succ m ih =>
  intro W Ao co ds bp vp pp hm hS hz hdl hds hdo Hp
  subst hlm hlo hlq hla hRG
  try simp only [z]
  refine wpAnyH_ready (rs := 4 :: (cond bp [] [8] ++ [])) (by cases bp <;> kernel_rfl) (by simp) (.cons rfl (fun K hK => ?_) (ropt (fun hp => .cons rfl (fun K hK => ?_) .nil) .nil))
  ·clear ih
   have Hof := Lib.hid (cpostd_any W g Ao ln co ds (l.map Raw.cnt) x (hdl.trans Hln.out.symm) (by have := Hln.out; have := H8.out; omega) hds hdo (Hga.out.at_ hS))
   go_simp
   refine Hof.out.mono ?_
   rintro e W' hpp
   obtain ⟨hB, Ap, cp, hfp, rfl, hPp⟩ := PostingPost.one hpp
   clear hpp
   rw [<- HPS.out] at hPp
   rw [<- HKK.out, <- HEE.out, <- HOO.out, <- HEP.out, <- HPS.out, <- HNP.out]
   have hS' := hS.trans (hB.mono hS.size)
   refine hK.out _ _ hS' (fun _ => ?_)
   clear hK K
   try simp only [z]
   obtain ⟨m, rfl⟩ : ∃ k, m = k + 3 := ⟨m - 3, by omega⟩
   refine wpAnyH_take (i := 5) (v := .tuple #[.agg #[.int .i64 kk, .int .i64 ee, .int .i64 oo, .int .i64 0, .slice Ap np cp], .int .i64 ep]) rfl (by kernel_rfl) (by cases bp <;> kernel_rfl) (by cases bp <;> kernel_rfl) (fun _ _ _ h => h) (.inl ⟨by rfl, fun W' hS' => by go_simp⟩) hS' ?_
   try simp only [z]
   refine wpAnyH_take (i := 6) (v := .agg #[.int .i64 kk, .int .i64 ee, .int .i64 oo, .int .i64 0, .slice Ap np cp]) rfl (by kernel_rfl) (by cases bp <;> kernel_rfl) (by cases bp <;> kernel_rfl) (fun _ _ _ h => h) (.inl ⟨by rfl, fun W' hS' => by go_simp⟩) hS' ?_
   try simp only [z]
   refine wpAnyH_take (i := 7) (v := .int .i64 ep) rfl (by kernel_rfl) (by cases bp <;> kernel_rfl) (by cases bp <;> kernel_rfl) (fun _ _ _ h => h) (.inl ⟨by rfl, fun W' hS' => by go_simp⟩) hS' ?_
   try simp only [z]
   have hn := n2 m W' Ao co ds Ap cp bp vp pp (by omega) hS' (Nat.le_trans hz hB.size) (hPp) (fun hb _ ad e => Nat.ne_of_gt (Nat.lt_of_lt_of_le (some_lt (Hp hb).2.2) (hfp ad e))) (Hp.step hB)
   try simp only [z] at hn
   exact hn
  ·subst hp
   obtain ⟨W', hWn, hB, hrow, _⟩ := nw1 W #[.int .i64 0, .int .i64 0, .int .i64 0, .int .i64 0, .slice none 0 0] 49
   go_simp
   rw [<- hWn]
   clear hWn
   have hS' := hS.trans (hB.mono hS.size)
   refine hK.out _ _ hS' (fun _ => ?_)
   clear hK K
   try simp only [z]
   have hn := ih W' Ao co ds true (.pointer (some ⟨W.heap.size, 0, none⟩)) W.heap.size (by simp only [cond_true, cond_false] at hm ⊢; omega) hS' (Nat.le_trans hz hB.size) (hdl) (RowsAt.at_ hds hB) (hdo.imp (Q := fun a b => a.Holds SD W' W'.heap.size b) fun _ _ h => h.atD hB) (fun _ => ⟨rfl, hz, hrow⟩) 
   try simp only [z] at hn
   exact hn
 have n0 : ∀ (m : Nat) (W : World) (bp : Bool) (vp : Value) (pp : Nat), 7 + cond bp 0 1 <= m -> RG W -> W_0.heap.size <= W.heap.size -> Mk W_0 W bp vp pp #[.int .i64 0, .int .i64 0, .int .i64 0, .int .i64 0, .slice none 0 0] 49 -> wpAnyH Tryz.prog md' ops' Q' RG m #[true, true, false, true, false, false, false, false, bp, false, false] (a'.put (some 8) vp) W := by
  intro m
  induction m with
  | zero => intros; omega
  | succ m ih =>
  intro W bp vp pp hm hS hz Hp
  subst hlm hlo hlq hla hRG
  try simp only [z]
  refine wpAnyH_ready (rs := 2 :: (cond bp [] [8] ++ [])) (by cases bp <;> kernel_rfl) (by simp) (.cons rfl (fun K hK => ?_) (ropt (fun hp => .cons rfl (fun K hK => ?_) .nil) .nil))
  ·clear ih
   have Hown := Lib.hid (own38_any W A n c l Hl.out (by have := Hl.out; have := H8.out; omega) (RowsAt.at_ Hr5.out hS) (fun a ha => ((Hx5.out a ha).below hS (Nat.le_refl _)).more hS.size) Hall.out)
   go_simp
   refine Hown.out.mono ?_
   rintro e W' ⟨hB, Ao, co, ds, rfl, hdl, hds, hdo⟩
   rw [<- Hln.out]
   have hS' := hS.trans (hB.mono hS.size)
   refine hK.out _ _ hS' (fun _ => ?_)
   clear hK K
   try simp only [z]
   have hn := n1 m W' Ao co ds bp vp pp (by omega) hS' (Nat.le_trans hz hB.size) (hdl) (hds) (hdo) (Hp.step hB)
   try simp only [z] at hn
   exact hn
  ·subst hp
   obtain ⟨W', hWn, hB, hrow, _⟩ := nw1 W #[.int .i64 0, .int .i64 0, .int .i64 0, .int .i64 0, .slice none 0 0] 49
   go_simp
   rw [<- hWn]
   clear hWn
   have hS' := hS.trans (hB.mono hS.size)
   refine hK.out _ _ hS' (fun _ => ?_)
   clear hK K
   try simp only [z]
   have hn := ih W' true (.pointer (some ⟨W.heap.size, 0, none⟩)) W.heap.size (by simp only [cond_true, cond_false] at hm ⊢; omega) hS' (Nat.le_trans hz hB.size) (fun _ => ⟨rfl, hz, hrow⟩) 
   try simp only [z] at hn
   exact hn
 have hn := n0 _ W_0 false undef 0 (Nat.le_refl _) hS (Nat.le_refl _)  (fun h => nomatch h)
 subst hlm hlo hlq hla hRG
 exact hn
end
end Go.Proofs.YtccapfbblnnfjaaGreat
