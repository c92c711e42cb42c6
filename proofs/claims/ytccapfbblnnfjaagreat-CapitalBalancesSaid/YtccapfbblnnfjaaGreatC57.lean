/- My texts LawB38. -/
import Derived.Test.YtccapfbblnnfjaaGreatC46
import Derived.Test.YtccapfbblnnfjaaGreatC52
import Derived.Test.YtccapfbblnnfjaaGreatC53
import Derived.Test.YtccapfbblnnfjaaGreatE00
import Derived.Test.YtccapfbblnnfjaaGreatE04
set_option linter.unusedVariables false
set_option linter.unusedSimpArgs false
set_option maxRecDepth 100000
set_option maxHeartbeats 8000000
namespace Go.Proofs.YtccapfbblnnfjaaGreat
open Go.RowKit
section
variable (w : World)
theorem law_balances38 (A : Option Addr) (n c : Nat) (l : List Raw) (x : Int) (hl : l.length = n) (hn : n <= maxLen) (hr : RawsAt w w.heap.size A l) (hx : ∀ a ∈ l, a.At w w.heap.size) :
  Calls Tryz.prog 9 #[.slice A n c, .int .i64 x] w fun e w' => e = .returned (.bool true) /\ Below w.heap.size w w' := by
 have Hl := Lib.hid hl
 have Hr := Lib.hid hr
 have Hx := Lib.hid hx
 unfold maxLen at hn
 have Hn := Lib.hid hn
 clear hl hr hx hn
 go_enter Tryz.func9, Tryz.ntmps9
 go_wp2_with (fail)
 refine (awake38_any w).mono ?_
 rintro e W2 ⟨rfl, hB2⟩
 have Hr2 := Lib.hid (RowsAt.at_ Hr.out hB2)
 have Hx2 := Lib.hid (fun a ha => ((Hx.out a ha).below hB2 (Nat.le_refl _)).more hB2.size : ∀ a ∈ l, a.At W2 W2.heap.size)
 go_wp2_with (fail)
 refine (contrr_any W2 A n c l Hl.out Hn.out Hr2.out Hx2.out).mono ?_
 rintro e W3 ⟨hB3, v, ok, rfl, hok⟩
 have hB03 := hB2.trans (hB3.mono hB2.size)
 have Hr3 := Lib.hid (RowsAt.at_ Hr2.out hB3)
 have Hx3 := Lib.hid (fun a ha => ((Hx2.out a ha).below hB3 (Nat.le_refl _)).more hB3.size : ∀ a ∈ l, a.At W3 W3.heap.size)
 cases ok with
 | false =>
  clear hok
  go_wp2
  go_ret
  exact ⟨rfl, hB03⟩
 | true =>
 obtain ⟨h8, hall, Ar, cr, cs, rfl, hcl, hcs, hho⟩ := hok rfl
 have H8 := Lib.hid h8
 have Hall := Lib.hid hall
 have Hcl := Lib.hid hcl
 have Hcs := Lib.hid hcs
 have Hho := Lib.hid hho
 have Hlr := Lib.hid (show l.length <= 100 by omega)
 clear hok h8 hall hcl hcs hho
 go_wp2_with (fail)
 refine (sample_any W3).mono ?_
 rintro e W4 ⟨hB4, g, rfl, hg, hgs⟩
 have HGS := Lib.hid hgs
 have hB04 := hB03.trans (hB4.mono hB03.size)
 obtain ⟨W5, hW5, hB5, hb5, hz5⟩ := nw1 W4 #[.string g.cur, .int .i64 g.Y, .int .i64 g.M, .int .i64 g.N, .slice g.cA g.cn g.cc, .int .i64 g.r0, .int .i64 g.r1, .int .i64 g.r2, .int .i64 g.r3, .int .i64 g.r4, .int .i64 g.r5, .int .i64 g.r6, .int .i64 g.r7, .int .i64 g.r8, .int .i64 g.r9, .int .i64 g.r10, .int .i64 g.r11, .int .i64 g.r12, .int .i64 g.r13, .int .i64 g.r14, .slice g.eA g.en g.ec] 29
 have HW5 := Lib.hid hW5
 have hB35 := hB4.trans (hB5.mono hB4.size)
 have hB05 := hB04.trans (hB5.mono hB04.size)
 have Hga := Lib.hid (hg.at_ hB5)
 have Hb5 := Lib.hid hb5
 have s5 : W4.heap.size < W5.heap.size := by omega
 have Hr5 := Lib.hid (RowsAt.at_ Hr3.out hB35)
 have Hx5 := Lib.hid (fun a ha => ((Hx3.out a ha).below hB35 (Nat.le_refl _)).more hB35.size : ∀ a ∈ l, a.At W5 W5.heap.size)
 have Hcs5 := Lib.hid (RowsAt.at_ Hcs.out hB35)
 have Hho5 := Lib.hid (Hho.out.imp (Q := fun a b => a.Holds SR W5 W5.heap.size b) fun _ _ h => h.atR hB35)
 have hrg5 := Lib.hid (grp_range hb5)
 obtain ⟨ln, hln⟩ : ∃ ln, ln = l.length := ⟨_, rfl⟩
 have Hln := Lib.hid hln
 rw [<- hln]
 have HRO := Lib.hid (Smp.roles38 hgs)
 obtain ⟨kk, hkk⟩ : ∃ kk, kk = Po.pk 4 (Gr.cpost g (l.map Raw.cnt) x) := ⟨_, rfl⟩
 obtain ⟨ee, hee⟩ : ∃ ee, ee = Po.pk x (Gr.cpost g (l.map Raw.cnt) x) := ⟨_, rfl⟩
 obtain ⟨oo, hoo⟩ : ∃ oo, oo = Po.pk (-1) (Gr.cpost g (l.map Raw.cnt) x) := ⟨_, rfl⟩
 obtain ⟨ep, hep⟩ : ∃ ep, ep = (Gr.cpost g (l.map Raw.cnt) x).2 := ⟨_, rfl⟩
 obtain ⟨ps, hps⟩ : ∃ ps, ps = Po.pl (Gr.cpost g (l.map Raw.cnt) x) := ⟨_, rfl⟩
 obtain ⟨np, hnp⟩ : ∃ np, np = ps.length := ⟨_, rfl⟩
 have HKK := Lib.hid hkk
 have HEE := Lib.hid hee
 have HOO := Lib.hid hoo
 have HEP := Lib.hid hep
 have HPS := Lib.hid hps
 have HNP := Lib.hid hnp
 clear hkk hee hoo hep hps hnp
 have HFN : Hid (ep = 0 -> ps ≠ [] -> Po.Fine g ps /\ 0 <= x /\ x < 4 /\ ∃ y, Gr.elim (l.map Raw.cnt) x = some y /\ (Gr.capital g (l.map Raw.cnt) x).1.1 = Gr.invest g x y.since false (l.map Raw.cnt) /\ (Gr.capital g (l.map Raw.cnt) x).1.2.1 = Gr.sumOf (fun a => decide (a = g.r7)) y.its) := Lib.hid fun h h2 => by
  rw [HPS.out] at h2 ⊢; exact Gr.cpost_fine hgs (by rw [<- HEP.out]; exact h) h2
 have HPT : Hid (ep = 0 -> Po.part ps g.r0 = -(Gr.capital g (l.map Raw.cnt) x).1.1 /\ Po.part ps g.r7 = -(Gr.capital g (l.map Raw.cnt) x).1.2.1) := Lib.hid fun h => by
  rw [HPS.out]; have := Gr.cpost_parts HRO.out (by rw [<- HEP.out]; exact h); exact ⟨this.1, this.2.1⟩
 have HNE : Hid (ep ≠ 0 -> ps = []) := Lib.hid fun h => by rw [HPS.out]; exact Gr.cpost_none (.inl (by rw [<- HEP.out]; exact h))
 have HZK : Hid (ps = [] -> kk = 0 /\ ee = 0 /\ oo = 0) := Lib.hid fun h => by
  have h1 : Po.none_ (Gr.cpost g (l.map Raw.cnt) x) := by
   by_cases h2 : Po.none_ (Gr.cpost g (l.map Raw.cnt) x)
   ·exact h2
   ·rw [HPS.out] at h
    unfold Po.pl at h
    rw [if_neg h2] at h
    exact absurd (.inr h) h2
  rw [HKK.out, HEE.out, HOO.out]
  exact ⟨Po.pk_yes h1, Po.pk_yes h1, Po.pk_yes h1⟩
 have HNK : Hid (ps ≠ [] -> kk = 4 /\ ee = x /\ oo = -1) := Lib.hid fun h => by
  have h1 : ¬ Po.none_ (Gr.cpost g (l.map Raw.cnt) x) := fun h2 => h (by rw [HPS.out]; exact Po.pl_yes h2)
  rw [HKK.out, HEE.out, HOO.out]
  exact ⟨Po.pk_no h1, Po.pk_no h1, Po.pk_no h1⟩
 have HVA : Hid (Gr.valid g = true) := Lib.hid (by obtain ⟨a, b, d, e, x0, x1, x2, x3, he⟩ := hgs; rw [he]; kernel_rfl)
 have HSM := Lib.hid (Gr.capital_small (g := g) (x := x) Hho.out (by have := Hcl.out; have := Hlr.out; omega))
 have HN4 : Hid (np <= 4) := by show _ <= _; rw [HNP.out, HPS.out]; exact Nat.le_trans (Po.pl_length _) (Gr.cpost_len _ _ _)
 have h1c : ∀ v ∈ (#[.string g.cur, .int .i64 g.Y, .int .i64 g.M, .int .i64 g.N, .slice g.cA g.cn g.cc, .int .i64 g.r0, .int .i64 g.r1, .int .i64 g.r2, .int .i64 g.r3, .int .i64 g.r4, .int .i64 g.r5, .int .i64 g.r6, .int .i64 g.r7, .int .i64 g.r8, .int .i64 g.r9, .int .i64 g.r10, .int .i64 g.r11, .int .i64 g.r12, .int .i64 g.r13, .int .i64 g.r14, .slice g.eA g.en g.ec] : Array Value).toList, v.oneCell' = true := by simp [Value.oneCell']
 clear hg hgs hW5 hb5 hz5 hln
 go_upto_region 7 with (refine wpList_store_new rfl 29 _ _ rfl 29 _ #[.string g.cur, .int .i64 g.Y, .int .i64 g.M, .int .i64 g.N, .slice g.cA g.cn g.cc, .int .i64 g.r0, .int .i64 g.r1, .int .i64 g.r2, .int .i64 g.r3, .int .i64 g.r4, .int .i64 g.r5, .int .i64 g.r6, .int .i64 g.r7, .int .i64 g.r8, .int .i64 g.r9, .int .i64 g.r10, .int .i64 g.r11, .int .i64 g.r12, .int .i64 g.r13, .int .i64 g.r14, .slice g.eA g.en g.ec] rfl rfl rfl h1c grpSize ?_)
 clear h1c
 rw [<- HW5.out]
 have hS : Below W5.heap.size W5 W5.drew := below_drawn (Below.refl _ _) 1
 refine wp_region_held (S := Below W5.heap.size W5) (by kernel_rfl) ?_
 change wpAnyH _ _ _ _ _ _ _ _ (World.drew W5)
 obtain ⟨W_0, hWd⟩ : ∃ W0, W0 = W5.drew := ⟨_, rfl⟩
 rw [<- hWd] at hS ⊢
 clear hWd
 refine tk (i := 0) (v := .agg #[.string g.cur, .int .i64 g.Y, .int .i64 g.M, .int .i64 g.N, .slice g.cA g.cn g.cc, .int .i64 g.r0, .int .i64 g.r1, .int .i64 g.r2, .int .i64 g.r3, .int .i64 g.r4, .int .i64 g.r5, .int .i64 g.r6, .int .i64 g.r7, .int .i64 g.r8, .int .i64 g.r9, .int .i64 g.r10, .int .i64 g.r11, .int .i64 g.r12, .int .i64 g.r13, .int .i64 g.r14, .slice g.eA g.en g.ec]) rfl (by kernel_rfl) (fun _ _ _ h => h) (yieldsIf_load_mid (by rfl) 29 _ rfl W4.heap.size 0 rfl [.string g.cur, .int .i64 g.Y, .int .i64 g.M, .int .i64 g.N, .slice g.cA g.cn g.cc, .int .i64 g.r0, .int .i64 g.r1, .int .i64 g.r2, .int .i64 g.r3, .int .i64 g.r4, .int .i64 g.r5, .int .i64 g.r6, .int .i64 g.r7, .int .i64 g.r8, .int .i64 g.r9, .int .i64 g.r10, .int .i64 g.r11, .int .i64 g.r12, .int .i64 g.r13, .int .i64 g.r14, .slice g.eA g.en g.ec] _ (fun W' hS' => range_below hrg5.out hS' s5) Tryz.underlying29 rfl grpSize) hS ?_
 try simp only [z]
 refine tk (i := 1) (v := .slice A n c) rfl (by kernel_rfl) (fun _ _ _ h => h) (.inl ⟨by rfl, fun W' hS' => by go_simp⟩) hS ?_
 try simp only [z]
 refine tk (i := 3) (v := .int .i64 x) rfl (by kernel_rfl) (fun _ _ _ h => h) (.inl ⟨by rfl, fun W' hS' => by go_simp⟩) hS ?_
 try simp only [z]
 have hV0 := hS.size
 refine wpAnyH_letters fun md' ops' Q' a' hlm hlo hlq hla => ?_
 obtain ⟨RG, hRG⟩ : ∃ R : World -> Prop, R = Below W5.heap.size W5 := ⟨_, rfl⟩
 rw [<- hRG] at hS ⊢
 have n2 : ∀ (m : Nat) (W : World) (Ao : Option Addr) (co : Nat) (ds : List Con) (Ap : Option Addr) (cp : Nat) (bp : Bool) (vp : Value) (pp : Nat), 2 + cond bp 0 1 <= m -> RG W -> W_0.heap.size <= W.heap.size -> (PrtsAt W W.heap.size Ap ps) -> (bp = true -> ps ≠ [] -> ∀ ad, Ap = some ad -> ad.block ≠ pp) -> Mk W_0 W bp vp pp #[.int .i64 0, .int .i64 0, .int .i64 0, .int .i64 0, .slice none 0 0] 49 -> wpAnyH Tryz.prog md' ops' Q' RG m #[true, true, true, true, true, true, true, true, bp, false, false] ((((((a'.put (some 25) (.slice Ao ln co)).put (some 27) (.tuple #[.agg #[.int .i64 kk, .int .i64 ee, .int .i64 oo, .int .i64 0, .slice Ap np cp], .int .i64 ep])).put (some 22) (.tuple #[.agg #[.int .i64 kk, .int .i64 ee, .int .i64 oo, .int .i64 0, .slice Ap np cp], .int .i64 ep])).put (some 28) (.agg #[.int .i64 kk, .int .i64 ee, .int .i64 oo, .int .i64 0, .slice Ap np cp])).put (some 29) (.int .i64 ep)).put (some 8) vp) W := by
  intro m
  induction m with
  | zero => intros; omega
  | succ m ih =>
  intro W Ao co ds Ap cp bp vp pp hm hS hz hPp hq Hp
  subst hlm hlo hlq hla hRG
  try simp only [z]
  by_cases hb : bp = true
  rotate_left
  ·refine wpAnyH_ready (rs := (cond bp [] [8] ++ [])) (by revert hb; cases bp <;> intro hb <;> first | exact absurd (by decide) hb | kernel_rfl) (by revert hb; cases bp <;> decide) (ropt (fun hp => .cons rfl (fun K hK => ?_) .nil) .nil)
   ·subst hp
    obtain ⟨W', hWn, hB, hrow, _⟩ := nw1 W #[.int .i64 0, .int .i64 0, .int .i64 0, .int .i64 0, .slice none 0 0] 49
    go_simp
    rw [<- hWn]
    clear hWn
    have hS' := hS.trans (hB.mono hS.size)
    refine hK.out _ _ hS' (fun _ => ?_)
    clear hK K
    try simp only [z]
    have hn := ih W' Ao co ds Ap cp true (.pointer (some ⟨W.heap.size, 0, none⟩)) W.heap.size (by simp only [cond_true, cond_false] at hm ⊢; omega) hS' (Nat.le_trans hz hB.size) (RowsAt.at_ hPp hB) (fun _ h ad e => Nat.ne_of_lt (RowsAt.lt hPp h ad e)) (fun _ => ⟨rfl, hz, hrow⟩) 
    try simp only [z] at hn
    exact hn
  subst hb
  obtain ⟨rfl, gp, hp⟩ := Hp rfl
  obtain ⟨m, rfl⟩ : ∃ k, m = k + 1 := ⟨m - 1, by simp only [cond_true] at hm; omega⟩
  clear ih hm
  refine wpAnyH_ready (rs := [9]) (by kernel_rfl) (by simp) (AllReadyH.cons rfl (fun K hK => ?_) AllReadyH.nil)
  rw [if_pos (by rfl)]
  refine wp_store_row 49 _ _ none rfl rfl pp 49 _ #[.int .i64 kk, .int .i64 ee, .int .i64 oo, .int .i64 0, .slice Ap np cp] rfl rfl hp rfl postSize (by simp [Value.oneCell']) ?_
  have hPb := RowsAt.stored hPp (hq rfl) #[.int .i64 kk, .int .i64 ee, .int .i64 oo, .int .i64 0, .slice Ap np cp]
  have hrw := setRow_heap W pp _ #[.int .i64 kk, .int .i64 ee, .int .i64 oo, .int .i64 0, .slice Ap np cp] _ _ hp
  have hS2 := below_setRow hS (Nat.le_trans (show W5.heap.size <= W_0.heap.size from hV0) gp) #[.int .i64 kk, .int .i64 ee, .int .i64 oo, .int .i64 0, .slice Ap np cp]
  refine hK.out _ _ hS2 (fun _ => ?_)
  clear hK K
  try simp only [z]
  refine wpAnyH_ready (rs := [10]) (by kernel_rfl) (by simp) (AllReadyH.cons rfl (fun K hK => ?_) AllReadyH.nil)
  go_simp
  refine hK.out _ _ hS2 (fun _ => ?_)
  clear hK K
  try simp only [z]
  refine wpAnyH_done (by kernel_rfl) ?_ _
  try simp only [z]
  obtain ⟨W6, hWn⟩ : ∃ W6, W6 = W.setRow pp #[.int .i64 kk, .int .i64 ee, .int .i64 oo, .int .i64 0, .slice Ap np cp] := ⟨_, rfl⟩
  rw [<- hWn] at hrw hS2 hPb ⊢
  clear hWn hS hp hPp hq hz gp
  have hB06 := hB05.trans (hS2.mono hB05.size)
  have Hpb := Lib.hid hPb
  have Hpx := Lib.hid hrw
  have sp6 := some_lt hrw
  have Hcs6 := Lib.hid (RowsAt.at_ Hcs5.out hS2)
  have Hho6 := Lib.hid (Hho5.out.imp (Q := fun a b => a.Holds SR W6 W6.heap.size b) fun _ _ h => h.atR hS2)
  have hgb6 := (hS2.block _ s5).trans Hb5.out
  have Hgb6 := Lib.hid hgb6
  have s6 := some_lt hgb6
  have Hga6 := Lib.hid (Hga.out.at_ hS2)
  have HB06 := Lib.hid hB06
  have p4 := cell_of_row _ _ 4 _ _ _ hrw
  simp at p4
  have HPR6 := Lib.hid (range_row (cs := [.int .i64 kk, .int .i64 ee, .int .i64 oo, .int .i64 0, .slice Ap np cp]) hrw)
  clear hrw hS2 hPb hgb6
  by_cases hz : ps = []
  case pos =>
   obtain ⟨e1, e2, e3⟩ := HZK.out hz
   have hn0 : np = 0 := by rw [HNP.out, hz]; rfl
   have hPb2 := Hpb.out
   rw [hz] at hPb2
   subst e1 e2 e3 hn0
   have Heq := Lib.hid (equal_same W6 0 0 0 0 Ap none 0 cp 0 [] rfl (by omega) hPb2 (.inl rfl))
   clear hz hPb2
   by_cases h1 : ep = 0
   ·have h1b : (ep != 0) = false := by simp [h1]
    clear h1
    go_upto_region 9 with (fail)
    go_wp2_with (refine wpList_load_mid rfl 49 (.tmp 8) rfl pp 0 rfl [.int .i64 0, .int .i64 0, .int .i64 0, .int .i64 0, .slice Ap 0 cp] _ HPR6.out Tryz.underlying49 rfl postSize ?_)
    refine Heq.out.mono ?_
    rintro e Wz ⟨rfl, hBz⟩
    go_wp2
    go_ret
    exact ⟨rfl, HB06.out.trans (hBz.mono HB06.out.size)⟩
   ·have h1b : (ep != 0) = true := by simp [h1]
    clear h1
    go_upto_region 9 with (fail)
    go_wp2_with (refine wpList_load_mid rfl 49 (.tmp 8) rfl pp 0 rfl [.int .i64 0, .int .i64 0, .int .i64 0, .int .i64 0, .slice Ap 0 cp] _ HPR6.out Tryz.underlying49 rfl postSize ?_)
    refine Heq.out.mono ?_
    rintro e Wz ⟨rfl, hBz⟩
    go_wp2
    go_ret
    exact ⟨rfl, HB06.out.trans (hBz.mono HB06.out.size)⟩
  obtain ⟨e1, e2, e3⟩ := HNK.out hz
  have h1 : ep = 0 := by
   by_cases h : ep = 0
   ·exact h
   ·exact absurd (HNE.out h) hz
  have h1b : (ep != 0) = false := by simp [h1]
  have hnp : ((np : Int) == 0) = false := by
   have : ps.length ≠ 0 := fun e => hz (List.length_eq_zero_iff.1 e)
   have := HNP.out
   simp; omega
  obtain ⟨hfine, hx0', hx1', y, hy1, hy2, hy3⟩ := HFN.out h1 hz
  obtain ⟨q0, q7⟩ := HPT.out h1
  subst e1 e2 e3
  have HFI := Lib.hid hfine
  have HY1 := Lib.hid hy1
  rw [hy2] at q0
  rw [hy3] at q7
  have Q0 := Lib.hid q0
  have Q7 := Lib.hid q7
  obtain ⟨⟨b0, b1⟩, ⟨b2, b3⟩, _⟩ := HSM.out
  rw [hy2] at b0 b1
  rw [hy3] at b2 b3
  obtain ⟨ci, hci⟩ : ∃ ci, ci = Gr.invest g ee y.since false (l.map Raw.cnt) := ⟨_, rfl⟩
  obtain ⟨aq, haq⟩ : ∃ aq, aq = Gr.sumOf (fun a => decide (a = g.r7)) y.its := ⟨_, rfl⟩
  rw [<- hci] at Q0 b0 b1
  rw [<- haq] at Q7 b2 b3
  have HCI := Lib.hid hci
  have HAQ := Lib.hid haq
  clear hz h1 hfine hy1 hy2 hy3 q0 q7 hci haq
  go_upto_region 10 with (fail)
  clear p4
  go_wp2_with (fail)
  refine (confr_any W6 Ar ln cr cs ee (Hcl.out.trans Hln.out.symm) (by have := Hln.out; have := Hlr.out; omega) Hcs6.out).mono ?_
  rintro e V6 ⟨rfl, hC6⟩
  obtain ⟨x0, hx0⟩ : ∃ x0, x0 = Cn.found cs ee := ⟨_, rfl⟩
  have hyh : x0.Holds SR W6 W6.heap.size y := by
   rcases Cn.elim_hold (P := fun a b => a.Holds SR W6 W6.heap.size b) (fun _ _ h => ⟨h.he, h.hm⟩) ee Hho6.out with ⟨_, h⟩ | ⟨y', _, h2, _, h3, _⟩
   ·have h9 := HY1.out; rw [h] at h9; cases h9
   ·have h9 := HY1.out; rw [h2] at h9; cases h9; rw [hx0]; exact h3
  rw [<- hx0]
  obtain ⟨W7, hW7, hB7, hb7, hz7⟩ := nw1 V6 #[.int .i64 x0.ent, .int .i64 x0.meth, .int .i64 x0.since, .bool x0.sg1, .slice x0.sA1 x0.sn1 x0.sc1, .bool x0.sg2, .slice x0.sA2 x0.sn2 x0.sc2, .bool x0.fg1, .slice x0.fA1 x0.fn1 x0.fc1, .bool x0.fg2, .slice x0.fA2 x0.fn2 x0.fc2, .slice x0.iA x0.im x0.ic, .slice x0.hA x0.hm x0.hc] 62
  have HW7 := Lib.hid hW7
  have hC67 := hC6.trans (hB7.mono hC6.size)
  have hB07 := HB06.out.trans (hC67.mono HB06.out.size)
  have Hb7 := Lib.hid hb7
  have s7 := some_lt hb7
  have hp7 := gbox Hpx.out hC67 sp6
  have Hp7 := Lib.hid hp7
  have sp7 := some_lt hp7
  have Hg7 := Lib.hid (gbox Hgb6.out hC67 s6)
  have sg7 := some_lt Hg7.out
  have HPR := Lib.hid (range_row (cs := [.int .i64 4, .int .i64 ee, .int .i64 (-1), .int .i64 0, .slice Ap np cp]) hp7)
  have HGR := Lib.hid (grp_range Hg7.out)
  have Hga7 := Lib.hid (Hga6.out.at_ hC67)
  have Hpb7 := Lib.hid ((Hpb.out.below hC67 (Nat.le_refl _)).more hC67.size)
  have Hcs7 := Lib.hid (RowsAt.at_ Hcs6.out hC67)
  have Hho7 := Lib.hid (Hho6.out.imp (Q := fun a b => a.Holds SR W7 W7.heap.size b) fun _ _ h => h.atR hC67)
  have HY := Lib.hid (hyh.atR hC67)
  have hsi := hyh.hs
  obtain ⟨sn, hsn⟩ : ∃ sn, sn = x0.since := ⟨_, rfl⟩
  have HSN := Lib.hid hsn
  have hcs2 : ci = Gr.invest g ee sn false (l.map Raw.cnt) := by rw [HCI.out, hsn, hsi]
  have HCS := Lib.hid hcs2
  have hS : Below W7.heap.size W7 W7.drew := below_drawn (Below.refl _ _) 1
  clear hx0 hyh hW7 hb7 hz7 hC67 hp7 hsi hsn hcs2
  go_upto_region 11 with (fail)
  rw [<- HW7.out]
  refine wp_region_held (S := Below W7.heap.size W7) (by kernel_rfl) ?_
  change wpAnyH _ _ _ _ _ _ _ _ (World.drew W7)
  obtain ⟨WC0, hWd⟩ : ∃ W0, W0 = W7.drew := ⟨_, rfl⟩
  rw [<- hWd] at hS ⊢
  clear hWd
  refine tk (i := 0) (v := .agg #[.string g.cur, .int .i64 g.Y, .int .i64 g.M, .int .i64 g.N, .slice g.cA g.cn g.cc, .int .i64 g.r0, .int .i64 g.r1, .int .i64 g.r2, .int .i64 g.r3, .int .i64 g.r4, .int .i64 g.r5, .int .i64 g.r6, .int .i64 g.r7, .int .i64 g.r8, .int .i64 g.r9, .int .i64 g.r10, .int .i64 g.r11, .int .i64 g.r12, .int .i64 g.r13, .int .i64 g.r14, .slice g.eA g.en g.ec]) rfl (by kernel_rfl) (fun _ _ _ h => h) (yieldsIf_load_mid (by rfl) 29 _ rfl W4.heap.size 0 rfl [.string g.cur, .int .i64 g.Y, .int .i64 g.M, .int .i64 g.N, .slice g.cA g.cn g.cc, .int .i64 g.r0, .int .i64 g.r1, .int .i64 g.r2, .int .i64 g.r3, .int .i64 g.r4, .int .i64 g.r5, .int .i64 g.r6, .int .i64 g.r7, .int .i64 g.r8, .int .i64 g.r9, .int .i64 g.r10, .int .i64 g.r11, .int .i64 g.r12, .int .i64 g.r13, .int .i64 g.r14, .slice g.eA g.en g.ec] _ (fun W' hS' => range_below HGR.out hS' sg7) Tryz.underlying29 rfl grpSize) hS ?_
  try simp only [z]
  refine tk (i := 1) (v := .agg #[.int .i64 4, .int .i64 ee, .int .i64 (-1), .int .i64 0, .slice Ap np cp]) rfl (by kernel_rfl) (fun _ _ _ h => h) (yieldsIf_load_mid (by rfl) 49 _ rfl pp 0 rfl [.int .i64 4, .int .i64 ee, .int .i64 (-1), .int .i64 0, .slice Ap np cp] _ (fun W' hS' => range_below HPR.out hS' sp7) Tryz.underlying49 rfl postSize) hS ?_
  try simp only [z]
  refine wpAnyH_ready (rs := [2]) (by kernel_rfl) (by simp) (AllReadyH.cons rfl (fun K hK => ?_) AllReadyH.nil)
  go_simp
  refine (validp_any WC0 g 4 ee (-1) Ap np cp ps (Hga7.out.at_ hS) HVA.out (by omega) (by omega) (by omega) HNP.out.symm ((Hpb7.out.below hS (Nat.le_refl _)).more hS.size) HFI.out).mono ?_
  rintro e WC1 ⟨rfl, hBc⟩
  have hVC1 := hS.trans (hBc.mono hS.size)
  clear hBc
  refine hK.out _ _ hVC1 (fun _ => ?_)
  clear hK K
  try simp only [z]
  refine tk (i := 3) (v := .bool true) rfl (by kernel_rfl) (fun _ _ _ h => h) (.inl ⟨by rfl, fun W' hS' => by go_simp⟩) hVC1 ?_
  try simp only [z]
  refine tk (i := 4) (v := .pointer (some ⟨pp, 4, none⟩)) rfl (by kernel_rfl) (fun _ _ _ h => h) (.inl ⟨by rfl, fun W' hS' => by go_simp⟩) hVC1 ?_
  try simp only [z]
  refine tk (i := 5) (v := .slice Ap np cp) rfl (by kernel_rfl) (fun _ _ _ h => h) (.inl ⟨by rfl, fun W' hS' => by have hc := cell_of_row _ _ 4 _ _ _ ((hS'.block _ sp7).trans Hp7.out); simp at hc; have hl9 := Nat.lt_of_lt_of_le sp7 hS'.size; go_simp⟩) hVC1 ?_
  try simp only [z]
  refine wpAnyH_ready (rs := [6]) (by kernel_rfl) (by simp) (AllReadyH.cons rfl (fun K hK => ?_) AllReadyH.nil)
  go_simp
  refine (psum_any WC1 Ap np cp ps HNP.out.symm (by have := HN4.out; omega) HFI.out.bd ((Hpb7.out.below hVC1 (Nat.le_refl _)).more hVC1.size)).mono ?_
  rw [HFI.out.sum]
  rintro e WC2 ⟨rfl, hBc⟩
  have hVC2 := hVC1.trans (hBc.mono hVC1.size)
  clear hBc
  refine hK.out _ _ hVC2 (fun _ => ?_)
  clear hK K
  try simp only [z]
  refine tk (i := 7) (v := .bool true) rfl (by kernel_rfl) (fun _ _ _ h => h) (.inl ⟨by rfl, fun W' hS' => by go_simp⟩) hVC2 ?_
  try simp only [z]
  refine tk (i := 8) (v := .bool true) rfl (by kernel_rfl) (fun _ _ _ h => h) (.inl ⟨by rfl, fun W' hS' => by go_simp⟩) hVC2 ?_
  try simp only [z]
  refine tk (i := 9) (v := .bool true) rfl (by kernel_rfl) (fun _ _ _ h => h) (.inl ⟨by rfl, fun W' hS' => by go_simp⟩) hVC2 ?_
  try simp only [z]
  refine tk (i := 10) (v := .pointer (some ⟨pp, 0, none⟩)) rfl (by kernel_rfl) (fun _ _ _ h => h) (.inl ⟨by rfl, fun W' hS' => by go_simp⟩) hVC2 ?_
  try simp only [z]
  refine tk (i := 11) (v := .int .i64 4) rfl (by kernel_rfl) (fun _ _ _ h => h) (.inl ⟨by rfl, fun W' hS' => by have hc := cell_of_row _ _ 0 _ _ _ ((hS'.block _ sp7).trans Hp7.out); simp at hc; have hl9 := Nat.lt_of_lt_of_le sp7 hS'.size; go_simp⟩) hVC2 ?_
  try simp only [z]
  refine tk (i := 12) (v := .bool true) rfl (by kernel_rfl) (fun _ _ _ h => h) (.inl ⟨by rfl, fun W' hS' => by go_simp⟩) hVC2 ?_
  try simp only [z]
  refine tk (i := 13) (v := .bool true) rfl (by kernel_rfl) (fun _ _ _ h => h) (.inl ⟨by rfl, fun W' hS' => by go_simp⟩) hVC2 ?_
  try simp only [z]
  refine tk (i := 14) (v := .bool true) rfl (by kernel_rfl) (fun _ _ _ h => h) (.inl ⟨by rfl, fun W' hS' => by go_simp⟩) hVC2 ?_
  try simp only [z]
  refine tk (i := 15) (v := .pointer (some ⟨pp, 1, none⟩)) rfl (by kernel_rfl) (fun _ _ _ h => h) (.inl ⟨by rfl, fun W' hS' => by go_simp⟩) hVC2 ?_
  try simp only [z]
  refine tk (i := 16) (v := .int .i64 ee) rfl (by kernel_rfl) (fun _ _ _ h => h) (.inl ⟨by rfl, fun W' hS' => by have hc := cell_of_row _ _ 1 _ _ _ ((hS'.block _ sp7).trans Hp7.out); simp at hc; have hl9 := Nat.lt_of_lt_of_le sp7 hS'.size; go_simp⟩) hVC2 ?_
  try simp only [z]
  refine tk (i := 17) (v := .int .i64 ee) rfl (by kernel_rfl) (fun _ _ _ h => h) (.inl ⟨by rfl, fun W' hS' => by go_simp⟩) hVC2 ?_
  try simp only [z]
  refine tk (i := 18) (v := .bool true) rfl (by kernel_rfl) (fun _ _ _ h => h) (.inl ⟨by rfl, fun W' hS' => by go_simp⟩) hVC2 ?_
  try simp only [z]
  refine tk (i := 19) (v := .bool true) rfl (by kernel_rfl) (fun _ _ _ h => h) (.inl ⟨by rfl, fun W' hS' => by go_simp⟩) hVC2 ?_
  try simp only [z]
  refine tk (i := 20) (v := .bool true) rfl (by kernel_rfl) (fun _ _ _ h => h) (.inl ⟨by rfl, fun W' hS' => by go_simp⟩) hVC2 ?_
  try simp only [z]
  refine tk (i := 21) (v := .agg #[.int .i64 4, .int .i64 ee, .int .i64 (-1), .int .i64 0, .slice Ap np cp]) rfl (by kernel_rfl) (fun _ _ _ h => h) (yieldsIf_load_mid (by rfl) 49 _ rfl pp 0 rfl [.int .i64 4, .int .i64 ee, .int .i64 (-1), .int .i64 0, .slice Ap np cp] _ (fun W' hS' => range_below HPR.out hS' sp7) Tryz.underlying49 rfl postSize) hVC2 ?_
  try simp only [z]
  refine tk (i := 22) (v := .pointer (some ⟨W4.heap.size, 5, none⟩)) rfl (by kernel_rfl) (fun _ _ _ h => h) (.inl ⟨by rfl, fun W' hS' => by go_simp⟩) hVC2 ?_
  try simp only [z]
  refine tk (i := 23) (v := .pointer (some ⟨W4.heap.size, 12, none⟩)) rfl (by kernel_rfl) (fun _ _ _ h => h) (.inl ⟨by rfl, fun W' hS' => by go_simp⟩) hVC2 ?_
  try simp only [z]
  refine tk (i := 24) (v := .int .i64 g.r7) rfl (by kernel_rfl) (fun _ _ _ h => h) (.inl ⟨by rfl, fun W' hS' => by have hc := cell_of_row _ _ 12 _ _ _ ((hS'.block _ sg7).trans Hg7.out); simp at hc; have hl9 := Nat.lt_of_lt_of_le sg7 hS'.size; go_simp⟩) hVC2 ?_
  try simp only [z]
  refine tk (i := 26) (v := .pointer (some ⟨V6.heap.size, 11, none⟩)) rfl (by kernel_rfl) (fun _ _ _ h => h) (.inl ⟨by rfl, fun W' hS' => by go_simp⟩) hVC2 ?_
  try simp only [z]
  refine tk (i := 27) (v := .slice x0.iA x0.im x0.ic) rfl (by kernel_rfl) (fun _ _ _ h => h) (.inl ⟨by rfl, fun W' hS' => by have hc := cell_of_row _ _ 11 _ _ _ ((hS'.block _ s7).trans Hb7.out); simp at hc; have hl9 := Nat.lt_of_lt_of_le s7 hS'.size; go_simp⟩) hVC2 ?_
  try simp only [z]
  refine tk (i := 28) (v := .pointer (some ⟨W4.heap.size, 5, none⟩)) rfl (by kernel_rfl) (fun _ _ _ h => h) (.inl ⟨by rfl, fun W' hS' => by go_simp⟩) hVC2 ?_
  try simp only [z]
  refine tk (i := 29) (v := .pointer (some ⟨W4.heap.size, 12, none⟩)) rfl (by kernel_rfl) (fun _ _ _ h => h) (.inl ⟨by rfl, fun W' hS' => by go_simp⟩) hVC2 ?_
  try simp only [z]
  refine tk (i := 30) (v := .int .i64 g.r7) rfl (by kernel_rfl) (fun _ _ _ h => h) (.inl ⟨by rfl, fun W' hS' => by have hc := cell_of_row _ _ 12 _ _ _ ((hS'.block _ sg7).trans Hg7.out); simp at hc; have hl9 := Nat.lt_of_lt_of_le sg7 hS'.size; go_simp⟩) hVC2 ?_
  try simp only [z]
  refine wpAnyH_ready (rs := [25]) (by kernel_rfl) (by simp) (AllReadyH.cons rfl (fun K hK => ?_) AllReadyH.nil)
  go_simp
  refine (part38_any WC2 4 ee (-1) 0 Ap np cp ps g.r7 HNP.out.symm (by have := HN4.out; omega) ((Hpb7.out.below hVC2 (Nat.le_refl _)).more hVC2.size)).mono ?_
  rw [Q7.out]
  rintro e WC3 ⟨rfl, hBc⟩
  have hVC3 := hVC2.trans (hBc.mono hVC2.size)
  clear hBc
  refine hK.out _ _ hVC3 (fun _ => ?_)
  clear hK K
  try simp only [z]
  refine wpAnyH_ready (rs := [31]) (by kernel_rfl) (by simp) (AllReadyH.cons rfl (fun K hK => ?_) AllReadyH.nil)
  go_simp
  have Hon := Lib.hid (on38_any WC3 x0.iA x0.im x0.ic y.its g.r7 HY.out.hil (by have := HY.out.hin; omega) HY.out.hix ((RowsAt.below HY.out.hiA hVC3 (Nat.le_refl _)).more hVC3.size))
  refine Hon.out.mono ?_
  have haq2 : Gr.sumOf (Gr.isOn g.r7) y.its = aq := HAQ.out.symm
  rw [haq2]
  rintro e WC4 ⟨rfl, hBc⟩
  clear Hon haq2
  have hVC4 := hVC3.trans (hBc.mono hVC3.size)
  clear hBc
  refine hK.out _ _ hVC4 (fun _ => ?_)
  clear hK K
  try simp only [z]
  refine tk (i := 32) (v := .int .i64 0) rfl (by kernel_rfl) (fun _ _ _ h => h) (.inl ⟨by rfl, fun W' hS' => by have hw : wrap64 (-aq + aq) = -aq + aq := IntWalk.wrap64_in _ (by omega); (go_simp; try (rw [IntKind.wrap_i64]; clear hw; omega))⟩) hVC4 ?_
  try simp only [z]
  refine tk (i := 33) (v := .bool true) rfl (by kernel_rfl) (fun _ _ _ h => h) (.inl ⟨by rfl, fun W' hS' => by go_simp⟩) hVC4 ?_
  try simp only [z]
  refine tk (i := 34) (v := .bool true) rfl (by kernel_rfl) (fun _ _ _ h => h) (.inl ⟨by rfl, fun W' hS' => by go_simp⟩) hVC4 ?_
  try simp only [z]
  refine tk (i := 35) (v := .bool true) rfl (by kernel_rfl) (fun _ _ _ h => h) (.inl ⟨by rfl, fun W' hS' => by go_simp⟩) hVC4 ?_
  try simp only [z]
  refine tk (i := 36) (v := .agg #[.int .i64 4, .int .i64 ee, .int .i64 (-1), .int .i64 0, .slice Ap np cp]) rfl (by kernel_rfl) (fun _ _ _ h => h) (yieldsIf_load_mid (by rfl) 49 _ rfl pp 0 rfl [.int .i64 4, .int .i64 ee, .int .i64 (-1), .int .i64 0, .slice Ap np cp] _ (fun W' hS' => range_below HPR.out hS' sp7) Tryz.underlying49 rfl postSize) hVC4 ?_
  try simp only [z]
  refine tk (i := 37) (v := .pointer (some ⟨W4.heap.size, 5, none⟩)) rfl (by kernel_rfl) (fun _ _ _ h => h) (.inl ⟨by rfl, fun W' hS' => by go_simp⟩) hVC4 ?_
  try simp only [z]
  refine tk (i := 38) (v := .pointer (some ⟨W4.heap.size, 5, none⟩)) rfl (by kernel_rfl) (fun _ _ _ h => h) (.inl ⟨by rfl, fun W' hS' => by go_simp⟩) hVC4 ?_
  try simp only [z]
  refine tk (i := 39) (v := .int .i64 g.r0) rfl (by kernel_rfl) (fun _ _ _ h => h) (.inl ⟨by rfl, fun W' hS' => by have hc := cell_of_row _ _ 5 _ _ _ ((hS'.block _ sg7).trans Hg7.out); simp at hc; have hl9 := Nat.lt_of_lt_of_le sg7 hS'.size; go_simp⟩) hVC4 ?_
  try simp only [z]
  refine tk (i := 41) (v := .agg #[.string g.cur, .int .i64 g.Y, .int .i64 g.M, .int .i64 g.N, .slice g.cA g.cn g.cc, .int .i64 g.r0, .int .i64 g.r1, .int .i64 g.r2, .int .i64 g.r3, .int .i64 g.r4, .int .i64 g.r5, .int .i64 g.r6, .int .i64 g.r7, .int .i64 g.r8, .int .i64 g.r9, .int .i64 g.r10, .int .i64 g.r11, .int .i64 g.r12, .int .i64 g.r13, .int .i64 g.r14, .slice g.eA g.en g.ec]) rfl (by kernel_rfl) (fun _ _ _ h => h) (yieldsIf_load_mid (by rfl) 29 _ rfl W4.heap.size 0 rfl [.string g.cur, .int .i64 g.Y, .int .i64 g.M, .int .i64 g.N, .slice g.cA g.cn g.cc, .int .i64 g.r0, .int .i64 g.r1, .int .i64 g.r2, .int .i64 g.r3, .int .i64 g.r4, .int .i64 g.r5, .int .i64 g.r6, .int .i64 g.r7, .int .i64 g.r8, .int .i64 g.r9, .int .i64 g.r10, .int .i64 g.r11, .int .i64 g.r12, .int .i64 g.r13, .int .i64 g.r14, .slice g.eA g.en g.ec] _ (fun W' hS' => range_below HGR.out hS' sg7) Tryz.underlying29 rfl grpSize) hVC4 ?_
  try simp only [z]
  refine tk (i := 42) (v := .slice Ar ln cr) rfl (by kernel_rfl) (fun _ _ _ h => h) (.inl ⟨by rfl, fun W' hS' => by go_simp⟩) hVC4 ?_
  try simp only [z]
  refine tk (i := 43) (v := .int .i64 ee) rfl (by kernel_rfl) (fun _ _ _ h => h) (.inl ⟨by rfl, fun W' hS' => by go_simp⟩) hVC4 ?_
  try simp only [z]
  refine tk (i := 44) (v := .pointer (some ⟨V6.heap.size, 2, none⟩)) rfl (by kernel_rfl) (fun _ _ _ h => h) (.inl ⟨by rfl, fun W' hS' => by go_simp⟩) hVC4 ?_
  try simp only [z]
  refine tk (i := 45) (v := .int .i64 sn) rfl (by kernel_rfl) (fun _ _ _ h => h) (.inl ⟨by rfl, fun W' hS' => by have hc := cell_of_row _ _ 2 _ _ _ ((hS'.block _ s7).trans Hb7.out); simp at hc; rw [<- HSN.out] at hc; have hl9 := Nat.lt_of_lt_of_le s7 hS'.size; go_simp⟩) hVC4 ?_
  try simp only [z]
  refine wpAnyH_ready (rs := [40]) (by kernel_rfl) (by simp) (AllReadyH.cons rfl (fun K hK => ?_) AllReadyH.nil)
  go_simp
  refine (part38_any WC4 4 ee (-1) 0 Ap np cp ps g.r0 HNP.out.symm (by have := HN4.out; omega) ((Hpb7.out.below hVC4 (Nat.le_refl _)).more hVC4.size)).mono ?_
  rw [Q0.out]
  rintro e WC5 ⟨rfl, hBc⟩
  have hVC5 := hVC4.trans (hBc.mono hVC4.size)
  clear hBc
  refine hK.out _ _ hVC5 (fun _ => ?_)
  clear hK K
  try simp only [z]
  refine wpAnyH_ready (rs := [46]) (by kernel_rfl) (by simp) (AllReadyH.cons rfl (fun K hK => ?_) AllReadyH.nil)
  go_simp
  refine (invr_any WC5 g Ar ln cr cs (l.map Raw.cnt) ee sn false (Hcl.out.trans Hln.out.symm) (by have := Hln.out; have := Hlr.out; omega) (RowsAt.at_ Hcs7.out hVC5) (Hho7.out.imp (Q := fun a b => a.Holds SR WC5 WC5.heap.size b) fun _ _ h => h.atR hVC5) (Hga7.out.at_ hVC5)).mono ?_
  rw [<- HCS.out]
  rintro e WC6 ⟨rfl, hBc⟩
  have hVC6 := hVC5.trans (hBc.mono hVC5.size)
  clear hBc
  refine hK.out _ _ hVC6 (fun _ => ?_)
  clear hK K
  try simp only [z]
  refine tk (i := 47) (v := .int .i64 0) rfl (by kernel_rfl) (fun _ _ _ h => h) (.inl ⟨by rfl, fun W' hS' => by have hw : wrap64 (-ci + ci) = -ci + ci := IntWalk.wrap64_in _ (by omega); (go_simp; try (rw [IntKind.wrap_i64]; clear hw; omega))⟩) hVC6 ?_
  try simp only [z]
  refine tk (i := 48) (v := .bool true) rfl (by kernel_rfl) (fun _ _ _ h => h) (.inl ⟨by rfl, fun W' hS' => by go_simp⟩) hVC6 ?_
  try simp only [z]
  refine tk (i := 49) (v := .bool true) rfl (by kernel_rfl) (fun _ _ _ h => h) (.inl ⟨by rfl, fun W' hS' => by go_simp⟩) hVC6 ?_
  try simp only [z]
  refine wpAnyH_ready (rs := [50]) (by kernel_rfl) (by simp) (AllReadyH.cons rfl (fun K hK => ?_) AllReadyH.nil)
  go_simp
  refine hK.out _ _ hVC6 (fun _ => ?_)
  clear hK K
  try simp only [z]
  refine wpAnyH_done (by kernel_rfl) ?_ _
  try simp only [z]
  have hB09 := hB07.trans (hVC6.mono hB07.size)
  go_wp2
  go_ret
  exact ⟨rfl, hB09⟩
 have n1 : ∀ (m : Nat) (W : World) (Ao : Option Addr) (co : Nat) (ds : List Con) (bp : Bool) (vp : Value) (pp : Nat), 6 + cond bp 0 1 <= m -> RG W -> W_0.heap.size <= W.heap.size -> (ds.length = l.length) -> (ConsAt W W.heap.size Ao ds) -> (Hold (fun a b => a.Holds SD W W.heap.size b) ds (l.map Raw.cnt)) -> Mk W_0 W bp vp pp #[.int .i64 0, .int .i64 0, .int .i64 0, .int .i64 0, .slice none 0 0] 49 -> wpAnyH Tryz.prog md' ops' Q' RG m #[true, true, true, true, false, false, false, false, bp, false, false] ((a'.put (some 25) (.slice Ao ln co)).put (some 8) vp) W := by
  intro m
  induction m with
  | zero => intros; omega
  | succ m ih =>
  intro W Ao co ds bp vp pp hm hS hz hdl hds hdo Hp
  subst hlm hlo hlq hla hRG
  try simp only [z]
  refine wpAnyH_ready (rs := 4 :: (cond bp [] [8] ++ [])) (by cases bp <;> kernel_rfl) (by simp) (.cons rfl (fun K hK => ?_) (ropt (fun hp => .cons rfl (fun K hK => ?_) .nil) .nil))
  ·clear ih
   have Hof := Lib.hid (cpostd_any W g Ao ln co ds (l.map Raw.cnt) x (hdl.trans Hln.out.symm) (by have := Hln.out; have := H8.out; omega) hds hdo (Hga.out.at_ hS))
   go_simp
   refine Hof.out.mono ?_
   rintro e W' hpp
   obtain ⟨hB, Ap, cp, hfp, rfl, hPp⟩ := PostingPost.one hpp
   clear hpp
   rw [<- HPS.out] at hPp
   rw [<- HKK.out, <- HEE.out, <- HOO.out, <- HEP.out, <- HPS.out, <- HNP.out]
   have hS' := hS.trans (hB.mono hS.size)
   refine hK.out _ _ hS' (fun _ => ?_)
   clear hK K
   try simp only [z]
   obtain ⟨m, rfl⟩ : ∃ k, m = k + 3 := ⟨m - 3, by omega⟩
   refine wpAnyH_take (i := 5) (v := .tuple #[.agg #[.int .i64 kk, .int .i64 ee, .int .i64 oo, .int .i64 0, .slice Ap np cp], .int .i64 ep]) rfl (by kernel_rfl) (by cases bp <;> kernel_rfl) (by cases bp <;> kernel_rfl) (fun _ _ _ h => h) (.inl ⟨by rfl, fun W' hS' => by go_simp⟩) hS' ?_
   try simp only [z]
   refine wpAnyH_take (i := 6) (v := .agg #[.int .i64 kk, .int .i64 ee, .int .i64 oo, .int .i64 0, .slice Ap np cp]) rfl (by kernel_rfl) (by cases bp <;> kernel_rfl) (by cases bp <;> kernel_rfl) (fun _ _ _ h => h) (.inl ⟨by rfl, fun W' hS' => by go_simp⟩) hS' ?_
   try simp only [z]
   refine wpAnyH_take (i := 7) (v := .int .i64 ep) rfl (by kernel_rfl) (by cases bp <;> kernel_rfl) (by cases bp <;> kernel_rfl) (fun _ _ _ h => h) (.inl ⟨by rfl, fun W' hS' => by go_simp⟩) hS' ?_
   try simp only [z]
   have hn := n2 m W' Ao co ds Ap cp bp vp pp (by omega) hS' (Nat.le_trans hz hB.size) (hPp) (fun hb _ ad e => Nat.ne_of_gt (Nat.lt_of_lt_of_le (some_lt (Hp hb).2.2) (hfp ad e))) (Hp.step hB)
   try simp only [z] at hn
   exact hn
  ·subst hp
   obtain ⟨W', hWn, hB, hrow, _⟩ := nw1 W #[.int .i64 0, .int .i64 0, .int .i64 0, .int .i64 0, .slice none 0 0] 49
   go_simp
   rw [<- hWn]
   clear hWn
   have hS' := hS.trans (hB.mono hS.size)
   refine hK.out _ _ hS' (fun _ => ?_)
   clear hK K
   try simp only [z]
   have hn := ih W' Ao co ds true (.pointer (some ⟨W.heap.size, 0, none⟩)) W.heap.size (by simp only [cond_true, cond_false] at hm ⊢; omega) hS' (Nat.le_trans hz hB.size) (hdl) (RowsAt.at_ hds hB) (hdo.imp (Q := fun a b => a.Holds SD W' W'.heap.size b) fun _ _ h => h.atD hB) (fun _ => ⟨rfl, hz, hrow⟩) 
   try simp only [z] at hn
   exact hn
 have n0 : ∀ (m : Nat) (W : World) (bp : Bool) (vp : Value) (pp : Nat), 7 + cond bp 0 1 <= m -> RG W -> W_0.heap.size <= W.heap.size -> Mk W_0 W bp vp pp #[.int .i64 0, .int .i64 0, .int .i64 0, .int .i64 0, .slice none 0 0] 49 -> wpAnyH Tryz.prog md' ops' Q' RG m #[true, true, false, true, false, false, false, false, bp, false, false] (a'.put (some 8) vp) W := by
  intro m
  induction m with
  | zero => intros; omega
  | succ m ih =>
  intro W bp vp pp hm hS hz Hp
  subst hlm hlo hlq hla hRG
  try simp only [z]
  refine wpAnyH_ready (rs := 2 :: (cond bp [] [8] ++ [])) (by cases bp <;> kernel_rfl) (by simp) (.cons rfl (fun K hK => ?_) (ropt (fun hp => .cons rfl (fun K hK => ?_) .nil) .nil))
  ·clear ih
   have Hown := Lib.hid (own38_any W A n c l Hl.out (by have := Hl.out; have := H8.out; omega) (RowsAt.at_ Hr5.out hS) (fun a ha => ((Hx5.out a ha).below hS (Nat.le_refl _)).more hS.size) Hall.out)
   go_simp
   refine Hown.out.mono ?_
   rintro e W' ⟨hB, Ao, co, ds, rfl, hdl, hds, hdo⟩
   rw [<- Hln.out]
   have hS' := hS.trans (hB.mono hS.size)
   refine hK.out _ _ hS' (fun _ => ?_)
   clear hK K
   try simp only [z]
   have hn := n1 m W' Ao co ds bp vp pp (by omega) hS' (Nat.le_trans hz hB.size) (hdl) (hds) (hdo) (Hp.step hB)
   try simp only [z] at hn
   exact hn
  ·subst hp
   obtain ⟨W', hWn, hB, hrow, _⟩ := nw1 W #[.int .i64 0, .int .i64 0, .int .i64 0, .int .i64 0, .slice none 0 0] 49
   go_simp
   rw [<- hWn]
   clear hWn
   have hS' := hS.trans (hB.mono hS.size)
   refine hK.out _ _ hS' (fun _ => ?_)
   clear hK K
   try simp only [z]
   have hn := ih W' true (.pointer (some ⟨W.heap.size, 0, none⟩)) W.heap.size (by simp only [cond_true, cond_false] at hm ⊢; omega) hS' (Nat.le_trans hz hB.size) (fun _ => ⟨rfl, hz, hrow⟩) 
   try simp only [z] at hn
   exact hn
 have hn := n0 _ W_0 false undef 0 (Nat.le_refl _) hS (Nat.le_refl _)  (fun h => nomatch h)
 subst hlm hlo hlq hla hRG
 exact hn
end
end Go.Proofs.YtccapfbblnnfjaaGreat
