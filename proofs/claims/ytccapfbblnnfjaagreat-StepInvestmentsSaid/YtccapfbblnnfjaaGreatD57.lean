/- My texts LawI40. -/
import Derived.Test.YtccapfbblnnfjaaGreatC52
import Derived.Test.YtccapfbblnnfjaaGreatE00
import Derived.Test.YtccapfbblnnfjaaGreatE02
import Derived.Test.YtccapfbblnnfjaaGreatD52
import Derived.Test.YtccapfbblnnfjaaGreatD53
set_option linter.unusedVariables false
set_option linter.unusedSimpArgs false
set_option maxRecDepth 100000
set_option maxHeartbeats 8000000
namespace Go.Proofs.YtccapfbblnnfjaaGreat
open Go.RowKit
section
variable (w : World)
theorem law_invest40 (A : Option Addr) (n c : Nat) (l : List Raw) (x : Int) (hl : l.length = n) (hn : n <= maxLen) (hr : RawsAt w w.heap.size A l) (hx : ∀ a ∈ l, a.At w w.heap.size) :
  Calls Tryz.prog 11 #[.slice A n c, .int .i64 x] w fun e w' => e = .returned (.bool true) /\ Below w.heap.size w w' := by
 have Hl := Lib.hid hl
 have Hr := Lib.hid hr
 have Hx := Lib.hid hx
 unfold maxLen at hn
 have Hn := Lib.hid hn
 clear hl hr hx hn
 go_enter Tryz.func11, Tryz.ntmps11
 go_wp2_with (fail)
 refine (awake40_any w).mono ?_
 rintro e W2 ⟨rfl, hB2⟩
 have Hr2 := Lib.hid (RowsAt.at_ Hr.out hB2)
 have Hx2 := Lib.hid (fun a ha => ((Hx.out a ha).below hB2 (Nat.le_refl _)).more hB2.size : ∀ a ∈ l, a.At W2 W2.heap.size)
 go_wp2_with (fail)
 refine (contrr_any W2 A n c l Hl.out Hn.out Hr2.out Hx2.out).mono ?_
 rintro e W3 ⟨hB3, v, ok, rfl, hok⟩
 have hB03 := hB2.trans (hB3.mono hB2.size)
 have Hr3 := Lib.hid (RowsAt.at_ Hr2.out hB3)
 have Hx3 := Lib.hid (fun a ha => ((Hx2.out a ha).below hB3 (Nat.le_refl _)).more hB3.size : ∀ a ∈ l, a.At W3 W3.heap.size)
 cases ok with
 | false =>
  clear hok
  go_wp2
  go_ret
  exact ⟨rfl, hB03⟩
 | true =>
 obtain ⟨h8, hall, Ar, cr, cs, rfl, hcl, hcs, hho⟩ := hok rfl
 have H8 := Lib.hid h8
 have Hall := Lib.hid hall
 have Hcl := Lib.hid hcl
 have Hcs := Lib.hid hcs
 have Hho := Lib.hid hho
 have Hlr := Lib.hid (show l.length <= 100 by omega)
 clear hok h8 hall hcl hcs hho
 go_wp2_with (fail)
 refine (sample_any W3).mono ?_
 rintro e W4 ⟨hB4, g, rfl, hg, hgs⟩
 have HGS := Lib.hid hgs
 have hB04 := hB03.trans (hB4.mono hB03.size)
 obtain ⟨W5, hW5, hB5, hb5, hz5⟩ := nw1 W4 #[.string g.cur, .int .i64 g.Y, .int .i64 g.M, .int .i64 g.N, .slice g.cA g.cn g.cc, .int .i64 g.r0, .int .i64 g.r1, .int .i64 g.r2, .int .i64 g.r3, .int .i64 g.r4, .int .i64 g.r5, .int .i64 g.r6, .int .i64 g.r7, .int .i64 g.r8, .int .i64 g.r9, .int .i64 g.r10, .int .i64 g.r11, .int .i64 g.r12, .int .i64 g.r13, .int .i64 g.r14, .slice g.eA g.en g.ec] 29
 have HW5 := Lib.hid hW5
 have hB35 := hB4.trans (hB5.mono hB4.size)
 have hB05 := hB04.trans (hB5.mono hB04.size)
 have Hga := Lib.hid (hg.at_ hB5)
 have Hb5 := Lib.hid hb5
 have s5 : W4.heap.size < W5.heap.size := by omega
 have Hr5 := Lib.hid (RowsAt.at_ Hr3.out hB35)
 have Hx5 := Lib.hid (fun a ha => ((Hx3.out a ha).below hB35 (Nat.le_refl _)).more hB35.size : ∀ a ∈ l, a.At W5 W5.heap.size)
 have Hcs5 := Lib.hid (RowsAt.at_ Hcs.out hB35)
 have Hho5 := Lib.hid (Hho.out.imp (Q := fun a b => a.Holds SR W5 W5.heap.size b) fun _ _ h => h.atR hB35)
 have hrg5 := Lib.hid (grp_range hb5)
 obtain ⟨ln, hln⟩ : ∃ ln, ln = l.length := ⟨_, rfl⟩
 have Hln := Lib.hid hln
 rw [<- hln]
 have HRO := Lib.hid (Smp.roles38 hgs)
 have HRQ := Lib.hid (Smp.roles40 hgs)
 obtain ⟨kk, hkk⟩ : ∃ kk, kk = Po.pk 4 (Gr.cpost g (l.map Raw.cnt) x) := ⟨_, rfl⟩
 obtain ⟨ee, hee⟩ : ∃ ee, ee = Po.pk x (Gr.cpost g (l.map Raw.cnt) x) := ⟨_, rfl⟩
 obtain ⟨oo, hoo⟩ : ∃ oo, oo = Po.pk (-1) (Gr.cpost g (l.map Raw.cnt) x) := ⟨_, rfl⟩
 obtain ⟨ep, hep⟩ : ∃ ep, ep = (Gr.cpost g (l.map Raw.cnt) x).2 := ⟨_, rfl⟩
 obtain ⟨ps, hps⟩ : ∃ ps, ps = Po.pl (Gr.cpost g (l.map Raw.cnt) x) := ⟨_, rfl⟩
 obtain ⟨np, hnp⟩ : ∃ np, np = ps.length := ⟨_, rfl⟩
 have HKK := Lib.hid hkk
 have HEE := Lib.hid hee
 have HOO := Lib.hid hoo
 have HEP := Lib.hid hep
 have HPS := Lib.hid hps
 have HNP := Lib.hid hnp
 clear hkk hee hoo hep hps hnp
 obtain ⟨kkq, hkk⟩ : ∃ kk, kk = Po.pk 5 (Gr.spost g (l.map Raw.cnt) x) := ⟨_, rfl⟩
 obtain ⟨eeq, hee⟩ : ∃ ee, ee = Po.pk x (Gr.spost g (l.map Raw.cnt) x) := ⟨_, rfl⟩
 obtain ⟨ooq, hoo⟩ : ∃ oo, oo = Po.pk (-1) (Gr.spost g (l.map Raw.cnt) x) := ⟨_, rfl⟩
 obtain ⟨epq, hep⟩ : ∃ ep, ep = (Gr.spost g (l.map Raw.cnt) x).2 := ⟨_, rfl⟩
 obtain ⟨psq, hps⟩ : ∃ ps, ps = Po.pl (Gr.spost g (l.map Raw.cnt) x) := ⟨_, rfl⟩
 obtain ⟨npq, hnp⟩ : ∃ np, np = psq.length := ⟨_, rfl⟩
 have HKKq := Lib.hid hkk
 have HEEq := Lib.hid hee
 have HOOq := Lib.hid hoo
 have HEPq := Lib.hid hep
 have HPSq := Lib.hid hps
 have HNPq := Lib.hid hnp
 clear hkk hee hoo hep hps hnp
 have HNOq : Hid (epq ≠ 0 ∨ Gr.elim (l.map Raw.cnt) x = none -> npq = 0) := Lib.hid fun h => by
  rw [HNPq.out, HPSq.out, Gr.spost_none (by rw [<- HEPq.out]; exact h)]; rfl
 have HPT : Hid (ep = 0 -> Po.part ps g.r0 = -(Gr.capital g (l.map Raw.cnt) x).1.1) := Lib.hid fun h => by
  rw [HPS.out]; exact (Gr.cpost_parts HRO.out (by rw [<- HEP.out]; exact h)).1
 have HPTq : Hid (epq = 0 -> Po.part psq g.r0 = -(Gr.step g (l.map Raw.cnt) x).1.1) := Lib.hid fun h => by
  rw [HPSq.out]; exact (Gr.spost_parts HRQ.out (by rw [<- HEPq.out]; exact h)).1
 have HSM := Lib.hid (Gr.capital_small (g := g) (x := x) Hho.out (by have := Hcl.out; have := Hlr.out; omega))
 have HSMq := Lib.hid (Gr.step_small (g := g) (x := x) Hho.out (by have := Hcl.out; have := Hlr.out; omega))
 have HN4 : Hid (np <= 4) := by show _ <= _; rw [HNP.out, HPS.out]; exact Nat.le_trans (Po.pl_length _) (Gr.cpost_len _ _ _)
 have HN4q : Hid (npq <= 3) := by show _ <= _; rw [HNPq.out, HPSq.out]; exact Nat.le_trans (Po.pl_length _) (Gr.spost_len _ _ _)
 have HC0 : Hid (ep = 0 -> (Gr.capital g (l.map Raw.cnt) x).2 = 0) := Lib.hid fun h => Gr.cpost_ok (by rw [<- HEP.out]; exact h)
 have h1c : ∀ v ∈ (#[.string g.cur, .int .i64 g.Y, .int .i64 g.M, .int .i64 g.N, .slice g.cA g.cn g.cc, .int .i64 g.r0, .int .i64 g.r1, .int .i64 g.r2, .int .i64 g.r3, .int .i64 g.r4, .int .i64 g.r5, .int .i64 g.r6, .int .i64 g.r7, .int .i64 g.r8, .int .i64 g.r9, .int .i64 g.r10, .int .i64 g.r11, .int .i64 g.r12, .int .i64 g.r13, .int .i64 g.r14, .slice g.eA g.en g.ec] : Array Value).toList, v.oneCell' = true := by simp [Value.oneCell']
 clear hg hgs hW5 hb5 hz5 hln
 go_upto_region 7 with (refine wpList_store_new rfl 29 _ _ rfl 29 _ #[.string g.cur, .int .i64 g.Y, .int .i64 g.M, .int .i64 g.N, .slice g.cA g.cn g.cc, .int .i64 g.r0, .int .i64 g.r1, .int .i64 g.r2, .int .i64 g.r3, .int .i64 g.r4, .int .i64 g.r5, .int .i64 g.r6, .int .i64 g.r7, .int .i64 g.r8, .int .i64 g.r9, .int .i64 g.r10, .int .i64 g.r11, .int .i64 g.r12, .int .i64 g.r13, .int .i64 g.r14, .slice g.eA g.en g.ec] rfl rfl rfl h1c grpSize ?_)
 clear h1c
 rw [<- HW5.out]
 have hS : Below W5.heap.size W5 W5.drew := below_drawn (Below.refl _ _) 1
 refine wp_region_held (S := Below W5.heap.size W5) (by kernel_rfl) ?_
 change wpAnyH _ _ _ _ _ _ _ _ (World.drew W5)
 obtain ⟨W_0, hWd⟩ : ∃ W0, W0 = W5.drew := ⟨_, rfl⟩
 rw [<- hWd] at hS ⊢
 clear hWd
 refine tk (i := 0) (v := .agg #[.string g.cur, .int .i64 g.Y, .int .i64 g.M, .int .i64 g.N, .slice g.cA g.cn g.cc, .int .i64 g.r0, .int .i64 g.r1, .int .i64 g.r2, .int .i64 g.r3, .int .i64 g.r4, .int .i64 g.r5, .int .i64 g.r6, .int .i64 g.r7, .int .i64 g.r8, .int .i64 g.r9, .int .i64 g.r10, .int .i64 g.r11, .int .i64 g.r12, .int .i64 g.r13, .int .i64 g.r14, .slice g.eA g.en g.ec]) rfl (by kernel_rfl) (fun _ _ _ h => h) (yieldsIf_load_mid (by rfl) 29 _ rfl W4.heap.size 0 rfl [.string g.cur, .int .i64 g.Y, .int .i64 g.M, .int .i64 g.N, .slice g.cA g.cn g.cc, .int .i64 g.r0, .int .i64 g.r1, .int .i64 g.r2, .int .i64 g.r3, .int .i64 g.r4, .int .i64 g.r5, .int .i64 g.r6, .int .i64 g.r7, .int .i64 g.r8, .int .i64 g.r9, .int .i64 g.r10, .int .i64 g.r11, .int .i64 g.r12, .int .i64 g.r13, .int .i64 g.r14, .slice g.eA g.en g.ec] _ (fun W' hS' => range_below hrg5.out hS' s5) Tryz.underlying29 rfl grpSize) hS ?_
 try simp only [z]
 refine tk (i := 1) (v := .slice A n c) rfl (by kernel_rfl) (fun _ _ _ h => h) (.inl ⟨by rfl, fun W' hS' => by go_simp⟩) hS ?_
 try simp only [z]
 refine tk (i := 3) (v := .int .i64 x) rfl (by kernel_rfl) (fun _ _ _ h => h) (.inl ⟨by rfl, fun W' hS' => by go_simp⟩) hS ?_
 try simp only [z]
 have hV0 := hS.size
 refine wpAnyH_letters fun md' ops' Q' a' hlm hlo hlq hla => ?_
 obtain ⟨RG, hRG⟩ : ∃ R : World -> Prop, R = Below W5.heap.size W5 := ⟨_, rfl⟩
 rw [<- hRG] at hS ⊢
 have n2 : ∀ (m : Nat) (W : World) (Ao : Option Addr) (co : Nat) (ds : List Con) (Ap : Option Addr) (cp : Nat) (bp : Bool) (vp : Value) (pp : Nat), 2 + cond bp 0 1 <= m -> RG W -> W_0.heap.size <= W.heap.size -> (PrtsAt W W.heap.size Ap ps) -> (bp = true -> ps ≠ [] -> ∀ ad, Ap = some ad -> ad.block ≠ pp) -> Mk W_0 W bp vp pp #[.int .i64 0, .int .i64 0, .int .i64 0, .int .i64 0, .slice none 0 0] 49 -> wpAnyH Tryz.prog md' ops' Q' RG m #[true, true, true, true, true, true, true, true, bp, false, false] ((((((a'.put (some 31) (.slice Ao ln co)).put (some 33) (.tuple #[.agg #[.int .i64 kk, .int .i64 ee, .int .i64 oo, .int .i64 0, .slice Ap np cp], .int .i64 ep])).put (some 28) (.tuple #[.agg #[.int .i64 kk, .int .i64 ee, .int .i64 oo, .int .i64 0, .slice Ap np cp], .int .i64 ep])).put (some 34) (.agg #[.int .i64 kk, .int .i64 ee, .int .i64 oo, .int .i64 0, .slice Ap np cp])).put (some 35) (.int .i64 ep)).put (some 8) vp) W := by
  intro m
  induction m with
  | zero => intros; omega
  | succ m ih =>
  intro W Ao co ds Ap cp bp vp pp hm hS hz hPp hq Hp
  subst hlm hlo hlq hla hRG
  try simp only [z]
  by_cases hb : bp = true
  rotate_left
  ·refine wpAnyH_ready (rs := (cond bp [] [8] ++ [])) (by revert hb; cases bp <;> intro hb <;> first | exact absurd (by decide) hb | kernel_rfl) (by revert hb; cases bp <;> decide) (ropt (fun hp => .cons rfl (fun K hK => ?_) .nil) .nil)
   ·subst hp
    obtain ⟨W', hWn, hB, hrow, _⟩ := nw1 W #[.int .i64 0, .int .i64 0, .int .i64 0, .int .i64 0, .slice none 0 0] 49
    go_simp
    rw [<- hWn]
    clear hWn
    have hS' := hS.trans (hB.mono hS.size)
    refine hK.out _ _ hS' (fun _ => ?_)
    clear hK K
    try simp only [z]
    have hn := ih W' Ao co ds Ap cp true (.pointer (some ⟨W.heap.size, 0, none⟩)) W.heap.size (by simp only [cond_true, cond_false] at hm ⊢; omega) hS' (Nat.le_trans hz hB.size) (RowsAt.at_ hPp hB) (fun _ h ad e => Nat.ne_of_lt (RowsAt.lt hPp h ad e)) (fun _ => ⟨rfl, hz, hrow⟩) 
    try simp only [z] at hn
    exact hn
  subst hb
  obtain ⟨rfl, gp, hp⟩ := Hp rfl
  obtain ⟨m, rfl⟩ : ∃ k, m = k + 1 := ⟨m - 1, by simp only [cond_true] at hm; omega⟩
  clear ih hm
  refine wpAnyH_ready (rs := [9]) (by kernel_rfl) (by simp) (AllReadyH.cons rfl (fun K hK => ?_) AllReadyH.nil)
  rw [if_pos (by rfl)]
  refine wp_store_row 49 _ _ none rfl rfl pp 49 _ #[.int .i64 kk, .int .i64 ee, .int .i64 oo, .int .i64 0, .slice Ap np cp] rfl rfl hp rfl postSize (by simp [Value.oneCell']) ?_
  have hPb := RowsAt.stored hPp (hq rfl) #[.int .i64 kk, .int .i64 ee, .int .i64 oo, .int .i64 0, .slice Ap np cp]
  have hrw := setRow_heap W pp _ #[.int .i64 kk, .int .i64 ee, .int .i64 oo, .int .i64 0, .slice Ap np cp] _ _ hp
  have hS2 := below_setRow hS (Nat.le_trans (show W5.heap.size <= W_0.heap.size from hV0) gp) #[.int .i64 kk, .int .i64 ee, .int .i64 oo, .int .i64 0, .slice Ap np cp]
  refine hK.out _ _ hS2 (fun _ => ?_)
  clear hK K
  try simp only [z]
  refine wpAnyH_ready (rs := [10]) (by kernel_rfl) (by simp) (AllReadyH.cons rfl (fun K hK => ?_) AllReadyH.nil)
  go_simp
  refine hK.out _ _ hS2 (fun _ => ?_)
  clear hK K
  try simp only [z]
  refine wpAnyH_done (by kernel_rfl) ?_ _
  try simp only [z]
  obtain ⟨W6, hWn⟩ : ∃ W6, W6 = W.setRow pp #[.int .i64 kk, .int .i64 ee, .int .i64 oo, .int .i64 0, .slice Ap np cp] := ⟨_, rfl⟩
  rw [<- hWn] at hrw hS2 hPb ⊢
  clear hWn hS hp hPp hq hz gp
  have hB06 := hB05.trans (hS2.mono hB05.size)
  have HP6 := Lib.hid hPb
  have Hp6 := Lib.hid hrw
  have sp6 := some_lt hrw
  have Hcs6 := Lib.hid (RowsAt.at_ Hcs5.out hS2)
  have Hho6 := Lib.hid (Hho5.out.imp (Q := fun a b => a.Holds SR W6 W6.heap.size b) fun _ _ h => h.atR hS2)
  have hgb6 := (hS2.block _ s5).trans Hb5.out
  have hrg6 := Lib.hid (grp_range hgb6)
  have s6 := some_lt hgb6
  have Hgb6 := Lib.hid hgb6
  have Hga6 := Lib.hid (Hga.out.at_ hS2)
  have Hr6 := Lib.hid (RowsAt.at_ Hr5.out hS2)
  have Hx6 := Lib.hid (fun a ha => ((Hx5.out a ha).below hS2 (Nat.le_refl _)).more hS2.size : ∀ a ∈ l, a.At W6 W6.heap.size)
  have HB06 := Lib.hid hB06
  clear hrw hS2 hPb hB06 hgb6
  go_upto_region 8 with (fail)
  have hS : Below W6.heap.size W6 W6.drew := below_drawn (Below.refl _ _) 1
  refine wp_region_held (S := Below W6.heap.size W6) (by kernel_rfl) ?_
  change wpAnyH _ _ _ _ _ _ _ _ (World.drew W6)
  obtain ⟨W_0, hWd⟩ : ∃ W0, W0 = W6.drew := ⟨_, rfl⟩
  rw [<- hWd] at hS ⊢
  clear hWd
  refine tk (i := 0) (v := .agg #[.string g.cur, .int .i64 g.Y, .int .i64 g.M, .int .i64 g.N, .slice g.cA g.cn g.cc, .int .i64 g.r0, .int .i64 g.r1, .int .i64 g.r2, .int .i64 g.r3, .int .i64 g.r4, .int .i64 g.r5, .int .i64 g.r6, .int .i64 g.r7, .int .i64 g.r8, .int .i64 g.r9, .int .i64 g.r10, .int .i64 g.r11, .int .i64 g.r12, .int .i64 g.r13, .int .i64 g.r14, .slice g.eA g.en g.ec]) rfl (by kernel_rfl) (fun _ _ _ h => h) (yieldsIf_load_mid (by rfl) 29 _ rfl W4.heap.size 0 rfl [.string g.cur, .int .i64 g.Y, .int .i64 g.M, .int .i64 g.N, .slice g.cA g.cn g.cc, .int .i64 g.r0, .int .i64 g.r1, .int .i64 g.r2, .int .i64 g.r3, .int .i64 g.r4, .int .i64 g.r5, .int .i64 g.r6, .int .i64 g.r7, .int .i64 g.r8, .int .i64 g.r9, .int .i64 g.r10, .int .i64 g.r11, .int .i64 g.r12, .int .i64 g.r13, .int .i64 g.r14, .slice g.eA g.en g.ec] _ (fun W' hS' => range_below hrg6.out hS' s6) Tryz.underlying29 rfl grpSize) hS ?_
  try simp only [z]
  refine tk (i := 1) (v := .slice A n c) rfl (by kernel_rfl) (fun _ _ _ h => h) (.inl ⟨by rfl, fun W' hS' => by go_simp⟩) hS ?_
  try simp only [z]
  refine tk (i := 3) (v := .int .i64 x) rfl (by kernel_rfl) (fun _ _ _ h => h) (.inl ⟨by rfl, fun W' hS' => by go_simp⟩) hS ?_
  try simp only [z]
  have hV0 := hS.size
  refine wpAnyH_letters fun md' ops' Q' a' hlm hlo hlq hla => ?_
  obtain ⟨RG, hRG⟩ : ∃ R : World -> Prop, R = Below W6.heap.size W6 := ⟨_, rfl⟩
  rw [<- hRG] at hS ⊢
  have n2 : ∀ (m : Nat) (W : World) (Ao : Option Addr) (co : Nat) (ds : List Con) (Aq : Option Addr) (cq : Nat) (bu : Bool) (vu : Value) (pu : Nat), 2 + cond bu 0 1 <= m -> RG W -> W_0.heap.size <= W.heap.size -> (PrtsAt W W.heap.size Aq psq) -> (bu = true -> psq ≠ [] -> ∀ ad, Aq = some ad -> ad.block ≠ pu) -> Mk W_0 W bu vu pu #[.int .i64 0, .int .i64 0, .int .i64 0, .int .i64 0, .slice none 0 0] 49 -> wpAnyH Tryz.prog md' ops' Q' RG m #[true, true, true, true, true, true, true, true, bu, false, false] ((((((a'.put (some 39) (.slice Ao ln co)).put (some 41) (.tuple #[.agg #[.int .i64 kkq, .int .i64 eeq, .int .i64 ooq, .int .i64 0, .slice Aq npq cq], .int .i64 epq])).put (some 36) (.tuple #[.agg #[.int .i64 kkq, .int .i64 eeq, .int .i64 ooq, .int .i64 0, .slice Aq npq cq], .int .i64 epq])).put (some 42) (.agg #[.int .i64 kkq, .int .i64 eeq, .int .i64 ooq, .int .i64 0, .slice Aq npq cq])).put (some 43) (.int .i64 epq)).put (some 10) vu) W := by
   intro m
   induction m with
   | zero => intros; omega
   | succ m ih =>
   intro W Ao co ds Aq cq bu vu pu hm hS hz hPp hq Hu
   subst hlm hlo hlq hla hRG
   try simp only [z]
   by_cases hb : bu = true
   rotate_left
   ·refine wpAnyH_ready (rs := (cond bu [] [8] ++ [])) (by revert hb; cases bu <;> intro hb <;> first | exact absurd (by decide) hb | kernel_rfl) (by revert hb; cases bu <;> decide) (ropt (fun hu => .cons rfl (fun K hK => ?_) .nil) .nil)
    ·subst hu
     obtain ⟨W', hWn, hB, hrow, _⟩ := nw1 W #[.int .i64 0, .int .i64 0, .int .i64 0, .int .i64 0, .slice none 0 0] 49
     go_simp
     rw [<- hWn]
     clear hWn
     have hS' := hS.trans (hB.mono hS.size)
     refine hK.out _ _ hS' (fun _ => ?_)
     clear hK K
     try simp only [z]
     have hn := ih W' Ao co ds Aq cq true (.pointer (some ⟨W.heap.size, 0, none⟩)) W.heap.size (by simp only [cond_true, cond_false] at hm ⊢; omega) hS' (Nat.le_trans hz hB.size) (RowsAt.at_ hPp hB) (fun _ h ad e => Nat.ne_of_lt (RowsAt.lt hPp h ad e)) (fun _ => ⟨rfl, hz, hrow⟩) 
     try simp only [z] at hn
     exact hn
   subst hb
   obtain ⟨rfl, gu, hu⟩ := Hu rfl
   obtain ⟨m, rfl⟩ : ∃ k, m = k + 1 := ⟨m - 1, by simp only [cond_true] at hm; omega⟩
   clear ih hm
   refine wpAnyH_ready (rs := [9]) (by kernel_rfl) (by simp) (AllReadyH.cons rfl (fun K hK => ?_) AllReadyH.nil)
   rw [if_pos (by rfl)]
   refine wp_store_row 49 _ _ none rfl rfl pu 49 _ #[.int .i64 kkq, .int .i64 eeq, .int .i64 ooq, .int .i64 0, .slice Aq npq cq] rfl rfl hu rfl postSize (by simp [Value.oneCell']) ?_
   have hPb := RowsAt.stored hPp (hq rfl) #[.int .i64 kkq, .int .i64 eeq, .int .i64 ooq, .int .i64 0, .slice Aq npq cq]
   have hrw := setRow_heap W pu _ #[.int .i64 kkq, .int .i64 eeq, .int .i64 ooq, .int .i64 0, .slice Aq npq cq] _ _ hu
   have hS2 := below_setRow hS (Nat.le_trans (show W6.heap.size <= W_0.heap.size from hV0) gu) #[.int .i64 kkq, .int .i64 eeq, .int .i64 ooq, .int .i64 0, .slice Aq npq cq]
   refine hK.out _ _ hS2 (fun _ => ?_)
   clear hK K
   try simp only [z]
   refine wpAnyH_ready (rs := [10]) (by kernel_rfl) (by simp) (AllReadyH.cons rfl (fun K hK => ?_) AllReadyH.nil)
   go_simp
   refine hK.out _ _ hS2 (fun _ => ?_)
   clear hK K
   try simp only [z]
   refine wpAnyH_done (by kernel_rfl) ?_ _
   try simp only [z]
   obtain ⟨W6q, hWn⟩ : ∃ W6, W6 = W.setRow pu #[.int .i64 kkq, .int .i64 eeq, .int .i64 ooq, .int .i64 0, .slice Aq npq cq] := ⟨_, rfl⟩
   rw [<- hWn] at hrw hS2 hPb ⊢
   clear hWn hS hu hPp hq hz gu
   have hB07 := HB06.out.trans (hS2.mono HB06.out.size)
   have Hp7 := Lib.hid (gbox Hp6.out hS2 sp6)
   have HP7 := Lib.hid ((HP6.out.below hS2 (Nat.le_refl _)).more hS2.size)
   have Hq7 := Lib.hid hrw
   have HQ7 := Lib.hid hPb
   have Hcs7 := Lib.hid (RowsAt.at_ Hcs6.out hS2)
   have Hho7 := Lib.hid (Hho6.out.imp (Q := fun a b => a.Holds SR W6q W6q.heap.size b) fun _ _ h => h.atR hS2)
   have Hg7 := Lib.hid ((hS2.block _ s6).trans Hgb6.out)
   clear hrw hS2 hPb
   go_wp2_with (fail)
   refine (elimr_any W6q Ar ln cr cs x (Hcl.out.trans Hln.out.symm) (by have := Hln.out; have := Hlr.out; omega) Hcs7.out).mono ?_
   rintro e V8 ⟨rfl, hC8⟩
   obtain ⟨x0, hx0⟩ : ∃ x0, x0 = Cn.found cs x := ⟨_, rfl⟩
   obtain ⟨ok, hok⟩ : ∃ ok, ok = Cn.isElim cs x := ⟨_, rfl⟩
   have HEL : Hid ((ok = false /\ Gr.elim (l.map Raw.cnt) x = none) ∨ (ok = true /\ ∃ y, Gr.elim (l.map Raw.cnt) x = some y)) := by
    show _ ∨ _
    rw [hok]
    rcases Cn.elim_hold (P := fun a b => a.Holds SR W6q W6q.heap.size b) (fun _ _ h => ⟨h.he, h.hm⟩) x Hho7.out with h | ⟨y, h1, h2, _⟩
    ·exact .inl h
    ·exact .inr ⟨h1, y, h2⟩
   rw [<- hx0, <- hok]
   obtain ⟨W9, hW9, hB9, hb9, hz9⟩ := nw1 V8 #[.int .i64 x0.ent, .int .i64 x0.meth, .int .i64 x0.since, .bool x0.sg1, .slice x0.sA1 x0.sn1 x0.sc1, .bool x0.sg2, .slice x0.sA2 x0.sn2 x0.sc2, .bool x0.fg1, .slice x0.fA1 x0.fn1 x0.fc1, .bool x0.fg2, .slice x0.fA2 x0.fn2 x0.fc2, .slice x0.iA x0.im x0.ic, .slice x0.hA x0.hm x0.hc] 62
   have HW9 := Lib.hid hW9
   have hC79 := hC8.trans (hB9.mono hC8.size)
   have hB09 := hB07.trans (hC79.mono hB07.size)
   have Hp9 := Lib.hid (gbox Hp7.out hC79 (some_lt Hp7.out))
   have Hq9 := Lib.hid (gbox Hq7.out hC79 (some_lt Hq7.out))
   have Hg9 := Lib.hid (gbox Hg7.out hC79 (some_lt Hg7.out))
   have HP9 := Lib.hid ((HP7.out.below hC79 (Nat.le_refl _)).more hC79.size)
   have HQ9 := Lib.hid ((HQ7.out.below hC79 (Nat.le_refl _)).more hC79.size)
   have Hcs9 := Lib.hid (RowsAt.at_ Hcs7.out hC79)
   have Hho9 := Lib.hid (Hho7.out.imp (Q := fun a b => a.Holds SR W9 W9.heap.size b) fun _ _ h => h.atR hC79)
   have q4 := cell_of_row _ _ 4 _ _ _ Hq9.out
   simp at q4
   have sq9 := some_lt Hq9.out
   clear hx0 hok hW9 hb9 hz9 hC79
   go_upto_region 10 with (fail)
   rw [<- HW9.out]
   cases ok with
   | false =>
    have h0 := HNOq.out (.inr (by rcases HEL.out with ⟨_, h⟩ | ⟨h, _⟩; exact h; cases h))
    subst h0
    go_upto_region 11 with (fail)
    go_wp2
    go_ret
    exact ⟨by simp, hB09⟩
   | true =>
   have HE : Hid (∃ y, Gr.elim (l.map Raw.cnt) x = some y) := Lib.hid (by rcases HEL.out with ⟨h, _⟩ | ⟨_, h⟩; cases h; exact h)
   by_cases h1 : ep = 0
   case neg =>
    have h1b : (ep != 0) = true := by simp [h1]
    clear h1
    go_upto_region 11 with (fail)
    by_cases hz : npq = 0
    ·subst hz
     go_wp2
     go_ret
     exact ⟨by simp, hB09⟩
    ·have hzb : ((npq : Int) == 0) = false := by simp [hz]
     clear hz
     go_wp2
     go_ret
     exact ⟨rfl, hB09⟩
   have h1b : (ep != 0) = false := by simp [h1]
   have H1 := Lib.hid h1
   clear h1
   by_cases h2 : epq = 0
   case neg =>
    have h2b : (epq != 0) = true := by simp [h2]
    have h0 := HNOq.out (.inl h2)
    subst h0
    clear h2
    go_upto_region 11 with (fail)
    go_wp2
    go_ret
    exact ⟨by simp, hB09⟩
   have h2b : (epq != 0) = false := by simp [h2]
   have H2 := Lib.hid h2
   clear h2 q4
   go_upto_region 12 with (fail)
   obtain ⟨m, hm⟩ : ∃ m, m = l.map Raw.cnt := ⟨_, rfl⟩
   have Hm := Lib.hid hm
   have hho9 := Hho9.out
   rw [<- hm] at hho9
   have HM := Lib.hid hho9
   have Hml := Lib.hid (Hold.len hho9)
   have Hits := Lib.hid (Hold.its hho9)
   have HA := Lib.hid Hcs9.out
   have Hcn := Lib.hid (Hcl.out.trans Hln.out.symm)
   have hln8 : ln <= 100 := by have := Hln.out; have := Hlr.out; omega
   clear hm hho9
   go_wp2
   go_loopw [14, 15, 16] (fun s i _ wr => ∃ k : Nat, k <= ln /\ i = .int .i64 k /\ s = .int .i64 (Gr.invall g x (m.take k)) /\ Below W9.heap.size W9 wr) (fun _ i _ _ => ln - (intOf i).toNat)
   case atStart => exact ⟨0, Nat.zero_le _, rfl, rfl, Below.refl _ _⟩
   case round =>
    obtain ⟨k, hk, rfl, rfl, hbr⟩ := hrel
    obtain ⟨Vr, hVr⟩ : ∃ V, V = wr := ⟨_, rfl⟩
    subst hVr
    obtain ⟨s, hs⟩ : ∃ s, s = Gr.invall g x (m.take k) := ⟨_, rfl⟩
    have hsb := Gr.invall_bd g x (m.take k) fun y hy => Hits.out y (List.mem_of_mem_take hy)
    have htl : (m.take k).length <= 100 := by rw [List.length_take]; omega
    rw [<- hs] at hsb ⊢
    obtain ⟨lo, hi⟩ : -4000000000000000 <= s /\ s <= 4000000000000000 := by omega
    have Hs := Lib.hid hs
    have hq := hbr.size
    clear hs hsb htl
    by_cases hlt : k < ln
    ·have hkl : k < cs.length := by have := Hcn.out; omega
     have hkm : k < m.length := by have := Hml.out; have := Hcn.out; omega
     obtain ⟨b, o, hAe, hbB, hr⟩ := RowsAt.look (RowsAt.below HA.out hbr (Nat.le_refl _)) hkl
     cases hAe
     have hHo := (HM.out.get k hkl hkm).belowR hbr (Nat.le_refl _)
     obtain ⟨xk, hxk⟩ : ∃ xk, xk = cs[k] := ⟨_, rfl⟩
     obtain ⟨y, hy⟩ : ∃ y, y = m[k] := ⟨_, rfl⟩
     have HN : Hid (Gr.invall g x (m.take (k + 1)) = s + Gr.sumIf (Gr.inv0 g x (decide (y.meth = 3))) y.its) := by show _ = _; rw [Gr.invall_take _ _ hkm, <- Hs.out, <- hy]
     rw [<- hxk] at hr hHo
     rw [<- hy] at hHo
     have HY := Lib.hid hHo
     obtain ⟨mb, hmb⟩ : ∃ mb, mb = decide (y.meth = 3) := ⟨_, rfl⟩
     rw [<- hmb] at HN
     have hmt : (xk.meth == 3) = mb := by rw [hmb, <- hHo.hm]; rfl
     have hilen := Lib.hid hHo.hil
     have hin := hHo.hin
     have c11 : Vr.cell? ⟨b, o + k * 13 + 11, none⟩ = some (.slice xk.iA xk.im xk.ic) := hr 11 _ rfl
     have c1 : Vr.cell? ⟨b, o + k * 13 + 1, none⟩ = some (.int .i64 xk.meth) := hr 1 _ rfl
     have C11 := Lib.hid c11
     have C1 := Lib.hid c1
     have hbw : b < Vr.heap.size := by omega
     have hk0 : (0 : Int) <= (k : Int) := by omega
     have hkn : (k : Int) < ln := by omega
     have Hgr := Lib.hid (gbox Hg9.out hbr (some_lt Hg9.out))
     have sgw := some_lt Hgr.out
     clear hxk hy hr hHo hmb c11 c1
     go_wp2
     go_loopw [14, 16] (fun v i2 wq => ∃ j : Nat, j <= xk.im /\ i2 = .int .i64 j /\ v = .int .i64 (s + Gr.sumIf (Gr.inv0 g x mb) (y.its.take j)) /\ Below Vr.heap.size Vr wq) (fun _ i2 _ => xk.im - (intOf i2).toNat)
     case atStart => exact ⟨0, Nat.zero_le _, rfl, by simp [Gr.sumIf], Below.refl _ _⟩
     case round =>
      obtain ⟨j, hj, rfl, rfl, hbq⟩ := hrel
      obtain ⟨t, ht⟩ : ∃ t, t = Gr.sumIf (Gr.inv0 g x mb) (y.its.take j) := ⟨_, rfl⟩
      obtain ⟨tl, th⟩ := Gr.sumIf_take_small (P := Gr.inv0 g x mb) j hilen.out (by omega) HY.out.hix
      rw [<- ht] at tl th ⊢
      obtain ⟨v, hv⟩ : ∃ v, v = s + t := ⟨_, rfl⟩
      rw [<- hv]
      have Ht := Lib.hid ht
      have Hv := Lib.hid hv
      have hvb : -4100000000000000 <= v /\ v <= 4100000000000000 := by omega
      have hqq := hbq.size
      have c11 := (hbq.cell (p := ⟨b, o + k * 13 + 11, none⟩) hbw).trans C11.out
      have c1 := (hbq.cell (p := ⟨b, o + k * 13 + 1, none⟩) hbw).trans C1.out
      clear ht hv
      by_cases hlj : j < xk.im
      ·have hjl : j < y.its.length := by have := hilen.out; omega
       obtain ⟨b2, o2, hA2, hb2, hr2⟩ := RowsAt.look (RowsAt.below HY.out.hiA (hbq.mono hq) (Nat.le_refl _)) hjl
       obtain ⟨zi, hzi⟩ : ∃ zi, zi = y.its[j] := ⟨_, rfl⟩
       have HNj : Hid (Gr.sumIf (Gr.inv0 g x mb) (y.its.take (j + 1)) = t + (if Gr.inv0 g x mb zi = true then zi.amt else 0)) := by show _ = _; rw [Gr.sumIf_take _ hjl, <- Ht.out, <- hzi]
       obtain ⟨zl, zh⟩ : zi.small := by rw [hzi]; exact HY.out.hix _ (List.getElem_mem hjl)
       rw [<- hzi] at hr2
       have Hr2 := Lib.hid hr2
       have hb2w : b2 < Vr.heap.size := by omega
       have hj0 : (0 : Int) <= (j : Int) := by omega
       have hjn : (j : Int) < xk.im := by omega
       rw [hA2] at c11
       obtain ⟨W2', hW2, hB2', hbn, hzn⟩ := nw1 wr #[.int .i64 zi.ent0, .int .i64 zi.lin, .int .i64 zi.ent, .int .i64 zi.acct, .int .i64 zi.partner, .int .i64 zi.date, .int .i64 zi.amt] 82
       have HW2 := Lib.hid hW2
       have hqw : Vr.heap.size <= wr.heap.size := hqq
       have hbq2 := hbq.trans (hB2'.mono hqq)
       have Hbq2 := Lib.hid hbq2
       have y3 := cell_of_row _ _ 3 _ _ _ hbn
       have y4 := cell_of_row _ _ 4 _ _ _ hbn
       have y6 := cell_of_row _ _ 6 _ _ _ hbn
       have hbg := gbox Hgr.out hbq2 sgw
       have g5 := cell_of_row _ _ 5 _ _ _ hbg
       simp at y3 y4 y6 g5
       have sg2 := some_lt hbg
       have s2 : wr.heap.size < W2'.heap.size := by omega
       have k11 := (hB2'.cell (p := ⟨b, o + k * 13 + 1, none⟩) (by show b < _; omega)).trans c1
       have k12 := (hB2'.cell (p := ⟨b, o + k * 13 + 11, none⟩) (by show b < _; omega)).trans c11
       have kbw : b < W2'.heap.size := by omega
       obtain ⟨ac, hac⟩ : ∃ ac, ac = zi.acct := ⟨_, rfl⟩
       obtain ⟨pa, hpa⟩ : ∃ pa, pa = zi.partner := ⟨_, rfl⟩
       obtain ⟨am, ham⟩ : ∃ am, am = zi.amt := ⟨_, rfl⟩
       have HP : Hid (Gr.inv0 g x mb zi = (mb && decide (ac = g.r0) && decide (pa = x))) := by show _ = _; rw [Gr.inv0, <- hac, <- hpa]
       rw [<- hac] at y3
       rw [<- hpa] at y4
       rw [<- ham] at y6 zl zh HNj
       clear hzi hr2 hA2 hbn hzn hW2 hbg hac hpa ham
       go_upto_region 20 with (refine wpList_load_mid rfl 82 (.tmp 90) rfl b2 (o2 + j * 7) rfl [.int .i64 zi.ent0, .int .i64 zi.lin, .int .i64 zi.ent, .int .i64 zi.acct, .int .i64 zi.partner, .int .i64 zi.date, .int .i64 zi.amt] _ Hr2.out Tryz.underlying82 rfl itmSize38 ?_)
       rw [<- HW2.out]
       clear c11 c1
       have hway : mb = false ∨ mb = true /\ (ac ≠ g.r0 ∨ ac = g.r0 /\ (pa ≠ x ∨ pa = x)) := by cases mb <;> simp <;> omega
       rcases hway with rfl | ⟨rfl, h1 | ⟨h1, h2 | h2⟩⟩
       focus
        have HB : Hid (Gr.inv0 g x false zi = false) := by show _ = _; rw [HP.out]; simp
       rotate_left
       focus
        have h1b : (ac == g.r0) = false := by simp [h1]
        have HB : Hid (Gr.inv0 g x true zi = false) := by show _ = _; rw [HP.out]; simp [h1]
        clear h1
       rotate_left
       focus
        have h1b : (ac == g.r0) = true := by simp [h1]
        have h2b : (pa == x) = false := by simp [h2]
        have HB : Hid (Gr.inv0 g x true zi = false) := by show _ = _; rw [HP.out]; simp [h1, h2]
        clear h1 h2
       rotate_left
       ·have h1b : (ac == g.r0) = true := by simp [h1]
        have h2b : (pa == x) = true := by simp [h2]
        have HB : Hid (Gr.inv0 g x true zi = true) := by show _ = _; rw [HP.out]; simp [h1, h2]
        clear h1 h2
        have HK : Hid (s + Gr.sumIf (Gr.inv0 g x true) (y.its.take (j + 1)) = v + am) := by show _ = _; rw [HNj.out, HB.out, Hv.out]; simp; omega
        go_upto_region 21 with (fail)
        go_wp2
        go_roundw
        case rel => exact ⟨j + 1, by omega, by go_num, by rw [HK.out], Hbq2.out⟩
        case measure => simp [intOf]; omega
       all_goals (
        have HK := HNj.out
        rw [HB.out] at HK
        have HK2 := Lib.hid HK
        clear HK
        go_upto_region 18 with (fail)
        go_wp2
        go_roundw
        case rel => exact ⟨j + 1, by omega, by go_num, by rw [HK2.out, Hv.out]; simp, Hbq2.out⟩
        case measure => simp [intOf]; omega)
      ·obtain rfl : j = xk.im := by omega
       have HT : Hid (Gr.invall g x (m.take (k + 1)) = v) := by
        show _ = _
        have h1 := Ht.out
        rw [List.take_of_length_le (by have := hilen.out; omega)] at h1
        rw [HN.out, <- h1, Hv.out]
       have hbz := hbr.trans (hbq.mono hq)
       go_wp2
       go_roundw
       case rel => exact ⟨k + 1, by omega, by go_num, by rw [HT.out], hbz⟩
       case measure => simp [intOf]; omega
    ·obtain rfl : k = ln := by omega
     have hal : Gr.invall g x m = s := by
      have := Hs.out
      rw [List.take_of_length_le (by have := Hml.out; have := Hcn.out; omega)] at this
      exact this.symm
     obtain ⟨yy, hyy⟩ := HE.out
     have hsum := Gr.investments (g := g) hyy (HC0.out H1.out)
     rw [<- Hm.out, hal] at hsum
     have q0 := HPT.out H1.out
     have q0q := HPTq.out H2.out
     rw [<- Hm.out] at q0 q0q
     obtain ⟨⟨b0, b1⟩, _⟩ := HSM.out
     obtain ⟨⟨d0, d1⟩, _⟩ := HSMq.out
     rw [<- Hm.out] at b0 b1 d0 d1
     obtain ⟨u1, hu1⟩ : ∃ u1, u1 = -(Gr.capital g m x).1.1 := ⟨_, rfl⟩
     obtain ⟨u2, hu2⟩ : ∃ u2, u2 = -(Gr.step g m x).1.1 := ⟨_, rfl⟩
     rw [<- hu1] at q0
     rw [<- hu2] at q0q
     have hu : s + u1 + u2 = 0 := by omega
     have k1 : -4000000000000000 <= u1 /\ u1 <= 4000000000000000 := by omega
     have k2 : -4000000000000000 <= u2 /\ u2 <= 4000000000000000 := by omega
     have Q1 := Lib.hid q0
     have Q2 := Lib.hid q0q
     have HU := Lib.hid hu
     have hB010 := hB09.trans (hbr.mono hB09.size)
     have Hpx := Lib.hid (range_row (cs := [.int .i64 kk, .int .i64 ee, .int .i64 oo, .int .i64 0, .slice Ap np cp]) (gbox Hp9.out hbr (some_lt Hp9.out)))
     have Hqx := Lib.hid (range_row (cs := [.int .i64 kkq, .int .i64 eeq, .int .i64 ooq, .int .i64 0, .slice Aq npq cq]) (gbox Hq9.out hbr (some_lt Hq9.out)))
     have Hgx := Lib.hid (gbox Hg9.out hbr (some_lt Hg9.out))
     have spx := some_lt (gbox Hp9.out hbr (some_lt Hp9.out))
     have sqx := some_lt (gbox Hq9.out hbr (some_lt Hq9.out))
     have sgx := some_lt Hgx.out
     have HPx := Lib.hid ((HP9.out.below hbr (Nat.le_refl _)).more hbr.size)
     have HQx := Lib.hid ((HQ9.out.below hbr (Nat.le_refl _)).more hbr.size)
     have hS : Below Vr.heap.size Vr Vr.drew := below_drawn (Below.refl _ _) 1
     clear hsum q0 q0q b0 b1 d0 d1 hu1 hu2 hal hyy hu
     go_upto_region 22 with (fail)
     refine wp_region_held (S := Below Vr.heap.size Vr) (by kernel_rfl) ?_
     change wpAnyH _ _ _ _ _ _ _ _ (World.drew Vr)
     obtain ⟨WC0, hWd⟩ : ∃ W0, W0 = Vr.drew := ⟨_, rfl⟩
     rw [<- hWd] at hS ⊢
     clear hWd
     refine tk (i := 0) (v := .int .i64 s) rfl (by kernel_rfl) (fun _ _ _ h => h) (.inl ⟨by rfl, fun W' hS' => by go_simp⟩) hS ?_
     try simp only [z]
     refine tk (i := 1) (v := .agg #[.int .i64 kk, .int .i64 ee, .int .i64 oo, .int .i64 0, .slice Ap np cp]) rfl (by kernel_rfl) (fun _ _ _ h => h) (yieldsIf_load_mid (by rfl) 49 _ rfl pp 0 rfl [.int .i64 kk, .int .i64 ee, .int .i64 oo, .int .i64 0, .slice Ap np cp] _ (fun W' hS' => range_below Hpx.out hS' spx) Tryz.underlying49 rfl postSize) hS ?_
     try simp only [z]
     refine tk (i := 2) (v := .pointer (some ⟨W4.heap.size, 5, none⟩)) rfl (by kernel_rfl) (fun _ _ _ h => h) (.inl ⟨by rfl, fun W' hS' => by go_simp⟩) hS ?_
     try simp only [z]
     refine tk (i := 3) (v := .pointer (some ⟨W4.heap.size, 5, none⟩)) rfl (by kernel_rfl) (fun _ _ _ h => h) (.inl ⟨by rfl, fun W' hS' => by go_simp⟩) hS ?_
     try simp only [z]
     refine tk (i := 4) (v := .int .i64 g.r0) rfl (by kernel_rfl) (fun _ _ _ h => h) (.inl ⟨by rfl, fun W' hS' => by have hc := cell_of_row _ _ 5 _ _ _ ((hS'.block _ sgx).trans Hgx.out); simp at hc; have hl9 := Nat.lt_of_lt_of_le sgx hS'.size; go_simp⟩) hS ?_
     try simp only [z]
     refine tk (i := 7) (v := .agg #[.int .i64 kkq, .int .i64 eeq, .int .i64 ooq, .int .i64 0, .slice Aq npq cq]) rfl (by kernel_rfl) (fun _ _ _ h => h) (yieldsIf_load_mid (by rfl) 49 _ rfl pu 0 rfl [.int .i64 kkq, .int .i64 eeq, .int .i64 ooq, .int .i64 0, .slice Aq npq cq] _ (fun W' hS' => range_below Hqx.out hS' sqx) Tryz.underlying49 rfl postSize) hS ?_
     try simp only [z]
     refine tk (i := 8) (v := .pointer (some ⟨W4.heap.size, 5, none⟩)) rfl (by kernel_rfl) (fun _ _ _ h => h) (.inl ⟨by rfl, fun W' hS' => by go_simp⟩) hS ?_
     try simp only [z]
     refine tk (i := 9) (v := .pointer (some ⟨W4.heap.size, 5, none⟩)) rfl (by kernel_rfl) (fun _ _ _ h => h) (.inl ⟨by rfl, fun W' hS' => by go_simp⟩) hS ?_
     try simp only [z]
     refine tk (i := 10) (v := .int .i64 g.r0) rfl (by kernel_rfl) (fun _ _ _ h => h) (.inl ⟨by rfl, fun W' hS' => by have hc := cell_of_row _ _ 5 _ _ _ ((hS'.block _ sgx).trans Hgx.out); simp at hc; have hl9 := Nat.lt_of_lt_of_le sgx hS'.size; go_simp⟩) hS ?_
     try simp only [z]
     refine wpAnyH_ready (rs := [5]) (by kernel_rfl) (by simp) (AllReadyH.cons rfl (fun K hK => ?_) AllReadyH.nil)
     go_simp
     refine (part40_any WC0 kk ee oo 0 Ap np cp ps g.r0 HNP.out.symm (by have := HN4.out; omega) ((HPx.out.below hS (Nat.le_refl _)).more hS.size)).mono ?_
     rw [Q1.out]
     rintro e WC1 ⟨rfl, hBc⟩
     have hVC1 := hS.trans (hBc.mono hS.size)
     clear hBc
     refine hK.out _ _ hVC1 (fun _ => ?_)
     clear hK K
     try simp only [z]
     refine tk (i := 6) (v := .int .i64 (s + u1)) rfl (by kernel_rfl) (fun _ _ _ h => h) (.inl ⟨by rfl, fun W' hS' => by have hw : wrap64 (s + u1) = s + u1 := IntWalk.wrap64_in _ (by omega); (go_simp; try (rw [IntKind.wrap_i64]; clear hw; omega))⟩) hVC1 ?_
     try simp only [z]
     refine wpAnyH_ready (rs := [11]) (by kernel_rfl) (by simp) (AllReadyH.cons rfl (fun K hK => ?_) AllReadyH.nil)
     go_simp
     refine (part40_any WC1 kkq eeq ooq 0 Aq npq cq psq g.r0 HNPq.out.symm (by have := HN4q.out; omega) ((HQx.out.below hVC1 (Nat.le_refl _)).more hVC1.size)).mono ?_
     rw [Q2.out]
     rintro e WC2 ⟨rfl, hBc⟩
     have hVC2 := hVC1.trans (hBc.mono hVC1.size)
     clear hBc
     refine hK.out _ _ hVC2 (fun _ => ?_)
     clear hK K
     try simp only [z]
     refine tk (i := 12) (v := .int .i64 0) rfl (by kernel_rfl) (fun _ _ _ h => h) (.inl ⟨by rfl, fun W' hS' => by have hw : wrap64 (s + u1 + u2) = s + u1 + u2 := IntWalk.wrap64_in _ (by omega); (go_simp; try (rw [IntKind.wrap_i64]; clear hw; have := HU.out; omega))⟩) hVC2 ?_
     try simp only [z]
     refine tk (i := 13) (v := .bool true) rfl (by kernel_rfl) (fun _ _ _ h => h) (.inl ⟨by rfl, fun W' hS' => by go_simp⟩) hVC2 ?_
     try simp only [z]
     refine wpAnyH_ready (rs := [14]) (by kernel_rfl) (by simp) (AllReadyH.cons rfl (fun K hK => ?_) AllReadyH.nil)
     go_simp
     refine hK.out _ _ hVC2 (fun _ => ?_)
     clear hK K
     try simp only [z]
     refine wpAnyH_done (by kernel_rfl) ?_ _
     try simp only [z]
     have hB011 := hB010.trans (hVC2.mono hB010.size)
     go_wp2
     go_ret
     exact ⟨rfl, hB011⟩
  have n1 : ∀ (m : Nat) (W : World) (Ao : Option Addr) (co : Nat) (ds : List Con) (bu : Bool) (vu : Value) (pu : Nat), 6 + cond bu 0 1 <= m -> RG W -> W_0.heap.size <= W.heap.size -> (ds.length = l.length) -> (ConsAt W W.heap.size Ao ds) -> (Hold (fun a b => a.Holds SD W W.heap.size b) ds (l.map Raw.cnt)) -> Mk W_0 W bu vu pu #[.int .i64 0, .int .i64 0, .int .i64 0, .int .i64 0, .slice none 0 0] 49 -> wpAnyH Tryz.prog md' ops' Q' RG m #[true, true, true, true, false, false, false, false, bu, false, false] ((a'.put (some 39) (.slice Ao ln co)).put (some 10) vu) W := by
   intro m
   induction m with
   | zero => intros; omega
   | succ m ih =>
   intro W Ao co ds bu vu pu hm hS hz hdl hds hdo Hu
   subst hlm hlo hlq hla hRG
   try simp only [z]
   refine wpAnyH_ready (rs := 4 :: (cond bu [] [8] ++ [])) (by cases bu <;> kernel_rfl) (by simp) (.cons rfl (fun K hK => ?_) (ropt (fun hu => .cons rfl (fun K hK => ?_) .nil) .nil))
   ·clear ih
    have Hof := Lib.hid (spostd_any W g Ao ln co ds (l.map Raw.cnt) x (hdl.trans Hln.out.symm) (by have := Hln.out; have := H8.out; omega) hds hdo (Hga6.out.at_ hS))
    go_simp
    refine Hof.out.mono ?_
    rintro e W' hpp
    obtain ⟨hB, Aq, cq, hfp, rfl, hPp⟩ := PostingPost.one hpp
    clear hpp
    rw [<- HPSq.out] at hPp
    rw [<- HKKq.out, <- HEEq.out, <- HOOq.out, <- HEPq.out, <- HPSq.out, <- HNPq.out]
    have hS' := hS.trans (hB.mono hS.size)
    refine hK.out _ _ hS' (fun _ => ?_)
    clear hK K
    try simp only [z]
    obtain ⟨m, rfl⟩ : ∃ k, m = k + 3 := ⟨m - 3, by omega⟩
    refine wpAnyH_take (i := 5) (v := .tuple #[.agg #[.int .i64 kkq, .int .i64 eeq, .int .i64 ooq, .int .i64 0, .slice Aq npq cq], .int .i64 epq]) rfl (by kernel_rfl) (by cases bu <;> kernel_rfl) (by cases bu <;> kernel_rfl) (fun _ _ _ h => h) (.inl ⟨by rfl, fun W' hS' => by go_simp⟩) hS' ?_
    try simp only [z]
    refine wpAnyH_take (i := 6) (v := .agg #[.int .i64 kkq, .int .i64 eeq, .int .i64 ooq, .int .i64 0, .slice Aq npq cq]) rfl (by kernel_rfl) (by cases bu <;> kernel_rfl) (by cases bu <;> kernel_rfl) (fun _ _ _ h => h) (.inl ⟨by rfl, fun W' hS' => by go_simp⟩) hS' ?_
    try simp only [z]
    refine wpAnyH_take (i := 7) (v := .int .i64 epq) rfl (by kernel_rfl) (by cases bu <;> kernel_rfl) (by cases bu <;> kernel_rfl) (fun _ _ _ h => h) (.inl ⟨by rfl, fun W' hS' => by go_simp⟩) hS' ?_
    try simp only [z]
    have hn := n2 m W' Ao co ds Aq cq bu vu pu (by omega) hS' (Nat.le_trans hz hB.size) (hPp) (fun hb _ ad e => Nat.ne_of_gt (Nat.lt_of_lt_of_le (some_lt (Hu hb).2.2) (hfp ad e))) (Hu.step hB)
    try simp only [z] at hn
    exact hn
   ·subst hu
    obtain ⟨W', hWn, hB, hrow, _⟩ := nw1 W #[.int .i64 0, .int .i64 0, .int .i64 0, .int .i64 0, .slice none 0 0] 49
    go_simp
    rw [<- hWn]
    clear hWn
    have hS' := hS.trans (hB.mono hS.size)
    refine hK.out _ _ hS' (fun _ => ?_)
    clear hK K
    try simp only [z]
    have hn := ih W' Ao co ds true (.pointer (some ⟨W.heap.size, 0, none⟩)) W.heap.size (by simp only [cond_true, cond_false] at hm ⊢; omega) hS' (Nat.le_trans hz hB.size) (hdl) (RowsAt.at_ hds hB) (hdo.imp (Q := fun a b => a.Holds SD W' W'.heap.size b) fun _ _ h => h.atD hB) (fun _ => ⟨rfl, hz, hrow⟩) 
    try simp only [z] at hn
    exact hn
  have n0 : ∀ (m : Nat) (W : World) (bu : Bool) (vu : Value) (pu : Nat), 7 + cond bu 0 1 <= m -> RG W -> W_0.heap.size <= W.heap.size -> Mk W_0 W bu vu pu #[.int .i64 0, .int .i64 0, .int .i64 0, .int .i64 0, .slice none 0 0] 49 -> wpAnyH Tryz.prog md' ops' Q' RG m #[true, true, false, true, false, false, false, false, bu, false, false] (a'.put (some 10) vu) W := by
   intro m
   induction m with
   | zero => intros; omega
   | succ m ih =>
   intro W bu vu pu hm hS hz Hu
   subst hlm hlo hlq hla hRG
   try simp only [z]
   refine wpAnyH_ready (rs := 2 :: (cond bu [] [8] ++ [])) (by cases bu <;> kernel_rfl) (by simp) (.cons rfl (fun K hK => ?_) (ropt (fun hu => .cons rfl (fun K hK => ?_) .nil) .nil))
   ·clear ih
    have Hown := Lib.hid (own40_any W A n c l Hl.out (by have := Hl.out; have := H8.out; omega) (RowsAt.at_ Hr6.out hS) (fun a ha => ((Hx6.out a ha).below hS (Nat.le_refl _)).more hS.size) Hall.out)
    go_simp
    refine Hown.out.mono ?_
    rintro e W' ⟨hB, Ao, co, ds, rfl, hdl, hds, hdo⟩
    rw [<- Hln.out]
    have hS' := hS.trans (hB.mono hS.size)
    refine hK.out _ _ hS' (fun _ => ?_)
    clear hK K
    try simp only [z]
    have hn := n1 m W' Ao co ds bu vu pu (by omega) hS' (Nat.le_trans hz hB.size) (hdl) (hds) (hdo) (Hu.step hB)
    try simp only [z] at hn
    exact hn
   ·subst hu
    obtain ⟨W', hWn, hB, hrow, _⟩ := nw1 W #[.int .i64 0, .int .i64 0, .int .i64 0, .int .i64 0, .slice none 0 0] 49
    go_simp
    rw [<- hWn]
    clear hWn
    have hS' := hS.trans (hB.mono hS.size)
    refine hK.out _ _ hS' (fun _ => ?_)
    clear hK K
    try simp only [z]
    have hn := ih W' true (.pointer (some ⟨W.heap.size, 0, none⟩)) W.heap.size (by simp only [cond_true, cond_false] at hm ⊢; omega) hS' (Nat.le_trans hz hB.size) (fun _ => ⟨rfl, hz, hrow⟩) 
    try simp only [z] at hn
    exact hn
  have hn := n0 _ W_0 false undef 0 (Nat.le_refl _) hS (Nat.le_refl _)  (fun h => nomatch h)
  subst hlm hlo hlq hla hRG
  exact hn
 have n1 : ∀ (m : Nat) (W : World) (Ao : Option Addr) (co : Nat) (ds : List Con) (bp : Bool) (vp : Value) (pp : Nat), 6 + cond bp 0 1 <= m -> RG W -> W_0.heap.size <= W.heap.size -> (ds.length = l.length) -> (ConsAt W W.heap.size Ao ds) -> (Hold (fun a b => a.Holds SD W W.heap.size b) ds (l.map Raw.cnt)) -> Mk W_0 W bp vp pp #[.int .i64 0, .int .i64 0, .int .i64 0, .int .i64 0, .slice none 0 0] 49 -> wpAnyH Tryz.prog md' ops' Q' RG m #[true, true, true, true, false, false, false, false, bp, false, false] ((a'.put (some 31) (.slice Ao ln co)).put (some 8) vp) W := by
  intro m
  induction m with
  | zero => intros; omega
  | succ m ih =>
  intro W Ao co ds bp vp pp hm hS hz hdl hds hdo Hp
  subst hlm hlo hlq hla hRG
  try simp only [z]
  refine wpAnyH_ready (rs := 4 :: (cond bp [] [8] ++ [])) (by cases bp <;> kernel_rfl) (by simp) (.cons rfl (fun K hK => ?_) (ropt (fun hp => .cons rfl (fun K hK => ?_) .nil) .nil))
  ·clear ih
   have Hof := Lib.hid (cpostd_any W g Ao ln co ds (l.map Raw.cnt) x (hdl.trans Hln.out.symm) (by have := Hln.out; have := H8.out; omega) hds hdo (Hga.out.at_ hS))
   go_simp
   refine Hof.out.mono ?_
   rintro e W' hpp
   obtain ⟨hB, Ap, cp, hfp, rfl, hPp⟩ := PostingPost.one hpp
   clear hpp
   rw [<- HPS.out] at hPp
   rw [<- HKK.out, <- HEE.out, <- HOO.out, <- HEP.out, <- HPS.out, <- HNP.out]
   have hS' := hS.trans (hB.mono hS.size)
   refine hK.out _ _ hS' (fun _ => ?_)
   clear hK K
   try simp only [z]
   obtain ⟨m, rfl⟩ : ∃ k, m = k + 3 := ⟨m - 3, by omega⟩
   refine wpAnyH_take (i := 5) (v := .tuple #[.agg #[.int .i64 kk, .int .i64 ee, .int .i64 oo, .int .i64 0, .slice Ap np cp], .int .i64 ep]) rfl (by kernel_rfl) (by cases bp <;> kernel_rfl) (by cases bp <;> kernel_rfl) (fun _ _ _ h => h) (.inl ⟨by rfl, fun W' hS' => by go_simp⟩) hS' ?_
   try simp only [z]
   refine wpAnyH_take (i := 6) (v := .agg #[.int .i64 kk, .int .i64 ee, .int .i64 oo, .int .i64 0, .slice Ap np cp]) rfl (by kernel_rfl) (by cases bp <;> kernel_rfl) (by cases bp <;> kernel_rfl) (fun _ _ _ h => h) (.inl ⟨by rfl, fun W' hS' => by go_simp⟩) hS' ?_
   try simp only [z]
   refine wpAnyH_take (i := 7) (v := .int .i64 ep) rfl (by kernel_rfl) (by cases bp <;> kernel_rfl) (by cases bp <;> kernel_rfl) (fun _ _ _ h => h) (.inl ⟨by rfl, fun W' hS' => by go_simp⟩) hS' ?_
   try simp only [z]
   have hn := n2 m W' Ao co ds Ap cp bp vp pp (by omega) hS' (Nat.le_trans hz hB.size) (hPp) (fun hb _ ad e => Nat.ne_of_gt (Nat.lt_of_lt_of_le (some_lt (Hp hb).2.2) (hfp ad e))) (Hp.step hB)
   try simp only [z] at hn
   exact hn
  ·subst hp
   obtain ⟨W', hWn, hB, hrow, _⟩ := nw1 W #[.int .i64 0, .int .i64 0, .int .i64 0, .int .i64 0, .slice none 0 0] 49
   go_simp
   rw [<- hWn]
   clear hWn
   have hS' := hS.trans (hB.mono hS.size)
   refine hK.out _ _ hS' (fun _ => ?_)
   clear hK K
   try simp only [z]
   have hn := ih W' Ao co ds true (.pointer (some ⟨W.heap.size, 0, none⟩)) W.heap.size (by simp only [cond_true, cond_false] at hm ⊢; omega) hS' (Nat.le_trans hz hB.size) (hdl) (RowsAt.at_ hds hB) (hdo.imp (Q := fun a b => a.Holds SD W' W'.heap.size b) fun _ _ h => h.atD hB) (fun _ => ⟨rfl, hz, hrow⟩) 
   try simp only [z] at hn
   exact hn
 have n0 : ∀ (m : Nat) (W : World) (bp : Bool) (vp : Value) (pp : Nat), 7 + cond bp 0 1 <= m -> RG W -> W_0.heap.size <= W.heap.size -> Mk W_0 W bp vp pp #[.int .i64 0, .int .i64 0, .int .i64 0, .int .i64 0, .slice none 0 0] 49 -> wpAnyH Tryz.prog md' ops' Q' RG m #[true, true, false, true, false, false, false, false, bp, false, false] (a'.put (some 8) vp) W := by
  intro m
  induction m with
  | zero => intros; omega
  | succ m ih =>
  intro W bp vp pp hm hS hz Hp
  subst hlm hlo hlq hla hRG
  try simp only [z]
  refine wpAnyH_ready (rs := 2 :: (cond bp [] [8] ++ [])) (by cases bp <;> kernel_rfl) (by simp) (.cons rfl (fun K hK => ?_) (ropt (fun hp => .cons rfl (fun K hK => ?_) .nil) .nil))
  ·clear ih
   have Hown := Lib.hid (own40_any W A n c l Hl.out (by have := Hl.out; have := H8.out; omega) (RowsAt.at_ Hr5.out hS) (fun a ha => ((Hx5.out a ha).below hS (Nat.le_refl _)).more hS.size) Hall.out)
   go_simp
   refine Hown.out.mono ?_
   rintro e W' ⟨hB, Ao, co, ds, rfl, hdl, hds, hdo⟩
   rw [<- Hln.out]
   have hS' := hS.trans (hB.mono hS.size)
   refine hK.out _ _ hS' (fun _ => ?_)
   clear hK K
   try simp only [z]
   have hn := n1 m W' Ao co ds bp vp pp (by omega) hS' (Nat.le_trans hz hB.size) (hdl) (hds) (hdo) (Hp.step hB)
   try simp only [z] at hn
   exact hn
  ·subst hp
   obtain ⟨W', hWn, hB, hrow, _⟩ := nw1 W #[.int .i64 0, .int .i64 0, .int .i64 0, .int .i64 0, .slice none 0 0] 49
   go_simp
   rw [<- hWn]
   clear hWn
   have hS' := hS.trans (hB.mono hS.size)
   refine hK.out _ _ hS' (fun _ => ?_)
   clear hK K
   try simp only [z]
   have hn := ih W' true (.pointer (some ⟨W.heap.size, 0, none⟩)) W.heap.size (by simp only [cond_true, cond_false] at hm ⊢; omega) hS' (Nat.le_trans hz hB.size) (fun _ => ⟨rfl, hz, hrow⟩) 
   try simp only [z] at hn
   exact hn
 have hn := n0 _ W_0 false undef 0 (Nat.le_refl _) hS (Nat.le_refl _)  (fun h => nomatch h)
 subst hlm hlo hlq hla hRG
 exact hn
end
end Go.Proofs.YtccapfbblnnfjaaGreat
