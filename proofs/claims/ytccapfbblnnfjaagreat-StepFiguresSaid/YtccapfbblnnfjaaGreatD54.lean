/- My texts LawF40. -/
import Derived.Test.YtccapfbblnnfjaaGreatG38
import Derived.Test.YtccapfbblnnfjaaGreatD52
import Derived.Test.YtccapfbblnnfjaaGreatD53
set_option linter.unusedVariables false
set_option linter.unusedSimpArgs false
set_option maxRecDepth 100000
set_option maxHeartbeats 8000000
namespace Go.Proofs.YtccapfbblnnfjaaGreat
open Go.RowKit
section
variable (w : World)
theorem law_figures40 (g : Grp) (A : Option Addr) (n c : Nat) (l : List Raw) (x : Int) (hg : g.Out w w.heap.size) (hl : l.length = n) (hn : n <= maxLen) (hr : RawsAt w w.heap.size A l) (hx : ∀ a ∈ l, a.At w w.heap.size) :
  Calls Tryz.prog 6 #[.agg #[.string g.cur, .int .i64 g.Y, .int .i64 g.M, .int .i64 g.N, .slice g.cA g.cn g.cc, .int .i64 g.r0, .int .i64 g.r1, .int .i64 g.r2, .int .i64 g.r3, .int .i64 g.r4, .int .i64 g.r5, .int .i64 g.r6, .int .i64 g.r7, .int .i64 g.r8, .int .i64 g.r9, .int .i64 g.r10, .int .i64 g.r11, .int .i64 g.r12, .int .i64 g.r13, .int .i64 g.r14, .slice g.eA g.en g.ec], .slice A n c, .int .i64 x] w fun e w' => e = .returned (.bool true) /\ Below w.heap.size w w' := by
 obtain ⟨W1, hW1, hB0, hb0, hz⟩ := nw1 w #[.string g.cur, .int .i64 g.Y, .int .i64 g.M, .int .i64 g.N, .slice g.cA g.cn g.cc, .int .i64 g.r0, .int .i64 g.r1, .int .i64 g.r2, .int .i64 g.r3, .int .i64 g.r4, .int .i64 g.r5, .int .i64 g.r6, .int .i64 g.r7, .int .i64 g.r8, .int .i64 g.r9, .int .i64 g.r10, .int .i64 g.r11, .int .i64 g.r12, .int .i64 g.r13, .int .i64 g.r14, .slice g.eA g.en g.ec] 29
 have HW := Lib.hid hW1
 have Hb0 := Lib.hid hb0
 have s1 : w.heap.size < W1.heap.size := by omega
 have Hg := Lib.hid hg
 have Hl := Lib.hid hl
 have Hr := Lib.hid hr
 have Hx := Lib.hid hx
 unfold maxLen at hn
 have Hn := Lib.hid hn
 clear hW1 hz hb0 hg hl hr hx hn
 go_enter Tryz.func6, Tryz.ntmps6
 go_upto_region 1 with (fail)
 rw [<- HW.out]
 go_wp2_with (fail)
 refine (awake40_any W1).mono ?_
 rintro e W2 ⟨rfl, hB2⟩
 have hB02 := hB0.trans (hB2.mono hB0.size)
 have hb2 := gbox Hb0.out hB2 s1
 have Hb2 := Lib.hid hb2
 have Hr2 := Lib.hid ((RowsAt.below Hr.out hB02 (Nat.le_refl _)).more hB02.size)
 have Hx2 := Lib.hid (fun a ha => ((Hx.out a ha).below hB02 (Nat.le_refl _)).more hB02.size : ∀ a ∈ l, a.At W2 W2.heap.size)
 have Hg2 := Lib.hid ((Hg.out.below hB02 (Nat.le_refl _)).more hB02.size)
 have s2 := some_lt hb2
 clear hb2
 go_wp2_with (fail)
 refine (contrr_any W2 A n c l Hl.out Hn.out Hr2.out Hx2.out).mono ?_
 rintro e W3 ⟨hB3, v, ok, rfl, hok⟩
 have hB03 := hB02.trans (hB3.mono hB02.size)
 have hb3 := gbox Hb2.out hB3 s2
 have Hb3 := Lib.hid hb3
 have s3 := some_lt hb3
 have Hr3 := Lib.hid (RowsAt.at_ Hr2.out hB3)
 have Hx3 := Lib.hid (fun a ha => ((Hx2.out a ha).below hB3 (Nat.le_refl _)).more hB3.size : ∀ a ∈ l, a.At W3 W3.heap.size)
 have Hg3 := Lib.hid (Hg2.out.at_ hB3)
 have hrg3 := Lib.hid (grp_range hb3)
 clear hb3
 cases ok with
 | false =>
  clear hok
  go_wp2
  go_ret
  exact ⟨rfl, hB03⟩
 | true =>
 obtain ⟨h8, hall, Ar, cr, cs, rfl, hcl, hcs, hho⟩ := hok rfl
 have H8 := Lib.hid h8
 have Hall := Lib.hid hall
 have Hcl := Lib.hid hcl
 have Hcs := Lib.hid hcs
 have Hho := Lib.hid hho
 have Hlr := Lib.hid (show l.length <= 100 by omega)
 clear hok h8 hall hcl hcs hho
 go_wp2_with (refine wpList_load_want (by rfl) 29 (.tmp 3) rfl w.heap.size 0 rfl _ _ hrg3.out Tryz.underlying29 rfl grpSize ?_)
 refine (fewg_any W3 g Hg3.out).mono ?_
 rintro e W4 ⟨⟨fw, rfl, hfw⟩, hB4⟩
 have hB04 := hB03.trans (hB4.mono hB03.size)
 have hb4 := gbox Hb3.out hB4 s3
 have Hb4 := Lib.hid hb4
 have s4 := some_lt hb4
 cases fw with
 | false =>
  clear hfw
  go_wp2
  go_ret
  exact ⟨rfl, hB04⟩
 | true =>
 have hgat := (Hg3.out.at_ hB4).at_short (hfw rfl)
 have Hga := Lib.hid hgat
 have Hr4 := Lib.hid (RowsAt.at_ Hr3.out hB4)
 have Hx4 := Lib.hid (fun a ha => ((Hx3.out a ha).below hB4 (Nat.le_refl _)).more hB4.size : ∀ a ∈ l, a.At W4 W4.heap.size)
 have Hcs4 := Lib.hid (RowsAt.at_ Hcs.out hB4)
 have Hho4 := Lib.hid (Hho.out.imp (Q := fun a b => a.Holds SR W4 W4.heap.size b) fun _ _ h => h.atR hB4)
 have hrg4 := Lib.hid (grp_range hb4)
 obtain ⟨⟨⟨fa, fb, fc⟩, er⟩, has⟩ : ∃ r, Gr.step g (l.map Raw.cnt) x = r := ⟨_, rfl⟩
 have HAS := Lib.hid has
 obtain ⟨ln, hln⟩ : ∃ ln, ln = l.length := ⟨_, rfl⟩
 have Hln := Lib.hid hln
 rw [<- hln]
 clear hfw hgat hb4 has hln
 go_upto_region 6 with (fail)
 have hV0 : Below W4.heap.size W4 W4.drew := below_drawn (Below.refl _ _) 1
 refine wp_region_held (S := Below W4.heap.size W4) (by kernel_rfl) ?_
 change wpAnyH _ _ _ _ _ _ _ _ (World.drew W4)
 obtain ⟨W0, hWd⟩ : ∃ W0, W0 = W4.drew := ⟨_, rfl⟩
 rw [<- hWd] at hV0 ⊢
 clear hWd
 refine tk (i := 0) (v := .agg #[.string g.cur, .int .i64 g.Y, .int .i64 g.M, .int .i64 g.N, .slice g.cA g.cn g.cc, .int .i64 g.r0, .int .i64 g.r1, .int .i64 g.r2, .int .i64 g.r3, .int .i64 g.r4, .int .i64 g.r5, .int .i64 g.r6, .int .i64 g.r7, .int .i64 g.r8, .int .i64 g.r9, .int .i64 g.r10, .int .i64 g.r11, .int .i64 g.r12, .int .i64 g.r13, .int .i64 g.r14, .slice g.eA g.en g.ec]) rfl (by kernel_rfl) (fun _ _ _ h => h) (yieldsIf_load_mid (by rfl) 29 _ rfl w.heap.size 0 rfl [.string g.cur, .int .i64 g.Y, .int .i64 g.M, .int .i64 g.N, .slice g.cA g.cn g.cc, .int .i64 g.r0, .int .i64 g.r1, .int .i64 g.r2, .int .i64 g.r3, .int .i64 g.r4, .int .i64 g.r5, .int .i64 g.r6, .int .i64 g.r7, .int .i64 g.r8, .int .i64 g.r9, .int .i64 g.r10, .int .i64 g.r11, .int .i64 g.r12, .int .i64 g.r13, .int .i64 g.r14, .slice g.eA g.en g.ec] _ (fun W' hS' => range_below hrg4.out hS' s4) Tryz.underlying29 rfl grpSize) hV0 ?_
 try simp only [z]
 refine tk (i := 1) (v := .slice A n c) rfl (by kernel_rfl) (fun _ _ _ h => h) (.inl ⟨by rfl, fun W' hS' => by go_simp⟩) hV0 ?_
 try simp only [z]
 refine tk (i := 3) (v := .int .i64 x) rfl (by kernel_rfl) (fun _ _ _ h => h) (.inl ⟨by rfl, fun W' hS' => by go_simp⟩) hV0 ?_
 try simp only [z]
 refine wpAnyH_letters fun md' ops' Q' a' hlm hlo hlq hla => ?_
 have fin : ∀ (W' : World) (Ao : Option Addr) (co p : Nat), Below W4.heap.size W4 W' -> W4.heap.size <= p -> W'.heap[p]? = some (.cells #[.int .i64 0, .int .i64 0, .int .i64 0] 70 (0, 0)) -> wpAnyH Tryz.prog md' ops' Q' (Below W4.heap.size W4) 2 #[true, true, true, true, true, true, true, true, true, false, false] ((((((a'.put (some 30) (.slice Ao ln co)).put (some 32) (.tuple #[.agg #[.int .i64 fa, .int .i64 fb, .int .i64 fc], .int .i64 er])).put (some 27) (.tuple #[.agg #[.int .i64 fa, .int .i64 fb, .int .i64 fc], .int .i64 er])).put (some 33) (.agg #[.int .i64 fa, .int .i64 fb, .int .i64 fc])).put (some 34) (.int .i64 er)).put (some 9) (.pointer (some ⟨p, 0, none⟩))) W' := by
  intro W' Ao co p hS hp hrw
  subst hlm hlo hlq hla
  try simp only [z]
  refine wpAnyH_ready (rs := [9]) (by kernel_rfl) (by simp) (AllReadyH.cons rfl (fun K hK => ?_) AllReadyH.nil)
  rw [if_pos (by rfl)]
  refine wp_store_row 70 _ _ none rfl rfl p 70 _ #[.int .i64 fa, .int .i64 fb, .int .i64 fc] rfl rfl hrw rfl figd40Size (by simp [Value.oneCell']) ?_
  have hrw2 := setRow_heap W' p _ #[.int .i64 fa, .int .i64 fb, .int .i64 fc] _ _ hrw
  have hS2 := below_setRow hS hp #[.int .i64 fa, .int .i64 fb, .int .i64 fc]
  refine hK.out _ _ hS2 (fun _ => ?_)
  clear hK K
  try simp only [z]
  refine wpAnyH_ready (rs := [10]) (by kernel_rfl) (by simp) (AllReadyH.cons rfl (fun K hK => ?_) AllReadyH.nil)
  go_simp
  refine hK.out _ _ hS2 (fun _ => ?_)
  clear hK K
  try simp only [z]
  refine wpAnyH_done (by kernel_rfl) ?_ _
  try simp only [z]
  obtain ⟨W6, hW6⟩ : ∃ W6, W6 = W'.setRow p #[.int .i64 fa, .int .i64 fb, .int .i64 fc] := ⟨_, rfl⟩
  rw [<- hW6] at hrw2 hS2 ⊢
  clear hW6 hS hrw
  have hB06 := hB04.trans (hS2.mono hB04.size)
  have hb6 := (hS2.block _ s4).trans Hb4.out
  have hrg6 := Lib.hid (grp_range hb6)
  have Hf6 := Lib.hid hrw2
  have spl := some_lt hrw2
  have Hof := Lib.hid (stepr_any W6 g Ar ln cr cs (l.map Raw.cnt) x (Hcl.out.trans Hln.out.symm) (by rw [Hln.out]; exact Hlr.out) (RowsAt.at_ Hcs4.out hS2) (Hho4.out.imp (Q := fun a b => a.Holds SR W6 W6.heap.size b) fun _ _ h => h.atR hS2) (Hga.out.at_ hS2))
  clear hb6 hrw2
  go_wp2_with (refine wpList_load_mid rfl 29 (.tmp 3) rfl w.heap.size 0 rfl _ _ hrg6.out Tryz.underlying29 rfl grpSize ?_)
  refine Hof.out.mono ?_
  rintro e W7 ⟨ra, rb, rc, re, hra, rfl, hB7⟩
  rw [HAS.out] at hra
  cases hra
  have hf7 := gbox Hf6.out hB7 spl
  have hB07 := hB06.trans (hB7.mono hB06.size)
  obtain ⟨W8, hW8, hB8, hb8, hz8⟩ := nw1 W7 #[.int .i64 fa, .int .i64 fb, .int .i64 fc] 73
  have HW8 := Lib.hid hW8
  have hf8 := gbox hf7 hB8 (some_lt hf7)
  have hB08 := hB07.trans (hB8.mono hB07.size)
  have r1 := Lib.hid (range_row (cs := [.int .i64 fa, .int .i64 fb, .int .i64 fc]) hf8)
  have r2 := Lib.hid (range_row (cs := [.int .i64 fa, .int .i64 fb, .int .i64 fc]) hb8)
  have q1 := some_lt hf8
  have q2 := some_lt hb8
  clear hW8 hz8 hb8 hf7 hf8
  go_upto_region 8 with (fail)
  rw [<- HW8.out]
  go_wp2_with (first | (refine wpList_load_want (by rfl) 70 (.tmp 9) rfl p 0 rfl [.int .i64 fa, .int .i64 fb, .int .i64 fc] _ r1.out Tryz.underlying70 rfl figd40Size ?_) | (refine wpList_load_want (by rfl) 73 (.tmp 11) rfl W7.heap.size 0 rfl [.int .i64 fa, .int .i64 fb, .int .i64 fc] _ r2.out Tryz.underlying73 rfl figr40Size ?_))
  go_ret
  exact ⟨by simp, hB08⟩
 subst hlm hlo hlq hla
 refine wpAnyH_ready (rs := [2, 8]) (by kernel_rfl) (by simp) (AllReadyH.cons rfl (fun K hK => ?_) (AllReadyH.cons rfl (fun K hK => ?_) AllReadyH.nil))
 ·skip
  have Hown := Lib.hid (own40_any W0 A n c l Hl.out (by have := Hl.out; have := H8.out; omega) (RowsAt.at_ Hr4.out hV0) (fun a ha => ((Hx4.out a ha).below hV0 (Nat.le_refl _)).more hV0.size) Hall.out)
  go_simp
  refine Hown.out.mono ?_
  rintro e V1 ⟨hBo, Ao, co, ds, rfl, hdl, hds, hdo⟩
  rw [<- Hln.out]
  have hVo := hV0.trans (hBo.mono hV0.size)
  clear Hown
  refine hK.out _ _ hVo (fun _ => ?_)
  clear hK K
  try simp only [z]
  refine wpAnyH_ready (rs := [4, 8]) (by kernel_rfl) (by simp) (AllReadyH.cons rfl (fun K hK => ?_) (AllReadyH.cons rfl (fun K hK => ?_) AllReadyH.nil))
  ·skip
   have Hof := Lib.hid (stepd_any V1 g Ao ln co ds (l.map Raw.cnt) x (hdl.trans Hln.out.symm) (by rw [Hln.out]; exact Hlr.out) hds hdo (Hga.out.at_ hVo))
   go_simp
   refine Hof.out.mono ?_
   rintro e V2 ⟨ra, rb, rc, re, hra, rfl, hBf⟩
   rw [HAS.out] at hra
   cases hra
   have hVf := hVo.trans (hBf.mono hVo.size)
   clear Hof
   refine hK.out _ _ hVf (fun _ => ?_)
   clear hK K
   try simp only [z]
   refine tk (i := 5) (v := .tuple #[.agg #[.int .i64 fa, .int .i64 fb, .int .i64 fc], .int .i64 er]) rfl (by kernel_rfl) (fun _ _ _ h => h) (.inl ⟨by rfl, fun W' hS' => by go_simp⟩) hVf ?_
   try simp only [z]
   refine tk (i := 6) (v := .agg #[.int .i64 fa, .int .i64 fb, .int .i64 fc]) rfl (by kernel_rfl) (fun _ _ _ h => h) (.inl ⟨by rfl, fun W' hS' => by go_simp⟩) hVf ?_
   try simp only [z]
   refine tk (i := 7) (v := .int .i64 er) rfl (by kernel_rfl) (fun _ _ _ h => h) (.inl ⟨by rfl, fun W' hS' => by go_simp⟩) hVf ?_
   try simp only [z]
   refine wpAnyH_ready (rs := [8]) (by kernel_rfl) (by simp) (AllReadyH.cons rfl (fun K hK => ?_) AllReadyH.nil)
   obtain ⟨hBa, hrw, _⟩ := row_new V2 #[.int .i64 0, .int .i64 0, .int .i64 0] 70
   go_simp
   obtain ⟨V3, hWn⟩ : ∃ V3, V3 = V2.alloc (.cells #[.int .i64 0, .int .i64 0, .int .i64 0] 70) := ⟨_, rfl⟩
   rw [<- hWn] at hBa hrw ⊢
   clear hWn
   have hVa := hVf.trans (hBa.mono hVf.size)
   refine hK.out _ _ hVa (fun _ => ?_)
   clear hK K
   try simp only [z]
   have hn := fin V3 Ao co V2.heap.size hVa hVf.size hrw
   try simp only [z] at hn
   exact hn
  ·skip
   obtain ⟨hBa, hrw, _⟩ := row_new V1 #[.int .i64 0, .int .i64 0, .int .i64 0] 70
   go_simp
   obtain ⟨V2, hWn⟩ : ∃ V2, V2 = V1.alloc (.cells #[.int .i64 0, .int .i64 0, .int .i64 0] 70) := ⟨_, rfl⟩
   rw [<- hWn] at hBa hrw ⊢
   clear hWn
   have hVa := hVo.trans (hBa.mono hVo.size)
   refine hK.out _ _ hVa (fun _ => ?_)
   clear hK K
   try simp only [z]
   refine wpAnyH_ready (rs := [4]) (by kernel_rfl) (by simp) (AllReadyH.cons rfl (fun K hK => ?_) AllReadyH.nil)
   have Hof := Lib.hid (stepd_any V2 g Ao ln co ds (l.map Raw.cnt) x (hdl.trans Hln.out.symm) (by rw [Hln.out]; exact Hlr.out) (RowsAt.at_ hds hBa) (hdo.imp (Q := fun a b => a.Holds SD V2 V2.heap.size b) fun _ _ h => h.atD hBa) (Hga.out.at_ hVa))
   go_simp
   refine Hof.out.mono ?_
   rintro e V3 ⟨ra, rb, rc, re, hra, rfl, hBf⟩
   rw [HAS.out] at hra
   cases hra
   have hVf := hVa.trans (hBf.mono hVa.size)
   clear Hof
   refine hK.out _ _ hVf (fun _ => ?_)
   clear hK K
   try simp only [z]
   refine tk (i := 5) (v := .tuple #[.agg #[.int .i64 fa, .int .i64 fb, .int .i64 fc], .int .i64 er]) rfl (by kernel_rfl) (fun _ _ _ h => h) (.inl ⟨by rfl, fun W' hS' => by go_simp⟩) hVf ?_
   try simp only [z]
   refine tk (i := 6) (v := .agg #[.int .i64 fa, .int .i64 fb, .int .i64 fc]) rfl (by kernel_rfl) (fun _ _ _ h => h) (.inl ⟨by rfl, fun W' hS' => by go_simp⟩) hVf ?_
   try simp only [z]
   refine tk (i := 7) (v := .int .i64 er) rfl (by kernel_rfl) (fun _ _ _ h => h) (.inl ⟨by rfl, fun W' hS' => by go_simp⟩) hVf ?_
   try simp only [z]
   have hn := fin V3 Ao co V1.heap.size hVf hVo.size (gbox hrw hBf (some_lt hrw))
   try simp only [z] at hn
   exact hn
 ·skip
  obtain ⟨hBa, hrw, _⟩ := row_new W0 #[.int .i64 0, .int .i64 0, .int .i64 0] 70
  go_simp
  obtain ⟨V1, hWn⟩ : ∃ V1, V1 = W0.alloc (.cells #[.int .i64 0, .int .i64 0, .int .i64 0] 70) := ⟨_, rfl⟩
  rw [<- hWn] at hBa hrw ⊢
  clear hWn
  have hVa := hV0.trans (hBa.mono hV0.size)
  refine hK.out _ _ hVa (fun _ => ?_)
  clear hK K
  try simp only [z]
  refine wpAnyH_ready (rs := [2]) (by kernel_rfl) (by simp) (AllReadyH.cons rfl (fun K hK => ?_) AllReadyH.nil)
  have Hown := Lib.hid (own40_any V1 A n c l Hl.out (by have := Hl.out; have := H8.out; omega) (RowsAt.at_ Hr4.out hVa) (fun a ha => ((Hx4.out a ha).below hVa (Nat.le_refl _)).more hVa.size) Hall.out)
  go_simp
  refine Hown.out.mono ?_
  rintro e V2 ⟨hBo, Ao, co, ds, rfl, hdl, hds, hdo⟩
  rw [<- Hln.out]
  have hVo := hVa.trans (hBo.mono hVa.size)
  clear Hown
  refine hK.out _ _ hVo (fun _ => ?_)
  clear hK K
  try simp only [z]
  refine wpAnyH_ready (rs := [4]) (by kernel_rfl) (by simp) (AllReadyH.cons rfl (fun K hK => ?_) AllReadyH.nil)
  have Hof := Lib.hid (stepd_any V2 g Ao ln co ds (l.map Raw.cnt) x (hdl.trans Hln.out.symm) (by rw [Hln.out]; exact Hlr.out) hds hdo (Hga.out.at_ hVo))
  go_simp
  refine Hof.out.mono ?_
  rintro e V3 ⟨ra, rb, rc, re, hra, rfl, hBf⟩
  rw [HAS.out] at hra
  cases hra
  have hVf := hVo.trans (hBf.mono hVo.size)
  clear Hof
  refine hK.out _ _ hVf (fun _ => ?_)
  clear hK K
  try simp only [z]
  refine tk (i := 5) (v := .tuple #[.agg #[.int .i64 fa, .int .i64 fb, .int .i64 fc], .int .i64 er]) rfl (by kernel_rfl) (fun _ _ _ h => h) (.inl ⟨by rfl, fun W' hS' => by go_simp⟩) hVf ?_
  try simp only [z]
  refine tk (i := 6) (v := .agg #[.int .i64 fa, .int .i64 fb, .int .i64 fc]) rfl (by kernel_rfl) (fun _ _ _ h => h) (.inl ⟨by rfl, fun W' hS' => by go_simp⟩) hVf ?_
  try simp only [z]
  refine tk (i := 7) (v := .int .i64 er) rfl (by kernel_rfl) (fun _ _ _ h => h) (.inl ⟨by rfl, fun W' hS' => by go_simp⟩) hVf ?_
  try simp only [z]
  have hn := fin V3 Ao co W0.heap.size hVf hV0.size (gbox (gbox hrw hBo (some_lt hrw)) hBf (some_lt (gbox hrw hBo (some_lt hrw))))
  try simp only [z] at hn
  exact hn
end
end Go.Proofs.YtccapfbblnnfjaaGreat
