/- My texts AsR, AsD1, AsD2. -/
import Derived.Test.YtcblobokjhhboaaGreatG23
import Derived.Test.YtcblobokjhhboaaGreatH33
import Derived.Test.YtcblobokjhhboaaGreatG35
set_option linter.unusedVariables false
set_option linter.unusedSimpArgs false
set_option maxRecDepth 100000
set_option maxHeartbeats 8000000
namespace Go.Proofs.YtcblobokjhhboaaGreat
open Go.RowKit
def AsPost (g : Grp) (m : List Cnt) (x : Int) (w : World) (e : Ending) (w' : World) : Prop :=
 ∃ a b c d er, Gr.assoc g m x = ((a, b, c, d), er) /\ e = .returned (.tuple #[.agg #[.int .i64 a, .int .i64 b, .int .i64 c, .int .i64 d], .int .i64 er]) /\ Below w.heap.size w w'
theorem figrSize : (Tryz.prog.info? 43).map (·.size) = some 4 := by kernel_rfl
section
variable (w : World)
end
theorem figdSize : (Tryz.prog.info? 37).map (·.size) = some 4 := by kernel_rfl
theorem itmSize : (Tryz.prog.info? 90).map (·.size) = some 7 := by kernel_rfl
theorem below_same {n : Nat} {w W : World} (h : Below n w W) {p : Nat} {v : Value} {t : TypeId} (hp : W.heap[p]? = some (.cells #[v] t (0, 0))) : Below n w (W.setCell ⟨p, 0, none⟩ v) := by
 refine h.trans ⟨rfl, rfl, rfl, by simp [World.setCell], fun k hk => ?_⟩
 by_cases e : k = p
 ·subst e
  rw [heap_setCell_same W k 0 _ _ v hp, hp]; simp
 ·exact heap_setCell_other _ _ _ _ e
def AddPost (g : Grp) (z : Itm) (p : Nat) (r q : Int) (w : World) (e : Ending) (w' : World) : Prop :=
 e = .returned (.tuple #[]) /\ Below p w w' /\ w'.heap[p]? = some (.cells #[.int .i64 (r + (if Gr.isResult g z.acct = true then z.amt else 0)), .int .i64 (q + (if Gr.isEquity g z.acct = true then z.amt else 0)), .int .i64 0, .int .i64 0] 37 (0, 0))
theorem Gr.result_ne {g : Grp} {a : Int} (h : Gr.isResult g a = true) : Gr.isEquity g a = false := by
 unfold Gr.isResult at h
 unfold Gr.isEquity
 simp only [Bool.or_eq_true, decide_eq_true_eq] at h
 rcases h with h | h <;> rw [h] <;> simp
section
variable (w : World)
theorem addas_any (g : Grp) (z : Itm) (p : Nat) (r q : Int) (hr0 : -1000000000000000 <= r) (hr1 : r <= 1000000000000000) (hq0 : -1000000000000000 <= q) (hq1 : q <= 1000000000000000) (hz : z.small) (hg : g.At w p)
  (hp : w.heap[p]? = some (.cells #[.int .i64 r, .int .i64 q, .int .i64 0, .int .i64 0] 37 (0, 0))) :
  Calls Tryz.prog 43 #[.pointer (some ⟨p, 0, none⟩), .agg #[.string g.cur, .int .i64 g.Y, .int .i64 g.M, .int .i64 g.N, .slice g.cA g.cn g.cc, .int .i64 g.r0, .int .i64 g.r1, .int .i64 g.r2, .int .i64 g.r3, .int .i64 g.r4, .int .i64 g.r5, .int .i64 g.r6, .int .i64 g.r7, .int .i64 g.r8, .int .i64 g.r9, .int .i64 g.r10, .int .i64 g.r11, .int .i64 g.r12, .int .i64 g.r13, .int .i64 g.r14, .slice g.eA g.en g.ec], .agg #[.int .i64 z.ent0, .int .i64 z.lin, .int .i64 z.ent, .int .i64 z.acct, .int .i64 z.partner, .int .i64 z.date, .int .i64 z.amt]] w (AddPost g z p r q w) := by
 obtain ⟨hB0, hb0, hb1, hz1⟩ := row_new2 w #[.string g.cur, .int .i64 g.Y, .int .i64 g.M, .int .i64 g.N, .slice g.cA g.cn g.cc, .int .i64 g.r0, .int .i64 g.r1, .int .i64 g.r2, .int .i64 g.r3, .int .i64 g.r4, .int .i64 g.r5, .int .i64 g.r6, .int .i64 g.r7, .int .i64 g.r8, .int .i64 g.r9, .int .i64 g.r10, .int .i64 g.r11, .int .i64 g.r12, .int .i64 g.r13, .int .i64 g.r14, .slice g.eA g.en g.ec] #[.int .i64 z.ent0, .int .i64 z.lin, .int .i64 z.ent, .int .i64 z.acct, .int .i64 z.partner, .int .i64 z.date, .int .i64 z.amt] 29 90
 obtain ⟨W1, hW1⟩ : ∃ W1, W1 = ((w.alloc (.cells #[.string g.cur, .int .i64 g.Y, .int .i64 g.M, .int .i64 g.N, .slice g.cA g.cn g.cc, .int .i64 g.r0, .int .i64 g.r1, .int .i64 g.r2, .int .i64 g.r3, .int .i64 g.r4, .int .i64 g.r5, .int .i64 g.r6, .int .i64 g.r7, .int .i64 g.r8, .int .i64 g.r9, .int .i64 g.r10, .int .i64 g.r11, .int .i64 g.r12, .int .i64 g.r13, .int .i64 g.r14, .slice g.eA g.en g.ec] 29)).alloc (.cells #[.int .i64 z.ent0, .int .i64 z.lin, .int .i64 z.ent, .int .i64 z.acct, .int .i64 z.partner, .int .i64 z.date, .int .i64 z.amt] 90)) := ⟨_, rfl⟩
 rw [<- hW1] at hB0 hb0 hb1 hz1
 have hpw := some_lt hp
 have HW := Lib.hid hW1
 have Hb0 := Lib.hid hb0
 have Hb1 := Lib.hid hb1
 have hrg := Lib.hid (grp_range hb0)
 have s1 : w.heap.size < W1.heap.size := by omega
 have s1' : w.heap.size + 1 < W1.heap.size := by omega
 have hg1 := (hg.more (Nat.le_of_lt hpw)).at_ hB0
 have Hp1 := Lib.hid (gbox hp hB0 hpw)
 have y3 := cell_of_row _ _ 3 _ _ _ hb1
 simp at y3
 obtain ⟨zl, zh⟩ := hz
 obtain ⟨ac, hac⟩ : ∃ ac, ac = z.acct := ⟨_, rfl⟩
 obtain ⟨am, ham⟩ : ∃ am, am = z.amt := ⟨_, rfl⟩
 rw [<- hac] at y3
 have Hac := Lib.hid hac
 have Ham := Lib.hid ham
 rw [<- ham] at zl zh
 clear hW1 hz1 hb0 hb1 hg hp hac ham
 go_enter Tryz.func43, Tryz.ntmps43
 go_upto_region 1 with (fail)
 rw [<- HW.out]
 go_wp2_with (refine wpList_load_mid rfl 29 (.tmp 4) rfl w.heap.size 0 rfl [.string g.cur, .int .i64 g.Y, .int .i64 g.M, .int .i64 g.N, .slice g.cA g.cn g.cc, .int .i64 g.r0, .int .i64 g.r1, .int .i64 g.r2, .int .i64 g.r3, .int .i64 g.r4, .int .i64 g.r5, .int .i64 g.r6, .int .i64 g.r7, .int .i64 g.r8, .int .i64 g.r9, .int .i64 g.r10, .int .i64 g.r11, .int .i64 g.r12, .int .i64 g.r13, .int .i64 g.r14, .slice g.eA g.en g.ec] _ hrg.out Tryz.underlying29 rfl grpSize ?_)
 refine (acctd_any W1 g ac hg1).mono ?_
 rintro e W2 ⟨rfl, hB2⟩
 have hB02 := hB0.trans (hB2.mono hB0.size)
 obtain ⟨f, hf⟩ : ∃ f, f = Ch.found g.chart ac := ⟨_, rfl⟩
 obtain ⟨hh, hhh⟩ : ∃ hh, hh = Ch.has g.chart ac := ⟨_, rfl⟩
 rw [<- hf, <- hhh]
 have hki : Hid (Gr.kind g ac = f.kind) := by show _ = _; rw [Gr.kind, hf]
 obtain ⟨hB3, hb3, hz3⟩ := row_new W2 #[.int .i64 (f).code, .int .i64 (f).kind, .int .i64 (f).basis, .int .i64 (f).parent] 84
 have hB03 := hB02.trans (hB3.mono hB02.size)
 have hd0 := gbox Hb0.out hB2 s1
 have hd1 := gbox Hb1.out hB2 s1'
 have hdp := gbox Hp1.out hB2 (some_lt Hp1.out)
 have he0 := Lib.hid (gbox hd0 hB3 (some_lt hd0))
 have he1 := gbox hd1 hB3 (some_lt hd1)
 have hep := gbox hdp hB3 (some_lt hdp)
 obtain ⟨W3, hW3⟩ : ∃ W3, W3 = W2.alloc (.cells #[.int .i64 (f).code, .int .i64 (f).kind, .int .i64 (f).basis, .int .i64 (f).parent] 84) := ⟨_, rfl⟩
 rw [<- hW3] at hB3 hb3 hz3 hB03 he0 he1 hep
 have HW3 := Lib.hid hW3
 have y3 := cell_of_row _ _ 3 _ _ _ he1
 have y6 := cell_of_row _ _ 6 _ _ _ he1
 have k1 := cell_of_row _ _ 1 _ _ _ hb3
 have p0 := cell_of_row _ _ 0 _ _ _ hep
 have p1 := cell_of_row _ _ 1 _ _ _ hep
 have g12 := cell_of_row _ _ 12 _ _ _ he0.out
 simp at y3 y6 k1 p0 p1 g12
 rw [<- Hac.out] at y3
 rw [<- Ham.out] at y6
 have Hep := Lib.hid hep
 have s3 : W2.heap.size < W3.heap.size := by omega
 have s3' : w.heap.size + 1 < W3.heap.size := some_lt he1
 have s3p : p < W3.heap.size := some_lt hep
 have s30 : w.heap.size < W3.heap.size := some_lt he0.out
 have HE : Hid (Gr.isResult g z.acct = (decide (f.kind = 4) || decide (f.kind = 5))) := by show _ = _; rw [Gr.isResult, <- Hac.out, hki.out]
 have HQ : Hid (Gr.isEquity g z.acct = (decide (f.kind = 3) && decide (ac ≠ g.r7))) := by show _ = _; rw [Gr.isEquity, <- Hac.out, hki.out]
 have hS : Below W3.heap.size W3 W3.drew := below_drawn (Below.refl _ _) 1
 have hBp : Below p w W3 := hB03.mono (Nat.le_of_lt hpw)
 obtain ⟨kd, hkd⟩ : ∃ kd, kd = f.kind := ⟨_, rfl⟩
 rw [<- hkd] at k1
 rw [<- hkd] at HE HQ
 clear hf hhh hd0 hd1 hdp he1 hb3 hz3 hW3 hg1 hep hkd
 go_upto_region 2 with (fail)
 rw [<- HW3.out]
 by_cases h4 : kd = 4
 ·have h4b : (kd == 4) = true := by simp [h4]
  have HP : Hid (Gr.isResult g z.acct = true) := by show _ = _; rw [HE.out]; simp [h4]
  have HNE := Lib.hid (Gr.result_ne HP.out)
  clear h4
  have hS0 : (fun W => Below p W3 W /\ W.cell? ⟨w.heap.size + 1, 6, none⟩ = some (.int .i64 am)) W3.drew := ⟨hS.mono (Nat.le_of_lt s3p), (hS.cell (p := ⟨w.heap.size + 1, 6, none⟩) s3').trans y6⟩
  go_upto_region 3 with (fail)
  refine wp_region_held (S := fun W => Below p W3 W /\ W.cell? ⟨w.heap.size + 1, 6, none⟩ = some (.int .i64 am)) (by kernel_rfl) ?_
  change wpAnyH _ _ _ _ _ _ _ _ (World.drew _)
  obtain ⟨W0, hWd⟩ : ∃ W0, W0 = W3.drew := ⟨_, rfl⟩
  rw [<- hWd] at hS hS0 ⊢
  clear hWd
  refine wpAnyH_take (i := 0) (v := .pointer (some ⟨p, 0, none⟩)) rfl (by kernel_rfl) (by kernel_rfl) (by kernel_rfl) (fun _ _ _ h => h) (.inl ⟨by rfl, fun W' hS' => by go_simp⟩) hS0 ?_
  try simp only [Act.put, z]
  refine wpAnyH_take (i := 1) (v := .pointer (some ⟨p, 0, none⟩)) rfl (by kernel_rfl) (by kernel_rfl) (by kernel_rfl) (fun _ _ _ h => h) (.inl ⟨by rfl, fun W' hS' => by go_simp⟩) hS0 ?_
  try simp only [Act.put, z]
  refine wpAnyH_take (i := 2) (v := .pointer (some ⟨p, 0, none⟩)) rfl (by kernel_rfl) (by kernel_rfl) (by kernel_rfl) (fun _ _ _ h => h) (.inl ⟨by rfl, fun W' hS' => by go_simp⟩) hS0 ?_
  try simp only [Act.put, z]
  refine wpAnyH_take (i := 4) (v := .pointer (some ⟨w.heap.size + 1, 6, none⟩)) rfl (by kernel_rfl) (by kernel_rfl) (by kernel_rfl) (fun _ _ _ h => h) (.inl ⟨by rfl, fun W' hS' => by go_simp⟩) hS0 ?_
  try simp only [Act.put, z]
  refine wpAnyH_take (i := 5) (v := .int .i64 am) rfl (by kernel_rfl) (by kernel_rfl) (by kernel_rfl) (fun _ _ _ h => h) (.inl ⟨by rfl, fun W' hS' => by have hc := hS'.2; go_simp⟩) hS0 ?_
  try simp only [Act.put, z]
  have hpr := gbox Hep.out hS s3p
  have z0 := cell_of_row _ _ 0 _ _ _ hpr
  simp at z0
  have Hpr := Lib.hid hpr
  have zlt := some_lt hpr
  clear hpr p0 p1
  refine wpAnyH_ready (rs := [3]) (by kernel_rfl) (by simp) (AllReadyH.cons rfl (fun K hK => ?_) AllReadyH.nil)
  go_simp
  refine hK.out _ _ hS0 (fun _ => ?_)
  clear hK K
  try simp only [Act.put, z]
  refine wpAnyH_take (i := 6) (v := .int .i64 (r + am)) rfl (by kernel_rfl) (by kernel_rfl) (by kernel_rfl) (fun _ _ _ h => h) (.inl ⟨by rfl, fun W' hS' => by have hw : wrap64 (r + am) = r + am := IntWalk.wrap64_in _ (by omega); (go_simp; rw [IntKind.wrap_i64]; clear hw; omega)⟩) hS0 ?_
  try simp only [Act.put, z]
  refine wpAnyH_take (i := 7) (v := .pointer (some ⟨p, 0, none⟩)) rfl (by kernel_rfl) (by kernel_rfl) (by kernel_rfl) (fun _ _ _ h => h) (.inl ⟨by rfl, fun W' hS' => by go_simp⟩) hS0 ?_
  try simp only [Act.put, z]
  refine wpAnyH_take (i := 8) (v := .pointer (some ⟨p, 0, none⟩)) rfl (by kernel_rfl) (by kernel_rfl) (by kernel_rfl) (fun _ _ _ h => h) (.inl ⟨by rfl, fun W' hS' => by go_simp⟩) hS0 ?_
  try simp only [Act.put, z]
  refine wpAnyH_ready (rs := [9]) (by kernel_rfl) (by simp) (AllReadyH.cons rfl (fun K hK => ?_) AllReadyH.nil)
  have zf := fun j => frozen_of_row _ _ j _ _ Hpr.out
  have hp4 := heap_setCell_same W0 p 0 _ _ (.int .i64 (r + am)) Hpr.out
  simp at hp4
  have hB4 := hBp.trans (hS0.1.setCell (p := ⟨p, 0, none⟩) (Nat.le_refl _) (.int .i64 (r + am)))
  have hc4 : (W0.setCell ⟨p, 0, none⟩ (.int .i64 (r + am))).cell? ⟨w.heap.size + 1, 6, none⟩ = some (.int .i64 am) := by
   rw [World.cell?_of_block (w := W0) (heap_setCell_other _ _ _ _ (show w.heap.size + 1 ≠ p by omega))]; exact hS0.2
  have HP4 := Lib.hid hp4
  have HB4 := Lib.hid hB4
  clear hp4
  go_simp
  refine hK.out _ _ ⟨hS0.1.setCell (p := ⟨p, 0, none⟩) (Nat.le_refl _) _, hc4⟩ (fun _ => ?_)
  clear hK K
  try simp only [Act.put, z]
  refine wpAnyH_done (by kernel_rfl) ?_ _
  try simp only [Act.put, z]
  go_wp2
  go_end0
  refine ⟨rfl, HB4.out, ?_⟩
  rw [HP.out, HNE.out, if_pos rfl, if_neg (by simp), Int.add_zero, <- Ham.out]
  exact HP4.out
 have h4b : (kd == 4) = false := by simp [h4]
 by_cases h5 : kd = 5
 ·have h5b : (kd == 5) = true := by simp [h5]
  clear h4
  have HP : Hid (Gr.isResult g z.acct = true) := by show _ = _; rw [HE.out]; simp [h5]
  have HNE := Lib.hid (Gr.result_ne HP.out)
  clear h5
  have hS0 : (fun W => Below p W3 W /\ W.cell? ⟨w.heap.size + 1, 6, none⟩ = some (.int .i64 am)) W3.drew := ⟨hS.mono (Nat.le_of_lt s3p), (hS.cell (p := ⟨w.heap.size + 1, 6, none⟩) s3').trans y6⟩
  go_upto_region 3 with (fail)
  refine wp_region_held (S := fun W => Below p W3 W /\ W.cell? ⟨w.heap.size + 1, 6, none⟩ = some (.int .i64 am)) (by kernel_rfl) ?_
  change wpAnyH _ _ _ _ _ _ _ _ (World.drew _)
  obtain ⟨W0, hWd⟩ : ∃ W0, W0 = W3.drew := ⟨_, rfl⟩
  rw [<- hWd] at hS hS0 ⊢
  clear hWd
  refine wpAnyH_take (i := 0) (v := .pointer (some ⟨p, 0, none⟩)) rfl (by kernel_rfl) (by kernel_rfl) (by kernel_rfl) (fun _ _ _ h => h) (.inl ⟨by rfl, fun W' hS' => by go_simp⟩) hS0 ?_
  try simp only [Act.put, z]
  refine wpAnyH_take (i := 1) (v := .pointer (some ⟨p, 0, none⟩)) rfl (by kernel_rfl) (by kernel_rfl) (by kernel_rfl) (fun _ _ _ h => h) (.inl ⟨by rfl, fun W' hS' => by go_simp⟩) hS0 ?_
  try simp only [Act.put, z]
  refine wpAnyH_take (i := 2) (v := .pointer (some ⟨p, 0, none⟩)) rfl (by kernel_rfl) (by kernel_rfl) (by kernel_rfl) (fun _ _ _ h => h) (.inl ⟨by rfl, fun W' hS' => by go_simp⟩) hS0 ?_
  try simp only [Act.put, z]
  refine wpAnyH_take (i := 4) (v := .pointer (some ⟨w.heap.size + 1, 6, none⟩)) rfl (by kernel_rfl) (by kernel_rfl) (by kernel_rfl) (fun _ _ _ h => h) (.inl ⟨by rfl, fun W' hS' => by go_simp⟩) hS0 ?_
  try simp only [Act.put, z]
  refine wpAnyH_take (i := 5) (v := .int .i64 am) rfl (by kernel_rfl) (by kernel_rfl) (by kernel_rfl) (fun _ _ _ h => h) (.inl ⟨by rfl, fun W' hS' => by have hc := hS'.2; go_simp⟩) hS0 ?_
  try simp only [Act.put, z]
  have hpr := gbox Hep.out hS s3p
  have z0 := cell_of_row _ _ 0 _ _ _ hpr
  simp at z0
  have Hpr := Lib.hid hpr
  have zlt := some_lt hpr
  clear hpr p0 p1
  refine wpAnyH_ready (rs := [3]) (by kernel_rfl) (by simp) (AllReadyH.cons rfl (fun K hK => ?_) AllReadyH.nil)
  go_simp
  refine hK.out _ _ hS0 (fun _ => ?_)
  clear hK K
  try simp only [Act.put, z]
  refine wpAnyH_take (i := 6) (v := .int .i64 (r + am)) rfl (by kernel_rfl) (by kernel_rfl) (by kernel_rfl) (fun _ _ _ h => h) (.inl ⟨by rfl, fun W' hS' => by have hw : wrap64 (r + am) = r + am := IntWalk.wrap64_in _ (by omega); (go_simp; rw [IntKind.wrap_i64]; clear hw; omega)⟩) hS0 ?_
  try simp only [Act.put, z]
  refine wpAnyH_take (i := 7) (v := .pointer (some ⟨p, 0, none⟩)) rfl (by kernel_rfl) (by kernel_rfl) (by kernel_rfl) (fun _ _ _ h => h) (.inl ⟨by rfl, fun W' hS' => by go_simp⟩) hS0 ?_
  try simp only [Act.put, z]
  refine wpAnyH_take (i := 8) (v := .pointer (some ⟨p, 0, none⟩)) rfl (by kernel_rfl) (by kernel_rfl) (by kernel_rfl) (fun _ _ _ h => h) (.inl ⟨by rfl, fun W' hS' => by go_simp⟩) hS0 ?_
  try simp only [Act.put, z]
  refine wpAnyH_ready (rs := [9]) (by kernel_rfl) (by simp) (AllReadyH.cons rfl (fun K hK => ?_) AllReadyH.nil)
  have zf := fun j => frozen_of_row _ _ j _ _ Hpr.out
  have hp4 := heap_setCell_same W0 p 0 _ _ (.int .i64 (r + am)) Hpr.out
  simp at hp4
  have hB4 := hBp.trans (hS0.1.setCell (p := ⟨p, 0, none⟩) (Nat.le_refl _) (.int .i64 (r + am)))
  have hc4 : (W0.setCell ⟨p, 0, none⟩ (.int .i64 (r + am))).cell? ⟨w.heap.size + 1, 6, none⟩ = some (.int .i64 am) := by
   rw [World.cell?_of_block (w := W0) (heap_setCell_other _ _ _ _ (show w.heap.size + 1 ≠ p by omega))]; exact hS0.2
  have HP4 := Lib.hid hp4
  have HB4 := Lib.hid hB4
  clear hp4
  go_simp
  refine hK.out _ _ ⟨hS0.1.setCell (p := ⟨p, 0, none⟩) (Nat.le_refl _) _, hc4⟩ (fun _ => ?_)
  clear hK K
  try simp only [Act.put, z]
  refine wpAnyH_done (by kernel_rfl) ?_ _
  try simp only [Act.put, z]
  go_wp2
  go_end0
  refine ⟨rfl, HB4.out, ?_⟩
  rw [HP.out, HNE.out, if_pos rfl, if_neg (by simp), Int.add_zero, <- Ham.out]
  exact HP4.out
 have h5b : (kd == 5) = false := by simp [h5]
 have HP : Hid (Gr.isResult g z.acct = false) := by show _ = _; rw [HE.out]; simp [h4, h5]
 clear h4 h5
 by_cases h3 : kd = 3
 case neg =>
  have h3b : (kd == 3) = false := by simp [h3]
  have HNE : Hid (Gr.isEquity g z.acct = false) := by show _ = _; rw [HQ.out]; simp [h3]
  clear h3
  go_wp2
  go_end0
  refine ⟨rfl, hBp, ?_⟩
  rw [HP.out, HNE.out, if_neg (by simp), Int.add_zero, Int.add_zero]
  exact Hep.out
 have h3b : (kd == 3) = true := by simp [h3]
 by_cases h7 : ac = g.r7
 case pos =>
  have h7b : (ac != g.r7) = false := by simp [h7]
  have HNE : Hid (Gr.isEquity g z.acct = false) := by show _ = _; rw [HQ.out]; simp [h7]
  clear h3 h7
  go_wp2
  go_end0
  refine ⟨rfl, hBp, ?_⟩
  rw [HP.out, HNE.out, if_neg (by simp), Int.add_zero, Int.add_zero]
  exact Hep.out
 have h7b : (ac != g.r7) = true := by simp [h7]
 have HNE : Hid (Gr.isEquity g z.acct = true) := by show _ = _; rw [HQ.out]; simp [h3, h7]
 clear h3 h7
 have hS0 : (fun W => Below p W3 W /\ W.cell? ⟨w.heap.size + 1, 6, none⟩ = some (.int .i64 am)) W3.drew := ⟨hS.mono (Nat.le_of_lt s3p), (hS.cell (p := ⟨w.heap.size + 1, 6, none⟩) s3').trans y6⟩
 go_upto_region 5 with (fail)
 refine wp_region_held (S := fun W => Below p W3 W /\ W.cell? ⟨w.heap.size + 1, 6, none⟩ = some (.int .i64 am)) (by kernel_rfl) ?_
 change wpAnyH _ _ _ _ _ _ _ _ (World.drew _)
 obtain ⟨W0, hWd⟩ : ∃ W0, W0 = W3.drew := ⟨_, rfl⟩
 rw [<- hWd] at hS hS0 ⊢
 clear hWd
 refine wpAnyH_take (i := 0) (v := .pointer (some ⟨p, 0, none⟩)) rfl (by kernel_rfl) (by kernel_rfl) (by kernel_rfl) (fun _ _ _ h => h) (.inl ⟨by rfl, fun W' hS' => by go_simp⟩) hS0 ?_
 try simp only [Act.put, z]
 refine wpAnyH_take (i := 1) (v := .pointer (some ⟨p, 0, none⟩)) rfl (by kernel_rfl) (by kernel_rfl) (by kernel_rfl) (fun _ _ _ h => h) (.inl ⟨by rfl, fun W' hS' => by go_simp⟩) hS0 ?_
 try simp only [Act.put, z]
 refine wpAnyH_take (i := 2) (v := .pointer (some ⟨p, 1, none⟩)) rfl (by kernel_rfl) (by kernel_rfl) (by kernel_rfl) (fun _ _ _ h => h) (.inl ⟨by rfl, fun W' hS' => by go_simp⟩) hS0 ?_
 try simp only [Act.put, z]
 refine wpAnyH_take (i := 4) (v := .pointer (some ⟨w.heap.size + 1, 6, none⟩)) rfl (by kernel_rfl) (by kernel_rfl) (by kernel_rfl) (fun _ _ _ h => h) (.inl ⟨by rfl, fun W' hS' => by go_simp⟩) hS0 ?_
 try simp only [Act.put, z]
 refine wpAnyH_take (i := 5) (v := .int .i64 am) rfl (by kernel_rfl) (by kernel_rfl) (by kernel_rfl) (fun _ _ _ h => h) (.inl ⟨by rfl, fun W' hS' => by have hc := hS'.2; go_simp⟩) hS0 ?_
 try simp only [Act.put, z]
 have hpr := gbox Hep.out hS s3p
 have z1 := cell_of_row _ _ 1 _ _ _ hpr
 simp at z1
 have Hpr := Lib.hid hpr
 have zlt := some_lt hpr
 clear hpr p0 p1
 refine wpAnyH_ready (rs := [3]) (by kernel_rfl) (by simp) (AllReadyH.cons rfl (fun K hK => ?_) AllReadyH.nil)
 go_simp
 refine hK.out _ _ hS0 (fun _ => ?_)
 clear hK K
 try simp only [Act.put, z]
 refine wpAnyH_take (i := 6) (v := .int .i64 (q + am)) rfl (by kernel_rfl) (by kernel_rfl) (by kernel_rfl) (fun _ _ _ h => h) (.inl ⟨by rfl, fun W' hS' => by have hw : wrap64 (q + am) = q + am := IntWalk.wrap64_in _ (by omega); (go_simp; rw [IntKind.wrap_i64]; clear hw; omega)⟩) hS0 ?_
 try simp only [Act.put, z]
 refine wpAnyH_take (i := 7) (v := .pointer (some ⟨p, 0, none⟩)) rfl (by kernel_rfl) (by kernel_rfl) (by kernel_rfl) (fun _ _ _ h => h) (.inl ⟨by rfl, fun W' hS' => by go_simp⟩) hS0 ?_
 try simp only [Act.put, z]
 refine wpAnyH_take (i := 8) (v := .pointer (some ⟨p, 1, none⟩)) rfl (by kernel_rfl) (by kernel_rfl) (by kernel_rfl) (fun _ _ _ h => h) (.inl ⟨by rfl, fun W' hS' => by go_simp⟩) hS0 ?_
 try simp only [Act.put, z]
 refine wpAnyH_ready (rs := [9]) (by kernel_rfl) (by simp) (AllReadyH.cons rfl (fun K hK => ?_) AllReadyH.nil)
 have zf := fun j => frozen_of_row _ _ j _ _ Hpr.out
 have hp4 := heap_setCell_same W0 p 1 _ _ (.int .i64 (q + am)) Hpr.out
 simp at hp4
 have hB4 := hBp.trans (hS0.1.setCell (p := ⟨p, 1, none⟩) (Nat.le_refl _) (.int .i64 (q + am)))
 have hc4 : (W0.setCell ⟨p, 1, none⟩ (.int .i64 (q + am))).cell? ⟨w.heap.size + 1, 6, none⟩ = some (.int .i64 am) := by
  rw [World.cell?_of_block (w := W0) (heap_setCell_other _ _ _ _ (show w.heap.size + 1 ≠ p by omega))]; exact hS0.2
 have HP4 := Lib.hid hp4
 have HB4 := Lib.hid hB4
 clear hp4
 go_simp
 refine hK.out _ _ ⟨hS0.1.setCell (p := ⟨p, 1, none⟩) (Nat.le_refl _) _, hc4⟩ (fun _ => ?_)
 clear hK K
 try simp only [Act.put, z]
 refine wpAnyH_done (by kernel_rfl) ?_ _
 try simp only [Act.put, z]
 go_wp2
 go_end0
 refine ⟨rfl, HB4.out, ?_⟩
 rw [HP.out, HNE.out, if_pos rfl, if_neg (by simp), Int.add_zero, <- Ham.out]
 exact HP4.out
end
theorem red_le (a : Int) {D : Int} (hD : 0 < D) : Int.tdiv D (Int.gcd a D) <= D := by
 obtain ⟨q, hq⟩ := Int.gcd_dvd_right a D
 have h0 : (0 : Int) <= (Int.gcd a D : Int) := Int.natCast_nonneg _
 obtain ⟨G, hG⟩ : ∃ G, G = (Int.gcd a D : Int) := ⟨_, rfl⟩
 rw [<- hG] at hq h0 ⊢
 have hG0 : G ≠ 0 := by intro e; subst e; rw [Int.zero_mul] at hq; omega
 have e2 : Int.tdiv D G = q := by rw [hq, Int.mul_tdiv_cancel_left _ hG0]
 rw [e2]
 have hqp : 0 < q := by
  rw [hq] at hD
  exact Int.pos_of_mul_pos_right hD (by omega)
 have : 1 * q <= G * q := Int.mul_le_mul_of_nonneg_right (by omega) (by omega)
 rw [hq]; omega
theorem redBy_pos {a D : Int} (hD : 0 < D) : redBy a D = (Int.gcd a D : Int) := by unfold redBy; rw [if_neg (by omega)]
section
variable (w : World)
theorem part41_any (n : Int) (po pf : Nat) (x0 : Con) (y : Cnt) (h0 : -100000000000000 <= n) (h1 : n <= 100000000000000) (hy : x0.Holds SD w w.heap.size y)
  (hpo : w.heap[po]? = some (.cells #[.int .i64 x0.ent, .int .i64 x0.meth, .int .i64 x0.since, .bool x0.sg1, .slice x0.sA1 x0.sn1 x0.sc1, .bool x0.sg2, .slice x0.sA2 x0.sn2 x0.sc2, .bool x0.fg1, .slice x0.fA1 x0.fn1 x0.fc1, .bool x0.fg2, .slice x0.fA2 x0.fn2 x0.fc2, .slice x0.iA x0.im x0.ic, .slice x0.hA x0.hm x0.hc] 101 (0, 0))) (hpf : w.heap[pf]? = some (.cells #[.bool true] 4 (0, 0))) :
  Calls Tryz.prog 44 #[.int .i64 n, .pointer (some ⟨po, 0, none⟩), .pointer (some ⟨pf, 0, none⟩)] w fun e w' => e = .returned (.int .i64 (R1.rd n y.sN y.sD)) /\ Below w.heap.size w w' := by
 have Hpo := Lib.hid hpo
 have Hpf := Lib.hid hpf
 have Hy := Lib.hid hy
 have Hso := Lib.hid hy.hso
 have Hbd := Lib.hid (rd_small hy.hso h0 h1)
 clear hpo hpf hy
 go_enter Tryz.func44, Tryz.ntmps44
 go_wp2_with (fail)
 refine (ratof_any w n 1 (by omega) (by omega) (by omega) (by omega) (by omega)).mono ?_
 rintro e W2 ⟨⟨r2, rfl, hr2⟩, hB2⟩
 have e1 : redBy n 1 = 1 := by rw [redBy_pos (by omega)]; simp
 rw [e1, Int.tdiv_one, Int.tdiv_one] at hr2
 obtain ⟨g1, A1, n1, c1, g2, A2, n2, c2, rfl⟩ := hr2.open
 obtain ⟨hB3, hb3, hz3⟩ := row_new W2 #[.bool g1, .slice A1 n1 c1, .bool g2, .slice A2 n2 c2] 99
 have hB03 := hB2.trans (hB3.mono hB2.size)
 have he0 := gbox Hpo.out hB03 (some_lt Hpo.out)
 have hef := Lib.hid (gbox Hpf.out hB03 (some_lt Hpf.out))
 obtain ⟨W3, hW3⟩ : ∃ W3, W3 = W2.alloc (.cells #[.bool g1, .slice A1 n1 c1, .bool g2, .slice A2 n2 c2] 99) := ⟨_, rfl⟩
 rw [<- hW3] at hB3 hb3 hz3 hB03 he0 hef
 have HW3 := Lib.hid hW3
 have hr3 := Lib.hid (hr2.at_ hB3)
 have hy3 := Lib.hid ((Hy.out.atD hB03).hsh)
 have hco := Lib.hid (range_row (cs := [.int .i64 x0.ent, .int .i64 x0.meth, .int .i64 x0.since, .bool x0.sg1, .slice x0.sA1 x0.sn1 x0.sc1, .bool x0.sg2, .slice x0.sA2 x0.sn2 x0.sc2, .bool x0.fg1, .slice x0.fA1 x0.fn1 x0.fc1, .bool x0.fg2, .slice x0.fA2 x0.fn2 x0.fc2, .slice x0.iA x0.im x0.ic, .slice x0.hA x0.hm x0.hc]) he0)
 have hrr := Lib.hid (range_row (cs := [.bool g1, .slice A1 n1 c1, .bool g2, .slice A2 n2 c2]) hb3)
 have hsr : Hid (W3.rangeAt po 3 [.bool x0.sg1, .slice x0.sA1 x0.sn1 x0.sc1, .bool x0.sg2, .slice x0.sA2 x0.sn2 x0.sc2]) := Lib.hid (fun j v hj => by
  match j with
  | 0 => exact hco.out 3 _ (by simpa using hj)
  | 1 => exact hco.out 4 _ (by simpa using hj)
  | 2 => exact hco.out 5 _ (by simpa using hj)
  | 3 => exact hco.out 6 _ (by simpa using hj)
  | j + 4 => simp at hj)
 have hpos : Hid (0 < Int.tdiv (1 * y.sD) (redBy (n * y.sN) (1 * y.sD)) /\ Int.tdiv (1 * y.sD) (redBy (n * y.sN) (1 * y.sD)) <= 1000000) := Lib.hid (by
  have h := Hso.out.1
  have h2 := Hso.out.2.1
  rw [Int.one_mul, redBy_pos h]
  have a := R1.red_pos (n * y.sN) h
  have b := red_le (n * y.sN) h
  omega)
 have s3 : W2.heap.size < W3.heap.size := by omega
 have spo := some_lt he0
 clear hW3 hz3 hb3 he0
 go_upto_region 2 with (fail)
 rw [<- HW3.out]
 go_wp2_with (first | (refine wpList_load_mid rfl 99 (.tmp 5) rfl W2.heap.size 0 rfl [.bool g1, .slice A1 n1 c1, .bool g2, .slice A2 n2 c2] _ hrr.out Tryz.underlying99 rfl ratSize ?_) | (refine wpList_load_mid rfl 99 (.tmp 16) rfl po 3 rfl [.bool x0.sg1, .slice x0.sA1 x0.sn1 x0.sc1, .bool x0.sg2, .slice x0.sA2 x0.sn2 x0.sc2] _ hsr.out Tryz.underlying99 rfl ratSize ?_))
 refine (mul_rat W3 3 1 3 1 _ _ n 1 y.sN y.sD (by omega) (by omega) (by omega) (by have := Hso.out.1; omega) (by have := Hso.out.1; omega) (by have := Hso.out.2.1; omega) hr3.out hy3.out).mono ?_
 rintro e W4 ⟨⟨r4, rfl, hr4⟩, hB4⟩
 have hB04 := hB03.trans (hB4.mono hB03.size)
 go_wp2_with (fail)
 refine (round_rat W4 6 _ _ _ (by omega) (by have := hpos.out; omega) (by have := hpos.out; omega) (by have := hpos.out; omega) hr4).mono ?_
 rw [rd_prog Hso.out.1]
 rintro e W5 ⟨⟨r5, rfl, hr5⟩, hB5⟩
 have hB05 := hB04.trans (hB5.mono hB04.size)
 go_wp2_with (fail)
 refine (small_any W5 _ _ _ (by omega) hr5).mono ?_
 rw [if_pos (by have := Hbd.out; omega), decide_eq_true (by have := Hbd.out; omega)]
 rintro e W6 ⟨rfl, hB6⟩
 have hB06 := hB05.trans (hB6.mono hB05.size)
 have hf6 := gbox Hpf.out hB06 (some_lt Hpf.out)
 have z0 := cell_of_row _ _ 0 _ _ _ hf6
 have zf := fun j => frozen_of_row _ _ j _ _ hf6
 have zlt := some_lt hf6
 simp at z0
 have HBF := Lib.hid (below_same hB06 hf6)
 obtain ⟨v, hv⟩ : ∃ v, v = R1.rd n y.sN y.sD := ⟨_, rfl⟩
 rw [<- hv]
 have HVv := Lib.hid hv
 clear hf6 hv
 go_wp2
 go_ret
 exact ⟨by rw [<- HVv.out]; rfl, HBF.out⟩
end
end Go.Proofs.YtcblobokjhhboaaGreat
