/- My texts RefSums. -/
import Derived.Test.YtcblobokjhhboaaGreatG28
import Derived.Test.YtcblobokjhhboaaGreatG29
import Derived.Test.YtcblobokjhhboaaGreatG31
set_option linter.unusedVariables false
set_option linter.unusedSimpArgs false
set_option maxRecDepth 100000
set_option maxHeartbeats 8000000
namespace Go.Proofs.YtcblobokjhhboaaGreat
open Go.RowKit
theorem Gr.sumOf_small {P : Int -> Bool} {l : List Itm} {n : Nat} (hl : l.length = n) (hn : n <= 1000) (hx : ∀ x ∈ l, x.small) : -1000000000000000 <= Gr.sumOf P l /\ Gr.sumOf P l <= 1000000000000000 := by
 have := Gr.sumOf_bd P l hx
 omega
theorem Gr.sumOf_take_small {P : Int -> Bool} {l : List Itm} {n : Nat} (k : Nat) (hl : l.length = n) (hn : n <= 1000) (hx : ∀ x ∈ l, x.small) : -1000000000000000 <= Gr.sumOf P (l.take k) /\ Gr.sumOf P (l.take k) <= 1000000000000000 :=
 Gr.sumOf_small rfl (by rw [List.length_take]; omega) fun x h => hx x (List.mem_of_mem_take h)
section
variable (w : World)
theorem results_any (g : Grp) (A : Option Addr) (n c : Nat) (l : List Itm) (hl : l.length = n) (hn : n <= 1000) (hx : ∀ x ∈ l, x.small) (hA : ItmsAt w w.heap.size A l) (hg : g.At w w.heap.size) :
  Calls Tryz.prog 50 #[.agg #[.string g.cur, .int .i64 g.Y, .int .i64 g.M, .int .i64 g.N, .slice g.cA g.cn g.cc, .int .i64 g.r0, .int .i64 g.r1, .int .i64 g.r2, .int .i64 g.r3, .int .i64 g.r4, .int .i64 g.r5, .int .i64 g.r6, .int .i64 g.r7, .int .i64 g.r8, .int .i64 g.r9, .int .i64 g.r10, .int .i64 g.r11, .int .i64 g.r12, .int .i64 g.r13, .int .i64 g.r14, .slice g.eA g.en g.ec], .slice A n c] w fun e w' => e = .returned (.int .i64 (Gr.sumOf (Gr.isResult g) l)) /\ Below w.heap.size w w' := by
 obtain ⟨hB0, hb0, hz⟩ := row_new w #[.string g.cur, .int .i64 g.Y, .int .i64 g.M, .int .i64 g.N, .slice g.cA g.cn g.cc, .int .i64 g.r0, .int .i64 g.r1, .int .i64 g.r2, .int .i64 g.r3, .int .i64 g.r4, .int .i64 g.r5, .int .i64 g.r6, .int .i64 g.r7, .int .i64 g.r8, .int .i64 g.r9, .int .i64 g.r10, .int .i64 g.r11, .int .i64 g.r12, .int .i64 g.r13, .int .i64 g.r14, .slice g.eA g.en g.ec] 29
 obtain ⟨W1, hW1⟩ : ∃ W1, W1 = (w.alloc (.cells #[.string g.cur, .int .i64 g.Y, .int .i64 g.M, .int .i64 g.N, .slice g.cA g.cn g.cc, .int .i64 g.r0, .int .i64 g.r1, .int .i64 g.r2, .int .i64 g.r3, .int .i64 g.r4, .int .i64 g.r5, .int .i64 g.r6, .int .i64 g.r7, .int .i64 g.r8, .int .i64 g.r9, .int .i64 g.r10, .int .i64 g.r11, .int .i64 g.r12, .int .i64 g.r13, .int .i64 g.r14, .slice g.eA g.en g.ec] 29)) := ⟨_, rfl⟩
 rw [<- hW1] at hB0 hb0 hz
 have HW := Lib.hid hW1
 have Hg := Lib.hid (hg.at_ hB0)
 have HA := Lib.hid (RowsAt.at_ hA hB0)
 have Hb := Lib.hid hb0
 have s1 : w.heap.size < W1.heap.size := by omega
 have HX := Lib.hid hx
 have Hl := Lib.hid hl
 clear hW1 hz hb0 hg hA hx hl
 go_enter Tryz.func50, Tryz.ntmps50
 go_upto_region 1 with (fail)
 rw [<- HW.out]
 go_wp2
 go_loopw [5, 6] (fun s i wr => ∃ k : Nat, k <= n /\ i = .int .i64 k /\ s = .int .i64 (Gr.sumOf (Gr.isResult g) (l.take k)) /\ Below W1.heap.size W1 wr) (fun _ i _ => n - (intOf i).toNat)
 case atStart => exact ⟨0, Nat.zero_le _, rfl, rfl, Below.refl _ _⟩
 case round =>
  obtain ⟨k, hk, rfl, rfl, hbr⟩ := hrel
  obtain ⟨s, hs⟩ : ∃ s, s = Gr.sumOf (Gr.isResult g) (l.take k) := ⟨_, rfl⟩
  obtain ⟨lo, hi⟩ := Gr.sumOf_take_small (P := Gr.isResult g) k Hl.out hn HX.out
  rw [<- hs] at lo hi ⊢
  have Hs := Lib.hid hs
  have hq := hbr.size
  have hbF := hB0.trans (hbr.mono hB0.size)
  clear hs
  by_cases hlt : k < n
  ·have hkl : k < l.length := by have := Hl.out; omega
   obtain ⟨b, o, hAe, hbB, hr, c3, c6⟩ := ItmsAt.seven (RowsAt.below HA.out hbr (Nat.le_refl _)) hkl
   cases hAe
   have hbw : b < wr.heap.size := by omega
   have hbx := gbox Hb.out hbr s1
   have hgx := Lib.hid (grp_range hbx)
   have swx : w.heap.size < wr.heap.size := some_lt hbx
   have hk0 : (0 : Int) <= (k : Int) := by omega
   have hkn : (k : Int) < n := by omega
   have hS : Below wr.heap.size wr wr.drew := below_drawn (Below.refl _ _) 1
   have hgr := Lib.hid ((Hg.out.below hbr (Nat.le_refl _)).more hq)
   have hsm := HX.out _ (List.getElem_mem hkl)
   obtain ⟨sl, sh⟩ := hsm
   obtain ⟨ac, hac⟩ : ∃ ac, ac = l[k].acct := ⟨_, rfl⟩
   obtain ⟨am, ham⟩ : ∃ am, am = l[k].amt := ⟨_, rfl⟩
   rw [<- hac] at c3
   rw [<- ham] at c6 sl sh
   have Hac := Lib.hid hac
   have Ham := Lib.hid ham
   have HN : Hid (Gr.sumOf (Gr.isResult g) (l.take (k + 1)) = s + (if Gr.isResult g ac = true then am else 0)) := by
    show _ = _; rw [Gr.sumOf_take (Gr.isResult g) hkl, <- Hs.out, <- Hac.out, <- Ham.out]
   clear hbx hac ham hr
   go_upto_region 5 with (fail)
   refine wp_region_held (S := Below wr.heap.size wr) (by kernel_rfl) ?_
   change wpAnyH _ _ _ _ _ _ _ _ (World.drew _)
   obtain ⟨W0, hWd⟩ : ∃ W0, W0 = wr.drew := ⟨_, rfl⟩
   rw [<- hWd] at hS ⊢
   clear hWd
   refine wpAnyH_take (i := 0) (v := .agg #[.string g.cur, .int .i64 g.Y, .int .i64 g.M, .int .i64 g.N, .slice g.cA g.cn g.cc, .int .i64 g.r0, .int .i64 g.r1, .int .i64 g.r2, .int .i64 g.r3, .int .i64 g.r4, .int .i64 g.r5, .int .i64 g.r6, .int .i64 g.r7, .int .i64 g.r8, .int .i64 g.r9, .int .i64 g.r10, .int .i64 g.r11, .int .i64 g.r12, .int .i64 g.r13, .int .i64 g.r14, .slice g.eA g.en g.ec]) rfl (by kernel_rfl) (by kernel_rfl) (by kernel_rfl) (fun _ _ _ h => h) (yieldsIf_load_mid (by rfl) 29 _ rfl w.heap.size 0 rfl [.string g.cur, .int .i64 g.Y, .int .i64 g.M, .int .i64 g.N, .slice g.cA g.cn g.cc, .int .i64 g.r0, .int .i64 g.r1, .int .i64 g.r2, .int .i64 g.r3, .int .i64 g.r4, .int .i64 g.r5, .int .i64 g.r6, .int .i64 g.r7, .int .i64 g.r8, .int .i64 g.r9, .int .i64 g.r10, .int .i64 g.r11, .int .i64 g.r12, .int .i64 g.r13, .int .i64 g.r14, .slice g.eA g.en g.ec] _ (fun W' hS' => range_below hgx.out hS' swx) Tryz.underlying29 rfl grpSize) hS ?_
   try simp only [Act.put, z]
   refine wpAnyH_take (i := 1) (v := .slice (some ⟨b, o, none⟩) n c) rfl (by kernel_rfl) (by kernel_rfl) (by kernel_rfl) (fun _ _ _ h => h) (.inl ⟨by rfl, fun W' hS' => by go_simp⟩) hS ?_
   try simp only [Act.put, z]
   refine wpAnyH_take (i := 2) (v := .int .i64 k) rfl (by kernel_rfl) (by kernel_rfl) (by kernel_rfl) (fun _ _ _ h => h) (.inl ⟨by rfl, fun W' hS' => by go_simp⟩) hS ?_
   try simp only [Act.put, z]
   refine wpAnyH_take (i := 3) (v := .pointer (some ⟨b, o + k * 7, none⟩)) rfl (by kernel_rfl) (by kernel_rfl) (by kernel_rfl) (fun _ _ _ h => h) (.inl ⟨by rfl, fun W' hS' => by go_simp⟩) hS ?_
   try simp only [Act.put, z]
   refine wpAnyH_take (i := 4) (v := .pointer (some ⟨b, o + k * 7 + 3, none⟩)) rfl (by kernel_rfl) (by kernel_rfl) (by kernel_rfl) (fun _ _ _ h => h) (.inl ⟨by rfl, fun W' hS' => by go_simp⟩) hS ?_
   try simp only [Act.put, z]
   refine wpAnyH_take (i := 5) (v := .int .i64 ac) rfl (by kernel_rfl) (by kernel_rfl) (by kernel_rfl) (fun _ _ _ h => h) (.inl ⟨by rfl, fun W' hS' => by have hc := (hS'.cell (p := ⟨b, o + k * 7 + 3, none⟩) hbw).trans c3; go_simp⟩) hS ?_
   try simp only [Act.put, z]
   refine wpAnyH_ready (rs := [6]) (by kernel_rfl) (by simp) (AllReadyH.cons rfl (fun K hK => ?_) AllReadyH.nil)
   go_simp
   refine (isresult_any W0 g ac (hgr.out.at_ hS)).mono ?_
   rintro e W6 ⟨rfl, hB6⟩
   have hS6 : Below wr.heap.size wr W6 := hS.trans (hB6.mono hS.size)
   have hq6 := hS6.size
   refine hK.out _ _ hS6 (fun _ => ?_)
   clear hK K
   try simp only [Act.put, z]
   refine wpAnyH_done (by kernel_rfl) ?_ _
   try simp only [Act.put, z]
   have hbr6 : Below W1.heap.size W1 W6 := hbr.trans (hS6.mono hq)
   have c6' := (hS6.cell (p := ⟨b, o + k * 7 + 6, none⟩) hbw).trans c6
   have hbw6 : b < W6.heap.size := by omega
   clear c3 c6 hB6 hS6 hS
   by_cases hp : Gr.isResult g ac = true
   ·have HN2 := Lib.hid (HN.out.trans (by rw [if_pos hp]))
    rw [hp]
    clear hp
    go_wp2_with (go_quiet (fail))
    go_roundw
    case rel => exact ⟨k + 1, by omega, by go_num, by rw [HN2.out], by first | exact hbr6 | exact below_drawn hbr6 _⟩
    case measure => simp [intOf]; omega
   ·have HN2 := Lib.hid (HN.out.trans (by rw [if_neg hp, Int.add_zero]))
    rw [show Gr.isResult g ac = false by simpa using hp]
    clear hp
    go_wp2
    go_roundw
    case rel => exact ⟨k + 1, by omega, by go_num, by rw [HN2.out], hbr6⟩
    case measure => simp [intOf]; omega
  ·obtain rfl : k = n := by omega
   have HV : Hid (Gr.sumOf (Gr.isResult g) l = s) := by
    show _ = _
    have := Hs.out
    rw [<- Hl.out, List.take_length] at this
    exact this.symm
   go_wp2
   go_ret
   exact ⟨by rw [HV.out]; rfl, hbF⟩
theorem equities_any (g : Grp) (A : Option Addr) (n c : Nat) (l : List Itm) (hl : l.length = n) (hn : n <= 1000) (hx : ∀ x ∈ l, x.small) (hA : ItmsAt w w.heap.size A l) (hg : g.At w w.heap.size) :
  Calls Tryz.prog 51 #[.agg #[.string g.cur, .int .i64 g.Y, .int .i64 g.M, .int .i64 g.N, .slice g.cA g.cn g.cc, .int .i64 g.r0, .int .i64 g.r1, .int .i64 g.r2, .int .i64 g.r3, .int .i64 g.r4, .int .i64 g.r5, .int .i64 g.r6, .int .i64 g.r7, .int .i64 g.r8, .int .i64 g.r9, .int .i64 g.r10, .int .i64 g.r11, .int .i64 g.r12, .int .i64 g.r13, .int .i64 g.r14, .slice g.eA g.en g.ec], .slice A n c] w fun e w' => e = .returned (.int .i64 (Gr.sumOf (Gr.isEquity g) l)) /\ Below w.heap.size w w' := by
 obtain ⟨hB0, hb0, hz⟩ := row_new w #[.string g.cur, .int .i64 g.Y, .int .i64 g.M, .int .i64 g.N, .slice g.cA g.cn g.cc, .int .i64 g.r0, .int .i64 g.r1, .int .i64 g.r2, .int .i64 g.r3, .int .i64 g.r4, .int .i64 g.r5, .int .i64 g.r6, .int .i64 g.r7, .int .i64 g.r8, .int .i64 g.r9, .int .i64 g.r10, .int .i64 g.r11, .int .i64 g.r12, .int .i64 g.r13, .int .i64 g.r14, .slice g.eA g.en g.ec] 29
 obtain ⟨W1, hW1⟩ : ∃ W1, W1 = (w.alloc (.cells #[.string g.cur, .int .i64 g.Y, .int .i64 g.M, .int .i64 g.N, .slice g.cA g.cn g.cc, .int .i64 g.r0, .int .i64 g.r1, .int .i64 g.r2, .int .i64 g.r3, .int .i64 g.r4, .int .i64 g.r5, .int .i64 g.r6, .int .i64 g.r7, .int .i64 g.r8, .int .i64 g.r9, .int .i64 g.r10, .int .i64 g.r11, .int .i64 g.r12, .int .i64 g.r13, .int .i64 g.r14, .slice g.eA g.en g.ec] 29)) := ⟨_, rfl⟩
 rw [<- hW1] at hB0 hb0 hz
 have HW := Lib.hid hW1
 have Hg := Lib.hid (hg.at_ hB0)
 have HA := Lib.hid (RowsAt.at_ hA hB0)
 have Hb := Lib.hid hb0
 have s1 : w.heap.size < W1.heap.size := by omega
 have HX := Lib.hid hx
 have Hl := Lib.hid hl
 clear hW1 hz hb0 hg hA hx hl
 go_enter Tryz.func51, Tryz.ntmps51
 go_upto_region 1 with (fail)
 rw [<- HW.out]
 go_wp2
 go_loopw [5, 6] (fun s i wr => ∃ k : Nat, k <= n /\ i = .int .i64 k /\ s = .int .i64 (Gr.sumOf (Gr.isEquity g) (l.take k)) /\ Below W1.heap.size W1 wr) (fun _ i _ => n - (intOf i).toNat)
 case atStart => exact ⟨0, Nat.zero_le _, rfl, rfl, Below.refl _ _⟩
 case round =>
  obtain ⟨k, hk, rfl, rfl, hbr⟩ := hrel
  obtain ⟨s, hs⟩ : ∃ s, s = Gr.sumOf (Gr.isEquity g) (l.take k) := ⟨_, rfl⟩
  obtain ⟨lo, hi⟩ := Gr.sumOf_take_small (P := Gr.isEquity g) k Hl.out hn HX.out
  rw [<- hs] at lo hi ⊢
  have Hs := Lib.hid hs
  have hq := hbr.size
  have hbF := hB0.trans (hbr.mono hB0.size)
  clear hs
  by_cases hlt : k < n
  ·have hkl : k < l.length := by have := Hl.out; omega
   obtain ⟨b, o, hAe, hbB, hr, c3, c6⟩ := ItmsAt.seven (RowsAt.below HA.out hbr (Nat.le_refl _)) hkl
   cases hAe
   have hbw : b < wr.heap.size := by omega
   have hbx := gbox Hb.out hbr s1
   have hgx := Lib.hid (grp_range hbx)
   have swx : w.heap.size < wr.heap.size := some_lt hbx
   have hk0 : (0 : Int) <= (k : Int) := by omega
   have hkn : (k : Int) < n := by omega
   have hS : Below wr.heap.size wr wr.drew := below_drawn (Below.refl _ _) 1
   have hgr := Lib.hid ((Hg.out.below hbr (Nat.le_refl _)).more hq)
   have hsm := HX.out _ (List.getElem_mem hkl)
   obtain ⟨sl, sh⟩ := hsm
   obtain ⟨ac, hac⟩ : ∃ ac, ac = l[k].acct := ⟨_, rfl⟩
   obtain ⟨am, ham⟩ : ∃ am, am = l[k].amt := ⟨_, rfl⟩
   rw [<- hac] at c3
   rw [<- ham] at c6 sl sh
   have Hac := Lib.hid hac
   have Ham := Lib.hid ham
   have HN : Hid (Gr.sumOf (Gr.isEquity g) (l.take (k + 1)) = s + (if Gr.isEquity g ac = true then am else 0)) := by
    show _ = _; rw [Gr.sumOf_take (Gr.isEquity g) hkl, <- Hs.out, <- Hac.out, <- Ham.out]
   clear hbx hac ham hr
   go_upto_region 5 with (fail)
   refine wp_region_held (S := Below wr.heap.size wr) (by kernel_rfl) ?_
   change wpAnyH _ _ _ _ _ _ _ _ (World.drew _)
   obtain ⟨W0, hWd⟩ : ∃ W0, W0 = wr.drew := ⟨_, rfl⟩
   rw [<- hWd] at hS ⊢
   clear hWd
   refine wpAnyH_take (i := 0) (v := .agg #[.string g.cur, .int .i64 g.Y, .int .i64 g.M, .int .i64 g.N, .slice g.cA g.cn g.cc, .int .i64 g.r0, .int .i64 g.r1, .int .i64 g.r2, .int .i64 g.r3, .int .i64 g.r4, .int .i64 g.r5, .int .i64 g.r6, .int .i64 g.r7, .int .i64 g.r8, .int .i64 g.r9, .int .i64 g.r10, .int .i64 g.r11, .int .i64 g.r12, .int .i64 g.r13, .int .i64 g.r14, .slice g.eA g.en g.ec]) rfl (by kernel_rfl) (by kernel_rfl) (by kernel_rfl) (fun _ _ _ h => h) (yieldsIf_load_mid (by rfl) 29 _ rfl w.heap.size 0 rfl [.string g.cur, .int .i64 g.Y, .int .i64 g.M, .int .i64 g.N, .slice g.cA g.cn g.cc, .int .i64 g.r0, .int .i64 g.r1, .int .i64 g.r2, .int .i64 g.r3, .int .i64 g.r4, .int .i64 g.r5, .int .i64 g.r6, .int .i64 g.r7, .int .i64 g.r8, .int .i64 g.r9, .int .i64 g.r10, .int .i64 g.r11, .int .i64 g.r12, .int .i64 g.r13, .int .i64 g.r14, .slice g.eA g.en g.ec] _ (fun W' hS' => range_below hgx.out hS' swx) Tryz.underlying29 rfl grpSize) hS ?_
   try simp only [Act.put, z]
   refine wpAnyH_take (i := 1) (v := .slice (some ⟨b, o, none⟩) n c) rfl (by kernel_rfl) (by kernel_rfl) (by kernel_rfl) (fun _ _ _ h => h) (.inl ⟨by rfl, fun W' hS' => by go_simp⟩) hS ?_
   try simp only [Act.put, z]
   refine wpAnyH_take (i := 2) (v := .int .i64 k) rfl (by kernel_rfl) (by kernel_rfl) (by kernel_rfl) (fun _ _ _ h => h) (.inl ⟨by rfl, fun W' hS' => by go_simp⟩) hS ?_
   try simp only [Act.put, z]
   refine wpAnyH_take (i := 3) (v := .pointer (some ⟨b, o + k * 7, none⟩)) rfl (by kernel_rfl) (by kernel_rfl) (by kernel_rfl) (fun _ _ _ h => h) (.inl ⟨by rfl, fun W' hS' => by go_simp⟩) hS ?_
   try simp only [Act.put, z]
   refine wpAnyH_take (i := 4) (v := .pointer (some ⟨b, o + k * 7 + 3, none⟩)) rfl (by kernel_rfl) (by kernel_rfl) (by kernel_rfl) (fun _ _ _ h => h) (.inl ⟨by rfl, fun W' hS' => by go_simp⟩) hS ?_
   try simp only [Act.put, z]
   refine wpAnyH_take (i := 5) (v := .int .i64 ac) rfl (by kernel_rfl) (by kernel_rfl) (by kernel_rfl) (fun _ _ _ h => h) (.inl ⟨by rfl, fun W' hS' => by have hc := (hS'.cell (p := ⟨b, o + k * 7 + 3, none⟩) hbw).trans c3; go_simp⟩) hS ?_
   try simp only [Act.put, z]
   refine wpAnyH_ready (rs := [6]) (by kernel_rfl) (by simp) (AllReadyH.cons rfl (fun K hK => ?_) AllReadyH.nil)
   go_simp
   refine (kind_any W0 g ac (hgr.out.at_ hS)).mono ?_
   rintro e W6 ⟨rfl, hB6⟩
   have hS6 : Below wr.heap.size wr W6 := hS.trans (hB6.mono hS.size)
   have hq6 := hS6.size
   refine hK.out _ _ hS6 (fun _ => ?_)
   clear hK K
   try simp only [Act.put, z]
   obtain ⟨q, hqq⟩ : ∃ q, q = Gr.kind g ac := ⟨_, rfl⟩
   rw [<- hqq]
   have Hq := Lib.hid hqq
   clear hqq
   by_cases h3 : q = 3
   ·skip
    subst h3
    refine wpAnyH_take (i := 7) (v := .bool true) rfl (by kernel_rfl) (by kernel_rfl) (by kernel_rfl) (fun _ _ _ h => h) (.inl ⟨by rfl, fun W' hS' => by go_simp⟩) hS6 ?_
    try simp only [Act.put, z]
    refine wpAnyH_take (i := 8) (v := .bool true) rfl (by kernel_rfl) (by kernel_rfl) (by kernel_rfl) (fun _ _ _ h => h) (.inl ⟨by rfl, fun W' hS' => by go_simp⟩) hS6 ?_
    try simp only [Act.put, z]
    refine wpAnyH_take (i := 9) (v := .slice (some ⟨b, o, none⟩) n c) rfl (by kernel_rfl) (by kernel_rfl) (by kernel_rfl) (fun _ _ _ h => h) (.inl ⟨by rfl, fun W' hS' => by go_simp⟩) hS6 ?_
    try simp only [Act.put, z]
    refine wpAnyH_take (i := 10) (v := .int .i64 k) rfl (by kernel_rfl) (by kernel_rfl) (by kernel_rfl) (fun _ _ _ h => h) (.inl ⟨by rfl, fun W' hS' => by go_simp⟩) hS6 ?_
    try simp only [Act.put, z]
    refine wpAnyH_take (i := 11) (v := .pointer (some ⟨b, o + k * 7, none⟩)) rfl (by kernel_rfl) (by kernel_rfl) (by kernel_rfl) (fun _ _ _ h => h) (.inl ⟨by rfl, fun W' hS' => by go_simp⟩) hS6 ?_
    try simp only [Act.put, z]
    refine wpAnyH_take (i := 12) (v := .pointer (some ⟨b, o + k * 7 + 3, none⟩)) rfl (by kernel_rfl) (by kernel_rfl) (by kernel_rfl) (fun _ _ _ h => h) (.inl ⟨by rfl, fun W' hS' => by go_simp⟩) hS6 ?_
    try simp only [Act.put, z]
    refine wpAnyH_take (i := 13) (v := .int .i64 ac) rfl (by kernel_rfl) (by kernel_rfl) (by kernel_rfl) (fun _ _ _ h => h) (.inl ⟨by rfl, fun W' hS' => by have hc := (hS'.cell (p := ⟨b, o + k * 7 + 3, none⟩) hbw).trans c3; go_simp⟩) hS6 ?_
    try simp only [Act.put, z]
    refine wpAnyH_take (i := 14) (v := .pointer (some ⟨w.heap.size, 5, none⟩)) rfl (by kernel_rfl) (by kernel_rfl) (by kernel_rfl) (fun _ _ _ h => h) (.inl ⟨by rfl, fun W' hS' => by go_simp⟩) hS6 ?_
    try simp only [Act.put, z]
    refine wpAnyH_take (i := 15) (v := .pointer (some ⟨w.heap.size, 12, none⟩)) rfl (by kernel_rfl) (by kernel_rfl) (by kernel_rfl) (fun _ _ _ h => h) (.inl ⟨by rfl, fun W' hS' => by go_simp⟩) hS6 ?_
    try simp only [Act.put, z]
    refine wpAnyH_take (i := 16) (v := .int .i64 g.r7) rfl (by kernel_rfl) (by kernel_rfl) (by kernel_rfl) (fun _ _ _ h => h) (.inl ⟨by rfl, fun W' hS' => by have hc := (hS'.cell (p := ⟨w.heap.size, 12, none⟩) swx).trans (hgx.out 12 _ rfl); go_simp⟩) hS6 ?_
    try simp only [Act.put, z]
    by_cases h7 : ac = g.r7
    ·skip
     have h7b : (ac != g.r7) = false := by simp [h7]
     have HN2 := Lib.hid (HN.out.trans (by rw [if_neg (by rw [Gr.isEquity, decide_eq_false (not_not_intro h7), Bool.and_false]; simp), Int.add_zero]))
     clear h7
     refine wpAnyH_take (i := 17) (v := .bool false) rfl (by kernel_rfl) (by kernel_rfl) (by kernel_rfl) (fun _ _ _ h => h) (.inl ⟨by rfl, fun W' hS' => by go_simp⟩) hS6 ?_
     try simp only [Act.put, z]
     refine wpAnyH_take (i := 18) (v := .bool false) rfl (by kernel_rfl) (by kernel_rfl) (by kernel_rfl) (fun _ _ _ h => h) (.inl ⟨by rfl, fun W' hS' => by go_simp⟩) hS6 ?_
     try simp only [Act.put, z]
     refine wpAnyH_done (by kernel_rfl) ?_ _
     try simp only [Act.put, z]
     have hbr6 : Below W1.heap.size W1 W6 := hbr.trans (hS6.mono hq)
     have c6' := (hS6.cell (p := ⟨b, o + k * 7 + 6, none⟩) hbw).trans c6
     have hbw6 : b < W6.heap.size := by omega
     clear c3 c6 hB6 hS6 hS
     go_wp2
     go_roundw
     case rel => exact ⟨k + 1, by omega, by go_num, by rw [HN2.out], hbr6⟩
     case measure => simp [intOf]; omega
    ·skip
     have h7b : (ac != g.r7) = true := by simp [h7]
     have HN2 := Lib.hid (HN.out.trans (by rw [if_pos (by rw [Gr.isEquity, <- Hq.out, decide_eq_true h7]; rfl)]))
     clear h7
     refine wpAnyH_take (i := 17) (v := .bool true) rfl (by kernel_rfl) (by kernel_rfl) (by kernel_rfl) (fun _ _ _ h => h) (.inl ⟨by rfl, fun W' hS' => by go_simp⟩) hS6 ?_
     try simp only [Act.put, z]
     refine wpAnyH_take (i := 18) (v := .bool true) rfl (by kernel_rfl) (by kernel_rfl) (by kernel_rfl) (fun _ _ _ h => h) (.inl ⟨by rfl, fun W' hS' => by go_simp⟩) hS6 ?_
     try simp only [Act.put, z]
     refine wpAnyH_done (by kernel_rfl) ?_ _
     try simp only [Act.put, z]
     have hbr6 : Below W1.heap.size W1 W6 := hbr.trans (hS6.mono hq)
     have c6' := (hS6.cell (p := ⟨b, o + k * 7 + 6, none⟩) hbw).trans c6
     have hbw6 : b < W6.heap.size := by omega
     clear c3 c6 hB6 hS6 hS
     go_wp2_with (go_quiet (fail))
     go_roundw
     case rel => exact ⟨k + 1, by omega, by go_num, by rw [HN2.out], by first | exact hbr6 | exact below_drawn hbr6 _⟩
     case measure => simp [intOf]; omega
   ·skip
    have h3b : (q == 3) = false := by simp [h3]
    have HN2 := Lib.hid (HN.out.trans (by rw [if_neg (by rw [Gr.isEquity, <- Hq.out, decide_eq_false h3, Bool.false_and]; simp), Int.add_zero]))
    clear h3
    refine wpAnyH_take (i := 7) (v := .bool false) rfl (by kernel_rfl) (by kernel_rfl) (by kernel_rfl) (fun _ _ _ h => h) (.inl ⟨by rfl, fun W' hS' => by go_simp⟩) hS6 ?_
    try simp only [Act.put, z]
    refine wpAnyH_take (i := 8) (v := .bool false) rfl (by kernel_rfl) (by kernel_rfl) (by kernel_rfl) (fun _ _ _ h => h) (.inl ⟨by rfl, fun W' hS' => by go_simp⟩) hS6 ?_
    try simp only [Act.put, z]
    refine wpAnyH_take (i := 9) (v := undef) rfl (by kernel_rfl) (by kernel_rfl) (by kernel_rfl) (fun _ _ _ h => h) (.inr ⟨by rfl, rfl⟩) hS6 ?_
    try simp only [Act.put, z]
    refine wpAnyH_take (i := 10) (v := undef) rfl (by kernel_rfl) (by kernel_rfl) (by kernel_rfl) (fun _ _ _ h => h) (.inr ⟨by rfl, rfl⟩) hS6 ?_
    try simp only [Act.put, z]
    refine wpAnyH_take (i := 11) (v := undef) rfl (by kernel_rfl) (by kernel_rfl) (by kernel_rfl) (fun _ _ _ h => h) (.inr ⟨by rfl, rfl⟩) hS6 ?_
    try simp only [Act.put, z]
    refine wpAnyH_take (i := 12) (v := undef) rfl (by kernel_rfl) (by kernel_rfl) (by kernel_rfl) (fun _ _ _ h => h) (.inr ⟨by rfl, rfl⟩) hS6 ?_
    try simp only [Act.put, z]
    refine wpAnyH_take (i := 13) (v := undef) rfl (by kernel_rfl) (by kernel_rfl) (by kernel_rfl) (fun _ _ _ h => h) (.inr ⟨by rfl, rfl⟩) hS6 ?_
    try simp only [Act.put, z]
    refine wpAnyH_take (i := 14) (v := undef) rfl (by kernel_rfl) (by kernel_rfl) (by kernel_rfl) (fun _ _ _ h => h) (.inr ⟨by rfl, rfl⟩) hS6 ?_
    try simp only [Act.put, z]
    refine wpAnyH_take (i := 15) (v := undef) rfl (by kernel_rfl) (by kernel_rfl) (by kernel_rfl) (fun _ _ _ h => h) (.inr ⟨by rfl, rfl⟩) hS6 ?_
    try simp only [Act.put, z]
    refine wpAnyH_take (i := 16) (v := undef) rfl (by kernel_rfl) (by kernel_rfl) (by kernel_rfl) (fun _ _ _ h => h) (.inr ⟨by rfl, rfl⟩) hS6 ?_
    try simp only [Act.put, z]
    refine wpAnyH_take (i := 17) (v := undef) rfl (by kernel_rfl) (by kernel_rfl) (by kernel_rfl) (fun _ _ _ h => h) (.inr ⟨by rfl, rfl⟩) hS6 ?_
    try simp only [Act.put, z]
    refine wpAnyH_take (i := 18) (v := .bool false) rfl (by kernel_rfl) (by kernel_rfl) (by kernel_rfl) (fun _ _ _ h => h) (.inl ⟨by rfl, fun W' hS' => by go_simp⟩) hS6 ?_
    try simp only [Act.put, z]
    refine wpAnyH_done (by kernel_rfl) ?_ _
    try simp only [Act.put, z]
    have hbr6 : Below W1.heap.size W1 W6 := hbr.trans (hS6.mono hq)
    have c6' := (hS6.cell (p := ⟨b, o + k * 7 + 6, none⟩) hbw).trans c6
    have hbw6 : b < W6.heap.size := by omega
    clear c3 c6 hB6 hS6 hS
    go_wp2
    go_roundw
    case rel => exact ⟨k + 1, by omega, by go_num, by rw [HN2.out], hbr6⟩
    case measure => simp [intOf]; omega
  ·obtain rfl : k = n := by omega
   have HV : Hid (Gr.sumOf (Gr.isEquity g) l = s) := by
    show _ = _
    have := Hs.out
    rw [<- Hl.out, List.take_length] at this
    exact this.symm
   go_wp2
   go_ret
   exact ⟨by rw [HV.out]; rfl, hbF⟩
namespace R1
def rd (n N D : Int) : Int := Big.sgn (decide (Int.tdiv (n * N) (Int.gcd (n * N) (1 * D)) < 0)) (Int.tdiv (2 * ((Int.tdiv (n * N) (Int.gcd (n * N) (1 * D))).natAbs : Int) + Int.tdiv (1 * D) (Int.gcd (n * N) (1 * D))) (2 * Int.tdiv (1 * D) (Int.gcd (n * N) (1 * D))))
theorem red_pos (a : Int) {D : Int} (hD : 0 < D) : 0 < Int.tdiv D (Int.gcd a D) := by
 obtain ⟨q, hq⟩ := Int.gcd_dvd_right a D
 have h0 : (0 : Int) <= (Int.gcd a D : Int) := Int.natCast_nonneg _
 obtain ⟨G, hG⟩ : ∃ G, G = (Int.gcd a D : Int) := ⟨_, rfl⟩
 rw [<- hG] at hq h0 ⊢
 have hG0 : G ≠ 0 := by intro e; subst e; rw [Int.zero_mul] at hq; omega
 rw [hq, Int.mul_tdiv_cancel_left _ hG0]
 rw [hq] at hD
 exact Int.pos_of_mul_pos_right hD (by omega)
theorem round_any (k j : Nat) (v : Value) (n N D : Int) (hk : k <= 1000) (hj : j <= 1000) (hD : 0 < D) (hn0 : -1000000000000000 <= n) (hn1 : n <= 1000000000000000) (h1 : -10000000000000000 < rd n N D) (h2 : rd n N D < 10000000000000000) (h : RI w w.heap.size k j v N D) :
  Calls Tryz.prog 52 #[.int .i64 n, v] w fun e w' => e = .returned (.tuple #[.int .i64 (rd n N D), .bool true]) /\ Below w.heap.size w w' := by
 obtain ⟨g1, A1, n1, c1, g2, A2, n2, c2, rfl⟩ := h.open
 obtain ⟨hB0, hb0, hz⟩ := row_new w #[.bool g1, .slice A1 n1 c1, .bool g2, .slice A2 n2 c2] 78
 obtain ⟨W1, hW1⟩ : ∃ W1, W1 = (w.alloc (.cells #[.bool g1, .slice A1 n1 c1, .bool g2, .slice A2 n2 c2] 78)) := ⟨_, rfl⟩
 rw [<- hW1] at hB0 hb0 hz
 have HW := Lib.hid hW1
 have H := Lib.hid (h.at_ hB0)
 have s1 : w.heap.size < W1.heap.size := by omega
 have hS : Below W1.heap.size W1 W1.drew := below_drawn (Below.refl _ _) 1
 have hr := Lib.hid (range_row (cs := [.bool g1, .slice A1 n1 c1, .bool g2, .slice A2 n2 c2]) hb0)
 have HD := Lib.hid hD
 have HZ1 := Lib.hid h1
 have HZ2 := Lib.hid h2
 clear hW1 hz hb0 hD h1 h2 h
 go_enter Tryz.func52, Tryz.ntmps52
 go_upto_region 1 with (fail)
 rw [<- HW.out]
 refine wp_region_held (S := Below W1.heap.size W1) (by kernel_rfl) ?_
 change wpAnyH _ _ _ _ _ _ _ _ (World.drew _)
 obtain ⟨W0, hWd⟩ : ∃ W0, W0 = W1.drew := ⟨_, rfl⟩
 rw [<- hWd] at hS ⊢
 clear hWd
 refine wpAnyH_take (i := 0) (v := .int .i64 n) rfl (by kernel_rfl) (by kernel_rfl) (by kernel_rfl) (fun _ _ _ h => h) (.inl ⟨by rfl, fun W' hS' => by go_simp⟩) hS ?_
 try simp only [Act.put, z]
 refine wpAnyH_take (i := 2) (v := .agg #[.bool g1, .slice A1 n1 c1, .bool g2, .slice A2 n2 c2]) rfl (by kernel_rfl) (by kernel_rfl) (by kernel_rfl) (fun _ _ _ h => h) (yieldsIf_load_mid (by rfl) 78 _ rfl w.heap.size 0 rfl [.bool g1, .slice A1 n1 c1, .bool g2, .slice A2 n2 c2] _ (fun W' hS' => range_below hr.out hS' s1) Tryz.underlying78 rfl ratSize) hS ?_
 try simp only [Act.put, z]
 refine wpAnyH_ready (rs := [1]) (by kernel_rfl) (by simp) (AllReadyH.cons rfl (fun K hK => ?_) AllReadyH.nil)
 go_simp
 refine (ratint_any W0 n (by omega) (by omega)).mono ?_
 rintro e Wa ⟨⟨ra, rfl, hra⟩, hBa⟩
 have hSa : Below W1.heap.size W1 Wa := hS.trans (hBa.mono hS.size)
 refine hK.out _ _ hSa (fun _ => ?_)
 clear hK K
 try simp only [Act.put, z]
 refine wpAnyH_ready (rs := [3]) (by kernel_rfl) (by simp) (AllReadyH.cons rfl (fun K hK => ?_) AllReadyH.nil)
 go_simp
 refine (mul_rat Wa 5 5 k j _ _ n 1 N D (by omega) (by omega) (by omega) HD.out hra ((H.out.at_ hS).at_ hBa)).mono ?_
 rintro e Wb ⟨⟨rb, rfl, hrb⟩, hBb⟩
 have hSb : Below W1.heap.size W1 Wb := hSa.trans (hBb.mono hSa.size)
 refine hK.out _ _ hSb (fun _ => ?_)
 clear hK K
 try simp only [Act.put, z]
 refine wpAnyH_ready (rs := [4]) (by kernel_rfl) (by simp) (AllReadyH.cons rfl (fun K hK => ?_) AllReadyH.nil)
 go_simp
 refine (round_rat Wb (5 + k) (5 + j) _ _ _ (by omega) (by omega) (red_pos (n * N) (by rw [Int.one_mul]; exact HD.out)) hrb).mono ?_
 rintro e Wc ⟨⟨rc, rfl, hrc⟩, hBc⟩
 have hSc : Below W1.heap.size W1 Wc := hSb.trans (hBc.mono hSb.size)
 rw [show Big.sgn _ _ = rd n N D from rfl] at hrc
 refine hK.out _ _ hSc (fun _ => ?_)
 clear hK K
 try simp only [Act.put, z]
 refine wpAnyH_ready (rs := [5]) (by kernel_rfl) (by simp) (AllReadyH.cons rfl (fun K hK => ?_) AllReadyH.nil)
 go_simp
 refine (small_any Wc _ _ (rd n N D) HZ1.out HZ2.out hrc).mono ?_
 rintro e Wd ⟨rfl, hBd⟩
 have hSd : Below W1.heap.size W1 Wd := hSc.trans (hBd.mono hSc.size)
 refine hK.out _ _ hSd (fun _ => ?_)
 clear hK K
 try simp only [Act.put, z]
 refine wpAnyH_take (i := 6) (v := .int .i64 (rd n N D)) rfl (by kernel_rfl) (by kernel_rfl) (by kernel_rfl) (fun _ _ _ h => h) (.inl ⟨by rfl, fun W' hS' => by go_simp⟩) hSd ?_
 try simp only [Act.put, z]
 refine wpAnyH_take (i := 7) (v := .bool true) rfl (by kernel_rfl) (by kernel_rfl) (by kernel_rfl) (fun _ _ _ h => h) (.inl ⟨by rfl, fun W' hS' => by go_simp⟩) hSd ?_
 try simp only [Act.put, z]
 refine wpAnyH_take (i := 8) (v := .int .i64 (rd n N D)) rfl (by kernel_rfl) (by kernel_rfl) (by kernel_rfl) (fun _ _ _ h => h) (.inl ⟨by rfl, fun W' hS' => by go_simp⟩) hSd ?_
 try simp only [Act.put, z]
 refine wpAnyH_take (i := 9) (v := .bool true) rfl (by kernel_rfl) (by kernel_rfl) (by kernel_rfl) (fun _ _ _ h => h) (.inl ⟨by rfl, fun W' hS' => by go_simp⟩) hSd ?_
 try simp only [Act.put, z]
 refine wpAnyH_done (by kernel_rfl) ?_ _
 try simp only [Act.put, z]
 go_wp2
 go_ret2
 exact ⟨rfl, hB0.trans (hSd.mono hB0.size)⟩
end R1
end
end Go.Proofs.YtcblobokjhhboaaGreat
