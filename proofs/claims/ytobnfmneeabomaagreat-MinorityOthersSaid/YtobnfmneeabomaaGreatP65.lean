/- My texts PostX. -/
import Derived.Test.YtobnfmneeabomaaGreatG14
import Derived.Test.YtobnfmneeabomaaGreatK46
set_option linter.unusedVariables false
set_option linter.unusedSimpArgs false
set_option maxRecDepth 100000
set_option maxHeartbeats 8000000
namespace Go.Proofs.YtobnfmneeabomaaGreat
open Go.RowKit
section
variable (w : World)
theorem isnan_any (x : Int) : Calls Tryz.prog 72 #[.int .i64 x] w fun e w' => e = .returned (.bool false) /\ w' = w := by
 go_enter Tryz.func72, Tryz.ntmps72
 have hb : (x != x) = false := by simp
 go_wp2
 go_ret
 exact ⟨rfl, rfl⟩
theorem cmp_same (x : Int) : Calls Tryz.prog 44 #[.int .i64 x, .int .i64 x] w fun e w' => e = .returned (.int .i64 0) /\ w' = w := by
 go_enter Tryz.func44, Tryz.ntmps44
 go_wp2_with (fail)
 refine (isnan_any w x).mono ?_
 rintro e w2 ⟨rfl, hw2⟩
 subst w2
 go_wp2_with (fail)
 refine (isnan_any w x).mono ?_
 rintro e w2 ⟨rfl, hw2⟩
 subst w2
 have h1 : ¬ x < x := by omega
 go_wp2
 go_ret
 exact ⟨rfl, rfl⟩
theorem or_zero (b : Nat) (n c : Nat) (hb : b < w.heap.size) (hn : n <= 1000) (h : ∀ k, k < n -> w.cell? ⟨b, k, none⟩ = some (.int .i64 0)) :
  Calls Tryz.prog 43 #[.slice (some ⟨b, 0, none⟩) n c] w fun e w' => e = .returned (.int .i64 0) /\ w' = w := by
 have H := Lib.hid h
 clear h
 go_enter Tryz.func43, Tryz.ntmps43
 go_wp2
 go_loopw [8] (fun i wr => ∃ k : Nat, k <= n /\ i = .int .i64 k /\ wr = w) (fun i _ => n - (intOf i).toNat)
 case atStart => exact ⟨0, Nat.zero_le _, rfl, rfl⟩
 case round =>
  obtain ⟨k, hk, rfl, hwr⟩ := hrel
  subst wr
  by_cases hlt : k < n
  ·have hk0 : (0 : Int) <= (k : Int) := by omega
   have hkn : (k : Int) < n := by omega
   have hc := H.out k hlt
   go_wp2
   go_roundw
   case rel => exact ⟨k + 1, by omega, by go_num, by simp⟩
   case measure => simp [intOf]; omega
  ·obtain rfl : k = n := by omega
   go_wp2
   go_ret
   exact ⟨rfl, rfl⟩
theorem eqparts_same (A A' : Option Addr) (n c c' : Nat) (l : List Prt) (hl : l.length = n) (hn : n <= 100000) (h : PrtsAt w w.heap.size A l) (h' : PrtsAt w w.heap.size A' l) :
  Calls Tryz.prog 29 #[.slice A n c, .slice A' n c'] w fun e w' => e = .returned (.bool true) /\ Below w.heap.size w w' := by
 have H := Lib.hid h
 have H' := Lib.hid h'
 have Hl := Lib.hid hl
 clear h h' hl
 go_enter Tryz.func29, Tryz.ntmps29
 have hnn : ((n : Int) != (n : Int)) = false := by simp
 go_wp2
 go_loopw [13] (fun i wr => ∃ k : Nat, k <= n /\ i = .int .i64 k /\ Below w.heap.size w wr) (fun i _ => n - (intOf i).toNat)
 case atStart => exact ⟨0, Nat.zero_le _, rfl, Below.refl _ _⟩
 case round =>
  obtain ⟨k, hk, rfl, hbr⟩ := hrel
  have hq := hbr.size
  by_cases hlt : k < n
  ·have hkl : k < l.length := by have := Hl.out; omega
   obtain ⟨b, o, hAe, hbB, hr⟩ := RowsAt.look (RowsAt.below H.out hbr (Nat.le_refl _)) hkl
   obtain ⟨b', o', hAe', hbB', hr'⟩ := RowsAt.look (RowsAt.below H'.out hbr (Nat.le_refl _)) hkl
   have hk0 : (0 : Int) <= (k : Int) := by omega
   have hkn : (k : Int) < n := by omega
   obtain ⟨y, hy⟩ : ∃ y, y = l[k] := ⟨_, rfl⟩
   rw [<- hy] at hr hr'
   obtain ⟨u, hu⟩ : ∃ u, u = y.acct := ⟨_, rfl⟩
   obtain ⟨v, hv⟩ : ∃ v, v = y.amt := ⟨_, rfl⟩
   have hcells : y.cells = [.int .i64 u, .int .i64 v] := by rw [hu, hv]; rfl
   rw [hcells] at hr hr'
   have Hr := Lib.hid hr
   have Hr' := Lib.hid hr'
   have HA := Lib.hid hAe
   have HA' := Lib.hid hAe'
   clear hy hu hv hcells hr hr' hAe hAe'
   have hV0 : Below wr.heap.size wr wr.drew := below_drawn (Below.refl _ _) 1
   go_upto_region 6 with (fail)
   refine wp_region_held (S := Below wr.heap.size wr) (by kernel_rfl) ?_
   change wpAnyH _ _ _ _ _ _ _ _ (World.drew wr)
   obtain ⟨W0, hWd⟩ : ∃ W0, W0 = wr.drew := ⟨_, rfl⟩
   rw [<- hWd] at hV0 ⊢
   clear hWd
   refine tk (i := 0) (v := .slice A n c) rfl (by kernel_rfl) (fun _ _ _ h => h) (.inl ⟨by rfl, fun W' hS' => by go_simp⟩) hV0 ?_
   try simp only [z]
   refine tk (i := 1) (v := .int .i64 k) rfl (by kernel_rfl) (fun _ _ _ h => h) (.inl ⟨by rfl, fun W' hS' => by go_simp⟩) hV0 ?_
   try simp only [z]
   refine tk (i := 2) (v := .pointer (some ⟨b, o + k * 2, none⟩)) rfl (by kernel_rfl) (fun _ _ _ h => h) (.inl ⟨by rfl, fun W' hS' => by have he := HA.out; rw [he]; go_simp⟩) hV0 ?_
   try simp only [z]
   refine tk (i := 3) (v := .agg #[.int .i64 u, .int .i64 v]) rfl (by kernel_rfl) (fun _ _ _ h => h) (yieldsIf_load_mid (by rfl) 67 _ rfl b (o + k * 2) rfl [.int .i64 u, .int .i64 v] _ (fun W' hS' => range_below Hr.out hS' (show b < wr.heap.size by omega)) Tryz.underlying67 rfl prtSize) hV0 ?_
   try simp only [z]
   refine tk (i := 4) (v := .slice A' n c') rfl (by kernel_rfl) (fun _ _ _ h => h) (.inl ⟨by rfl, fun W' hS' => by go_simp⟩) hV0 ?_
   try simp only [z]
   refine tk (i := 5) (v := .int .i64 k) rfl (by kernel_rfl) (fun _ _ _ h => h) (.inl ⟨by rfl, fun W' hS' => by go_simp⟩) hV0 ?_
   try simp only [z]
   refine tk (i := 6) (v := .pointer (some ⟨b', o' + k * 2, none⟩)) rfl (by kernel_rfl) (fun _ _ _ h => h) (.inl ⟨by rfl, fun W' hS' => by have he := HA'.out; rw [he]; go_simp⟩) hV0 ?_
   try simp only [z]
   refine tk (i := 7) (v := .agg #[.int .i64 u, .int .i64 v]) rfl (by kernel_rfl) (fun _ _ _ h => h) (yieldsIf_load_mid (by rfl) 67 _ rfl b' (o' + k * 2) rfl [.int .i64 u, .int .i64 v] _ (fun W' hS' => range_below Hr'.out hS' (show b' < wr.heap.size by omega)) Tryz.underlying67 rfl prtSize) hV0 ?_
   try simp only [z]
   refine tk (i := 8) (v := .bool false) rfl (by kernel_rfl) (fun _ _ _ h => h) (.inl ⟨by rfl, fun W' hS' => by (go_simp; try simp)⟩) hV0 ?_
   try simp only [z]
   refine wpAnyH_done (by kernel_rfl) ?_ _
   try simp only [z]
   have hbz := hbr.trans (hV0.mono hq)
   go_wp2
   go_roundw
   case rel => exact ⟨k + 1, by omega, by go_num, hbz⟩
   case measure => simp [intOf]; omega
  ·obtain rfl : k = n := by omega
   go_wp2
   go_ret
   exact ⟨rfl, hbr⟩
theorem comparepost_same (k x o r : Int) (A A' : Option Addr) (n c c' : Nat) :
  Calls Tryz.prog 28 #[.agg #[.int .i64 k, .int .i64 x, .int .i64 o, .int .i64 r, .slice A n c], .agg #[.int .i64 k, .int .i64 x, .int .i64 o, .int .i64 r, .slice A' n c']] w fun e w' => e = .returned (.int .i64 0) /\ Below w.heap.size w w' := by
 obtain ⟨W1, hW1, hB0, hb0, hb1, hz⟩ := nw2 w #[.int .i64 k, .int .i64 x, .int .i64 o, .int .i64 r, .slice A n c] #[.int .i64 k, .int .i64 x, .int .i64 o, .int .i64 r, .slice A' n c'] 53 53
 have HW := Lib.hid hW1
 have s1 : w.heap.size < W1.heap.size := by omega
 have s1' : w.heap.size + 1 < W1.heap.size := by omega
 have hr0 := range_row (cs := [.int .i64 k, .int .i64 x, .int .i64 o, .int .i64 r, .slice A n c]) hb0
 have hr1 := range_row (cs := [.int .i64 k, .int .i64 x, .int .i64 o, .int .i64 r, .slice A' n c']) hb1
 have R0 := Lib.hid hr0
 have R1' := Lib.hid hr1
 clear hW1 hz hb0 hb1 hr0 hr1
 go_enter Tryz.func28, Tryz.ntmps28
 go_upto_region 1 with (fail)
 rw [<- HW.out]
 have hV0 : Below W1.heap.size W1 W1.drew := below_drawn (Below.refl _ _) 1
 refine wp_region_held (S := Below W1.heap.size W1) (by kernel_rfl) ?_
 change wpAnyH _ _ _ _ _ _ _ _ (World.drew W1)
 obtain ⟨W0, hWd⟩ : ∃ W0, W0 = W1.drew := ⟨_, rfl⟩
 rw [<- hWd] at hV0 ⊢
 clear hWd
 refine tk (i := 0) (v := .pointer (some ⟨w.heap.size, 0, none⟩)) rfl (by kernel_rfl) (fun _ _ _ h => h) (.inl ⟨by rfl, fun W' hS' => by go_simp⟩) hV0 ?_
 try simp only [z]
 refine tk (i := 1) (v := .int .i64 k) rfl (by kernel_rfl) (fun _ _ _ h => h) (.inl ⟨by rfl, fun W' hS' => by have hc := (hS'.cell (p := ⟨w.heap.size, 0, none⟩) s1).trans (R0.out 0 _ rfl); go_simp⟩) hV0 ?_
 try simp only [z]
 refine tk (i := 2) (v := .pointer (some ⟨w.heap.size + 1, 0, none⟩)) rfl (by kernel_rfl) (fun _ _ _ h => h) (.inl ⟨by rfl, fun W' hS' => by go_simp⟩) hV0 ?_
 try simp only [z]
 refine tk (i := 3) (v := .int .i64 k) rfl (by kernel_rfl) (fun _ _ _ h => h) (.inl ⟨by rfl, fun W' hS' => by have hc := (hS'.cell (p := ⟨w.heap.size + 1, 0, none⟩) s1').trans (R1'.out 0 _ rfl); go_simp⟩) hV0 ?_
 try simp only [z]
 refine tk (i := 5) (v := .pointer (some ⟨w.heap.size, 1, none⟩)) rfl (by kernel_rfl) (fun _ _ _ h => h) (.inl ⟨by rfl, fun W' hS' => by go_simp⟩) hV0 ?_
 try simp only [z]
 refine tk (i := 6) (v := .int .i64 x) rfl (by kernel_rfl) (fun _ _ _ h => h) (.inl ⟨by rfl, fun W' hS' => by have hc := (hS'.cell (p := ⟨w.heap.size, 1, none⟩) s1).trans (R0.out 1 _ rfl); go_simp⟩) hV0 ?_
 try simp only [z]
 refine tk (i := 7) (v := .pointer (some ⟨w.heap.size + 1, 1, none⟩)) rfl (by kernel_rfl) (fun _ _ _ h => h) (.inl ⟨by rfl, fun W' hS' => by go_simp⟩) hV0 ?_
 try simp only [z]
 refine tk (i := 8) (v := .int .i64 x) rfl (by kernel_rfl) (fun _ _ _ h => h) (.inl ⟨by rfl, fun W' hS' => by have hc := (hS'.cell (p := ⟨w.heap.size + 1, 1, none⟩) s1').trans (R1'.out 1 _ rfl); go_simp⟩) hV0 ?_
 try simp only [z]
 refine tk (i := 10) (v := .pointer (some ⟨w.heap.size, 2, none⟩)) rfl (by kernel_rfl) (fun _ _ _ h => h) (.inl ⟨by rfl, fun W' hS' => by go_simp⟩) hV0 ?_
 try simp only [z]
 refine tk (i := 11) (v := .int .i64 o) rfl (by kernel_rfl) (fun _ _ _ h => h) (.inl ⟨by rfl, fun W' hS' => by have hc := (hS'.cell (p := ⟨w.heap.size, 2, none⟩) s1).trans (R0.out 2 _ rfl); go_simp⟩) hV0 ?_
 try simp only [z]
 refine tk (i := 12) (v := .pointer (some ⟨w.heap.size + 1, 2, none⟩)) rfl (by kernel_rfl) (fun _ _ _ h => h) (.inl ⟨by rfl, fun W' hS' => by go_simp⟩) hV0 ?_
 try simp only [z]
 refine tk (i := 13) (v := .int .i64 o) rfl (by kernel_rfl) (fun _ _ _ h => h) (.inl ⟨by rfl, fun W' hS' => by have hc := (hS'.cell (p := ⟨w.heap.size + 1, 2, none⟩) s1').trans (R1'.out 2 _ rfl); go_simp⟩) hV0 ?_
 try simp only [z]
 refine tk (i := 15) (v := .pointer (some ⟨w.heap.size, 3, none⟩)) rfl (by kernel_rfl) (fun _ _ _ h => h) (.inl ⟨by rfl, fun W' hS' => by go_simp⟩) hV0 ?_
 try simp only [z]
 refine tk (i := 16) (v := .int .i64 r) rfl (by kernel_rfl) (fun _ _ _ h => h) (.inl ⟨by rfl, fun W' hS' => by have hc := (hS'.cell (p := ⟨w.heap.size, 3, none⟩) s1).trans (R0.out 3 _ rfl); go_simp⟩) hV0 ?_
 try simp only [z]
 refine tk (i := 17) (v := .pointer (some ⟨w.heap.size + 1, 3, none⟩)) rfl (by kernel_rfl) (fun _ _ _ h => h) (.inl ⟨by rfl, fun W' hS' => by go_simp⟩) hV0 ?_
 try simp only [z]
 refine tk (i := 18) (v := .int .i64 r) rfl (by kernel_rfl) (fun _ _ _ h => h) (.inl ⟨by rfl, fun W' hS' => by have hc := (hS'.cell (p := ⟨w.heap.size + 1, 3, none⟩) s1').trans (R1'.out 3 _ rfl); go_simp⟩) hV0 ?_
 try simp only [z]
 refine wpAnyH_ready (rs := [4]) (by kernel_rfl) (by simp) (AllReadyH.cons rfl (fun K hK => ?_) AllReadyH.nil)
 go_simp
 refine (cmp_same W0 k).mono ?_
 rintro e V ⟨rfl, hVW⟩
 subst V
 refine hK.out _ _ hV0 (fun _ => ?_)
 clear hK K
 try simp only [z]
 refine wpAnyH_ready (rs := [9]) (by kernel_rfl) (by simp) (AllReadyH.cons rfl (fun K hK => ?_) AllReadyH.nil)
 go_simp
 refine (cmp_same W0 x).mono ?_
 rintro e V ⟨rfl, hVW⟩
 subst V
 refine hK.out _ _ hV0 (fun _ => ?_)
 clear hK K
 try simp only [z]
 refine wpAnyH_ready (rs := [14]) (by kernel_rfl) (by simp) (AllReadyH.cons rfl (fun K hK => ?_) AllReadyH.nil)
 go_simp
 refine (cmp_same W0 o).mono ?_
 rintro e V ⟨rfl, hVW⟩
 subst V
 refine hK.out _ _ hV0 (fun _ => ?_)
 clear hK K
 try simp only [z]
 refine wpAnyH_ready (rs := [19]) (by kernel_rfl) (by simp) (AllReadyH.cons rfl (fun K hK => ?_) AllReadyH.nil)
 go_simp
 refine (cmp_same W0 r).mono ?_
 rintro e V ⟨rfl, hVW⟩
 subst V
 refine hK.out _ _ hV0 (fun _ => ?_)
 clear hK K
 try simp only [z]
 refine wpAnyH_ready (rs := [20]) (by kernel_rfl) (by simp) (AllReadyH.cons rfl (fun K hK => ?_) AllReadyH.nil)
 obtain ⟨hBa, hrw, hsz⟩ := row_new W0 #[.int .i64 0, .int .i64 0, .int .i64 0, .int .i64 0] 3
 go_simp
 obtain ⟨V1, hWn⟩ : ∃ V1, V1 = W0.alloc (.cells #[.int .i64 0, .int .i64 0, .int .i64 0, .int .i64 0] 3) := ⟨_, rfl⟩
 rw [<- hWn] at hBa hrw hsz ⊢
 clear hWn
 have hVa := hV0.trans (hBa.mono hV0.size)
 refine hK.out _ _ hVa (fun _ => ?_)
 clear hK K
 try simp only [z]
 refine wpAnyH_ready (rs := [21]) (by kernel_rfl) (by simp) (AllReadyH.cons rfl (fun K hK => ?_) AllReadyH.nil)
 go_simp
 have hcs : ∀ j, j < 4 -> V1.cell? ⟨W0.heap.size, j, none⟩ = some (.int .i64 0) := by
  intro j hj
  rw [cell_of_row _ _ _ _ _ _ hrw]
  match j, hj with
  | 0, _ => rfl
  | 1, _ => rfl
  | 2, _ => rfl
  | 3, _ => rfl
 refine (or_zero V1 W0.heap.size 4 4 (some_lt hrw) (by omega) hcs).mono ?_
 rintro e V ⟨rfl, hVW⟩
 subst V
 refine hK.out _ _ hVa (fun _ => ?_)
 clear hK K
 try simp only [z]
 refine wpAnyH_ready (rs := [22]) (by kernel_rfl) (by simp) (AllReadyH.cons rfl (fun K hK => ?_) AllReadyH.nil)
 go_simp
 refine hK.out _ _ hVa (fun _ => ?_)
 clear hK K
 try simp only [z]
 refine wpAnyH_done (by kernel_rfl) ?_ _
 try simp only [z]
 go_wp2
 go_ret
 exact ⟨rfl, hB0.trans (hVa.mono hB0.size)⟩
theorem equald_same (k x o r : Int) (A A' : Option Addr) (n c c' : Nat) (l : List Prt) (hl : l.length = n) (hn : n <= 100000) (h : PrtsAt w w.heap.size A l) (h' : PrtsAt w w.heap.size A' l) :
  Calls Tryz.prog 12 #[.agg #[.int .i64 k, .int .i64 x, .int .i64 o, .int .i64 r, .slice A n c], .agg #[.int .i64 k, .int .i64 x, .int .i64 o, .int .i64 r, .slice A' n c']] w fun e w' => e = .returned (.bool true) /\ Below w.heap.size w w' := by
 obtain ⟨W1, hW1, hB0, hb0, hb1, hz⟩ := nw2 w #[.int .i64 k, .int .i64 x, .int .i64 o, .int .i64 r, .slice A n c] #[.int .i64 k, .int .i64 x, .int .i64 o, .int .i64 r, .slice A' n c'] 53 53
 have HW := Lib.hid hW1
 have s1 : w.heap.size < W1.heap.size := by omega
 have s1' : w.heap.size + 1 < W1.heap.size := by omega
 have Hb0 := Lib.hid hb0
 have Hb1 := Lib.hid hb1
 have r0 := Lib.hid (range_row (cs := [.int .i64 k, .int .i64 x, .int .i64 o, .int .i64 r, .slice A n c]) hb0)
 have r1 := Lib.hid (range_row (cs := [.int .i64 k, .int .i64 x, .int .i64 o, .int .i64 r, .slice A' n c']) hb1)
 have H := Lib.hid (RowsAt.at_ h hB0)
 have H' := Lib.hid (RowsAt.at_ h' hB0)
 have Hl := Lib.hid hl
 clear hW1 hz hb0 hb1 h h' hl
 go_enter Tryz.func12, Tryz.ntmps12
 go_upto_region 1 with (fail)
 rw [<- HW.out]
 go_wp2_with (first | (refine wpList_load_mid rfl 53 (.tmp 2) rfl w.heap.size 0 rfl [.int .i64 k, .int .i64 x, .int .i64 o, .int .i64 r, .slice A n c] _ r0.out Tryz.underlying53 rfl postSize ?_) | (refine wpList_load_mid rfl 53 (.tmp 3) rfl (w.heap.size + 1) 0 rfl [.int .i64 k, .int .i64 x, .int .i64 o, .int .i64 r, .slice A' n c'] _ r1.out Tryz.underlying53 rfl postSize ?_))
 refine (comparepost_same W1 k x o r A A' n c c').mono ?_
 rintro e W2 ⟨rfl, hB2⟩
 have c0 := gbox Hb0.out hB2 s1
 have c1 := gbox Hb1.out hB2 s1'
 have a0 := cell_of_row _ _ 4 _ _ _ c0
 have a1 := cell_of_row _ _ 4 _ _ _ c1
 simp at a0 a1
 have s2 := some_lt c0
 have s2' := some_lt c1
 have hB02 := hB0.trans (hB2.mono hB0.size)
 clear c0 c1
 go_wp2_with (fail)
 refine (eqparts_same W2 A A' n c c' l Hl.out hn (RowsAt.at_ H.out hB2) (RowsAt.at_ H'.out hB2)).mono ?_
 rintro e W3 ⟨rfl, hB3⟩
 go_wp2
 go_ret
 exact ⟨rfl, hB02.trans (hB3.mono hB02.size)⟩
end
end Go.Proofs.YtobnfmneeabomaaGreat
