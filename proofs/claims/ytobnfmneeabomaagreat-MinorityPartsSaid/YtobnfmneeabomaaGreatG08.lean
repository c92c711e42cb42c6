/- My texts IntOps. -/
import Derived.Test.YtobnfmneeabomaaGreatG06
import Derived.Test.YtobnfmneeabomaaGreatG07
set_option linter.unusedVariables false
set_option linter.unusedSimpArgs false
set_option maxRecDepth 100000
set_option maxHeartbeats 8000000
namespace Go.Proofs.YtobnfmneeabomaaGreat
open Go.RowKit

def RegS (w : World) (X Y : Array Value) (W' : World) : Prop :=
 Below w.heap.size w W' /\ W'.heap[w.heap.size]? = some (.cells X 88 (0, 0)) /\ W'.heap[w.heap.size + 1]? = some (.cells Y 88 (0, 0)) /\ ∃ cs : Array Value, W'.heap[w.heap.size + 2]? = some (.cells cs 88 (0, 0)) /\ cs.size = 2
theorem RegS.lt {w W : World} {X Y : Array Value} (h : RegS w X Y W) : w.heap.size + 2 < W.heap.size := by
 obtain ⟨_, _, _, cs, h, _⟩ := h
 exact (Array.getElem?_eq_some_iff.1 h).1
theorem RegS.step {w W W' : World} {X Y : Array Value} (h : RegS w X Y W) (hb : Below W.heap.size W W') : RegS w X Y W' := by
 have hlt := h.lt
 obtain ⟨h1, h2, h3, cs, h4, h5⟩ := h
 exact ⟨h1.trans (hb.mono h1.size), (hb.block _ (by omega)).trans h2, (hb.block _ (by omega)).trans h3, cs, (hb.block _ hlt).trans h4, h5⟩
theorem RegS.store {w W : World} {X Y : Array Value} (h : RegS w X Y W) (cs : Array Value) (hc : cs.size = 2) : RegS w X Y (W.setRow (w.heap.size + 2) cs) := by
 obtain ⟨h1, h2, h3, ds, h4, h5⟩ := h
 exact ⟨below_setRow h1 (by omega) _, (setRow_other _ _ _ _ (by omega)).trans h2, (setRow_other _ _ _ _ (by omega)).trans h3, cs, setRow_heap _ _ _ _ _ _ h4, hc⟩
theorem RegS.start (w : World) (X Y : Array Value) : RegS w X Y (((w.alloc (.cells X 88)).alloc (.cells Y 88)).alloc (.cells #[.bool false, .slice none 0 0] 88)) := by
 refine ⟨(((Below.refl _ _).alloc (Nat.le_refl _) _).alloc (by simp) _).alloc (by simp; omega) _, ?_, ?_, #[.bool false, .slice none 0 0], ?_, rfl⟩
 ·rw [Below.heap_alloc _ _ _ (by simp; omega), Below.heap_alloc _ _ _ (by simp)]; exact heap_alloc_new w _
 ·rw [Below.heap_alloc _ _ _ (by simp)]
  have := heap_alloc_new (w.alloc (.cells X 88)) (.cells Y 88)
  rwa [show (w.alloc (.cells X 88)).heap.size = w.heap.size + 1 by simp] at this
 ·have := heap_alloc_new ((w.alloc (.cells X 88)).alloc (.cells Y 88)) (.cells #[.bool false, .slice none 0 0] 88)
  rwa [show ((w.alloc (.cells X 88)).alloc (.cells Y 88)).heap.size = w.heap.size + 2 by simp] at this

theorem RegS.drew {w W : World} {X Y : Array Value} (h : RegS w X Y W) : RegS w X Y W.drew := ⟨below_drawn h.1 1, h.2⟩

section
variable (w : World)
theorem add_same (k j : Nat) (g : Bool) (A B : Option Addr) (n m c d : Nat) (l q : List Int) (hl : l.length = n) (hq : q.length = m) (hnk : n <= k) (hmj : m <= j) (hk : k <= 1000000 - 1) (hj : j <= 1000000 - 1) (hL : Big.Lim 1000000000 l) (hQ : Big.Lim 1000000000 q)
  (hA : LimbsAt .u32 w w.heap.size A l) (hB : LimbsAt .u32 w w.heap.size B q) :
  Calls Tryz.prog 67 #[.agg #[.bool g, .slice A n c], .agg #[.bool g, .slice B m d]] w fun e w' => (∃ u, e = .returned u /\ PI w' w'.heap.size (max k j + 1) u (Big.sgn g (Big.val 1000000000 l + Big.val 1000000000 q))) /\ Below w.heap.size w w' := by
 have hS0 := RegS.start w #[.bool g, .slice A n c] #[.bool g, .slice B m d]
 obtain ⟨W1, hW1⟩ : ∃ W1, W1 = (((w.alloc (.cells #[.bool g, .slice A n c] 88)).alloc (.cells #[.bool g, .slice B m d] 88)).alloc (.cells #[.bool false, .slice none 0 0] 88)) := ⟨_, rfl⟩
 rw [<- hW1] at hS0
 have HW := Lib.hid hW1
 clear hW1
 have hgg : (g == g) = true := by simp
 go_enter Tryz.func67, Tryz.ntmps67
 go_upto_region 2 with (fail)
 rw [<- HW.out]
 have hS := hS0.drew
 refine wp_region_held (S := RegS w #[.bool g, .slice A n c] #[.bool g, .slice B m d]) (by kernel_rfl) ?_
 change wpAnyH _ _ _ _ _ _ _ _ (World.drew _)
 refine tk (i := 0) (v := .pointer (some ⟨w.heap.size, 0, none⟩)) rfl (by kernel_rfl) (fun _ _ _ h => h) (.inl ⟨by rfl, fun W' hS' => by go_simp⟩) hS ?_
 try simp only [Act.put, List.setIfInBounds_toArray, List.set_cons_zero, List.set_cons_succ]
 refine tk (i := 1) (v := .bool g) rfl (by kernel_rfl) (fun _ _ _ h => h) (.inl ⟨by rfl, fun W' hS' => by have hc := cell_of_row _ _ 0 _ _ _ hS'.2.1; simp at hc; go_simp⟩) hS ?_
 try simp only [Act.put, List.setIfInBounds_toArray, List.set_cons_zero, List.set_cons_succ]
 refine tk (i := 2) (v := .pointer (some ⟨w.heap.size, 1, none⟩)) rfl (by kernel_rfl) (fun _ _ _ h => h) (.inl ⟨by rfl, fun W' hS' => by go_simp⟩) hS ?_
 try simp only [Act.put, List.setIfInBounds_toArray, List.set_cons_zero, List.set_cons_succ]
 refine tk (i := 3) (v := .slice A n c) rfl (by kernel_rfl) (fun _ _ _ h => h) (.inl ⟨by rfl, fun W' hS' => by have hc := cell_of_row _ _ 1 _ _ _ hS'.2.1; simp at hc; go_simp⟩) hS ?_
 try simp only [Act.put, List.setIfInBounds_toArray, List.set_cons_zero, List.set_cons_succ]
 refine tk (i := 4) (v := .pointer (some ⟨w.heap.size + 1, 1, none⟩)) rfl (by kernel_rfl) (fun _ _ _ h => h) (.inl ⟨by rfl, fun W' hS' => by go_simp⟩) hS ?_
 try simp only [Act.put, List.setIfInBounds_toArray, List.set_cons_zero, List.set_cons_succ]
 refine tk (i := 5) (v := .slice B m d) rfl (by kernel_rfl) (fun _ _ _ h => h) (.inl ⟨by rfl, fun W' hS' => by have hc := cell_of_row _ _ 1 _ _ _ hS'.2.2.1; simp at hc; go_simp⟩) hS ?_
 try simp only [Act.put, List.setIfInBounds_toArray, List.set_cons_zero, List.set_cons_succ]
 refine wpAnyH_ready (rs := [6]) (by kernel_rfl) (by simp) (AllReadyH.cons rfl (fun K hK => ?_) AllReadyH.nil)
 go_simp
 refine (plus_any W1.drew A B n m c d l q hl hq (by omega) (by omega) hL hQ (hA.at_ hS.1 (Nat.le_refl _)) (hB.at_ hS.1 (Nat.le_refl _))).mono ?_
 rintro e W4 ⟨hB4, A4, n4, c4, l4, rfl, hl4, hn4, hc4, hL4, hv4, hA4, hf4⟩
 have hS4 := hS.step hB4
 refine hK.out _ _ hS4 (fun _ => ?_)
 clear hK K
 try simp only [Act.put, List.setIfInBounds_toArray, List.set_cons_zero, List.set_cons_succ]
 have Hv4 := Lib.hid hv4
 have Hl4 := Lib.hid hl4
 clear hv4 hl4
 refine wpAnyH_ready (rs := [7]) (by kernel_rfl) (by simp) (AllReadyH.cons rfl (fun K hK => ?_) AllReadyH.nil)
 go_simp
 refine (signed_any W4 g A4 n4 c4 l4 Hl4.out (by omega) hc4 hA4).mono ?_
 rintro e W5 ⟨rfl, hB5⟩
 have hS5 := hS4.step hB5
 have hlt1 := hS.lt
 refine hK.out _ _ hS5 (fun _ => ?_)
 clear hK K
 try simp only [Act.put, List.setIfInBounds_toArray, List.set_cons_zero, List.set_cons_succ]
 refine wpAnyH_ready (rs := [8]) (by kernel_rfl) (by simp) (AllReadyH.cons rfl (fun K hK => ?_) AllReadyH.nil)
 rw [if_pos (by rfl)]
 obtain ⟨cs, hcs, hc2⟩ := hS5.2.2.2
 refine wp_store_row 88 _ _ none rfl rfl (w.heap.size + 2) 88 cs #[.bool (g && decide (0 < (Big.trim l4).length)), .slice A4 (Big.trim l4).length c4] rfl rfl hcs hc2 intSize (by simp [Value.oneCell']) ?_
 have hR6 := setRow_heap W5 (w.heap.size + 2) cs #[.bool (g && decide (0 < (Big.trim l4).length)), .slice A4 (Big.trim l4).length c4] _ _ hcs
 have hS6 := hS5.store #[.bool (g && decide (0 < (Big.trim l4).length)), .slice A4 (Big.trim l4).length c4] rfl
 refine hK.out _ _ hS6 (fun _ => ?_)
 clear hK K
 try simp only [Act.put, List.setIfInBounds_toArray, List.set_cons_zero, List.set_cons_succ]
 refine wpAnyH_done (by kernel_rfl) ?_ _
 have hA6 := (hA4.at_ hB5 (Nat.le_refl _)).other (w' := W5.setRow (w.heap.size + 2) #[.bool (g && decide (0 < (Big.trim l4).length)), .slice A4 (Big.trim l4).length c4]) (fun b o e => setRow_other _ _ _ _ (by have := hf4 b o e; omega))
 have HP := Lib.hid ((PI.mk (neg := g) Hl4.out hn4 hc4 hL4 hA6).more (C := (W5.setRow (w.heap.size + 2) #[.bool (g && decide (0 < (Big.trim l4).length)), .slice A4 (Big.trim l4).length c4]).heap.size) (j := max k j + 1) (by simp) (by omega))
 have hload := run_loadVar_row (P := Tryz.prog) _ _ _ 88 _ _ _ hR6 Tryz.underlying88 rfl intSize
 clear hA6
 go_wp2
 refine bodyPost_ret (v := .agg #[.bool (g && decide (0 < (Big.trim l4).length)), .slice A4 (Big.trim l4).length c4]) (by simp [results, Tryz.results67, asAddr, hload]) rfl ⟨⟨_, rfl, ?_⟩, hS6.1⟩
 have := HP.out
 rwa [Hv4.out] at this
theorem add_ge (k j : Nat) (g h : Bool) (A B : Option Addr) (n m c d : Nat) (l q : List Int) (hl : l.length = n) (hq : q.length = m) (hnk : n <= k) (hmj : m <= j) (hk : k <= 1000000 - 1) (hj : j <= 1000000 - 1) (hL : Big.Lim 1000000000 l) (hQ : Big.Lim 1000000000 q) (hNl : Big.Norm l) (hNq : Big.Norm q) (hgh : (g == h) = false) (hle : Big.val 1000000000 q <= Big.val 1000000000 l)
  (hA : LimbsAt .u32 w w.heap.size A l) (hB : LimbsAt .u32 w w.heap.size B q) :
  Calls Tryz.prog 67 #[.agg #[.bool g, .slice A n c], .agg #[.bool h, .slice B m d]] w fun e w' => (∃ u, e = .returned u /\ PI w' w'.heap.size (max k j + 1) u (Big.sgn g (Big.val 1000000000 l - Big.val 1000000000 q))) /\ Below w.heap.size w w' := by
 have hS0 := RegS.start w #[.bool g, .slice A n c] #[.bool h, .slice B m d]
 obtain ⟨W1, hW1⟩ : ∃ W1, W1 = (((w.alloc (.cells #[.bool g, .slice A n c] 88)).alloc (.cells #[.bool h, .slice B m d] 88)).alloc (.cells #[.bool false, .slice none 0 0] 88)) := ⟨_, rfl⟩
 rw [<- hW1] at hS0
 have HW := Lib.hid hW1
 clear hW1
 have hcm : 0 <= cm (Big.val 1000000000 l) (Big.val 1000000000 q) := by unfold cm; rw [if_neg (by omega)]; split <;> omega
 have hmn : m <= n := by
  rcases Nat.lt_or_ge n m with hh | hh
  ·have := Big.longer_lt (B := 1000000000) (by omega) hL hQ hNq (by omega); omega
  ·exact hh
 have Hle := Lib.hid hle
 clear hle
 have hq0 := hS0.lt
 have c0 := cell_of_row _ _ 1 _ _ _ hS0.2.1
 have c1 := cell_of_row _ _ 1 _ _ _ hS0.2.2.1
 simp at c0 c1
 obtain ⟨z, hz⟩ : ∃ z, cm (Big.val 1000000000 l) (Big.val 1000000000 q) = z := ⟨_, rfl⟩
 rw [hz] at hcm
 have Hz := Lib.hid hz
 clear hz
 go_enter Tryz.func67, Tryz.ntmps67
 go_upto_region 3 with (fail)
 rw [<- HW.out]
 go_wp2_with (fail)
 refine (compare_any W1 A B n m c d l q hl hq (by omega) (by omega) hL hQ hNl hNq (hA.at_ hS0.1 (Nat.le_refl _)) (hB.at_ hS0.1 (Nat.le_refl _))).mono ?_
 rw [Hz.out]
 rintro e W3 ⟨rfl, hB3⟩
 have hS3 := hS0.step hB3
 have hS := hS3.drew
 clear c0 c1
 go_upto_region 4 with (fail)
 refine wp_region_held (S := RegS w #[.bool g, .slice A n c] #[.bool h, .slice B m d]) (by kernel_rfl) ?_
 change wpAnyH _ _ _ _ _ _ _ _ (World.drew _)
 refine tk (i := 0) (v := .pointer (some ⟨w.heap.size, 0, none⟩)) rfl (by kernel_rfl) (fun _ _ _ h => h) (.inl ⟨by rfl, fun W' hS' => by go_simp⟩) hS ?_
 try simp only [Act.put, List.setIfInBounds_toArray, List.set_cons_zero, List.set_cons_succ]
 refine tk (i := 1) (v := .bool g) rfl (by kernel_rfl) (fun _ _ _ h => h) (.inl ⟨by rfl, fun W' hS' => by have hc := cell_of_row _ _ 0 _ _ _ hS'.2.1; simp at hc; go_simp⟩) hS ?_
 try simp only [Act.put, List.setIfInBounds_toArray, List.set_cons_zero, List.set_cons_succ]
 refine tk (i := 2) (v := .pointer (some ⟨w.heap.size, 1, none⟩)) rfl (by kernel_rfl) (fun _ _ _ h => h) (.inl ⟨by rfl, fun W' hS' => by go_simp⟩) hS ?_
 try simp only [Act.put, List.setIfInBounds_toArray, List.set_cons_zero, List.set_cons_succ]
 refine tk (i := 3) (v := .slice A n c) rfl (by kernel_rfl) (fun _ _ _ h => h) (.inl ⟨by rfl, fun W' hS' => by have hc := cell_of_row _ _ 1 _ _ _ hS'.2.1; simp at hc; go_simp⟩) hS ?_
 try simp only [Act.put, List.setIfInBounds_toArray, List.set_cons_zero, List.set_cons_succ]
 refine tk (i := 4) (v := .pointer (some ⟨w.heap.size + 1, 1, none⟩)) rfl (by kernel_rfl) (fun _ _ _ h => h) (.inl ⟨by rfl, fun W' hS' => by go_simp⟩) hS ?_
 try simp only [Act.put, List.setIfInBounds_toArray, List.set_cons_zero, List.set_cons_succ]
 refine tk (i := 5) (v := .slice B m d) rfl (by kernel_rfl) (fun _ _ _ h => h) (.inl ⟨by rfl, fun W' hS' => by have hc := cell_of_row _ _ 1 _ _ _ hS'.2.2.1; simp at hc; go_simp⟩) hS ?_
 try simp only [Act.put, List.setIfInBounds_toArray, List.set_cons_zero, List.set_cons_succ]
 refine wpAnyH_ready (rs := [6]) (by kernel_rfl) (by simp) (AllReadyH.cons rfl (fun K hK => ?_) AllReadyH.nil)
 go_simp
 refine (minus_any W3.drew A B n m c d l q hl hq hmn (by omega) (by omega) hL hQ Hle.out (hA.at_ hS.1 (Nat.le_refl _)) (hB.at_ hS.1 (Nat.le_refl _))).mono ?_
 rintro e W4 ⟨hB4, A4, n4, c4, l4, rfl, hl4, hn4, hc4, hL4, hv4, hA4, hf4⟩
 have hS4 := hS.step hB4
 refine hK.out _ _ hS4 (fun _ => ?_)
 clear hK K
 try simp only [Act.put, List.setIfInBounds_toArray, List.set_cons_zero, List.set_cons_succ]
 have Hv4 := Lib.hid hv4
 have Hl4 := Lib.hid hl4
 clear hv4 hl4
 refine wpAnyH_ready (rs := [7]) (by kernel_rfl) (by simp) (AllReadyH.cons rfl (fun K hK => ?_) AllReadyH.nil)
 go_simp
 refine (signed_any W4 g A4 n4 c4 l4 Hl4.out (by omega) hc4 hA4).mono ?_
 rintro e W5 ⟨rfl, hB5⟩
 have hS5 := hS4.step hB5
 have hlt1 := hS.lt
 refine hK.out _ _ hS5 (fun _ => ?_)
 clear hK K
 try simp only [Act.put, List.setIfInBounds_toArray, List.set_cons_zero, List.set_cons_succ]
 refine wpAnyH_ready (rs := [8]) (by kernel_rfl) (by simp) (AllReadyH.cons rfl (fun K hK => ?_) AllReadyH.nil)
 rw [if_pos (by rfl)]
 obtain ⟨cs, hcs, hc2⟩ := hS5.2.2.2
 refine wp_store_row 88 _ _ none rfl rfl (w.heap.size + 2) 88 cs #[.bool (g && decide (0 < (Big.trim l4).length)), .slice A4 (Big.trim l4).length c4] rfl rfl hcs hc2 intSize (by simp [Value.oneCell']) ?_
 have hR6 := setRow_heap W5 (w.heap.size + 2) cs #[.bool (g && decide (0 < (Big.trim l4).length)), .slice A4 (Big.trim l4).length c4] _ _ hcs
 have hS6 := hS5.store #[.bool (g && decide (0 < (Big.trim l4).length)), .slice A4 (Big.trim l4).length c4] rfl
 refine hK.out _ _ hS6 (fun _ => ?_)
 clear hK K
 try simp only [Act.put, List.setIfInBounds_toArray, List.set_cons_zero, List.set_cons_succ]
 refine wpAnyH_done (by kernel_rfl) ?_ _
 have hA6 := (hA4.at_ hB5 (Nat.le_refl _)).other (w' := W5.setRow (w.heap.size + 2) #[.bool (g && decide (0 < (Big.trim l4).length)), .slice A4 (Big.trim l4).length c4]) (fun b o e => setRow_other _ _ _ _ (by have := hf4 b o e; omega))
 have HP := Lib.hid ((PI.mk (neg := g) Hl4.out hn4 hc4 hL4 hA6).more (C := (W5.setRow (w.heap.size + 2) #[.bool (g && decide (0 < (Big.trim l4).length)), .slice A4 (Big.trim l4).length c4]).heap.size) (j := max k j + 1) (by simp) (by omega))
 have hload := run_loadVar_row (P := Tryz.prog) _ _ _ 88 _ _ _ hR6 Tryz.underlying88 rfl intSize
 clear hA6
 go_wp2
 refine bodyPost_ret (v := .agg #[.bool (g && decide (0 < (Big.trim l4).length)), .slice A4 (Big.trim l4).length c4]) (by simp [results, Tryz.results67, asAddr, hload]) rfl ⟨⟨_, rfl, ?_⟩, hS6.1⟩
 have := HP.out
 rwa [Hv4.out] at this
theorem add_lt (k j : Nat) (g h : Bool) (A B : Option Addr) (n m c d : Nat) (l q : List Int) (hl : l.length = n) (hq : q.length = m) (hnk : n <= k) (hmj : m <= j) (hk : k <= 1000000 - 1) (hj : j <= 1000000 - 1) (hL : Big.Lim 1000000000 l) (hQ : Big.Lim 1000000000 q) (hNl : Big.Norm l) (hNq : Big.Norm q) (hgh : (g == h) = false) (hle : Big.val 1000000000 l < Big.val 1000000000 q)
  (hA : LimbsAt .u32 w w.heap.size A l) (hB : LimbsAt .u32 w w.heap.size B q) :
  Calls Tryz.prog 67 #[.agg #[.bool g, .slice A n c], .agg #[.bool h, .slice B m d]] w fun e w' => (∃ u, e = .returned u /\ PI w' w'.heap.size (max k j + 1) u (Big.sgn h (Big.val 1000000000 q - Big.val 1000000000 l))) /\ Below w.heap.size w w' := by
 have hS0 := RegS.start w #[.bool g, .slice A n c] #[.bool h, .slice B m d]
 obtain ⟨W1, hW1⟩ : ∃ W1, W1 = (((w.alloc (.cells #[.bool g, .slice A n c] 88)).alloc (.cells #[.bool h, .slice B m d] 88)).alloc (.cells #[.bool false, .slice none 0 0] 88)) := ⟨_, rfl⟩
 rw [<- hW1] at hS0
 have HW := Lib.hid hW1
 clear hW1
 have hcm : cm (Big.val 1000000000 l) (Big.val 1000000000 q) < 0 := by unfold cm; rw [if_pos hle]; omega
 have hmn : n <= m := by
  rcases Nat.lt_or_ge m n with hh | hh
  ·have := Big.longer_lt (B := 1000000000) (by omega) hQ hL hNl (by omega); omega
  ·exact hh
 have Hle := Lib.hid hle
 clear hle
 have hq0 := hS0.lt
 have c0 := cell_of_row _ _ 1 _ _ _ hS0.2.1
 have c1 := cell_of_row _ _ 1 _ _ _ hS0.2.2.1
 simp at c0 c1
 obtain ⟨z, hz⟩ : ∃ z, cm (Big.val 1000000000 l) (Big.val 1000000000 q) = z := ⟨_, rfl⟩
 rw [hz] at hcm
 have Hz := Lib.hid hz
 clear hz
 go_enter Tryz.func67, Tryz.ntmps67
 go_upto_region 3 with (fail)
 rw [<- HW.out]
 go_wp2_with (fail)
 refine (compare_any W1 A B n m c d l q hl hq (by omega) (by omega) hL hQ hNl hNq (hA.at_ hS0.1 (Nat.le_refl _)) (hB.at_ hS0.1 (Nat.le_refl _))).mono ?_
 rw [Hz.out]
 rintro e W3 ⟨rfl, hB3⟩
 have hS3 := hS0.step hB3
 have hS := hS3.drew
 clear c0 c1
 go_upto_region 5 with (fail)
 refine wp_region_held (S := RegS w #[.bool g, .slice A n c] #[.bool h, .slice B m d]) (by kernel_rfl) ?_
 change wpAnyH _ _ _ _ _ _ _ _ (World.drew _)
 refine tk (i := 0) (v := .pointer (some ⟨w.heap.size + 1, 0, none⟩)) rfl (by kernel_rfl) (fun _ _ _ h => h) (.inl ⟨by rfl, fun W' hS' => by go_simp⟩) hS ?_
 try simp only [Act.put, List.setIfInBounds_toArray, List.set_cons_zero, List.set_cons_succ]
 refine tk (i := 1) (v := .bool h) rfl (by kernel_rfl) (fun _ _ _ h => h) (.inl ⟨by rfl, fun W' hS' => by have hc := cell_of_row _ _ 0 _ _ _ hS'.2.2.1; simp at hc; go_simp⟩) hS ?_
 try simp only [Act.put, List.setIfInBounds_toArray, List.set_cons_zero, List.set_cons_succ]
 refine tk (i := 2) (v := .pointer (some ⟨w.heap.size + 1, 1, none⟩)) rfl (by kernel_rfl) (fun _ _ _ h => h) (.inl ⟨by rfl, fun W' hS' => by go_simp⟩) hS ?_
 try simp only [Act.put, List.setIfInBounds_toArray, List.set_cons_zero, List.set_cons_succ]
 refine tk (i := 3) (v := .slice B m d) rfl (by kernel_rfl) (fun _ _ _ h => h) (.inl ⟨by rfl, fun W' hS' => by have hc := cell_of_row _ _ 1 _ _ _ hS'.2.2.1; simp at hc; go_simp⟩) hS ?_
 try simp only [Act.put, List.setIfInBounds_toArray, List.set_cons_zero, List.set_cons_succ]
 refine tk (i := 4) (v := .pointer (some ⟨w.heap.size, 1, none⟩)) rfl (by kernel_rfl) (fun _ _ _ h => h) (.inl ⟨by rfl, fun W' hS' => by go_simp⟩) hS ?_
 try simp only [Act.put, List.setIfInBounds_toArray, List.set_cons_zero, List.set_cons_succ]
 refine tk (i := 5) (v := .slice A n c) rfl (by kernel_rfl) (fun _ _ _ h => h) (.inl ⟨by rfl, fun W' hS' => by have hc := cell_of_row _ _ 1 _ _ _ hS'.2.1; simp at hc; go_simp⟩) hS ?_
 try simp only [Act.put, List.setIfInBounds_toArray, List.set_cons_zero, List.set_cons_succ]
 refine wpAnyH_ready (rs := [6]) (by kernel_rfl) (by simp) (AllReadyH.cons rfl (fun K hK => ?_) AllReadyH.nil)
 go_simp
 refine (minus_any W3.drew B A m n d c q l hq hl hmn (by omega) (by omega) hQ hL (Int.le_of_lt Hle.out) (hB.at_ hS.1 (Nat.le_refl _)) (hA.at_ hS.1 (Nat.le_refl _))).mono ?_
 rintro e W4 ⟨hB4, A4, n4, c4, l4, rfl, hl4, hn4, hc4, hL4, hv4, hA4, hf4⟩
 have hS4 := hS.step hB4
 refine hK.out _ _ hS4 (fun _ => ?_)
 clear hK K
 try simp only [Act.put, List.setIfInBounds_toArray, List.set_cons_zero, List.set_cons_succ]
 have Hv4 := Lib.hid hv4
 have Hl4 := Lib.hid hl4
 clear hv4 hl4
 refine wpAnyH_ready (rs := [7]) (by kernel_rfl) (by simp) (AllReadyH.cons rfl (fun K hK => ?_) AllReadyH.nil)
 go_simp
 refine (signed_any W4 h A4 n4 c4 l4 Hl4.out (by omega) hc4 hA4).mono ?_
 rintro e W5 ⟨rfl, hB5⟩
 have hS5 := hS4.step hB5
 have hlt1 := hS.lt
 refine hK.out _ _ hS5 (fun _ => ?_)
 clear hK K
 try simp only [Act.put, List.setIfInBounds_toArray, List.set_cons_zero, List.set_cons_succ]
 refine wpAnyH_ready (rs := [8]) (by kernel_rfl) (by simp) (AllReadyH.cons rfl (fun K hK => ?_) AllReadyH.nil)
 rw [if_pos (by rfl)]
 obtain ⟨cs, hcs, hc2⟩ := hS5.2.2.2
 refine wp_store_row 88 _ _ none rfl rfl (w.heap.size + 2) 88 cs #[.bool (h && decide (0 < (Big.trim l4).length)), .slice A4 (Big.trim l4).length c4] rfl rfl hcs hc2 intSize (by simp [Value.oneCell']) ?_
 have hR6 := setRow_heap W5 (w.heap.size + 2) cs #[.bool (h && decide (0 < (Big.trim l4).length)), .slice A4 (Big.trim l4).length c4] _ _ hcs
 have hS6 := hS5.store #[.bool (h && decide (0 < (Big.trim l4).length)), .slice A4 (Big.trim l4).length c4] rfl
 refine hK.out _ _ hS6 (fun _ => ?_)
 clear hK K
 try simp only [Act.put, List.setIfInBounds_toArray, List.set_cons_zero, List.set_cons_succ]
 refine wpAnyH_done (by kernel_rfl) ?_ _
 have hA6 := (hA4.at_ hB5 (Nat.le_refl _)).other (w' := W5.setRow (w.heap.size + 2) #[.bool (h && decide (0 < (Big.trim l4).length)), .slice A4 (Big.trim l4).length c4]) (fun b o e => setRow_other _ _ _ _ (by have := hf4 b o e; omega))
 have HP := Lib.hid ((PI.mk (neg := h) Hl4.out hn4 hc4 hL4 hA6).more (C := (W5.setRow (w.heap.size + 2) #[.bool (h && decide (0 < (Big.trim l4).length)), .slice A4 (Big.trim l4).length c4]).heap.size) (j := max k j + 1) (by simp) (by omega))
 have hload := run_loadVar_row (P := Tryz.prog) _ _ _ 88 _ _ _ hR6 Tryz.underlying88 rfl intSize
 clear hA6
 go_wp2
 refine bodyPost_ret (v := .agg #[.bool (h && decide (0 < (Big.trim l4).length)), .slice A4 (Big.trim l4).length c4]) (by simp [results, Tryz.results67, asAddr, hload]) rfl ⟨⟨_, rfl, ?_⟩, hS6.1⟩
 have := HP.out
 rwa [Hv4.out] at this
theorem mul_parts (k j : Nat) (g h : Bool) (A B : Option Addr) (n m c d : Nat) (l q : List Int) (hl : l.length = n) (hq : q.length = m) (hnk : n <= k) (hmj : m <= j) (hk : k <= 100000) (hj : j <= 100000) (hL : Big.Lim 1000000000 l) (hQ : Big.Lim 1000000000 q)
  (hA : LimbsAt .u32 w w.heap.size A l) (hB : LimbsAt .u32 w w.heap.size B q) :
  Calls Tryz.prog 68 #[.agg #[.bool g, .slice A n c], .agg #[.bool h, .slice B m d]] w fun e w' => (∃ u, e = .returned u /\ PI w' w'.heap.size (k + j) u (Big.sgn (g != h) (Big.val 1000000000 l * Big.val 1000000000 q))) /\ Below w.heap.size w w' := by
 have hS0 := RegS.start w #[.bool g, .slice A n c] #[.bool h, .slice B m d]
 obtain ⟨W1, hW1⟩ : ∃ W1, W1 = (((w.alloc (.cells #[.bool g, .slice A n c] 88)).alloc (.cells #[.bool h, .slice B m d] 88)).alloc (.cells #[.bool false, .slice none 0 0] 88)) := ⟨_, rfl⟩
 rw [<- hW1] at hS0
 have HW := Lib.hid hW1
 clear hW1
 go_enter Tryz.func68, Tryz.ntmps68
 go_upto_region 1 with (fail)
 rw [<- HW.out]
 have hS := hS0.drew
 refine wp_region_held (S := RegS w #[.bool g, .slice A n c] #[.bool h, .slice B m d]) (by kernel_rfl) ?_
 change wpAnyH _ _ _ _ _ _ _ _ (World.drew _)
 refine tk (i := 0) (v := .pointer (some ⟨w.heap.size, 0, none⟩)) rfl (by kernel_rfl) (fun _ _ _ h => h) (.inl ⟨by rfl, fun W' hS' => by go_simp⟩) hS ?_
 try simp only [Act.put, List.setIfInBounds_toArray, List.set_cons_zero, List.set_cons_succ]
 refine tk (i := 1) (v := .bool g) rfl (by kernel_rfl) (fun _ _ _ h => h) (.inl ⟨by rfl, fun W' hS' => by have hc := cell_of_row _ _ 0 _ _ _ hS'.2.1; simp at hc; go_simp⟩) hS ?_
 try simp only [Act.put, List.setIfInBounds_toArray, List.set_cons_zero, List.set_cons_succ]
 refine tk (i := 2) (v := .pointer (some ⟨w.heap.size + 1, 0, none⟩)) rfl (by kernel_rfl) (fun _ _ _ h => h) (.inl ⟨by rfl, fun W' hS' => by go_simp⟩) hS ?_
 try simp only [Act.put, List.setIfInBounds_toArray, List.set_cons_zero, List.set_cons_succ]
 refine tk (i := 3) (v := .bool h) rfl (by kernel_rfl) (fun _ _ _ h => h) (.inl ⟨by rfl, fun W' hS' => by have hc := cell_of_row _ _ 0 _ _ _ hS'.2.2.1; simp at hc; go_simp⟩) hS ?_
 try simp only [Act.put, List.setIfInBounds_toArray, List.set_cons_zero, List.set_cons_succ]
 refine tk (i := 4) (v := .bool (g != h)) rfl (by kernel_rfl) (fun _ _ _ h => h) (.inl ⟨by rfl, fun W' hS' => by go_simp; cases g <;> cases h <;> rfl⟩) hS ?_
 try simp only [Act.put, List.setIfInBounds_toArray, List.set_cons_zero, List.set_cons_succ]
 refine tk (i := 5) (v := .pointer (some ⟨w.heap.size, 1, none⟩)) rfl (by kernel_rfl) (fun _ _ _ h => h) (.inl ⟨by rfl, fun W' hS' => by go_simp⟩) hS ?_
 try simp only [Act.put, List.setIfInBounds_toArray, List.set_cons_zero, List.set_cons_succ]
 refine tk (i := 6) (v := .slice A n c) rfl (by kernel_rfl) (fun _ _ _ h => h) (.inl ⟨by rfl, fun W' hS' => by have hc := cell_of_row _ _ 1 _ _ _ hS'.2.1; simp at hc; go_simp⟩) hS ?_
 try simp only [Act.put, List.setIfInBounds_toArray, List.set_cons_zero, List.set_cons_succ]
 refine tk (i := 7) (v := .pointer (some ⟨w.heap.size + 1, 1, none⟩)) rfl (by kernel_rfl) (fun _ _ _ h => h) (.inl ⟨by rfl, fun W' hS' => by go_simp⟩) hS ?_
 try simp only [Act.put, List.setIfInBounds_toArray, List.set_cons_zero, List.set_cons_succ]
 refine tk (i := 8) (v := .slice B m d) rfl (by kernel_rfl) (fun _ _ _ h => h) (.inl ⟨by rfl, fun W' hS' => by have hc := cell_of_row _ _ 1 _ _ _ hS'.2.2.1; simp at hc; go_simp⟩) hS ?_
 try simp only [Act.put, List.setIfInBounds_toArray, List.set_cons_zero, List.set_cons_succ]
 refine wpAnyH_ready (rs := [9]) (by kernel_rfl) (by simp) (AllReadyH.cons rfl (fun K hK => ?_) AllReadyH.nil)
 go_simp
 refine (times_any W1.drew A B n m c d l q hl hq (by omega) (by omega) hL hQ (hA.at_ hS.1 (Nat.le_refl _)) (hB.at_ hS.1 (Nat.le_refl _))).mono ?_
 rintro e W4 ⟨hB4, A4, n4, c4, l4, rfl, hl4, hn4, hc4, hL4, hv4, hA4, hf4⟩
 have hS4 := hS.step hB4
 refine hK.out _ _ hS4 (fun _ => ?_)
 clear hK K
 try simp only [Act.put, List.setIfInBounds_toArray, List.set_cons_zero, List.set_cons_succ]
 have Hv4 := Lib.hid hv4
 have Hl4 := Lib.hid hl4
 clear hv4 hl4
 refine wpAnyH_ready (rs := [10]) (by kernel_rfl) (by simp) (AllReadyH.cons rfl (fun K hK => ?_) AllReadyH.nil)
 go_simp
 refine (signed_any W4 (g != h) A4 n4 c4 l4 Hl4.out (by omega) hc4 hA4).mono ?_
 rintro e W5 ⟨rfl, hB5⟩
 have hS5 := hS4.step hB5
 have hlt1 := hS.lt
 refine hK.out _ _ hS5 (fun _ => ?_)
 clear hK K
 try simp only [Act.put, List.setIfInBounds_toArray, List.set_cons_zero, List.set_cons_succ]
 refine wpAnyH_ready (rs := [11]) (by kernel_rfl) (by simp) (AllReadyH.cons rfl (fun K hK => ?_) AllReadyH.nil)
 rw [if_pos (by rfl)]
 obtain ⟨cs, hcs, hc2⟩ := hS5.2.2.2
 refine wp_store_row 88 _ _ none rfl rfl (w.heap.size + 2) 88 cs #[.bool ((g != h) && decide (0 < (Big.trim l4).length)), .slice A4 (Big.trim l4).length c4] rfl rfl hcs hc2 intSize (by simp [Value.oneCell']) ?_
 have hR6 := setRow_heap W5 (w.heap.size + 2) cs #[.bool ((g != h) && decide (0 < (Big.trim l4).length)), .slice A4 (Big.trim l4).length c4] _ _ hcs
 have hS6 := hS5.store #[.bool ((g != h) && decide (0 < (Big.trim l4).length)), .slice A4 (Big.trim l4).length c4] rfl
 refine hK.out _ _ hS6 (fun _ => ?_)
 clear hK K
 try simp only [Act.put, List.setIfInBounds_toArray, List.set_cons_zero, List.set_cons_succ]
 refine wpAnyH_done (by kernel_rfl) ?_ _
 have hA6 := (hA4.at_ hB5 (Nat.le_refl _)).other (w' := W5.setRow (w.heap.size + 2) #[.bool ((g != h) && decide (0 < (Big.trim l4).length)), .slice A4 (Big.trim l4).length c4]) (fun b o e => setRow_other _ _ _ _ (by have := hf4 b o e; omega))
 have HP := Lib.hid ((PI.mk (neg := (g != h)) Hl4.out hn4 hc4 hL4 hA6).more (C := (W5.setRow (w.heap.size + 2) #[.bool ((g != h) && decide (0 < (Big.trim l4).length)), .slice A4 (Big.trim l4).length c4]).heap.size) (j := k + j) (by simp) (by omega))
 have hload := run_loadVar_row (P := Tryz.prog) _ _ _ 88 _ _ _ hR6 Tryz.underlying88 rfl intSize
 clear hA6
 go_wp2
 refine bodyPost_ret (v := .agg #[.bool ((g != h) && decide (0 < (Big.trim l4).length)), .slice A4 (Big.trim l4).length c4]) (by simp [results, Tryz.results68, asAddr, hload]) rfl ⟨⟨_, rfl, ?_⟩, hS6.1⟩
 have := HP.out
 rwa [Hv4.out] at this

theorem add_int (k j : Nat) (u v : Value) (x y : Int) (hk : k <= 1000000 - 1) (hj : j <= 1000000 - 1) (hu : PI w w.heap.size k u x) (hv : PI w w.heap.size j v y) :
  Calls Tryz.prog 67 #[u, v] w fun e w' => (∃ r, e = .returned r /\ PI w' w'.heap.size (max k j + 1) r (x + y)) /\ Below w.heap.size w w' := by
 obtain ⟨g, A, n, c, l, rfl, hl, hn, hc, hL, hN, hx, hA, _⟩ := hu.parts
 obtain ⟨h, B, m, d, q, rfl, hq, hm, hd, hQ, hM, hy, hB, _⟩ := hv.parts
 by_cases hgh : g = h
 ·subst hgh
  have e : x + y = Big.sgn g (Big.val 1000000000 l + Big.val 1000000000 q) := by rw [hx, hy]; cases g <;> simp [Big.sgn]; omega
  rw [e]
  exact add_same w k j g A B n m c d l q hl hq hn hm hk hj hL hQ hA hB
 ·have hb : (g == h) = false := by simpa using hgh
  by_cases hle : Big.val 1000000000 q <= Big.val 1000000000 l
  ·have e : x + y = Big.sgn g (Big.val 1000000000 l - Big.val 1000000000 q) := by
    rw [hx, hy]; cases g <;> cases h <;> simp [Big.sgn] at hgh ⊢ <;> omega
   rw [e]
   exact add_ge w k j g h A B n m c d l q hl hq hn hm hk hj hL hQ hN hM hb hle hA hB
  ·have e : x + y = Big.sgn h (Big.val 1000000000 q - Big.val 1000000000 l) := by
    rw [hx, hy]; cases g <;> cases h <;> simp [Big.sgn] at hgh ⊢ <;> omega
   rw [e]
   exact add_lt w k j g h A B n m c d l q hl hq hn hm hk hj hL hQ hN hM hb (by omega) hA hB
theorem mul_int (k j : Nat) (u v : Value) (x y : Int) (hk : k <= 100000) (hj : j <= 100000) (hu : PI w w.heap.size k u x) (hv : PI w w.heap.size j v y) :
  Calls Tryz.prog 68 #[u, v] w fun e w' => (∃ r, e = .returned r /\ PI w' w'.heap.size (k + j) r (x * y)) /\ Below w.heap.size w w' := by
 obtain ⟨g, A, n, c, l, rfl, hl, hn, hc, hL, hN, hx, hA, _⟩ := hu.parts
 obtain ⟨h, B, m, d, q, rfl, hq, hm, hd, hQ, hM, hy, hB, _⟩ := hv.parts
 have e : x * y = Big.sgn (g != h) (Big.val 1000000000 l * Big.val 1000000000 q) := by
  rw [hx, hy]; cases g <;> cases h <;> simp [Big.sgn, Int.neg_mul, Int.mul_neg]
 rw [e]
 exact mul_parts w k j g h A B n m c d l q hl hq hn hm hk hj hL hQ hA hB
end
end Go.Proofs.YtobnfmneeabomaaGreat
