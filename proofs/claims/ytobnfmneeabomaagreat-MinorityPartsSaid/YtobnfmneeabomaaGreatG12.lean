/- My texts IntSmall. -/
import Derived.Test.YtobnfmneeabomaaGreatG11
set_option linter.unusedVariables false
set_option linter.unusedSimpArgs false
set_option maxRecDepth 100000
set_option maxHeartbeats 8000000
namespace Go.Proofs.YtobnfmneeabomaaGreat
open Go.RowKit

def RegU (w : World) (X : Array Value) (W' : World) : Prop := Below w.heap.size w W' /\ W'.heap[w.heap.size]? = some (.cells X 88 (0, 0))
theorem RegU.lt {w W : World} {X : Array Value} (h : RegU w X W) : w.heap.size < W.heap.size := (Array.getElem?_eq_some_iff.1 h.2).1
theorem RegU.step {w W W' : World} {X : Array Value} (h : RegU w X W) (hb : Below W.heap.size W W') : RegU w X W' := ⟨h.1.trans (hb.mono h.1.size), (hb.block _ h.lt).trans h.2⟩
theorem RegU.drew {w W : World} {X : Array Value} (h : RegU w X W) : RegU w X W.drew := ⟨below_drawn h.1 1, h.2⟩
theorem RegU.start (w : World) (X : Array Value) : RegU w X (w.alloc (.cells X 88)) := ⟨(Below.refl _ _).alloc (Nat.le_refl _) _, heap_alloc_new w _⟩
theorem drop_le {l : List Int} (hL : Big.Lim 1000000000 l) (k : Nat) (hk : k <= l.length) : Big.val 1000000000 (l.drop k) <= Big.val 1000000000 l /\ 0 <= Big.val 1000000000 (l.drop k) := by
 have h0 := Big.val_nonneg (B := 1000000000) (by omega) (hL.drop k)
 have h1 := Big.val_nonneg (B := 1000000000) (by omega) (hL.take k)
 have h2 := Big.val_split 1000000000 l k hk
 have h3 : 1 * Big.val 1000000000 (l.drop k) <= 1000000000 ^ k * Big.val 1000000000 (l.drop k) := Int.mul_le_mul_of_nonneg_right (by have := Big.pow_pos (B := 1000000000) (by omega) k; omega) h0
 omega
theorem wrap_u (v : Int) (h0 : 0 < v) (h1 : v <= 9223372036854775808) : IntKind.u64.wrap (-v) = twoTo64 - v := by
 unfold IntKind.wrap twoTo64
 simp [IntKind.signed, IntKind.bits]
 omega
theorem wrap_i (v : Int) (h0 : 0 < v) (h1 : v <= 9223372036854775808) : IntKind.i64.wrap (twoTo64 - v) = -v := by
 rw [IntKind.wrap_i64]; unfold twoTo64; omega

section
variable (w : World)
theorem small_lo (k : Nat) (v : Value) (x : Int) (hk : k <= 1000000) (hx : x < -9223372036854775808) (hv : PI w w.heap.size k v x) :
  Calls Tryz.prog 37 #[v] w fun e w' => e = .returned (.tuple #[.int .i64 0, .bool false]) /\ Below w.heap.size w w' := by
 have hv' := hv
 obtain ⟨g, A, n, c, l, rfl, hl, hn, hc, hL, hN, hxv, hA, hsx⟩ := hv.parts
 have hS0 := RegU.start w #[.bool g, .slice A n c]
 obtain ⟨W1, hW1⟩ : ∃ W1, W1 = w.alloc (.cells #[.bool g, .slice A n c] 88) := ⟨_, rfl⟩
 rw [<- hW1] at hS0
 have HW := Lib.hid hW1
 have Hc1 : Hid (cm x (-9223372036854775808) = -1) := by show _ = _; unfold cm; rw [if_pos hx]
 have HX := Lib.hid hxv
 have HS := Lib.hid hsx
 have Hx := Lib.hid hx
 have hS := hS0.drew
 clear hW1 hxv hsx hx
 go_enter Tryz.func37, Tryz.ntmps37
 go_upto_region 1 with (fail)
 rw [<- HW.out]
 refine wp_region_held (S := RegU w #[.bool g, .slice A n c]) (by kernel_rfl) ?_
 change wpAnyH _ _ _ _ _ _ _ _ (World.drew _)
 refine tk (i := 0) (v := .agg #[.bool g, .slice A n c]) rfl (by kernel_rfl) (fun _ _ _ h => h) (yieldsIf_load_mid (by rfl) 88 _ rfl w.heap.size 0 rfl [.bool g, .slice A n c] _ (fun W' hS' => range_of hS'.2) Tryz.underlying88 rfl intSize) hS ?_
 try simp only [Act.put, List.setIfInBounds_toArray, List.set_cons_zero, List.set_cons_succ]
 refine wpAnyH_ready (rs := [1]) (by kernel_rfl) (by simp) (AllReadyH.cons rfl (fun K hK => ?_) AllReadyH.nil)
 go_simp
 refine (of_int W1.drew (-9223372036854775808) (by omega) (by omega)).mono ?_
 rintro e W2 ⟨⟨r2, rfl, hr2⟩, hB2⟩
 have hS2 := hS.step hB2
 refine hK.out _ _ hS2 (fun _ => ?_)
 clear hK K
 try simp only [Act.put, List.setIfInBounds_toArray, List.set_cons_zero, List.set_cons_succ]
 refine wpAnyH_ready (rs := [2]) (by kernel_rfl) (by simp) (AllReadyH.cons rfl (fun K hK => ?_) AllReadyH.nil)
 go_simp
 refine (cmp_int W2 k 3 _ _ x (-9223372036854775808) hk (by omega) (hv'.at_ hS2.1) hr2).mono ?_
 rw [Hc1.out]
 rintro e W3 ⟨rfl, hB3⟩
 have hS3 := hS2.step hB3
 refine hK.out _ _ hS3 (fun _ => ?_)
 clear hK K
 try simp only [Act.put, List.setIfInBounds_toArray, List.set_cons_zero, List.set_cons_succ]
 refine tk (i := 3) (v := .bool true) rfl (by kernel_rfl) (fun _ _ _ h => h) (.inl ⟨by rfl, fun W' hS' => by go_simp⟩) hS3 ?_
 try simp only [Act.put, List.setIfInBounds_toArray, List.set_cons_zero, List.set_cons_succ]
 refine tk (i := 4) (v := .bool true) rfl (by kernel_rfl) (fun _ _ _ h => h) (.inl ⟨by rfl, fun W' hS' => by go_simp⟩) hS3 ?_
 try simp only [Act.put, List.setIfInBounds_toArray, List.set_cons_zero, List.set_cons_succ]
 refine tk (i := 5) (v := undef) rfl (by kernel_rfl) (fun _ _ _ h => h) (.inr ⟨by rfl, rfl⟩) hS3 ?_
 try simp only [Act.put, List.setIfInBounds_toArray, List.set_cons_zero, List.set_cons_succ]
 refine tk (i := 6) (v := undef) rfl (by kernel_rfl) (fun _ _ _ h => h) (.inr ⟨by rfl, rfl⟩) hS3 ?_
 try simp only [Act.put, List.setIfInBounds_toArray, List.set_cons_zero, List.set_cons_succ]
 refine tk (i := 7) (v := undef) rfl (by kernel_rfl) (fun _ _ _ h => h) (.inr ⟨by rfl, rfl⟩) hS3 ?_
 try simp only [Act.put, List.setIfInBounds_toArray, List.set_cons_zero, List.set_cons_succ]
 refine tk (i := 8) (v := undef) rfl (by kernel_rfl) (fun _ _ _ h => h) (.inr ⟨by rfl, rfl⟩) hS3 ?_
 try simp only [Act.put, List.setIfInBounds_toArray, List.set_cons_zero, List.set_cons_succ]
 refine wpAnyH_ready (rs := [9]) (by kernel_rfl) (by simp) (AllReadyH.cons rfl (fun K hK => ?_) AllReadyH.nil)
 go_simp
 refine hK.out _ _ hS3 (fun _ => ?_)
 clear hK K
 refine wpAnyH_done (by kernel_rfl) ?_ _
 go_wp2
 go_ret2
 exact ⟨rfl, hS3.1⟩
theorem small_hi (k : Nat) (v : Value) (x : Int) (hk : k <= 1000000) (hx : 9223372036854775807 < x) (hv : PI w w.heap.size k v x) :
  Calls Tryz.prog 37 #[v] w fun e w' => e = .returned (.tuple #[.int .i64 0, .bool false]) /\ Below w.heap.size w w' := by
 have hv' := hv
 obtain ⟨g, A, n, c, l, rfl, hl, hn, hc, hL, hN, hxv, hA, hsx⟩ := hv.parts
 have hS0 := RegU.start w #[.bool g, .slice A n c]
 obtain ⟨W1, hW1⟩ : ∃ W1, W1 = w.alloc (.cells #[.bool g, .slice A n c] 88) := ⟨_, rfl⟩
 rw [<- hW1] at hS0
 have HW := Lib.hid hW1
 have Hc1 : Hid (cm x (-9223372036854775808) = 1) := by show _ = _; unfold cm; rw [if_neg (by omega), if_pos (by omega)]
 have Hc2 : Hid (cm x 9223372036854775807 = 1) := by show _ = _; unfold cm; rw [if_neg (by omega), if_pos hx]
 have HX := Lib.hid hxv
 have HS := Lib.hid hsx
 have Hx := Lib.hid hx
 have hS := hS0.drew
 clear hW1 hxv hsx hx
 go_enter Tryz.func37, Tryz.ntmps37
 go_upto_region 1 with (fail)
 rw [<- HW.out]
 refine wp_region_held (S := RegU w #[.bool g, .slice A n c]) (by kernel_rfl) ?_
 change wpAnyH _ _ _ _ _ _ _ _ (World.drew _)
 refine tk (i := 0) (v := .agg #[.bool g, .slice A n c]) rfl (by kernel_rfl) (fun _ _ _ h => h) (yieldsIf_load_mid (by rfl) 88 _ rfl w.heap.size 0 rfl [.bool g, .slice A n c] _ (fun W' hS' => range_of hS'.2) Tryz.underlying88 rfl intSize) hS ?_
 try simp only [Act.put, List.setIfInBounds_toArray, List.set_cons_zero, List.set_cons_succ]
 refine wpAnyH_ready (rs := [1]) (by kernel_rfl) (by simp) (AllReadyH.cons rfl (fun K hK => ?_) AllReadyH.nil)
 go_simp
 refine (of_int W1.drew (-9223372036854775808) (by omega) (by omega)).mono ?_
 rintro e W2 ⟨⟨r2, rfl, hr2⟩, hB2⟩
 have hS2 := hS.step hB2
 refine hK.out _ _ hS2 (fun _ => ?_)
 clear hK K
 try simp only [Act.put, List.setIfInBounds_toArray, List.set_cons_zero, List.set_cons_succ]
 refine wpAnyH_ready (rs := [2]) (by kernel_rfl) (by simp) (AllReadyH.cons rfl (fun K hK => ?_) AllReadyH.nil)
 go_simp
 refine (cmp_int W2 k 3 _ _ x (-9223372036854775808) hk (by omega) (hv'.at_ hS2.1) hr2).mono ?_
 rw [Hc1.out]
 rintro e W3 ⟨rfl, hB3⟩
 have hS3 := hS2.step hB3
 refine hK.out _ _ hS3 (fun _ => ?_)
 clear hK K
 try simp only [Act.put, List.setIfInBounds_toArray, List.set_cons_zero, List.set_cons_succ]
 refine tk (i := 3) (v := .bool false) rfl (by kernel_rfl) (fun _ _ _ h => h) (.inl ⟨by rfl, fun W' hS' => by go_simp⟩) hS3 ?_
 try simp only [Act.put, List.setIfInBounds_toArray, List.set_cons_zero, List.set_cons_succ]
 refine tk (i := 4) (v := .bool false) rfl (by kernel_rfl) (fun _ _ _ h => h) (.inl ⟨by rfl, fun W' hS' => by go_simp⟩) hS3 ?_
 try simp only [Act.put, List.setIfInBounds_toArray, List.set_cons_zero, List.set_cons_succ]
 refine tk (i := 5) (v := .agg #[.bool g, .slice A n c]) rfl (by kernel_rfl) (fun _ _ _ h => h) (yieldsIf_load_mid (by rfl) 88 _ rfl w.heap.size 0 rfl [.bool g, .slice A n c] _ (fun W' hS' => range_of hS'.2) Tryz.underlying88 rfl intSize) hS3 ?_
 try simp only [Act.put, List.setIfInBounds_toArray, List.set_cons_zero, List.set_cons_succ]
 refine wpAnyH_ready (rs := [6]) (by kernel_rfl) (by simp) (AllReadyH.cons rfl (fun K hK => ?_) AllReadyH.nil)
 go_simp
 refine (of_int W3 9223372036854775807 (by omega) (by omega)).mono ?_
 rintro e W4 ⟨⟨r4, rfl, hr4⟩, hB4⟩
 have hS4 := hS3.step hB4
 refine hK.out _ _ hS4 (fun _ => ?_)
 clear hK K
 try simp only [Act.put, List.setIfInBounds_toArray, List.set_cons_zero, List.set_cons_succ]
 refine wpAnyH_ready (rs := [7]) (by kernel_rfl) (by simp) (AllReadyH.cons rfl (fun K hK => ?_) AllReadyH.nil)
 go_simp
 refine (cmp_int W4 k 3 _ _ x 9223372036854775807 hk (by omega) (hv'.at_ hS4.1) hr4).mono ?_
 rw [Hc2.out]
 rintro e W5 ⟨rfl, hB5⟩
 have hS5 := hS4.step hB5
 refine hK.out _ _ hS5 (fun _ => ?_)
 clear hK K
 try simp only [Act.put, List.setIfInBounds_toArray, List.set_cons_zero, List.set_cons_succ]
 refine tk (i := 8) (v := .bool true) rfl (by kernel_rfl) (fun _ _ _ h => h) (.inl ⟨by rfl, fun W' hS' => by go_simp⟩) hS5 ?_
 try simp only [Act.put, List.setIfInBounds_toArray, List.set_cons_zero, List.set_cons_succ]
 refine wpAnyH_ready (rs := [9]) (by kernel_rfl) (by simp) (AllReadyH.cons rfl (fun K hK => ?_) AllReadyH.nil)
 go_simp
 refine hK.out _ _ hS5 (fun _ => ?_)
 clear hK K
 refine wpAnyH_done (by kernel_rfl) ?_ _
 go_wp2
 go_ret2
 exact ⟨rfl, hS5.1⟩
theorem small_in (k : Nat) (v : Value) (x : Int) (hk : k <= 1000000) (hx : -9223372036854775808 <= x /\ x <= 9223372036854775807) (hv : PI w w.heap.size k v x) :
  Calls Tryz.prog 37 #[v] w fun e w' => e = .returned (.tuple #[.int .i64 x, .bool true]) /\ Below w.heap.size w w' := by
 have hv' := hv
 obtain ⟨g, A, n, c, l, rfl, hl, hn, hc, hL, hN, hxv, hA, hsx⟩ := hv.parts
 have hS0 := RegU.start w #[.bool g, .slice A n c]
 obtain ⟨W1, hW1⟩ : ∃ W1, W1 = w.alloc (.cells #[.bool g, .slice A n c] 88) := ⟨_, rfl⟩
 rw [<- hW1] at hS0
 have HW := Lib.hid hW1
 obtain ⟨y, hy⟩ : ∃ y, cm x (-9223372036854775808) = y := ⟨_, rfl⟩
 obtain ⟨z, hz⟩ : ∃ z, cm x 9223372036854775807 = z := ⟨_, rfl⟩
 have hy0 : 0 <= y := by rw [<- hy]; unfold cm; rw [if_neg (by omega)]; split <;> omega
 have hz0 : z <= 0 := by rw [<- hz]; unfold cm; split; omega; rw [if_neg (by omega)]; omega
 have Hc1 := Lib.hid hy
 have Hc2 := Lib.hid hz
 clear hy hz
 have HX := Lib.hid hxv
 have HS := Lib.hid hsx
 have Hx := Lib.hid hx
 have hS := hS0.drew
 clear hW1 hxv hsx hx
 go_enter Tryz.func37, Tryz.ntmps37
 go_upto_region 1 with (fail)
 rw [<- HW.out]
 refine wp_region_held (S := RegU w #[.bool g, .slice A n c]) (by kernel_rfl) ?_
 change wpAnyH _ _ _ _ _ _ _ _ (World.drew _)
 refine tk (i := 0) (v := .agg #[.bool g, .slice A n c]) rfl (by kernel_rfl) (fun _ _ _ h => h) (yieldsIf_load_mid (by rfl) 88 _ rfl w.heap.size 0 rfl [.bool g, .slice A n c] _ (fun W' hS' => range_of hS'.2) Tryz.underlying88 rfl intSize) hS ?_
 try simp only [Act.put, List.setIfInBounds_toArray, List.set_cons_zero, List.set_cons_succ]
 refine wpAnyH_ready (rs := [1]) (by kernel_rfl) (by simp) (AllReadyH.cons rfl (fun K hK => ?_) AllReadyH.nil)
 go_simp
 refine (of_int W1.drew (-9223372036854775808) (by omega) (by omega)).mono ?_
 rintro e W2 ⟨⟨r2, rfl, hr2⟩, hB2⟩
 have hS2 := hS.step hB2
 refine hK.out _ _ hS2 (fun _ => ?_)
 clear hK K
 try simp only [Act.put, List.setIfInBounds_toArray, List.set_cons_zero, List.set_cons_succ]
 refine wpAnyH_ready (rs := [2]) (by kernel_rfl) (by simp) (AllReadyH.cons rfl (fun K hK => ?_) AllReadyH.nil)
 go_simp
 refine (cmp_int W2 k 3 _ _ x (-9223372036854775808) hk (by omega) (hv'.at_ hS2.1) hr2).mono ?_
 rw [Hc1.out]
 rintro e W3 ⟨rfl, hB3⟩
 have hS3 := hS2.step hB3
 refine hK.out _ _ hS3 (fun _ => ?_)
 clear hK K
 try simp only [Act.put, List.setIfInBounds_toArray, List.set_cons_zero, List.set_cons_succ]
 refine tk (i := 3) (v := .bool false) rfl (by kernel_rfl) (fun _ _ _ h => h) (.inl ⟨by rfl, fun W' hS' => by go_simp⟩) hS3 ?_
 try simp only [Act.put, List.setIfInBounds_toArray, List.set_cons_zero, List.set_cons_succ]
 refine tk (i := 4) (v := .bool false) rfl (by kernel_rfl) (fun _ _ _ h => h) (.inl ⟨by rfl, fun W' hS' => by go_simp⟩) hS3 ?_
 try simp only [Act.put, List.setIfInBounds_toArray, List.set_cons_zero, List.set_cons_succ]
 refine tk (i := 5) (v := .agg #[.bool g, .slice A n c]) rfl (by kernel_rfl) (fun _ _ _ h => h) (yieldsIf_load_mid (by rfl) 88 _ rfl w.heap.size 0 rfl [.bool g, .slice A n c] _ (fun W' hS' => range_of hS'.2) Tryz.underlying88 rfl intSize) hS3 ?_
 try simp only [Act.put, List.setIfInBounds_toArray, List.set_cons_zero, List.set_cons_succ]
 refine wpAnyH_ready (rs := [6]) (by kernel_rfl) (by simp) (AllReadyH.cons rfl (fun K hK => ?_) AllReadyH.nil)
 go_simp
 refine (of_int W3 9223372036854775807 (by omega) (by omega)).mono ?_
 rintro e W4 ⟨⟨r4, rfl, hr4⟩, hB4⟩
 have hS4 := hS3.step hB4
 refine hK.out _ _ hS4 (fun _ => ?_)
 clear hK K
 try simp only [Act.put, List.setIfInBounds_toArray, List.set_cons_zero, List.set_cons_succ]
 refine wpAnyH_ready (rs := [7]) (by kernel_rfl) (by simp) (AllReadyH.cons rfl (fun K hK => ?_) AllReadyH.nil)
 go_simp
 refine (cmp_int W4 k 3 _ _ x 9223372036854775807 hk (by omega) (hv'.at_ hS4.1) hr4).mono ?_
 rw [Hc2.out]
 rintro e W5 ⟨rfl, hB5⟩
 have hS5 := hS4.step hB5
 refine hK.out _ _ hS5 (fun _ => ?_)
 clear hK K
 try simp only [Act.put, List.setIfInBounds_toArray, List.set_cons_zero, List.set_cons_succ]
 refine tk (i := 8) (v := .bool false) rfl (by kernel_rfl) (fun _ _ _ h => h) (.inl ⟨by rfl, fun W' hS' => by go_simp⟩) hS5 ?_
 try simp only [Act.put, List.setIfInBounds_toArray, List.set_cons_zero, List.set_cons_succ]
 refine wpAnyH_ready (rs := [9]) (by kernel_rfl) (by simp) (AllReadyH.cons rfl (fun K hK => ?_) AllReadyH.nil)
 go_simp
 refine hK.out _ _ hS5 (fun _ => ?_)
 clear hK K
 refine wpAnyH_done (by kernel_rfl) ?_ _
 subst hl
 have hA5 := hA.at_ hS5.1 (Nat.le_refl _)
 have c0 := cell_of_row _ _ 0 _ _ _ hS5.2
 have c1 := cell_of_row _ _ 1 _ _ _ hS5.2
 simp at c0 c1
 have hv63 : Big.val 1000000000 l <= 9223372036854775808 := by
  have h1 := HX.out
  have h2 := Hx.out
  cases g <;> simp [Big.sgn] at h1 <;> omega
 have HL := Lib.hid hL
 have hlt5 := hS5.lt
 clear hL hA hv hv' hS0 hS hS2 hS3 hS4 hB2 hB3 hB4 hB5 hr2 hr4
 go_wp2
 go_loopw [4, 5] (fun u i wr => ∃ k : Nat, k <= l.length /\ i = .int .i64 ((k : Int) - 1) /\ u = .int .u64 (Big.val 1000000000 (l.drop k)) /\ W5 = wr) (fun _ i _ => (intOf i + 1).toNat)
 case atStart => exact ⟨l.length, Nat.le_refl _, rfl, by rw [List.drop_length]; rfl, rfl⟩
 case round =>
  obtain ⟨k', hk', rfl, rfl, rfl⟩ := hrel
  match k', hk' with
  | 0, _ =>
   rw [List.drop_zero]
   have hv0 := Big.val_nonneg (B := 1000000000) (by omega) HL.out
   have h1 := HX.out
   cases hg : g with
   | false =>
    have hxe : Hid (x = Big.val 1000000000 l) := by show _ = _; rw [h1, hg]; rfl
    have hv2 : Big.val 1000000000 l <= 9223372036854775807 := by have := Hx.out; have := hxe.out; omega
    subst hg
    clear h1
    go_wp2
    go_ret2
    exact ⟨by rw [hxe.out]; rfl, hS5.1⟩
   | true =>
    have hxe : Hid (x = -Big.val 1000000000 l) := by show _ = _; rw [h1, hg]; rfl
    have hv2 : 0 < Big.val 1000000000 l := by
     have := hxe.out
     rcases HS.out with ⟨_, e, _⟩ | ⟨_, e, _⟩ | ⟨_, _, e⟩
     ·rw [hg] at e; cases e
     ·rw [hg] at e; cases e
     ·omega
    have w1 := wrap_u _ hv2 hv63
    have w2 := wrap_i _ hv2 hv63
    subst hg
    clear h1
    go_wp2
    go_ret2
    exact ⟨by rw [hxe.out]; rfl, hS5.1⟩
  | k' + 1, hk' =>
   rw [show ((k' + 1 : Nat) : Int) - 1 = (k' : Int) by omega]
   have hkl : k' < l.length := by omega
   obtain ⟨b, o, rfl, hbB, hx⟩ := hA5.look hkl
   have hxl := HL.out.get k' hkl
   have hx0 := hxl.1
   have hx1 := hxl.2
   have hd1 := drop_le HL.out k' (by omega)
   have hd2 := drop_le HL.out (k' + 1) (by omega)
   have hde := Big.val_drop 1000000000 l k' hkl
   have hd0 := hd2.2
   have hd3 : Big.val 1000000000 (l.drop (k' + 1)) * 1000000000 + l[k'] <= 9223372036854775808 := by omega
   have Hde : Hid (Big.val 1000000000 (l.drop k') = Big.val 1000000000 (l.drop (k' + 1)) * 1000000000 + l[k']) := by show _ = _; omega
   clear hxl hd1 hd2 hde
   go_wp2
   go_roundw
   case rel => exact ⟨k', by omega, by go_num, by rw [Hde.out], trivial⟩
   case measure => simp [intOf]
theorem small_any (k : Nat) (v : Value) (x : Int) (hk : k <= 1000000) (hv : PI w w.heap.size k v x) :
  Calls Tryz.prog 37 #[v] w fun e w' => e = .returned (.tuple #[.int .i64 (if -9223372036854775808 <= x /\ x <= 9223372036854775807 then x else 0), .bool (decide (-9223372036854775808 <= x /\ x <= 9223372036854775807))]) /\ Below w.heap.size w w' := by
 by_cases h : -9223372036854775808 <= x /\ x <= 9223372036854775807
 ·rw [if_pos h, decide_eq_true h]; exact small_in w k v x hk h hv
 ·rw [if_neg h, decide_eq_false h]
  by_cases h1 : x < -9223372036854775808
  ·exact small_lo w k v x hk h1 hv
  ·exact small_hi w k v x hk (by omega) hv
end
end Go.Proofs.YtobnfmneeabomaaGreat
