/- My texts SmpV, Awake41. -/
import Derived.Test.YtcblobokjhhboaaGreatH44
import Derived.Test.YtcblobokjhhboaaGreatH46
import Derived.Test.YtcblobokjhhboaaGreatH47
set_option linter.unusedVariables false
set_option linter.unusedSimpArgs false
set_option maxRecDepth 100000
set_option maxHeartbeats 8000000
namespace Go.Proofs.YtcblobokjhhboaaGreat
open Go.RowKit
namespace Smp
theorem valid (A : Option Addr) (c : Nat) (eA : Option Addr) (ec : Nat) (x0 x1 x2 x3 : EntA) : Gr.valid (grp A c eA ec x0 x1 x2 x3) = true := by kernel_rfl
def raw41 (H : Option Addr) : Raw := ⟨1, 1, 0, 3, 10, 1, 1, none, 0, 0, H, 2, 2, [], [⟨0, 0, 0, 4000, 0, 0, -50⟩, ⟨0, 0, 0, 3300, 0, 0, -17⟩]⟩
theorem raw41_ok (H : Option Addr) : (raw41 H).ok = true := by kernel_rfl
theorem apost41 (A : Option Addr) (c : Nat) (eA : Option Addr) (ec : Nat) (x0 x1 x2 x3 : EntA) (H : Option Addr) : Gr.apost (grp A c eA ec x0 x1 x2 x3) [(raw41 H).cnt] 1 = ([⟨1700, 20⟩, ⟨3300, -5⟩, ⟨4600, -15⟩], 0) := by kernel_rfl
end Smp
section
variable (w : World)
theorem awake41_any : Calls Tryz.prog 13 #[] w fun e w' => e = .returned (.bool true) /\ Below w.heap.size w w' := by
 obtain ⟨hB1, hb0, hb1, hz⟩ := row_new2 w #[.int .i64 0, .int .i64 0, .int .i64 0, .int .i64 4000, .int .i64 0, .int .i64 0, .int .i64 (-50), .int .i64 0, .int .i64 0, .int .i64 0, .int .i64 3300, .int .i64 0, .int .i64 0, .int .i64 (-17)] #[.int .i64 1, .int .i64 1, .int .i64 0, .int .i64 3, .int .i64 10, .int .i64 1, .int .i64 1, .slice none 0 0, .slice (some ⟨w.heap.size, 0, none⟩) 2 2] 90 57
 obtain ⟨W1, hW1⟩ : ∃ W1, W1 = ((w.alloc (.cells #[.int .i64 0, .int .i64 0, .int .i64 0, .int .i64 4000, .int .i64 0, .int .i64 0, .int .i64 (-50), .int .i64 0, .int .i64 0, .int .i64 0, .int .i64 3300, .int .i64 0, .int .i64 0, .int .i64 (-17)] 90)).alloc (.cells #[.int .i64 1, .int .i64 1, .int .i64 0, .int .i64 3, .int .i64 10, .int .i64 1, .int .i64 1, .slice none 0 0, .slice (some ⟨w.heap.size, 0, none⟩) 2 2] 57)) := ⟨_, rfl⟩
 rw [<- hW1] at hB1 hb0 hb1 hz
 have HW1 := Lib.hid hW1
 obtain ⟨x, hx⟩ : ∃ x, x = Smp.raw41 (some ⟨w.heap.size, 0, none⟩) := ⟨_, rfl⟩
 have hxat : x.At W1 W1.heap.size := by
  subst hx
  exact ⟨rfl, show (0 : Nat) <= 9223372036854775807 by decide, .inl rfl, rfl, show (2 : Nat) <= 9223372036854775807 by decide, rows_flat (f := Itm.cells) (l := (Smp.raw41 (some ⟨w.heap.size, 0, none⟩)).shs) hb0 (some_lt hb0) (fun _ _ => rfl)⟩
 have hxr : RawsAt W1 W1.heap.size (some ⟨w.heap.size + 1, 0, none⟩) [x] := by
  subst hx
  exact rows_flat (f := Raw.cells) (l := [Smp.raw41 (some ⟨w.heap.size, 0, none⟩)]) hb1 (some_lt hb1) (fun _ _ => rfl)
 have hxo : x.ok = true := by rw [hx]; exact Smp.raw41_ok _
 have Hat := Lib.hid hxat
 have Hxr := Lib.hid hxr
 have Hxo := Lib.hid hxo
 have Hx := Lib.hid hx
 clear hW1 hz hb0 hb1 hxat hxr hxo hx
 go_enter Tryz.func13, Tryz.ntmps13
 go_upto_region 2 with (fail)
 rw [<- HW1.out]
 go_wp2_with (fail)
 refine (sample_any W1).mono ?_
 rintro e W2 ⟨hB2, g, rfl, hg, hgs⟩
 have HG := Lib.hid hg
 have HGS := Lib.hid hgs
 have Hown := Lib.hid (own41_any W2 (some ⟨w.heap.size + 1, 0, none⟩) 1 1 [x] rfl (by decide) (RowsAt.at_ Hxr.out hB2) (fun y hy => by
  rw [List.mem_singleton] at hy; subst hy; exact (Hat.out.below hB2 (Nat.le_refl _)).more hB2.size) (fun y hy => by
  rw [List.mem_singleton] at hy; subst hy; exact Hxo.out))
 have hB02 := hB1.trans (hB2.mono hB1.size)
 clear hg hgs
 go_wp2_with (fail)
 refine Hown.out.mono ?_
 rintro e W3 ⟨hB3, A, c, cs, rfl, hcl, hcs, hho⟩
 have hB03 := hB02.trans (hB3.mono hB02.size)
 have Hpost := Lib.hid (apostd_any W3 g A 1 c cs ([x].map Raw.cnt) 1 hcl (by decide) hcs hho (HG.out.at_ hB3))
 have hap : Gr.apost g ([x].map Raw.cnt) 1 = ([⟨1700, 20⟩, ⟨3300, -5⟩, ⟨4600, -15⟩], 0) := by
  obtain ⟨a, b, d, e, x0, x1, x2, x3, he⟩ := HGS.out
  rw [he, Hx.out]
  exact Smp.apost41 a b d e x0 x1 x2 x3 _
 have HAP := Lib.hid hap
 clear hcs hho hap hcl
 simp only [List.length_cons, List.length_nil, Nat.reduceAdd]
 go_wp2_with (fail)
 refine Hpost.out.mono ?_
 rintro e W4 ⟨hB4, hP⟩
 rw [HAP.out] at hP
 have hB04 := hB03.trans (hB4.mono hB03.size)
 rcases hP with ⟨h, _⟩ | ⟨_, _, A4, c4, hfr, rfl, hA4⟩
 ·rcases h with h | h
  ·exact absurd rfl h
  ·cases h
 have HA4 := Lib.hid hA4
 obtain ⟨hB5, hb5, hz5⟩ := row_new W4 #[.int .i64 7, .int .i64 1, .int .i64 (-1), .int .i64 0, .slice A4 3 c4] 49
 obtain ⟨W5, hW5⟩ : ∃ W5, W5 = W4.alloc (.cells #[.int .i64 7, .int .i64 1, .int .i64 (-1), .int .i64 0, .slice A4 3 c4] 49) := ⟨_, rfl⟩
 rw [<- hW5] at hB5 hb5 hz5
 have HW5 := Lib.hid hW5
 have hB05 := hB04.trans (hB5.mono hB04.size)
 have x4 := cell_of_row _ _ 4 _ _ _ hb5
 simp at x4
 have hpl := some_lt hb5
 obtain ⟨hB6, hb6, hz6⟩ := row_new W5 #[.int .i64 1700, .int .i64 20, .int .i64 3300, .int .i64 (-5), .int .i64 4600, .int .i64 (-15)] 106
 obtain ⟨W6, hW6⟩ : ∃ W6, W6 = W5.alloc (.cells #[.int .i64 1700, .int .i64 20, .int .i64 3300, .int .i64 (-5), .int .i64 4600, .int .i64 (-15)] 106) := ⟨_, rfl⟩
 rw [<- hW6] at hB6 hb6 hz6
 have HW6 := Lib.hid hW6
 have hB06 := hB05.trans (hB6.mono hB05.size)
 have hsz : W5.heap.size = W4.heap.size + 1 := hz5
 have Hsame := Lib.hid (sameparts_any W6 A4 (some ⟨W5.heap.size, 0, none⟩) 3 c4 3 [⟨1700, 20⟩, ⟨3300, -5⟩, ⟨4600, -15⟩] rfl (by decide) (RowsAt.at_ (RowsAt.at_ HA4.out hB5) hB6) (RowsAt.triple (x := ⟨1700, 20⟩) (y := ⟨3300, -5⟩) (z := ⟨4600, -15⟩) hb6))
 clear hW5 hz5 hb5 hW6 hb6 hz6 hA4 hsz
 go_upto_region 3 with (fail)
 rw [<- HW5.out]
 go_wp2_with (fail)
 rw [<- HW6.out]
 refine Hsame.out.mono ?_
 rintro e W7 ⟨rfl, hB7⟩
 go_wp2
 go_ret
 exact ⟨rfl, hB06.trans (hB7.mono hB06.size)⟩
end
end Go.Proofs.YtcblobokjhhboaaGreat
