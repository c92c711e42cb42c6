/- My texts Smp40, Awake40. -/
import Derived.Test.YtccapfbblnnfjaaGreatG44
import Derived.Test.YtccapfbblnnfjaaGreatG46
import Derived.Test.YtccapfbblnnfjaaGreatD52
import Derived.Test.YtccapfbblnnfjaaGreatD48
set_option linter.unusedVariables false
set_option linter.unusedSimpArgs false
set_option maxRecDepth 100000
set_option maxHeartbeats 8000000
namespace Go.Proofs.YtccapfbblnnfjaaGreat
open Go.RowKit
namespace Smp
def raw40a (H : Option Addr) : Raw := ⟨0, 3, 0, 1, 1, 1, 1, H, 1, 1, none, 0, 0, [⟨0, 0, 0, 1500, 1, 9, 150⟩], []⟩
def raw40b (H : Option Addr) : Raw := ⟨1, 3, 5, 4, 5, 3, 5, H, 1, 1, none, 0, 0, [⟨0, 0, 1, 3400, 0, 5, -500⟩], []⟩
theorem raw40_ok (H1 H2 : Option Addr) : ∀ a ∈ [raw40a H1, raw40b H2], a.ok = true := by
 intro a ha
 simp only [List.mem_cons, List.not_mem_nil, or_false] at ha
 rcases ha with rfl | rfl <;> kernel_rfl
theorem post40 (A : Option Addr) (c : Nat) (eA : Option Addr) (ec : Nat) (x0 x1 x2 x3 : EntA) (H1 H2 : Option Addr) : Gr.spost (grp A c eA ec x0 x1 x2 x3) ([raw40a H1, raw40b H2].map Raw.cnt) 1 = ([⟨1500, -150⟩, ⟨3200, 100⟩, ⟨3500, 50⟩], 0) := by kernel_rfl
end Smp
section
variable (w : World)
theorem awake40_any : Calls Tryz.prog 27 #[] w fun e w' => e = .returned (.bool true) /\ Below w.heap.size w w' := by
 obtain ⟨hB1, hb0, hb1, hb2, hz⟩ := row_new3 w #[.int .i64 0, .int .i64 0, .int .i64 0, .int .i64 1500, .int .i64 1, .int .i64 9, .int .i64 150] #[.int .i64 0, .int .i64 0, .int .i64 1, .int .i64 3400, .int .i64 0, .int .i64 5, .int .i64 (-500)] #[.int .i64 0, .int .i64 3, .int .i64 0, .int .i64 1, .int .i64 1, .int .i64 1, .int .i64 1, .slice (some ⟨w.heap.size, 0, none⟩) 1 1, .slice none 0 0, .int .i64 1, .int .i64 3, .int .i64 5, .int .i64 4, .int .i64 5, .int .i64 3, .int .i64 5, .slice (some ⟨w.heap.size + 1, 0, none⟩) 1 1, .slice none 0 0] 82 82 78
 obtain ⟨W1, hW1⟩ : ∃ W1, W1 = (((w.alloc (.cells #[.int .i64 0, .int .i64 0, .int .i64 0, .int .i64 1500, .int .i64 1, .int .i64 9, .int .i64 150] 82)).alloc (.cells #[.int .i64 0, .int .i64 0, .int .i64 1, .int .i64 3400, .int .i64 0, .int .i64 5, .int .i64 (-500)] 82)).alloc (.cells #[.int .i64 0, .int .i64 3, .int .i64 0, .int .i64 1, .int .i64 1, .int .i64 1, .int .i64 1, .slice (some ⟨w.heap.size, 0, none⟩) 1 1, .slice none 0 0, .int .i64 1, .int .i64 3, .int .i64 5, .int .i64 4, .int .i64 5, .int .i64 3, .int .i64 5, .slice (some ⟨w.heap.size + 1, 0, none⟩) 1 1, .slice none 0 0] 78)) := ⟨_, rfl⟩
 rw [<- hW1] at hB1 hb0 hb1 hb2 hz
 have HW1 := Lib.hid hW1
 obtain ⟨xs, hxs⟩ : ∃ xs, xs = [Smp.raw40a (some ⟨w.heap.size, 0, none⟩), Smp.raw40b (some ⟨w.heap.size + 1, 0, none⟩)] := ⟨_, rfl⟩
 have hxat : ∀ y ∈ xs, y.At W1 W1.heap.size := by
  intro y hy
  rw [hxs] at hy
  simp only [List.mem_cons, List.not_mem_nil, or_false] at hy
  rcases hy with rfl | rfl
  ·exact ⟨rfl, show (1 : Nat) <= 9223372036854775807 by decide, rows_flat (f := Itm.cells) (l := (Smp.raw40a (some ⟨w.heap.size, 0, none⟩)).its) hb0 (some_lt hb0) (fun _ _ => rfl), rfl, show (0 : Nat) <= 9223372036854775807 by decide, .inl rfl⟩
  ·exact ⟨rfl, show (1 : Nat) <= 9223372036854775807 by decide, rows_flat (f := Itm.cells) (l := (Smp.raw40b (some ⟨w.heap.size + 1, 0, none⟩)).its) hb1 (some_lt hb1) (fun _ _ => rfl), rfl, show (0 : Nat) <= 9223372036854775807 by decide, .inl rfl⟩
 have hxr : RawsAt W1 W1.heap.size (some ⟨w.heap.size + 2, 0, none⟩) xs := by
  rw [hxs]
  exact rows_flat (f := Raw.cells) (l := [Smp.raw40a (some ⟨w.heap.size, 0, none⟩), Smp.raw40b (some ⟨w.heap.size + 1, 0, none⟩)]) hb2 (some_lt hb2) (fun _ _ => rfl)
 have hxo : ∀ y ∈ xs, y.ok = true := by rw [hxs]; exact Smp.raw40_ok _ _
 have hxl : xs.length = 2 := by rw [hxs]; rfl
 have Hat := Lib.hid hxat
 have Hxr := Lib.hid hxr
 have Hxo := Lib.hid hxo
 have Hxl := Lib.hid hxl
 have Hx := Lib.hid hxs
 clear hW1 hz hb0 hb1 hb2 hxat hxr hxo hxl hxs
 go_enter Tryz.func27, Tryz.ntmps27
 go_upto_region 2 with (fail)
 rw [<- HW1.out]
 go_wp2_with (fail)
 refine (sample_any W1).mono ?_
 rintro e W2 ⟨hB2, g, rfl, hg, hgs⟩
 have HG := Lib.hid hg
 have HGS := Lib.hid hgs
 have Hown := Lib.hid (own40_any W2 (some ⟨w.heap.size + 2, 0, none⟩) 2 2 xs Hxl.out (by decide) (RowsAt.at_ Hxr.out hB2) (fun y hy => ((Hat.out y hy).below hB2 (Nat.le_refl _)).more hB2.size) Hxo.out)
 have hB02 := hB1.trans (hB2.mono hB1.size)
 clear hg hgs
 go_wp2_with (fail)
 refine Hown.out.mono ?_
 rintro e W3 ⟨hB3, A, c, cs, rfl, hcl, hcs, hho⟩
 have hB03 := hB02.trans (hB3.mono hB02.size)
 rw [Hxl.out] at hcl ⊢
 have Hpost := Lib.hid (spostd_any W3 g A 2 c cs (xs.map Raw.cnt) 1 hcl (by decide) hcs hho (HG.out.at_ hB3))
 have hap : Gr.spost g (xs.map Raw.cnt) 1 = ([⟨1500, -150⟩, ⟨3200, 100⟩, ⟨3500, 50⟩], 0) := by
  obtain ⟨a, b, d, e, x0, x1, x2, x3, he⟩ := HGS.out
  rw [he, Hx.out]
  exact Smp.post40 a b d e x0 x1 x2 x3 _ _
 have HAP := Lib.hid hap
 clear hcs hho hap hcl
 go_wp2_with (fail)
 refine Hpost.out.mono ?_
 rintro e W4 ⟨hB4, hP⟩
 rw [HAP.out] at hP
 have hB04 := hB03.trans (hB4.mono hB03.size)
 rcases hP with ⟨h, _⟩ | ⟨_, _, A4, c4, hfr, rfl, hA4⟩
 ·rcases h with h | h
  ·exact absurd rfl h
  ·cases h
 have HA4 := Lib.hid hA4
 obtain ⟨W5, hW5, hB5, hb5, hz5⟩ := nw1 W4 #[.int .i64 5, .int .i64 1, .int .i64 (-1), .int .i64 0, .slice A4 3 c4] 49
 have HW5 := Lib.hid hW5
 have hB05 := hB04.trans (hB5.mono hB04.size)
 have x4 := cell_of_row _ _ 4 _ _ _ hb5
 simp at x4
 have hpl := some_lt hb5
 obtain ⟨W6, hW6, hB6, hb6, hz6⟩ := nw1 W5 #[.int .i64 1500, .int .i64 (-150), .int .i64 3200, .int .i64 100, .int .i64 3500, .int .i64 50] 99
 have HW6 := Lib.hid hW6
 have hB06 := hB05.trans (hB6.mono hB05.size)
 have hsz : W5.heap.size = W4.heap.size + 1 := hz5
 have Hsame := Lib.hid (sameparts_any W6 A4 (some ⟨W5.heap.size, 0, none⟩) 3 c4 3 [⟨1500, -150⟩, ⟨3200, 100⟩, ⟨3500, 50⟩] rfl (by decide) (RowsAt.at_ (RowsAt.at_ HA4.out hB5) hB6) (rows_flat (f := Prt.cells) (l := [⟨1500, -150⟩, ⟨3200, 100⟩, ⟨3500, 50⟩]) hb6 (some_lt hb6) (by simp [Prt.cells])))
 clear hW5 hz5 hb5 hW6 hb6 hz6 hA4 hsz
 go_upto_region 3 with (fail)
 rw [<- HW5.out]
 go_wp2_with (fail)
 rw [<- HW6.out]
 refine Hsame.out.mono ?_
 rintro e W7 ⟨rfl, hB7⟩
 go_wp2
 go_ret
 exact ⟨rfl, hB06.trans (hB7.mono hB06.size)⟩
end
end Go.Proofs.YtccapfbblnnfjaaGreat
