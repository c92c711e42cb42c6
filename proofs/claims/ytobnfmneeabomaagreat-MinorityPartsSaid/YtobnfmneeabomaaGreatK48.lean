/- My texts Smp39, Awake39. -/
import Derived.Test.YtobnfmneeabomaaGreatK43
import Derived.Test.YtobnfmneeabomaaGreatK46
import Derived.Test.YtobnfmneeabomaaGreatK47
set_option linter.unusedVariables false
set_option linter.unusedSimpArgs false
set_option maxRecDepth 100000
set_option maxHeartbeats 8000000
namespace Go.Proofs.YtobnfmneeabomaaGreat
open Go.RowKit
namespace Smp
def raw39 (H : Option Addr) : Raw := ⟨1, 3, 0, 4, 5, 1, 1, H, 4, 4, none, 0, 0, [⟨0, 0, 0, 4000, 0, 0, -50⟩, ⟨0, 0, 0, 5000, 0, 0, 20⟩, ⟨0, 0, 0, 3300, 0, 0, -7⟩, ⟨0, 0, 0, 1010, 0, 0, 37⟩], []⟩
theorem raw39_ok (H : Option Addr) : (raw39 H).ok = true := by kernel_rfl
theorem raw39_wf (H : Option Addr) : ∀ z ∈ (raw39 H).cnt.its, (Lit.int .i64 z.acct).wf = true := by
 intro z hz
 simp only [raw39, Raw.cnt, List.mem_cons, List.not_mem_nil, or_false] at hz
 rcases hz with rfl | rfl | rfl | rfl <;> rfl
theorem mpost39 (A : Option Addr) (c : Nat) (eA : Option Addr) (ec : Nat) (x0 x1 x2 x3 : EntA) (H : Option Addr) : Gr.mpost (grp A c eA ec x0 x1 x2 x3) [(raw39 H).cnt] 1 = ([⟨3200, -7⟩, ⟨3300, 1⟩, ⟨5500, 6⟩], 0) := by kernel_rfl
end Smp
section
variable (w : World)
theorem awake39_any : Calls Tryz.prog 5 #[] w fun e w' => e = .returned (.bool true) /\ Below w.heap.size w w' := by
 obtain ⟨W1, hW1, hB1, hb0, hb1, hz⟩ := nw2 w #[.int .i64 0, .int .i64 0, .int .i64 0, .int .i64 4000, .int .i64 0, .int .i64 0, .int .i64 (-50), .int .i64 0, .int .i64 0, .int .i64 0, .int .i64 5000, .int .i64 0, .int .i64 0, .int .i64 20, .int .i64 0, .int .i64 0, .int .i64 0, .int .i64 3300, .int .i64 0, .int .i64 0, .int .i64 (-7), .int .i64 0, .int .i64 0, .int .i64 0, .int .i64 1010, .int .i64 0, .int .i64 0, .int .i64 37] #[.int .i64 1, .int .i64 3, .int .i64 0, .int .i64 4, .int .i64 5, .int .i64 1, .int .i64 1, .slice (some ⟨w.heap.size, 0, none⟩) 4 4, .slice none 0 0] 61 45
 have HW1 := Lib.hid hW1
 obtain ⟨x, hx⟩ : ∃ x, x = Smp.raw39 (some ⟨w.heap.size, 0, none⟩) := ⟨_, rfl⟩
 have hxat : x.At W1 W1.heap.size := by
  subst hx
  exact ⟨rfl, show (4 : Nat) <= 9223372036854775807 by decide, rows_flat (f := Itm.cells) (l := (Smp.raw39 (some ⟨w.heap.size, 0, none⟩)).its) hb0 (some_lt hb0) (fun _ _ => rfl), rfl, show (0 : Nat) <= 9223372036854775807 by decide, .inl rfl⟩
 have hxr : RawsAt W1 W1.heap.size (some ⟨w.heap.size + 1, 0, none⟩) [x] := by
  subst hx
  exact rows_flat (f := Raw.cells) (l := [Smp.raw39 (some ⟨w.heap.size, 0, none⟩)]) hb1 (some_lt hb1) (fun _ _ => rfl)
 have hxo : x.ok = true := by rw [hx]; exact Smp.raw39_ok _
 have Hat := Lib.hid hxat
 have Hxr := Lib.hid hxr
 have Hxo := Lib.hid hxo
 have Hx := Lib.hid hx
 clear hW1 hz hb0 hb1 hxat hxr hxo hx
 go_enter Tryz.func5, Tryz.ntmps5
 go_upto_region 2 with (fail)
 rw [<- HW1.out]
 go_wp2_with (fail)
 refine (sample_any W1).mono ?_
 rintro e W2 ⟨hB2, g, rfl, hg, hgs⟩
 have HG := Lib.hid hg
 have HGS := Lib.hid hgs
 have Hown := Lib.hid (own39_any W2 (some ⟨w.heap.size + 1, 0, none⟩) 1 1 [x] rfl (by decide) (RowsAt.at_ Hxr.out hB2) (fun y hy => by
  rw [List.mem_singleton] at hy; subst hy; exact (Hat.out.below hB2 (Nat.le_refl _)).more hB2.size) (fun y hy => by
  rw [List.mem_singleton] at hy; subst hy; exact Hxo.out))
 have hB02 := hB1.trans (hB2.mono hB1.size)
 clear hg hgs
 go_wp2_with (fail)
 refine Hown.out.mono ?_
 rintro e W3 ⟨hB3, A, c, cs, rfl, hcl, hcs, hho⟩
 have hB03 := hB02.trans (hB3.mono hB02.size)
 have Hpost := Lib.hid (mpostd_any W3 g A 1 c cs ([x].map Raw.cnt) 1 hcl (by decide) hcs hho (HG.out.at_ hB3) (fun y hy z hz => by rw [List.map_cons, List.map_nil, List.mem_singleton] at hy; subst hy; rw [Hx.out] at hz; exact Smp.raw39_wf _ z hz))
 have hap : Gr.mpost g ([x].map Raw.cnt) 1 = ([⟨3200, -7⟩, ⟨3300, 1⟩, ⟨5500, 6⟩], 0) := by
  obtain ⟨a, b, d, e, x0, x1, x2, x3, he⟩ := HGS.out
  rw [he, Hx.out]
  exact Smp.mpost39 a b d e x0 x1 x2 x3 _
 have HAP := Lib.hid hap
 clear hcs hho hap hcl
 simp only [List.length_cons, List.length_nil, Nat.reduceAdd]
 go_wp2_with (fail)
 refine Hpost.out.mono ?_
 rintro e W4 ⟨hB4, hP⟩
 rw [HAP.out] at hP
 have hB04 := hB03.trans (hB4.mono hB03.size)
 rcases hP with ⟨h, _⟩ | ⟨_, _, A4, c4, hfr, rfl, hA4⟩
 ·rcases h with h | h
  ·exact absurd rfl h
  ·cases h
 have HA4 := Lib.hid hA4
 obtain ⟨W5, hW5, hB5, hb5, hz5⟩ := nw1 W4 #[.int .i64 6, .int .i64 1, .int .i64 (-1), .int .i64 0, .slice A4 3 c4] 53
 have HW5 := Lib.hid hW5
 have hB05 := hB04.trans (hB5.mono hB04.size)
 have x4 := cell_of_row _ _ 4 _ _ _ hb5
 simp at x4
 have hpl := some_lt hb5
 obtain ⟨W6, hW6, hB6, hb6, hz6⟩ := nw1 W5 #[.int .i64 3200, .int .i64 (-7), .int .i64 3300, .int .i64 1, .int .i64 5500, .int .i64 6] 67
 have HW6 := Lib.hid hW6
 have hB06 := hB05.trans (hB6.mono hB05.size)
 have hsz : W5.heap.size = W4.heap.size + 1 := hz5
 have Hsame := Lib.hid (sameparts_any W6 A4 (some ⟨W5.heap.size, 0, none⟩) 3 c4 3 [⟨3200, -7⟩, ⟨3300, 1⟩, ⟨5500, 6⟩] rfl (by decide) (RowsAt.at_ (RowsAt.at_ HA4.out hB5) hB6) (RowsAt.triple (x := ⟨3200, -7⟩) (y := ⟨3300, 1⟩) (z := ⟨5500, 6⟩) hb6))
 clear hW5 hz5 hb5 hW6 hb6 hz6 hA4 hsz
 go_upto_region 3 with (fail)
 rw [<- HW5.out]
 go_wp2_with (fail)
 rw [<- HW6.out]
 refine Hsame.out.mono ?_
 rintro e W7 ⟨rfl, hB7⟩
 go_wp2
 go_ret
 exact ⟨rfl, hB06.trans (hB7.mono hB06.size)⟩
end
end Go.Proofs.YtobnfmneeabomaaGreat
