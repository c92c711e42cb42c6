/- My texts RefRatOf. -/
import Derived.Test.YtobnfmneeabomaaGreatG14
import Derived.Test.YtobnfmneeabomaaGreatG29
set_option linter.unusedVariables false
set_option linter.unusedSimpArgs false
set_option maxRecDepth 100000
set_option maxHeartbeats 8000000
namespace Go.Proofs.YtobnfmneeabomaaGreat
namespace R1
open Go.RowKit
section
variable (w : World)
theorem ratof_any (n m : Int) (hn0 : -9223372036854775808 <= n) (hn1 : n <= 9223372036854775807) (hm0 : 0 < m) (hm1 : m <= 9223372036854775807) :
  Calls Tryz.prog 17 #[.int .i64 n, .int .i64 m] w fun e w' => (∃ r, e = .returned (.tuple #[r, .int .i64 0]) /\ RI w' w'.heap.size 5 5 r (Int.tdiv n (Int.gcd n m)) (Int.tdiv m (Int.gcd n m))) /\ Below w.heap.size w w' := by
 obtain ⟨W1, hW1, hB0, hb0, hz⟩ := nw1 w #[.bool false, .slice none 0 0, .bool false, .slice none 0 0] 74
 have HW := Lib.hid hW1
 have Hb0 := Lib.hid hb0
 have s1 : w.heap.size < W1.heap.size := by omega
 clear hW1 hz hb0
 go_enter Tryz.func17, Tryz.ntmps17
 go_upto_region 1 with (fail)
 rw [<- HW.out]
 go_wp2_with (fail)
 refine (of_int W1 n hn0 hn1).mono ?_
 rintro e W2 ⟨⟨r2, rfl, hr2⟩, hB2⟩
 go_wp2_with (fail)
 refine (of_int W2 m (by omega) (by omega)).mono ?_
 rintro e W3 ⟨⟨r3, rfl, hr3⟩, hB3⟩
 go_wp2_with (fail)
 refine (new_any W3 5 5 _ _ n m (by omega) (by omega) (by omega) (hr2.at_ hB3) hr3).mono ?_
 rintro e W4 ⟨⟨r4, rfl, hr4⟩, hB4⟩
 obtain ⟨g3, A3, n3, c3, g4, A4, n4, c4, rfl⟩ := hr4.open
 have hB02 := hB0.trans (hB2.mono hB0.size)
 have hB03 := hB02.trans (hB3.mono hB02.size)
 have hBw := hB03.trans (hB4.mono hB03.size)
 have hd2 := gbox Hb0.out hB2 s1
 have hd3 := gbox hd2 hB3 (some_lt hd2)
 have hd4 := gbox hd3 hB4 (some_lt hd3)
 have Hd4 := Lib.hid hd4
 have Ho := Lib.hid (one4 g3 A3 n3 c3 g4 A4 n4 c4)
 have hR := setRow_heap W4 w.heap.size _ #[.bool g3, .slice A3 n3 c3, .bool g4, .slice A4 n4 c4] _ _ hd4
 have hload := Lib.hid (run_loadVar_row (P := Tryz.prog) _ _ _ 74 _ _ _ hR Tryz.underlying74 rfl ratSize)
 have hPF := Lib.hid ((hr4.other (w' := W4.setRow w.heap.size #[.bool g3, .slice A3 n3 c3, .bool g4, .slice A4 n4 c4]) hd4 (no_int4 _ _ _ _ _ _ _ _) (fun c hc => setRow_other _ _ _ _ hc)).more (C := (W4.setRow w.heap.size #[.bool g3, .slice A3 n3 c3, .bool g4, .slice A4 n4 c4]).heap.size) (by simp) (Nat.le_refl _) (Nat.le_refl _))
 have hBF := Lib.hid (below_setRow hBw (Nat.le_refl _) #[.bool g3, .slice A3 n3 c3, .bool g4, .slice A4 n4 c4])
 clear hd2 hd3 hd4 hR
 go_wp2_with (refine wpList_store_row rfl 74 (.tmp 4) (.tmp 11) none rfl rfl w.heap.size 74 _ #[.bool g3, .slice A3 n3 c3, .bool g4, .slice A4 n4 c4] rfl rfl Hd4.out rfl ratSize Ho.out ?_)
 exact bodyPost_ret (v := .tuple #[.agg #[.bool g3, .slice A3 n3 c3, .bool g4, .slice A4 n4 c4], .int .i64 0]) (by simp [results, Tryz.results17, asAddr, Act.put, hload.out]) rfl ⟨⟨_, rfl, hPF.out⟩, hBF.out⟩
end
end R1
end Go.Proofs.YtobnfmneeabomaaGreat
