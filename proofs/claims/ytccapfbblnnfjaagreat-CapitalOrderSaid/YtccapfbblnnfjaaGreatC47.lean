/- My texts ElimD, SumC, TimesC. -/
import Derived.Test.YtccapfbblnnfjaaGreatG26
import Derived.Test.YtccapfbblnnfjaaGreatG33
import Derived.Test.YtccapfbblnnfjaaGreatC46
set_option linter.unusedVariables false
set_option linter.unusedSimpArgs false
set_option maxRecDepth 100000
set_option maxHeartbeats 8000000
namespace Go.Proofs.YtccapfbblnnfjaaGreat
open Go.RowKit
theorem condSize38 : (Tryz.prog.info? 94).map (·.size) = some 13 := by kernel_rfl
section
variable (w : World)
theorem elimd_any (A : Option Addr) (n c : Nat) (l : List Con) (x : Int) (hl : l.length = n) (hn : n <= 100) (hA : ConsAt w w.heap.size A l) :
  Calls Tryz.prog 46 #[.slice A n c, .int .i64 x] w fun e w' => e = .returned (.tuple #[.agg #[.int .i64 (Cn.found l x).ent, .int .i64 (Cn.found l x).meth, .int .i64 (Cn.found l x).since, .bool (Cn.found l x).sg1, .slice (Cn.found l x).sA1 (Cn.found l x).sn1 (Cn.found l x).sc1, .bool (Cn.found l x).sg2, .slice (Cn.found l x).sA2 (Cn.found l x).sn2 (Cn.found l x).sc2, .bool (Cn.found l x).fg1, .slice (Cn.found l x).fA1 (Cn.found l x).fn1 (Cn.found l x).fc1, .bool (Cn.found l x).fg2, .slice (Cn.found l x).fA2 (Cn.found l x).fn2 (Cn.found l x).fc2, .slice (Cn.found l x).iA (Cn.found l x).im (Cn.found l x).ic, .slice (Cn.found l x).hA (Cn.found l x).hm (Cn.found l x).hc], .bool (Cn.isElim l x)]) /\ Below w.heap.size w w' := by
 obtain ⟨W1, hW1, hB0, hb0, hz⟩ := nw1 w #[.int .i64 0, .int .i64 0, .int .i64 0, .bool false, .slice none 0 0, .bool false, .slice none 0 0, .bool false, .slice none 0 0, .bool false, .slice none 0 0, .slice none 0 0, .slice none 0 0] 94
 have HW := Lib.hid hW1
 have HA := Lib.hid (RowsAt.at_ hA hB0)
 have Hb0 := Lib.hid hb0
 have s1 : w.heap.size < W1.heap.size := by omega
 have Hl := Lib.hid hl
 clear hW1 hz hb0 hA hl
 go_enter Tryz.func46, Tryz.ntmps46
 go_upto_region 1 with (fail)
 rw [<- HW.out]
 go_wp2_with (fail)
 refine (confd_any W1 A n c l x Hl.out (by omega) HA.out).mono ?_
 rintro e W2 ⟨rfl, hB2⟩
 obtain ⟨x0, hx0⟩ : ∃ x0, x0 = Cn.found l x := ⟨_, rfl⟩
 obtain ⟨ok, hok⟩ : ∃ ok, ok = Cn.has l x := ⟨_, rfl⟩
 have HE : Hid (Cn.isElim l x = (ok && decide (x ≠ 0) && (decide (x0.meth = 3) || decide (x0.meth = 2)))) := by show _ = _; rw [Cn.isElim, <- hx0, <- hok]
 rw [<- hx0, <- hok]
 have HX := Lib.hid hx0
 obtain ⟨hB3, hb3, hz3⟩ := row_new W2 #[.int .i64 x0.ent, .int .i64 x0.meth, .int .i64 x0.since, .bool x0.sg1, .slice x0.sA1 x0.sn1 x0.sc1, .bool x0.sg2, .slice x0.sA2 x0.sn2 x0.sc2, .bool x0.fg1, .slice x0.fA1 x0.fn1 x0.fc1, .bool x0.fg2, .slice x0.fA2 x0.fn2 x0.fc2, .slice x0.iA x0.im x0.ic, .slice x0.hA x0.hm x0.hc] 94
 have hb02 := gbox Hb0.out hB2 s1
 have hb03 := gbox hb02 hB3 (some_lt hb02)
 obtain ⟨W3, hW3⟩ : ∃ W3, W3 = W2.alloc (.cells #[.int .i64 x0.ent, .int .i64 x0.meth, .int .i64 x0.since, .bool x0.sg1, .slice x0.sA1 x0.sn1 x0.sc1, .bool x0.sg2, .slice x0.sA2 x0.sn2 x0.sc2, .bool x0.fg1, .slice x0.fA1 x0.fn1 x0.fc1, .bool x0.fg2, .slice x0.fA2 x0.fn2 x0.fc2, .slice x0.iA x0.im x0.ic, .slice x0.hA x0.hm x0.hc] 94) := ⟨_, rfl⟩
 rw [<- hW3] at hB3 hb3 hz3 hb03
 have HW3 := Lib.hid hW3
 have hB03 := hB0.trans ((hB2.trans (hB3.mono hB2.size)).mono hB0.size)
 have s3 : W2.heap.size < W3.heap.size := by omega
 have s30 := some_lt hb03
 have hne : w.heap.size ≠ W2.heap.size := by have := hB0.size; have := some_lt hb02; omega
 have hV0 : (fun W => Below w.heap.size w W /\ W.heap[W2.heap.size]? = some (.cells #[.int .i64 x0.ent, .int .i64 x0.meth, .int .i64 x0.since, .bool x0.sg1, .slice x0.sA1 x0.sn1 x0.sc1, .bool x0.sg2, .slice x0.sA2 x0.sn2 x0.sc2, .bool x0.fg1, .slice x0.fA1 x0.fn1 x0.fc1, .bool x0.fg2, .slice x0.fA2 x0.fn2 x0.fc2, .slice x0.iA x0.im x0.ic, .slice x0.hA x0.hm x0.hc] 94 (0, 0))) W3.drew := ⟨below_drawn hB03 1, hb3⟩
 have hz0 : W3.drew.heap[w.heap.size]? = some (.cells #[.int .i64 0, .int .i64 0, .int .i64 0, .bool false, .slice none 0 0, .bool false, .slice none 0 0, .bool false, .slice none 0 0, .bool false, .slice none 0 0, .slice none 0 0, .slice none 0 0] 94 (0, 0)) := hb03
 clear hx0 hok hW3 hz3 hb02 hb3
 go_upto_region 2 with (fail)
 rw [<- HW3.out]
 refine wp_region_held (S := (fun W => Below w.heap.size w W /\ W.heap[W2.heap.size]? = some (.cells #[.int .i64 x0.ent, .int .i64 x0.meth, .int .i64 x0.since, .bool x0.sg1, .slice x0.sA1 x0.sn1 x0.sc1, .bool x0.sg2, .slice x0.sA2 x0.sn2 x0.sc2, .bool x0.fg1, .slice x0.fA1 x0.fn1 x0.fc1, .bool x0.fg2, .slice x0.fA2 x0.fn2 x0.fc2, .slice x0.iA x0.im x0.ic, .slice x0.hA x0.hm x0.hc] 94 (0, 0)))) (by kernel_rfl) ?_
 change wpAnyH _ _ _ _ _ _ _ _ (World.drew W3)
 obtain ⟨W0, hWd⟩ : ∃ W0, W0 = W3.drew := ⟨_, rfl⟩
 rw [<- hWd] at hV0 hz0 ⊢
 clear hWd
 refine tk (i := 0) (v := .agg #[.int .i64 x0.ent, .int .i64 x0.meth, .int .i64 x0.since, .bool x0.sg1, .slice x0.sA1 x0.sn1 x0.sc1, .bool x0.sg2, .slice x0.sA2 x0.sn2 x0.sc2, .bool x0.fg1, .slice x0.fA1 x0.fn1 x0.fc1, .bool x0.fg2, .slice x0.fA2 x0.fn2 x0.fc2, .slice x0.iA x0.im x0.ic, .slice x0.hA x0.hm x0.hc]) rfl (by kernel_rfl) (fun _ _ _ h => h) (yieldsIf_load_mid (by rfl) 94 _ rfl W2.heap.size 0 rfl [.int .i64 x0.ent, .int .i64 x0.meth, .int .i64 x0.since, .bool x0.sg1, .slice x0.sA1 x0.sn1 x0.sc1, .bool x0.sg2, .slice x0.sA2 x0.sn2 x0.sc2, .bool x0.fg1, .slice x0.fA1 x0.fn1 x0.fc1, .bool x0.fg2, .slice x0.fA2 x0.fn2 x0.fc2, .slice x0.iA x0.im x0.ic, .slice x0.hA x0.hm x0.hc] _ (fun W' hS' => range_row (cs := [.int .i64 x0.ent, .int .i64 x0.meth, .int .i64 x0.since, .bool x0.sg1, .slice x0.sA1 x0.sn1 x0.sc1, .bool x0.sg2, .slice x0.sA2 x0.sn2 x0.sc2, .bool x0.fg1, .slice x0.fA1 x0.fn1 x0.fc1, .bool x0.fg2, .slice x0.fA2 x0.fn2 x0.fc2, .slice x0.iA x0.im x0.ic, .slice x0.hA x0.hm x0.hc]) hS'.2) Tryz.underlying94 rfl condSize38) hV0 ?_
 try simp only [z]
 refine tk (i := 1) (v := .bool ok) rfl (by kernel_rfl) (fun _ _ _ h => h) (.inl ⟨by rfl, fun W' hS' => by go_simp⟩) hV0 ?_
 try simp only [z]
 refine tk (i := 2) (v := .bool ok) rfl (by kernel_rfl) (fun _ _ _ h => h) (.inl ⟨by rfl, fun W' hS' => by go_simp⟩) hV0 ?_
 try simp only [z]
 have hway : ok = false ∨ ok = true /\ (x = 0 ∨ x ≠ 0 /\ (x0.meth = 3 ∨ x0.meth ≠ 3 /\ (x0.meth = 2 ∨ x0.meth ≠ 2))) := by cases ok <;> simp <;> omega
 rcases hway with rfl | ⟨rfl, hx | ⟨hx, h3 | ⟨h3, h2 | h2⟩⟩⟩
 focus
  have HB : Hid (Cn.isElim l x = false) := by show _ = _; rw [HE.out]; simp []
  refine tk (i := 3) (v := undef) rfl (by kernel_rfl) (fun _ _ _ h => h) (.inr ⟨by rfl, rfl⟩) hV0 ?_
  try simp only [z]
  refine tk (i := 4) (v := undef) rfl (by kernel_rfl) (fun _ _ _ h => h) (.inr ⟨by rfl, rfl⟩) hV0 ?_
  try simp only [z]
  refine tk (i := 5) (v := .bool false) rfl (by kernel_rfl) (fun _ _ _ h => h) (.inl ⟨by rfl, fun W' hS' => by go_simp⟩) hV0 ?_
  try simp only [z]
  refine tk (i := 6) (v := .bool false) rfl (by kernel_rfl) (fun _ _ _ h => h) (.inl ⟨by rfl, fun W' hS' => by go_simp⟩) hV0 ?_
  try simp only [z]
  refine tk (i := 7) (v := undef) rfl (by kernel_rfl) (fun _ _ _ h => h) (.inr ⟨by rfl, rfl⟩) hV0 ?_
  try simp only [z]
  refine tk (i := 8) (v := undef) rfl (by kernel_rfl) (fun _ _ _ h => h) (.inr ⟨by rfl, rfl⟩) hV0 ?_
  try simp only [z]
  refine tk (i := 9) (v := undef) rfl (by kernel_rfl) (fun _ _ _ h => h) (.inr ⟨by rfl, rfl⟩) hV0 ?_
  try simp only [z]
  refine tk (i := 10) (v := undef) rfl (by kernel_rfl) (fun _ _ _ h => h) (.inr ⟨by rfl, rfl⟩) hV0 ?_
  try simp only [z]
  refine tk (i := 11) (v := undef) rfl (by kernel_rfl) (fun _ _ _ h => h) (.inr ⟨by rfl, rfl⟩) hV0 ?_
  try simp only [z]
  refine tk (i := 12) (v := undef) rfl (by kernel_rfl) (fun _ _ _ h => h) (.inr ⟨by rfl, rfl⟩) hV0 ?_
  try simp only [z]
  refine tk (i := 13) (v := undef) rfl (by kernel_rfl) (fun _ _ _ h => h) (.inr ⟨by rfl, rfl⟩) hV0 ?_
  try simp only [z]
  refine tk (i := 14) (v := undef) rfl (by kernel_rfl) (fun _ _ _ h => h) (.inr ⟨by rfl, rfl⟩) hV0 ?_
  try simp only [z]
  refine tk (i := 15) (v := .bool false) rfl (by kernel_rfl) (fun _ _ _ h => h) (.inl ⟨by rfl, fun W' hS' => by go_simp⟩) hV0 ?_
  try simp only [z]
 rotate_left
 focus
  have HB : Hid (Cn.isElim l x = false) := by show _ = _; rw [HE.out]; simp [hx]
  have hxb : (x != 0) = false := by simp [hx]
  clear hx
  refine tk (i := 3) (v := .int .i64 x) rfl (by kernel_rfl) (fun _ _ _ h => h) (.inl ⟨by rfl, fun W' hS' => by go_simp⟩) hV0 ?_
  try simp only [z]
  refine tk (i := 4) (v := .bool false) rfl (by kernel_rfl) (fun _ _ _ h => h) (.inl ⟨by rfl, fun W' hS' => by have hx' := hxb; go_simp⟩) hV0 ?_
  try simp only [z]
  refine tk (i := 5) (v := .bool false) rfl (by kernel_rfl) (fun _ _ _ h => h) (.inl ⟨by rfl, fun W' hS' => by go_simp⟩) hV0 ?_
  try simp only [z]
  refine tk (i := 6) (v := .bool false) rfl (by kernel_rfl) (fun _ _ _ h => h) (.inl ⟨by rfl, fun W' hS' => by go_simp⟩) hV0 ?_
  try simp only [z]
  refine tk (i := 7) (v := undef) rfl (by kernel_rfl) (fun _ _ _ h => h) (.inr ⟨by rfl, rfl⟩) hV0 ?_
  try simp only [z]
  refine tk (i := 8) (v := undef) rfl (by kernel_rfl) (fun _ _ _ h => h) (.inr ⟨by rfl, rfl⟩) hV0 ?_
  try simp only [z]
  refine tk (i := 9) (v := undef) rfl (by kernel_rfl) (fun _ _ _ h => h) (.inr ⟨by rfl, rfl⟩) hV0 ?_
  try simp only [z]
  refine tk (i := 10) (v := undef) rfl (by kernel_rfl) (fun _ _ _ h => h) (.inr ⟨by rfl, rfl⟩) hV0 ?_
  try simp only [z]
  refine tk (i := 11) (v := undef) rfl (by kernel_rfl) (fun _ _ _ h => h) (.inr ⟨by rfl, rfl⟩) hV0 ?_
  try simp only [z]
  refine tk (i := 12) (v := undef) rfl (by kernel_rfl) (fun _ _ _ h => h) (.inr ⟨by rfl, rfl⟩) hV0 ?_
  try simp only [z]
  refine tk (i := 13) (v := undef) rfl (by kernel_rfl) (fun _ _ _ h => h) (.inr ⟨by rfl, rfl⟩) hV0 ?_
  try simp only [z]
  refine tk (i := 14) (v := undef) rfl (by kernel_rfl) (fun _ _ _ h => h) (.inr ⟨by rfl, rfl⟩) hV0 ?_
  try simp only [z]
  refine tk (i := 15) (v := .bool false) rfl (by kernel_rfl) (fun _ _ _ h => h) (.inl ⟨by rfl, fun W' hS' => by go_simp⟩) hV0 ?_
  try simp only [z]
 rotate_left
 focus
  have HB : Hid (Cn.isElim l x = true) := by show _ = _; rw [HE.out]; simp [hx, h3]
  have hxb : (x != 0) = true := by simp [hx]
  have hmb : (x0.meth == 3) = true := by simp [h3]
  clear hx h3
  refine tk (i := 3) (v := .int .i64 x) rfl (by kernel_rfl) (fun _ _ _ h => h) (.inl ⟨by rfl, fun W' hS' => by go_simp⟩) hV0 ?_
  try simp only [z]
  refine tk (i := 4) (v := .bool true) rfl (by kernel_rfl) (fun _ _ _ h => h) (.inl ⟨by rfl, fun W' hS' => by have hx' := hxb; go_simp⟩) hV0 ?_
  try simp only [z]
  refine tk (i := 5) (v := .bool true) rfl (by kernel_rfl) (fun _ _ _ h => h) (.inl ⟨by rfl, fun W' hS' => by go_simp⟩) hV0 ?_
  try simp only [z]
  refine tk (i := 6) (v := .bool true) rfl (by kernel_rfl) (fun _ _ _ h => h) (.inl ⟨by rfl, fun W' hS' => by go_simp⟩) hV0 ?_
  try simp only [z]
  refine tk (i := 7) (v := .pointer (some ⟨W2.heap.size, 1, none⟩)) rfl (by kernel_rfl) (fun _ _ _ h => h) (.inl ⟨by rfl, fun W' hS' => by go_simp⟩) hV0 ?_
  try simp only [z]
  refine tk (i := 8) (v := .int .i64 x0.meth) rfl (by kernel_rfl) (fun _ _ _ h => h) (.inl ⟨by rfl, fun W' hS' => by have hc : W'.cell? ⟨W2.heap.size, 1, none⟩ = some (.int .i64 x0.meth) := (by have := cell_of_row _ _ 1 _ _ _ hS'.2; simpa using this); have hl2 := some_lt hS'.2; go_simp⟩) hV0 ?_
  try simp only [z]
  refine tk (i := 9) (v := .bool true) rfl (by kernel_rfl) (fun _ _ _ h => h) (.inl ⟨by rfl, fun W' hS' => by have hm' := hmb; go_simp⟩) hV0 ?_
  try simp only [z]
  refine tk (i := 10) (v := .bool true) rfl (by kernel_rfl) (fun _ _ _ h => h) (.inl ⟨by rfl, fun W' hS' => by go_simp⟩) hV0 ?_
  try simp only [z]
  refine tk (i := 11) (v := undef) rfl (by kernel_rfl) (fun _ _ _ h => h) (.inr ⟨by rfl, rfl⟩) hV0 ?_
  try simp only [z]
  refine tk (i := 12) (v := undef) rfl (by kernel_rfl) (fun _ _ _ h => h) (.inr ⟨by rfl, rfl⟩) hV0 ?_
  try simp only [z]
  refine tk (i := 13) (v := undef) rfl (by kernel_rfl) (fun _ _ _ h => h) (.inr ⟨by rfl, rfl⟩) hV0 ?_
  try simp only [z]
  refine tk (i := 14) (v := .bool true) rfl (by kernel_rfl) (fun _ _ _ h => h) (.inl ⟨by rfl, fun W' hS' => by go_simp⟩) hV0 ?_
  try simp only [z]
  refine tk (i := 15) (v := .bool true) rfl (by kernel_rfl) (fun _ _ _ h => h) (.inl ⟨by rfl, fun W' hS' => by go_simp⟩) hV0 ?_
  try simp only [z]
 rotate_left
 focus
  have HB : Hid (Cn.isElim l x = true) := by show _ = _; rw [HE.out]; simp [hx, h3, h2]
  have hxb : (x != 0) = true := by simp [hx]
  have hmb : (x0.meth == 3) = false := by simp [h3]
  have hmb2 : (x0.meth == 2) = true := by simp [h2]
  clear hx h3 h2
  refine tk (i := 3) (v := .int .i64 x) rfl (by kernel_rfl) (fun _ _ _ h => h) (.inl ⟨by rfl, fun W' hS' => by go_simp⟩) hV0 ?_
  try simp only [z]
  refine tk (i := 4) (v := .bool true) rfl (by kernel_rfl) (fun _ _ _ h => h) (.inl ⟨by rfl, fun W' hS' => by have hx' := hxb; go_simp⟩) hV0 ?_
  try simp only [z]
  refine tk (i := 5) (v := .bool true) rfl (by kernel_rfl) (fun _ _ _ h => h) (.inl ⟨by rfl, fun W' hS' => by go_simp⟩) hV0 ?_
  try simp only [z]
  refine tk (i := 6) (v := .bool true) rfl (by kernel_rfl) (fun _ _ _ h => h) (.inl ⟨by rfl, fun W' hS' => by go_simp⟩) hV0 ?_
  try simp only [z]
  refine tk (i := 7) (v := .pointer (some ⟨W2.heap.size, 1, none⟩)) rfl (by kernel_rfl) (fun _ _ _ h => h) (.inl ⟨by rfl, fun W' hS' => by go_simp⟩) hV0 ?_
  try simp only [z]
  refine tk (i := 8) (v := .int .i64 x0.meth) rfl (by kernel_rfl) (fun _ _ _ h => h) (.inl ⟨by rfl, fun W' hS' => by have hc : W'.cell? ⟨W2.heap.size, 1, none⟩ = some (.int .i64 x0.meth) := (by have := cell_of_row _ _ 1 _ _ _ hS'.2; simpa using this); have hl2 := some_lt hS'.2; go_simp⟩) hV0 ?_
  try simp only [z]
  refine tk (i := 9) (v := .bool false) rfl (by kernel_rfl) (fun _ _ _ h => h) (.inl ⟨by rfl, fun W' hS' => by have hm' := hmb; go_simp⟩) hV0 ?_
  try simp only [z]
  refine tk (i := 10) (v := .bool false) rfl (by kernel_rfl) (fun _ _ _ h => h) (.inl ⟨by rfl, fun W' hS' => by go_simp⟩) hV0 ?_
  try simp only [z]
  refine tk (i := 11) (v := .pointer (some ⟨W2.heap.size, 1, none⟩)) rfl (by kernel_rfl) (fun _ _ _ h => h) (.inl ⟨by rfl, fun W' hS' => by go_simp⟩) hV0 ?_
  try simp only [z]
  refine tk (i := 12) (v := .int .i64 x0.meth) rfl (by kernel_rfl) (fun _ _ _ h => h) (.inl ⟨by rfl, fun W' hS' => by have hc : W'.cell? ⟨W2.heap.size, 1, none⟩ = some (.int .i64 x0.meth) := (by have := cell_of_row _ _ 1 _ _ _ hS'.2; simpa using this); have hl2 := some_lt hS'.2; go_simp⟩) hV0 ?_
  try simp only [z]
  refine tk (i := 13) (v := .bool true) rfl (by kernel_rfl) (fun _ _ _ h => h) (.inl ⟨by rfl, fun W' hS' => by have hm' := hmb2; go_simp⟩) hV0 ?_
  try simp only [z]
  refine tk (i := 14) (v := .bool true) rfl (by kernel_rfl) (fun _ _ _ h => h) (.inl ⟨by rfl, fun W' hS' => by go_simp⟩) hV0 ?_
  try simp only [z]
  refine tk (i := 15) (v := .bool true) rfl (by kernel_rfl) (fun _ _ _ h => h) (.inl ⟨by rfl, fun W' hS' => by go_simp⟩) hV0 ?_
  try simp only [z]
 rotate_left
 focus
  have HB : Hid (Cn.isElim l x = false) := by show _ = _; rw [HE.out]; simp [hx, h3, h2]
  have hxb : (x != 0) = true := by simp [hx]
  have hmb : (x0.meth == 3) = false := by simp [h3]
  have hmb2 : (x0.meth == 2) = false := by simp [h2]
  clear hx h3 h2
  refine tk (i := 3) (v := .int .i64 x) rfl (by kernel_rfl) (fun _ _ _ h => h) (.inl ⟨by rfl, fun W' hS' => by go_simp⟩) hV0 ?_
  try simp only [z]
  refine tk (i := 4) (v := .bool true) rfl (by kernel_rfl) (fun _ _ _ h => h) (.inl ⟨by rfl, fun W' hS' => by have hx' := hxb; go_simp⟩) hV0 ?_
  try simp only [z]
  refine tk (i := 5) (v := .bool true) rfl (by kernel_rfl) (fun _ _ _ h => h) (.inl ⟨by rfl, fun W' hS' => by go_simp⟩) hV0 ?_
  try simp only [z]
  refine tk (i := 6) (v := .bool true) rfl (by kernel_rfl) (fun _ _ _ h => h) (.inl ⟨by rfl, fun W' hS' => by go_simp⟩) hV0 ?_
  try simp only [z]
  refine tk (i := 7) (v := .pointer (some ⟨W2.heap.size, 1, none⟩)) rfl (by kernel_rfl) (fun _ _ _ h => h) (.inl ⟨by rfl, fun W' hS' => by go_simp⟩) hV0 ?_
  try simp only [z]
  refine tk (i := 8) (v := .int .i64 x0.meth) rfl (by kernel_rfl) (fun _ _ _ h => h) (.inl ⟨by rfl, fun W' hS' => by have hc : W'.cell? ⟨W2.heap.size, 1, none⟩ = some (.int .i64 x0.meth) := (by have := cell_of_row _ _ 1 _ _ _ hS'.2; simpa using this); have hl2 := some_lt hS'.2; go_simp⟩) hV0 ?_
  try simp only [z]
  refine tk (i := 9) (v := .bool false) rfl (by kernel_rfl) (fun _ _ _ h => h) (.inl ⟨by rfl, fun W' hS' => by have hm' := hmb; go_simp⟩) hV0 ?_
  try simp only [z]
  refine tk (i := 10) (v := .bool false) rfl (by kernel_rfl) (fun _ _ _ h => h) (.inl ⟨by rfl, fun W' hS' => by go_simp⟩) hV0 ?_
  try simp only [z]
  refine tk (i := 11) (v := .pointer (some ⟨W2.heap.size, 1, none⟩)) rfl (by kernel_rfl) (fun _ _ _ h => h) (.inl ⟨by rfl, fun W' hS' => by go_simp⟩) hV0 ?_
  try simp only [z]
  refine tk (i := 12) (v := .int .i64 x0.meth) rfl (by kernel_rfl) (fun _ _ _ h => h) (.inl ⟨by rfl, fun W' hS' => by have hc : W'.cell? ⟨W2.heap.size, 1, none⟩ = some (.int .i64 x0.meth) := (by have := cell_of_row _ _ 1 _ _ _ hS'.2; simpa using this); have hl2 := some_lt hS'.2; go_simp⟩) hV0 ?_
  try simp only [z]
  refine tk (i := 13) (v := .bool false) rfl (by kernel_rfl) (fun _ _ _ h => h) (.inl ⟨by rfl, fun W' hS' => by have hm' := hmb2; go_simp⟩) hV0 ?_
  try simp only [z]
  refine tk (i := 14) (v := .bool false) rfl (by kernel_rfl) (fun _ _ _ h => h) (.inl ⟨by rfl, fun W' hS' => by go_simp⟩) hV0 ?_
  try simp only [z]
  refine tk (i := 15) (v := .bool false) rfl (by kernel_rfl) (fun _ _ _ h => h) (.inl ⟨by rfl, fun W' hS' => by go_simp⟩) hV0 ?_
  try simp only [z]
 rotate_left
 all_goals (
  refine wpAnyH_ready (rs := [16]) (by kernel_rfl) (by simp) (AllReadyH.cons rfl (fun K hK => ?_) AllReadyH.nil)
  rw [if_pos (by rfl)]
  refine wp_store_row 94 _ _ none rfl rfl w.heap.size 94 _ #[.int .i64 x0.ent, .int .i64 x0.meth, .int .i64 x0.since, .bool x0.sg1, .slice x0.sA1 x0.sn1 x0.sc1, .bool x0.sg2, .slice x0.sA2 x0.sn2 x0.sc2, .bool x0.fg1, .slice x0.fA1 x0.fn1 x0.fc1, .bool x0.fg2, .slice x0.fA2 x0.fn2 x0.fc2, .slice x0.iA x0.im x0.ic, .slice x0.hA x0.hm x0.hc] rfl rfl hz0 rfl condSize38 (by simp [Value.oneCell']) ?_
  have hrw := setRow_heap W0 w.heap.size _ #[.int .i64 x0.ent, .int .i64 x0.meth, .int .i64 x0.since, .bool x0.sg1, .slice x0.sA1 x0.sn1 x0.sc1, .bool x0.sg2, .slice x0.sA2 x0.sn2 x0.sc2, .bool x0.fg1, .slice x0.fA1 x0.fn1 x0.fc1, .bool x0.fg2, .slice x0.fA2 x0.fn2 x0.fc2, .slice x0.iA x0.im x0.ic, .slice x0.hA x0.hm x0.hc] _ _ hz0
  have hS2 : (fun W => Below w.heap.size w W /\ W.heap[W2.heap.size]? = some (.cells #[.int .i64 x0.ent, .int .i64 x0.meth, .int .i64 x0.since, .bool x0.sg1, .slice x0.sA1 x0.sn1 x0.sc1, .bool x0.sg2, .slice x0.sA2 x0.sn2 x0.sc2, .bool x0.fg1, .slice x0.fA1 x0.fn1 x0.fc1, .bool x0.fg2, .slice x0.fA2 x0.fn2 x0.fc2, .slice x0.iA x0.im x0.ic, .slice x0.hA x0.hm x0.hc] 94 (0, 0))) (W0.setRow w.heap.size #[.int .i64 x0.ent, .int .i64 x0.meth, .int .i64 x0.since, .bool x0.sg1, .slice x0.sA1 x0.sn1 x0.sc1, .bool x0.sg2, .slice x0.sA2 x0.sn2 x0.sc2, .bool x0.fg1, .slice x0.fA1 x0.fn1 x0.fc1, .bool x0.fg2, .slice x0.fA2 x0.fn2 x0.fc2, .slice x0.iA x0.im x0.ic, .slice x0.hA x0.hm x0.hc]) := ⟨below_setRow hV0.1 (Nat.le_refl _) _, (setRow_other W0 w.heap.size W2.heap.size _ (Ne.symm hne)).trans hV0.2⟩
  refine hK.out _ _ hS2 (fun _ => ?_)
  clear hK K
  try simp only [z]
  refine wpAnyH_ready (rs := [17]) (by kernel_rfl) (by simp) (AllReadyH.cons rfl (fun K hK => ?_) AllReadyH.nil)
  go_simp
  refine hK.out _ _ hS2 (fun _ => ?_)
  clear hK K
  try simp only [z]
  refine wpAnyH_done (by kernel_rfl) ?_ _
  try simp only [z]
  have hload := Lib.hid (run_loadVar_row (P := Tryz.prog) _ _ _ 94 _ _ _ hrw Tryz.underlying94 rfl condSize38)
  have hBF := Lib.hid hS2.1
  clear hrw hS2
  go_wp2
  exact bodyPost_ret (v := .tuple #[.agg #[.int .i64 x0.ent, .int .i64 x0.meth, .int .i64 x0.since, .bool x0.sg1, .slice x0.sA1 x0.sn1 x0.sc1, .bool x0.sg2, .slice x0.sA2 x0.sn2 x0.sc2, .bool x0.fg1, .slice x0.fA1 x0.fn1 x0.fc1, .bool x0.fg2, .slice x0.fA2 x0.fn2 x0.fc2, .slice x0.iA x0.im x0.ic, .slice x0.hA x0.hm x0.hc], .bool (Cn.isElim l x)]) (by simp [results, Tryz.results46, asAddr, Act.put, hload.out, HB.out]) rfl ⟨by rw [HX.out], hBF.out⟩)
end
theorem itmSizeC : (Tryz.prog.info? 82).map (·.size) = some 7 := by kernel_rfl
section
variable (w : World)
theorem capc1_any (z : Itm) (pg : Nat) (r : Int) (hp : pg < w.heap.size) (hg : w.cell? ⟨pg, 12, none⟩ = some (.int .i64 r)) :
  Calls Tryz.prog 48 #[.agg #[.int .i64 z.ent0, .int .i64 z.lin, .int .i64 z.ent, .int .i64 z.acct, .int .i64 z.partner, .int .i64 z.date, .int .i64 z.amt], .pointer (some ⟨pg, 0, none⟩)] w fun e w' => e = .returned (.bool (decide (z.acct = r))) /\ Below w.heap.size w w' := by
 obtain ⟨W1, hW1, hB0, hb0, hz⟩ := nw1 w #[.int .i64 z.ent0, .int .i64 z.lin, .int .i64 z.ent, .int .i64 z.acct, .int .i64 z.partner, .int .i64 z.date, .int .i64 z.amt] 82
 have HW := Lib.hid hW1
 have g12 := (hB0.cell (p := ⟨pg, 12, none⟩) hp).trans hg
 have y3 := cell_of_row _ _ 3 _ _ _ hb0
 simp at y3
 have s1 : w.heap.size < W1.heap.size := by omega
 have sp : pg < W1.heap.size := by omega
 obtain ⟨ac, hac⟩ : ∃ ac, ac = z.acct := ⟨_, rfl⟩
 rw [<- hac] at y3
 have Hac := Lib.hid hac
 clear hW1 hb0 hz hg hac
 go_enter Tryz.func48, Tryz.ntmps48
 go_upto_region 1 with (fail)
 rw [<- HW.out]
 by_cases h : ac = r
 ·have hb : (ac == r) = true := by simp [h]
  have HD : Hid (decide (z.acct = r) = true) := by show _ = _; rw [<- Hac.out]; simp [h]
  clear h
  go_wp2
  go_ret
  exact ⟨by rw [HD.out]; rfl, hB0⟩
 ·have hb : (ac == r) = false := by simp [h]
  have HD : Hid (decide (z.acct = r) = false) := by show _ = _; rw [<- Hac.out]; simp [h]
  clear h
  go_wp2
  go_ret
  exact ⟨by rw [HD.out]; rfl, hB0⟩
theorem capc2_any (g : Grp) (z : Itm) (pg pe po : Nat) (x d : Int) (hp : pg < w.heap.size) (hpe : pe < w.heap.size) (hpo : po < w.heap.size) (hg : w.cell? ⟨pg, 5, none⟩ = some (.int .i64 g.r0)) (he : w.cell? ⟨pe, 0, none⟩ = some (.int .i64 x)) (ho : w.cell? ⟨po, 2, none⟩ = some (.int .i64 d)) :
  Calls Tryz.prog 49 #[.agg #[.int .i64 z.ent0, .int .i64 z.lin, .int .i64 z.ent, .int .i64 z.acct, .int .i64 z.partner, .int .i64 z.date, .int .i64 z.amt], .pointer (some ⟨pg, 0, none⟩), .pointer (some ⟨pe, 0, none⟩), .pointer (some ⟨po, 0, none⟩)] w fun e w' => e = .returned (.bool (Gr.invest1 g x d false z)) /\ Below w.heap.size w w' := by
 obtain ⟨W1, hW1, hB0, hb0, hz⟩ := nw1 w #[.int .i64 z.ent0, .int .i64 z.lin, .int .i64 z.ent, .int .i64 z.acct, .int .i64 z.partner, .int .i64 z.date, .int .i64 z.amt] 82
 have HW := Lib.hid hW1
 have g5 := (hB0.cell (p := ⟨pg, 5, none⟩) hp).trans hg
 have e0 := (hB0.cell (p := ⟨pe, 0, none⟩) hpe).trans he
 have o2 := (hB0.cell (p := ⟨po, 2, none⟩) hpo).trans ho
 have y3 := cell_of_row _ _ 3 _ _ _ hb0
 have y4 := cell_of_row _ _ 4 _ _ _ hb0
 have y5 := cell_of_row _ _ 5 _ _ _ hb0
 simp at y3 y4 y5
 have s1 : w.heap.size < W1.heap.size := by omega
 have sp : pg < W1.heap.size := by omega
 have spe : pe < W1.heap.size := by omega
 have spo : po < W1.heap.size := by omega
 obtain ⟨ac, hac⟩ : ∃ ac, ac = z.acct := ⟨_, rfl⟩
 obtain ⟨pa, hpa⟩ : ∃ pa, pa = z.partner := ⟨_, rfl⟩
 obtain ⟨da, hda⟩ : ∃ da, da = z.date := ⟨_, rfl⟩
 rw [<- hac] at y3
 rw [<- hpa] at y4
 rw [<- hda] at y5
 have HP : Hid (Gr.invest1 g x d false z = (decide (ac = g.r0) && decide (pa = x) && (decide (d < da) == false))) := by show _ = _; rw [Gr.invest1, <- hac, <- hpa, <- hda]
 clear hW1 hb0 hz hg he ho hac hpa hda
 go_enter Tryz.func49, Tryz.ntmps49
 go_upto_region 1 with (fail)
 rw [<- HW.out]
 by_cases h1 : ac = g.r0
 case neg =>
  have h1b : (ac == g.r0) = false := by simp [h1]
  have HB : Hid (Gr.invest1 g x d false z = false) := by show _ = _; rw [HP.out]; simp [h1]
  clear h1
  go_wp2
  go_ret
  exact ⟨by rw [HB.out]; rfl, hB0⟩
 have h1b : (ac == g.r0) = true := by simp [h1]
 by_cases h2 : pa = x
 case neg =>
  have h2b : (pa == x) = false := by simp [h2]
  have HB : Hid (Gr.invest1 g x d false z = false) := by show _ = _; rw [HP.out]; simp [h2]
  clear h1 h2
  go_wp2
  go_ret
  exact ⟨by rw [HB.out]; rfl, hB0⟩
 have h2b : (pa == x) = true := by simp [h2]
 by_cases h3 : da <= d
 ·have HB : Hid (Gr.invest1 g x d false z = true) := by show _ = _; rw [HP.out]; simp [h1, h2]; omega
  clear h1 h2
  go_wp2
  go_ret
  exact ⟨by rw [HB.out]; rfl, hB0⟩
 ·have HB : Hid (Gr.invest1 g x d false z = false) := by show _ = _; rw [HP.out]; simp [h1, h2]; omega
  clear h1 h2
  go_wp2
  go_ret
  exact ⟨by rw [HB.out]; rfl, hB0⟩
theorem capsum1_any (A : Option Addr) (n c : Nat) (l : List Itm) (hl : l.length = n) (hn : n <= 40) (hx : ∀ x ∈ l, x.small) (hA : ItmsAt w w.heap.size A l) (pg : Nat) (r : Int) (hp : pg < w.heap.size) (hg : w.cell? ⟨pg, 12, none⟩ = some (.int .i64 r)) :
  Calls Tryz.prog 47 #[.slice A n c, .func (.func 48) #[] #[.pointer (some ⟨pg, 0, none⟩)]] w fun e w' => e = .returned (.int .i64 (Gr.sumIf (fun z => decide (z.acct = r)) l)) /\ Below w.heap.size w w' := by
 have HA := Lib.hid hA
 have HX := Lib.hid hx
 have Hl := Lib.hid hl
 have HG := Lib.hid hg
 clear hg
 clear hA hx hl
 go_enter Tryz.func47, Tryz.ntmps47
 go_wp2
 go_loopw [5, 10] (fun s i wr => ∃ k : Nat, k <= n /\ i = .int .i64 k /\ s = .int .i64 (Gr.sumIf (fun z => decide (z.acct = r)) (l.take k)) /\ Below w.heap.size w wr) (fun _ i _ => n - (intOf i).toNat)
 case atStart => exact ⟨0, Nat.zero_le _, rfl, rfl, Below.refl _ _⟩
 case round =>
  obtain ⟨k, hk, rfl, rfl, hbr⟩ := hrel
  obtain ⟨s, hs⟩ : ∃ s, s = Gr.sumIf (fun z => decide (z.acct = r)) (l.take k) := ⟨_, rfl⟩
  obtain ⟨lo, hi⟩ := Gr.sumIf_take_small (P := (fun z => decide (z.acct = r))) k Hl.out hn HX.out
  rw [<- hs] at lo hi ⊢
  have Hs := Lib.hid hs
  have hq := hbr.size
  clear hs
  by_cases hlt : k < n
  ·have hkl : k < l.length := by have := Hl.out; omega
   obtain ⟨b, o, hAe, hbB, hr⟩ := RowsAt.look (RowsAt.below HA.out hbr (Nat.le_refl _)) hkl
   cases hAe
   obtain ⟨zi, hzi⟩ : ∃ zi, zi = l[k] := ⟨_, rfl⟩
   have HN : Hid (Gr.sumIf (fun z => decide (z.acct = r)) (l.take (k + 1)) = s + (if decide (zi.acct = r) = true then zi.amt else 0)) := by show _ = _; rw [Gr.sumIf_take _ hkl, <- Hs.out, <- hzi]
   obtain ⟨zl, zh⟩ : zi.small := by rw [hzi]; exact HX.out _ (List.getElem_mem hkl)
   rw [<- hzi] at hr
   have Hr := Lib.hid hr
   have hbw : b < wr.heap.size := by omega
   have hk0 : (0 : Int) <= (k : Int) := by omega
   have hkn : (k : Int) < n := by omega
   obtain ⟨W6, hW6, hB6, hb6, hz6⟩ := nw1 wr #[.int .i64 zi.ent0, .int .i64 zi.lin, .int .i64 zi.ent, .int .i64 zi.acct, .int .i64 zi.partner, .int .i64 zi.date, .int .i64 zi.amt] 82
   have HW6 := Lib.hid hW6
   have Hb6 := Lib.hid hb6
   have hbr6 := hbr.trans (hB6.mono hq)
   have hrz := Lib.hid (range_row (cs := [.int .i64 zi.ent0, .int .i64 zi.lin, .int .i64 zi.ent, .int .i64 zi.acct, .int .i64 zi.partner, .int .i64 zi.date, .int .i64 zi.amt]) hb6)
   have s6 : wr.heap.size < W6.heap.size := by omega
   have hq6 := hbr6.size
   have Hcall := Lib.hid (capc1_any W6 zi pg r (by omega) ((hbr6.cell (p := ⟨pg, 12, none⟩) hp).trans HG.out))
   obtain ⟨t, ht⟩ : ∃ t, t = decide (zi.acct = r) := ⟨_, rfl⟩
   clear hzi hr hb6 hz6 hW6
   go_upto_region 5 with (refine wpList_load_mid rfl 82 (.tmp 12) rfl b (o + k * 7) rfl [.int .i64 zi.ent0, .int .i64 zi.lin, .int .i64 zi.ent, .int .i64 zi.acct, .int .i64 zi.partner, .int .i64 zi.date, .int .i64 zi.amt] _ Hr.out Tryz.underlying82 rfl itmSizeC ?_)
   rw [<- HW6.out]
   go_wp2_with (refine wpList_load_mid rfl 82 (.tmp 7) rfl wr.heap.size 0 rfl [.int .i64 zi.ent0, .int .i64 zi.lin, .int .i64 zi.ent, .int .i64 zi.acct, .int .i64 zi.partner, .int .i64 zi.date, .int .i64 zi.amt] _ hrz.out Tryz.underlying82 rfl itmSizeC ?_)
   refine Hcall.out.mono ?_
   rw [<- ht]
   rintro e W7 ⟨rfl, hB7⟩
   have hb7 := gbox Hb6.out hB7 s6
   have y6 := cell_of_row _ _ 6 _ _ _ hb7
   simp at y6
   have s7 := some_lt hb7
   have hbr7 := Lib.hid (hbr6.trans (hB7.mono hq6))
   obtain ⟨am, ham⟩ : ∃ am, am = zi.amt := ⟨_, rfl⟩
   rw [<- ham] at y6 zl zh HN
   rw [<- ht] at HN
   clear hb7 ham ht
   cases t with
   | true =>
    have HN2 : Hid (Gr.sumIf (fun z => decide (z.acct = r)) (l.take (k + 1)) = s + am) := by show _ = _; rw [HN.out]; simp
    go_wp2
    go_roundw
    case rel => exact ⟨k + 1, by omega, by go_num, by rw [HN2.out], hbr7.out⟩
    case measure => simp [intOf]; omega
   | false =>
    have HN2 : Hid (Gr.sumIf (fun z => decide (z.acct = r)) (l.take (k + 1)) = s) := by show _ = _; rw [HN.out]; simp
    go_wp2
    go_roundw
    case rel => exact ⟨k + 1, by omega, by go_num, by rw [HN2.out], hbr7.out⟩
    case measure => simp [intOf]; omega
  ·obtain rfl : k = n := by omega
   have HV : Hid (Gr.sumIf (fun z => decide (z.acct = r)) l = s) := by
    show _ = _
    have := Hs.out
    rw [<- Hl.out, List.take_length] at this
    exact this.symm
   go_wp2
   go_ret
   exact ⟨by rw [HV.out]; rfl, hbr⟩
theorem capsum2_any (A : Option Addr) (n c : Nat) (l : List Itm) (hl : l.length = n) (hn : n <= 40) (hx : ∀ x ∈ l, x.small) (hA : ItmsAt w w.heap.size A l) (g : Grp) (pg pe po : Nat) (x d : Int) (hp : pg < w.heap.size) (hpe : pe < w.heap.size) (hpo : po < w.heap.size) (hg : w.cell? ⟨pg, 5, none⟩ = some (.int .i64 g.r0)) (he : w.cell? ⟨pe, 0, none⟩ = some (.int .i64 x)) (ho : w.cell? ⟨po, 2, none⟩ = some (.int .i64 d)) :
  Calls Tryz.prog 47 #[.slice A n c, .func (.func 49) #[] #[.pointer (some ⟨pg, 0, none⟩), .pointer (some ⟨pe, 0, none⟩), .pointer (some ⟨po, 0, none⟩)]] w fun e w' => e = .returned (.int .i64 (Gr.sumIf (Gr.invest1 g x d false) l)) /\ Below w.heap.size w w' := by
 have HA := Lib.hid hA
 have HX := Lib.hid hx
 have Hl := Lib.hid hl
 have HG := Lib.hid hg
 have HE := Lib.hid he
 have HO := Lib.hid ho
 clear hg he ho
 clear hA hx hl
 go_enter Tryz.func47, Tryz.ntmps47
 go_wp2
 go_loopw [5, 10] (fun s i wr => ∃ k : Nat, k <= n /\ i = .int .i64 k /\ s = .int .i64 (Gr.sumIf (Gr.invest1 g x d false) (l.take k)) /\ Below w.heap.size w wr) (fun _ i _ => n - (intOf i).toNat)
 case atStart => exact ⟨0, Nat.zero_le _, rfl, rfl, Below.refl _ _⟩
 case round =>
  obtain ⟨k, hk, rfl, rfl, hbr⟩ := hrel
  obtain ⟨s, hs⟩ : ∃ s, s = Gr.sumIf (Gr.invest1 g x d false) (l.take k) := ⟨_, rfl⟩
  obtain ⟨lo, hi⟩ := Gr.sumIf_take_small (P := (Gr.invest1 g x d false)) k Hl.out hn HX.out
  rw [<- hs] at lo hi ⊢
  have Hs := Lib.hid hs
  have hq := hbr.size
  clear hs
  by_cases hlt : k < n
  ·have hkl : k < l.length := by have := Hl.out; omega
   obtain ⟨b, o, hAe, hbB, hr⟩ := RowsAt.look (RowsAt.below HA.out hbr (Nat.le_refl _)) hkl
   cases hAe
   obtain ⟨zi, hzi⟩ : ∃ zi, zi = l[k] := ⟨_, rfl⟩
   have HN : Hid (Gr.sumIf (Gr.invest1 g x d false) (l.take (k + 1)) = s + (if Gr.invest1 g x d false zi = true then zi.amt else 0)) := by show _ = _; rw [Gr.sumIf_take _ hkl, <- Hs.out, <- hzi]
   obtain ⟨zl, zh⟩ : zi.small := by rw [hzi]; exact HX.out _ (List.getElem_mem hkl)
   rw [<- hzi] at hr
   have Hr := Lib.hid hr
   have hbw : b < wr.heap.size := by omega
   have hk0 : (0 : Int) <= (k : Int) := by omega
   have hkn : (k : Int) < n := by omega
   obtain ⟨W6, hW6, hB6, hb6, hz6⟩ := nw1 wr #[.int .i64 zi.ent0, .int .i64 zi.lin, .int .i64 zi.ent, .int .i64 zi.acct, .int .i64 zi.partner, .int .i64 zi.date, .int .i64 zi.amt] 82
   have HW6 := Lib.hid hW6
   have Hb6 := Lib.hid hb6
   have hbr6 := hbr.trans (hB6.mono hq)
   have hrz := Lib.hid (range_row (cs := [.int .i64 zi.ent0, .int .i64 zi.lin, .int .i64 zi.ent, .int .i64 zi.acct, .int .i64 zi.partner, .int .i64 zi.date, .int .i64 zi.amt]) hb6)
   have s6 : wr.heap.size < W6.heap.size := by omega
   have hq6 := hbr6.size
   have Hcall := Lib.hid (capc2_any W6 g zi pg pe po x d (by omega) (by omega) (by omega) ((hbr6.cell (p := ⟨pg, 5, none⟩) hp).trans HG.out) ((hbr6.cell (p := ⟨pe, 0, none⟩) hpe).trans HE.out) ((hbr6.cell (p := ⟨po, 2, none⟩) hpo).trans HO.out))
   obtain ⟨t, ht⟩ : ∃ t, t = Gr.invest1 g x d false zi := ⟨_, rfl⟩
   clear hzi hr hb6 hz6 hW6
   go_upto_region 5 with (refine wpList_load_mid rfl 82 (.tmp 12) rfl b (o + k * 7) rfl [.int .i64 zi.ent0, .int .i64 zi.lin, .int .i64 zi.ent, .int .i64 zi.acct, .int .i64 zi.partner, .int .i64 zi.date, .int .i64 zi.amt] _ Hr.out Tryz.underlying82 rfl itmSizeC ?_)
   rw [<- HW6.out]
   go_wp2_with (refine wpList_load_mid rfl 82 (.tmp 7) rfl wr.heap.size 0 rfl [.int .i64 zi.ent0, .int .i64 zi.lin, .int .i64 zi.ent, .int .i64 zi.acct, .int .i64 zi.partner, .int .i64 zi.date, .int .i64 zi.amt] _ hrz.out Tryz.underlying82 rfl itmSizeC ?_)
   refine Hcall.out.mono ?_
   rw [<- ht]
   rintro e W7 ⟨rfl, hB7⟩
   have hb7 := gbox Hb6.out hB7 s6
   have y6 := cell_of_row _ _ 6 _ _ _ hb7
   simp at y6
   have s7 := some_lt hb7
   have hbr7 := Lib.hid (hbr6.trans (hB7.mono hq6))
   obtain ⟨am, ham⟩ : ∃ am, am = zi.amt := ⟨_, rfl⟩
   rw [<- ham] at y6 zl zh HN
   rw [<- ht] at HN
   clear hb7 ham ht
   cases t with
   | true =>
    have HN2 : Hid (Gr.sumIf (Gr.invest1 g x d false) (l.take (k + 1)) = s + am) := by show _ = _; rw [HN.out]; simp
    go_wp2
    go_roundw
    case rel => exact ⟨k + 1, by omega, by go_num, by rw [HN2.out], hbr7.out⟩
    case measure => simp [intOf]; omega
   | false =>
    have HN2 : Hid (Gr.sumIf (Gr.invest1 g x d false) (l.take (k + 1)) = s) := by show _ = _; rw [HN.out]; simp
    go_wp2
    go_roundw
    case rel => exact ⟨k + 1, by omega, by go_num, by rw [HN2.out], hbr7.out⟩
    case measure => simp [intOf]; omega
  ·obtain rfl : k = n := by omega
   have HV : Hid (Gr.sumIf (Gr.invest1 g x d false) l = s) := by
    show _ = _
    have := Hs.out
    rw [<- Hl.out, List.take_length] at this
    exact this.symm
   go_wp2
   go_ret
   exact ⟨by rw [HV.out]; rfl, hbr⟩
end
theorem red_le38 (a : Int) {D : Int} (hD : 0 < D) : Int.tdiv D (Int.gcd a D) <= D := by
 obtain ⟨q, hq⟩ := Int.gcd_dvd_right a D
 have h0 : (0 : Int) <= (Int.gcd a D : Int) := Int.natCast_nonneg _
 obtain ⟨G, hG⟩ : ∃ G, G = (Int.gcd a D : Int) := ⟨_, rfl⟩
 rw [<- hG] at hq h0 ⊢
 have hG0 : G ≠ 0 := by intro e; subst e; rw [Int.zero_mul] at hq; omega
 have e2 : Int.tdiv D G = q := by rw [hq, Int.mul_tdiv_cancel_left _ hG0]
 rw [e2]
 have hqp : 0 < q := by
  rw [hq] at hD
  exact Int.pos_of_mul_pos_right hD (by omega)
 have : 1 * q <= G * q := Int.mul_le_mul_of_nonneg_right (by omega) (by omega)
 rw [hq]; omega
theorem redBy_pos38 {a D : Int} (hD : 0 < D) : redBy a D = (Int.gcd a D : Int) := by unfold redBy; rw [if_neg (by omega)]
section
variable (w : World)
theorem times38_any (n N D : Int) (s1 : Bool) (S1 : Option Addr) (m1 d1 : Nat) (s2 : Bool) (S2 : Option Addr) (m2 d2 : Nat) (h0 : -100000000000000 <= n) (h1 : n <= 100000000000000) (hs : SD w w.heap.size (.agg #[.bool s1, .slice S1 m1 d1, .bool s2, .slice S2 m2 d2]) N D) (hsk : ShareOk N D) :
  Calls Tryz.prog 50 #[.int .i64 n, .agg #[.bool s1, .slice S1 m1 d1, .bool s2, .slice S2 m2 d2]] w fun e w' => e = .returned (.tuple #[.int .i64 (R1.rd n N D), .bool true]) /\ Below w.heap.size w w' := by
 obtain ⟨W1, hW1, hB0, hb0, hz0⟩ := nw1 w #[.bool s1, .slice S1 m1 d1, .bool s2, .slice S2 m2 d2] 92
 have HW1 := Lib.hid hW1
 have Hb0 := Lib.hid hb0
 have Hy := Lib.hid (RI.more (SD_below hs hB0 (Nat.le_refl _)) hB0.size (Nat.le_refl _) (Nat.le_refl _))
 have Hso := Lib.hid hsk
 have Hbd := Lib.hid (rd_small hsk h0 h1)
 have sz1 : w.heap.size < W1.heap.size := by omega
 clear hW1 hb0 hz0 hs hsk
 go_enter Tryz.func50, Tryz.ntmps50
 go_upto_region 1 with (fail)
 rw [<- HW1.out]
 go_wp2_with (fail)
 refine (ratof_any W1 n 1 (by omega) (by omega) (by omega) (by omega) (by omega)).mono ?_
 rintro e W2 ⟨⟨r2, rfl, hr2⟩, hB2⟩
 have e1 : redBy n 1 = 1 := by rw [redBy_pos38 (by omega)]; simp
 rw [e1, Int.tdiv_one, Int.tdiv_one] at hr2
 obtain ⟨g1, A1, n1, c1, g2, A2, n2, c2, rfl⟩ := hr2.open
 obtain ⟨hB3, hb3, hz3⟩ := row_new W2 #[.bool g1, .slice A1 n1 c1, .bool g2, .slice A2 n2 c2] 92
 have hB13 := hB2.trans (hB3.mono hB2.size)
 have he0 := gbox Hb0.out hB13 sz1
 obtain ⟨W3, hW3⟩ : ∃ W3, W3 = W2.alloc (.cells #[.bool g1, .slice A1 n1 c1, .bool g2, .slice A2 n2 c2] 92) := ⟨_, rfl⟩
 rw [<- hW3] at hB3 hb3 hz3 hB13 he0
 have hB03 := hB0.trans (hB13.mono hB0.size)
 have HW3 := Lib.hid hW3
 have hr3 := Lib.hid (hr2.at_ hB3)
 have hy3 := Lib.hid (RI.more (SD_below Hy.out hB13 (Nat.le_refl _)) hB13.size (Nat.le_refl _) (Nat.le_refl _))
 have hrr := Lib.hid (range_row (cs := [.bool g1, .slice A1 n1 c1, .bool g2, .slice A2 n2 c2]) hb3)
 have hsr := Lib.hid (range_row (cs := [.bool s1, .slice S1 m1 d1, .bool s2, .slice S2 m2 d2]) he0)
 have hpos : Hid (0 < Int.tdiv (1 * D) (redBy (n * N) (1 * D)) /\ Int.tdiv (1 * D) (redBy (n * N) (1 * D)) <= 1000000) := Lib.hid (by
  have h := Hso.out.1
  have h2 := Hso.out.2.1
  rw [Int.one_mul, redBy_pos38 h]
  have a := R1.red_pos (n * N) h
  have b := red_le38 (n * N) h
  omega)
 have s3 : W2.heap.size < W3.heap.size := by omega
 have spo := some_lt he0
 clear hW3 hz3 hb3 he0
 go_upto_region 2 with (fail)
 rw [<- HW3.out]
 go_wp2_with (first | (refine wpList_load_mid rfl 92 (.tmp 6) rfl W2.heap.size 0 rfl [.bool g1, .slice A1 n1 c1, .bool g2, .slice A2 n2 c2] _ hrr.out Tryz.underlying92 rfl ratSize ?_) | (refine wpList_load_mid rfl 92 (.tmp 3) rfl w.heap.size 0 rfl [.bool s1, .slice S1 m1 d1, .bool s2, .slice S2 m2 d2] _ hsr.out Tryz.underlying92 rfl ratSize ?_))
 refine (mul_rat W3 3 1 3 1 _ _ n 1 N D (by omega) (by omega) (by omega) (by have := Hso.out.1; omega) (by have := Hso.out.1; omega) (by have := Hso.out.2.1; omega) hr3.out hy3.out).mono ?_
 rintro e W4 ⟨⟨r4, rfl, hr4⟩, hB4⟩
 have hB04 := hB03.trans (hB4.mono hB03.size)
 go_wp2_with (fail)
 refine (round_rat W4 6 _ _ _ (by omega) (by have := hpos.out; omega) (by have := hpos.out; omega) (by have := hpos.out; omega) hr4).mono ?_
 rw [rd_prog Hso.out.1]
 rintro e W5 ⟨⟨r5, rfl, hr5⟩, hB5⟩
 have hB05 := hB04.trans (hB5.mono hB04.size)
 go_wp2_with (fail)
 refine (small_any W5 _ _ _ (by omega) hr5).mono ?_
 rw [if_pos (by have := Hbd.out; omega), decide_eq_true (by have := Hbd.out; omega)]
 rintro e W6 ⟨rfl, hB6⟩
 have hB06 := hB05.trans (hB6.mono hB05.size)
 obtain ⟨v, hv⟩ : ∃ v, v = R1.rd n N D := ⟨_, rfl⟩
 rw [<- hv]
 have HVv := Lib.hid hv
 clear hv
 go_wp2
 exact bodyPost_ret (v := .tuple #[.int .i64 v, .bool true]) (by simp [results, Tryz.results50, asAddr, Act.put]) rfl ⟨by rw [HVv.out], hB06⟩
end
end Go.Proofs.YtccapfbblnnfjaaGreat
