/- My texts LawN40. -/
import Derived.Test.YtccapfbblnnfjaaGreatE00
import Derived.Test.YtccapfbblnnfjaaGreatD52
import Derived.Test.YtccapfbblnnfjaaGreatD53
import Derived.Test.YtccapfbblnnfjaaGreatE05
set_option linter.unusedVariables false
set_option linter.unusedSimpArgs false
set_option maxRecDepth 100000
set_option maxHeartbeats 8000000
namespace Go.Proofs.YtccapfbblnnfjaaGreat
open Go.RowKit
theorem grown_of_below_n {a b : World} (h : Below a.heap.size a b) : a.grownBy b none := ⟨h.os, h.tape, h.output, h.size, fun i hi _ => h.block i hi⟩
theorem stays_take (bl : Bool) (d : Int) {l : List Itm} {k : Nat} (hk : k < l.length) : (l.take (k + 1)).filter (Itm.stays bl d) = (l.take k).filter (Itm.stays bl d) ++ (if Itm.stays bl d l[k] = true then [l[k]] else []) := by
 rw [List.take_succ_eq_append_getElem hk, List.filter_append, List.filter_cons, List.filter_nil]
section
variable (w : World)
theorem law_none40 (A : Option Addr) (n c : Nat) (l : List Raw) (x : Int) (bl : Bool) (hl : l.length = n) (hn : n <= maxLen) (hr : RawsAt w w.heap.size A l) (hx : ∀ a ∈ l, a.At w w.heap.size) :
  Calls Tryz.prog 8 #[.slice A n c, .int .i64 x, .bool bl] w fun e w' => e = .returned (.bool true) /\ Below w.heap.size w w' := by
 have Hl := Lib.hid hl
 have Hr := Lib.hid hr
 have Hx := Lib.hid hx
 unfold maxLen at hn
 have Hn := Lib.hid hn
 clear hl hr hx hn
 go_enter Tryz.func8, Tryz.ntmps8
 go_wp2_with (fail)
 refine (awake40_any w).mono ?_
 rintro e W2 ⟨rfl, hB2⟩
 have Hr2 := Lib.hid (RowsAt.at_ Hr.out hB2)
 have Hx2 := Lib.hid (fun a ha => ((Hx.out a ha).below hB2 (Nat.le_refl _)).more hB2.size : ∀ a ∈ l, a.At W2 W2.heap.size)
 go_wp2_with (fail)
 refine (contrr_any W2 A n c l Hl.out Hn.out Hr2.out Hx2.out).mono ?_
 rintro e W3 ⟨hB3, v, ok, rfl, hok⟩
 have hB03 := hB2.trans (hB3.mono hB2.size)
 have Hr3 := Lib.hid (RowsAt.at_ Hr2.out hB3)
 have Hx3 := Lib.hid (fun a ha => ((Hx2.out a ha).below hB3 (Nat.le_refl _)).more hB3.size : ∀ a ∈ l, a.At W3 W3.heap.size)
 cases ok with
 | false =>
  clear hok
  go_wp2
  go_ret
  exact ⟨rfl, hB03⟩
 | true =>
 obtain ⟨h8, hall, Ar, cr, cs, rfl, hcl, hcs, hho⟩ := hok rfl
 have H8 := Lib.hid h8
 have Hall := Lib.hid hall
 have Hcl := Lib.hid hcl
 have Hcs := Lib.hid hcs
 have Hho := Lib.hid hho
 have Hlr := Lib.hid (show l.length <= 100 by omega)
 clear hok h8 hall hcl hcs hho
 have hn8 : n * 104 <= 140737488355328 := by have := Hl.out; have := H8.out; omega
 have Hn8 := Lib.hid hn8
 clear hn8
 go_wp2_with (fail)
 refine (elimr_any W3 Ar l.length cr cs x Hcl.out (by have := Hlr.out; omega) Hcs.out).mono ?_
 rintro e V4 ⟨rfl, hC4⟩
 obtain ⟨x0, hx0⟩ : ∃ x0, x0 = Cn.found cs x := ⟨_, rfl⟩
 obtain ⟨ok, hok⟩ : ∃ ok, ok = Cn.isElim cs x := ⟨_, rfl⟩
 have HEL : Hid ((ok = false /\ Gr.elim (l.map Raw.cnt) x = none) ∨ ∃ y, ok = true /\ Gr.elim (l.map Raw.cnt) x = some y /\ x0.since = y.since /\ x0.meth = y.meth) := by
  show _ ∨ _
  rw [hx0, hok]
  rcases Cn.elim_hold (P := fun a b => a.Holds SR W3 W3.heap.size b) (fun _ _ h => ⟨h.he, h.hm⟩) x Hho.out with h | ⟨y, h1, h2, _, h3, _⟩
  ·exact .inl h
  ·exact .inr ⟨y, h1, h2, h3.hs, h3.hm⟩
 rw [<- hx0, <- hok]
 obtain ⟨W5, hW5, hB5, hb5, hz5⟩ := nw1 V4 #[.int .i64 x0.ent, .int .i64 x0.meth, .int .i64 x0.since, .bool x0.sg1, .slice x0.sA1 x0.sn1 x0.sc1, .bool x0.sg2, .slice x0.sA2 x0.sn2 x0.sc2, .bool x0.fg1, .slice x0.fA1 x0.fn1 x0.fc1, .bool x0.fg2, .slice x0.fA2 x0.fn2 x0.fc2, .slice x0.iA x0.im x0.ic, .slice x0.hA x0.hm x0.hc] 62
 have HW5 := Lib.hid hW5
 have hB35 := hC4.trans (hB5.mono hC4.size)
 have hB05 := hB03.trans (hB35.mono hB03.size)
 have Hb5 := Lib.hid hb5
 have s5 := some_lt hb5
 have Hr5 := Lib.hid (RowsAt.at_ Hr3.out hB35)
 have Hx5 := Lib.hid (fun a ha => ((Hx3.out a ha).below hB35 (Nat.le_refl _)).more hB35.size : ∀ a ∈ l, a.At W5 W5.heap.size)
 obtain ⟨d, hd⟩ : ∃ d, d = x0.since := ⟨_, rfl⟩
 obtain ⟨mt, hmt⟩ : ∃ mt, mt = x0.meth := ⟨_, rfl⟩
 have Hd := Lib.hid hd
 have Hmt := Lib.hid hmt
 rw [<- hd, <- hmt] at HEL
 clear hx0 hok hW5 hb5 hz5 hd hmt
 go_upto_region 7 with (fail)
 rw [<- HW5.out]
 obtain ⟨W6, hW6, hB6, h6, hz6⟩ := nw1 W5 #[] 78
 have HW6 := Lib.hid hW6
 have H6 := Lib.hid h6
 have Hr6 := Lib.hid (RowsAt.at_ Hr5.out hB6)
 have hq6 := hB6.size
 have HB6 := Lib.hid hB6
 clear hW6 h6 hz6 hB6
 have tok : True := trivial
 go_upto_region 8 with (at_builtin; have _t := tok; rw [<- HW6.out]; refine wpList_copy_raws W6 rfl _ _ 30 rfl Tryz.underlying30 W5.heap.size rfl H6.out A n c l rfl Hl.out Hn8.out Hr6.out ?_; intro G cap W7 ho7 hg7; clear _t tok)
 have hG : W5.heap.size <= G := by
  rcases ho7.2 with ⟨h, _⟩ | ⟨G', c', cur, h, hb, _⟩
  ·cases h
  ·cases h; exact hb
 have hB57 : Below W5.heap.size W5 W7 := HB6.out.grown hg7 hq6 (fun k hk => by cases hk; exact Nat.le_refl _)
 have Hst0 := Lib.hid (Noning.start (b := bl) (d := d) Hl.out ho7 hB57)
 clear ho7 hg7 hB57
 go_wp2
 go_loopw [12, 13, 14] (fun s _ _ wr => ∃ i : Nat, i <= n /\ s = .int .i64 i /\ Noning bl d l G i W5 wr) (fun s _ _ _ => n - (intOf s).toNat)
 case atStart => exact ⟨0, Nat.zero_le _, rfl, Hst0.out⟩
 case round =>
  obtain ⟨i, hi, rfl, hst⟩ := hrel
  have Hst := Lib.hid hst
  have hB5r := hst.below
  have hGr := hst.lt
  clear hst
  by_cases hlt : i < n
  ·have hil : i < l.length := by rw [Hl.out]; exact hlt
   have hn8 : n <= 8 := by have := Hl.out; have := H8.out; omega
   obtain ⟨cur, hcur, hcs, hget⟩ := Hst.out.look hil
   obtain ⟨xi, hxi⟩ : ∃ xi, xi = l[i] := ⟨_, rfl⟩
   have Hxi := Lib.hid hxi
   rw [<- hxi] at hget
   have hi0 : (0 : Int) <= (i : Int) := by omega
   have hin : (i : Int) < n := by omega
   have c3 : wr.cell? ⟨G, i * 9 + 3, none⟩ = some (.int .i64 xi.s0) := (cell_of_row _ _ _ _ _ _ hcur).trans (hget 3 _ (by omega) rfl)
   have c4 : wr.cell? ⟨G, i * 9 + 4, none⟩ = some (.int .i64 xi.s1) := (cell_of_row _ _ _ _ _ _ hcur).trans (hget 4 _ (by omega) rfl)
   have c5 : wr.cell? ⟨G, i * 9 + 5, none⟩ = some (.int .i64 xi.f0) := (cell_of_row _ _ _ _ _ _ hcur).trans (hget 5 _ (by omega) rfl)
   have c6 : wr.cell? ⟨G, i * 9 + 6, none⟩ = some (.int .i64 xi.f1) := (cell_of_row _ _ _ _ _ _ hcur).trans (hget 6 _ (by omega) rfl)
   have c7 : wr.cell? ⟨G, i * 9 + 7, none⟩ = some (.slice xi.iA xi.im xi.ic) := (cell_of_row _ _ _ _ _ _ hcur).trans (hget 7 _ (by omega) rfl)
   have cf := fun j => frozen_of_row _ _ j _ _ hcur
   have hrow1 := heap_setCell_same wr G (i * 9 + 3) _ _ (.int .i64 xi.f0) hcur
   have hrow2 := heap_setCell_same _ G (i * 9 + 4) _ _ (.int .i64 xi.f1) hrow1
   have hB5a := (hB5r.setCell (p := ⟨G, i * 9 + 3, none⟩) hG (.int .i64 xi.f0)).setCell (p := ⟨G, i * 9 + 4, none⟩) hG (.int .i64 xi.f1)
   have hsza : ((wr.setCell ⟨G, i * 9 + 3, none⟩ (.int .i64 xi.f0)).setCell ⟨G, i * 9 + 4, none⟩ (.int .i64 xi.f1)).heap.size = wr.heap.size := by simp [World.setCell]
   have r7 : ((wr.setCell ⟨G, i * 9 + 3, none⟩ (.int .i64 xi.f0)).setCell ⟨G, i * 9 + 4, none⟩ (.int .i64 xi.f1)).cell? ⟨G, i * 9 + 7, none⟩ = some (.slice xi.iA xi.im xi.ic) := by
    rw [World.cell?_setCell_other _ _ _ _ (by simp), World.cell?_setCell_other _ _ _ _ (by simp)]
    exact c7
   obtain ⟨Wa, hWa⟩ : ∃ Wa, Wa = (wr.setCell ⟨G, i * 9 + 3, none⟩ (.int .i64 xi.f0)).setCell ⟨G, i * 9 + 4, none⟩ (.int .i64 xi.f1) := ⟨_, rfl⟩
   rw [<- hWa] at hrow2 hB5a hsza r7
   have HWa := Lib.hid hWa
   have Hrowa := Lib.hid hrow2
   have HB5a := Lib.hid hB5a
   have R7 := Lib.hid r7
   have hxat := ((Hx5.out l[i] (List.getElem_mem hil)).below hB5a (Nat.le_refl _)).more hB5a.size
   rw [<- hxi] at hxat
   have Hxa := Lib.hid hxat
   have hfew : xi.its.length <= 40 := by rw [hxi]; exact (Raw.few_ok (Raw.ok_parts (Hall.out l[i] (List.getElem_mem hil))).2.2.1).1
   have hil2 := hxat.hil
   have sGa : G < Wa.heap.size := by rw [hsza]; exact hGr
   have Hd5 := Lib.hid (gbox Hb5.out hB5a s5)
   have sda := some_lt Hd5.out
   have own0 : Wa.ownsRow Wa.heap.size 82 7 (.slice none 0 0) ((xi.its.take 0).filter (Itm.stays bl d)).length (((xi.its.take 0).filter (Itm.stays bl d)).flatMap Itm.cells) := ⟨rfl, .inl ⟨rfl, rfl⟩⟩
   have Own0 := Lib.hid own0
   have Hcs := Lib.hid hcs
   obtain ⟨i0, hi9, hz0, hz1, hz2⟩ := info_parts itmInfo
   clear hrow1 hrow2 hB5a hxi hxat own0 hcur hsza hWa r7 hget c7 hcs
   go_upto_region 12 with (fail)
   rw [<- HWa.out]
   clear c3 c4 c5 c6 cf
   have r7 := R7.out
   go_wp2
   clear r7
   go_loopw [13, 14] (fun v s wq => ∃ (v' : Value) (k : Nat), v' = v /\ k <= xi.im /\ s = .int .i64 k /\ wq.ownsRow Wa.heap.size 82 7 v' ((xi.its.take k).filter (Itm.stays bl d)).length (((xi.its.take k).filter (Itm.stays bl d)).flatMap Itm.cells) /\ Below Wa.heap.size Wa wq) (fun _ s _ => xi.im - (intOf s).toNat)
   case atStart => exact ⟨_, 0, rfl, Nat.zero_le _, rfl, Own0.out, Below.refl _ _⟩
   case round =>
    obtain ⟨v', k, hv, hk, rfl, hown, hbq⟩ := hrel
    subst hv
    have Hown := Lib.hid hown
    have hqq := hbq.size
    have r7 := (hbq.cell (p := ⟨G, i * 9 + 7, none⟩) sGa).trans R7.out
    have sGq : G < wr.heap.size := by omega
    have hbytes2 : ((xi.its.take k).filter (Itm.stays bl d)).length <= 40 := by
     have h1 := List.length_filter_le (Itm.stays bl d) (xi.its.take k)
     rw [List.length_take] at h1; omega
    clear hown
    by_cases hlk : k < xi.im
    ·have hkl : k < xi.its.length := by omega
     obtain ⟨b2, o2, hA2, hb2B, hr2⟩ := RowsAt.look (RowsAt.below Hxa.out.hiA hbq (Nat.le_refl _)) hkl
     obtain ⟨zi, hzi⟩ : ∃ zi, zi = xi.its[k] := ⟨_, rfl⟩
     have hlt1 := stays_take bl d hkl
     rw [<- hzi] at hr2 hlt1
     have Hlt1 := Lib.hid hlt1
     have hb2w : b2 < wr.heap.size := by omega
     have hk0 : (0 : Int) <= (k : Int) := by omega
     have hkn : (k : Int) < xi.im := by omega
     have HA2 := Lib.hid hA2
     rw [hA2] at r7
     have R7q := Lib.hid r7
     obtain ⟨ac, hac⟩ : ∃ ac, ac = zi.acct := ⟨_, rfl⟩
     obtain ⟨dz, hdz⟩ : ∃ dz, dz = zi.date := ⟨_, rfl⟩
     have i3 : wr.cell? ⟨b2, o2 + k * 7 + 3, none⟩ = some (.int .i64 ac) := by rw [hac]; exact hr2 3 _ rfl
     have i5 : wr.cell? ⟨b2, o2 + k * 7 + 5, none⟩ = some (.int .i64 dz) := by rw [hdz]; exact hr2 5 _ rfl
     have I3 := Lib.hid i3
     have I5 := Lib.hid i5
     have Hr2 := Lib.hid hr2
     have HKD : Hid (Itm.stays bl d zi = (decide (ac ≠ 1500) || bl || decide (dz <= d))) := by show _ = _; rw [Itm.stays, <- hac, <- hdz]
     have Hdw := Lib.hid (gbox Hd5.out hbq sda)
     have sdw := some_lt Hdw.out
     have hS : Below wr.heap.size wr wr.drew := below_drawn (Below.refl _ _) 1
     clear hzi hr2 hlt1 hA2 hac hdz i3 i5
     go_upto_region 16 with (fail)
     clear r7
     refine wp_region_held (S := Below wr.heap.size wr) (by kernel_rfl) ?_
     change wpAnyH _ _ _ _ _ _ _ _ (World.drew wr)
     obtain ⟨Wz, hWd⟩ : ∃ W0, W0 = wr.drew := ⟨_, rfl⟩
     rw [<- hWd] at hS ⊢
     clear hWd
     refine tk (i := 0) (v := .slice (some ⟨G, 0, none⟩) n cap) rfl (by kernel_rfl) (fun _ _ _ h => h) (.inl ⟨by rfl, fun W' hS' => by go_simp⟩) hS ?_
     try simp only [z]
     refine tk (i := 1) (v := .int .i64 i) rfl (by kernel_rfl) (fun _ _ _ h => h) (.inl ⟨by rfl, fun W' hS' => by go_simp⟩) hS ?_
     try simp only [z]
     refine tk (i := 2) (v := .pointer (some ⟨G, i * 9, none⟩)) rfl (by kernel_rfl) (fun _ _ _ h => h) (.inl ⟨by rfl, fun W' hS' => by go_simp⟩) hS ?_
     try simp only [z]
     refine tk (i := 3) (v := .pointer (some ⟨G, i * 9 + 7, none⟩)) rfl (by kernel_rfl) (fun _ _ _ h => h) (.inl ⟨by rfl, fun W' hS' => by go_simp⟩) hS ?_
     try simp only [z]
     refine tk (i := 4) (v := .slice (some ⟨b2, o2, none⟩) xi.im xi.ic) rfl (by kernel_rfl) (fun _ _ _ h => h) (.inl ⟨by rfl, fun W' hS' => by have hc := (hS'.cell (p := ⟨G, i * 9 + 7, none⟩) sGq).trans R7q.out; have hl9 := Nat.lt_of_lt_of_le sGq hS'.size; go_simp⟩) hS ?_
     try simp only [z]
     refine tk (i := 5) (v := .int .i64 k) rfl (by kernel_rfl) (fun _ _ _ h => h) (.inl ⟨by rfl, fun W' hS' => by go_simp⟩) hS ?_
     try simp only [z]
     refine tk (i := 6) (v := .pointer (some ⟨b2, o2 + k * 7, none⟩)) rfl (by kernel_rfl) (fun _ _ _ h => h) (.inl ⟨by rfl, fun W' hS' => by go_simp⟩) hS ?_
     try simp only [z]
     refine tk (i := 7) (v := .pointer (some ⟨b2, o2 + k * 7 + 3, none⟩)) rfl (by kernel_rfl) (fun _ _ _ h => h) (.inl ⟨by rfl, fun W' hS' => by go_simp⟩) hS ?_
     try simp only [z]
     refine tk (i := 8) (v := .int .i64 ac) rfl (by kernel_rfl) (fun _ _ _ h => h) (.inl ⟨by rfl, fun W' hS' => by have hc := (hS'.cell (p := ⟨b2, o2 + k * 7 + 3, none⟩) hb2w).trans I3.out; have hl9 := Nat.lt_of_lt_of_le hb2w hS'.size; go_simp⟩) hS ?_
     try simp only [z]
     have hway : ac ≠ 1500 ∨ ac = 1500 /\ (bl = true ∨ bl = false /\ (dz <= d ∨ ¬ dz <= d)) := by cases bl <;> simp <;> omega
     rcases hway with h1 | ⟨h1, rfl | ⟨rfl, h2 | h2⟩⟩
     focus
      have hacb : (ac != 1500) = true := by simp [h1]
      have HB : Hid (Itm.stays bl d zi = true) := by show _ = _; rw [HKD.out]; simp [h1]
      clear h1
      refine tk (i := 9) (v := .bool true) rfl (by kernel_rfl) (fun _ _ _ h => h) (.inl ⟨by rfl, fun W' hS' => by have h' := hacb; go_simp⟩) hS ?_
      try simp only [z]
      refine tk (i := 10) (v := .bool true) rfl (by kernel_rfl) (fun _ _ _ h => h) (.inl ⟨by rfl, fun W' hS' => by go_simp⟩) hS ?_
      try simp only [z]
      refine tk (i := 11) (v := undef) rfl (by kernel_rfl) (fun _ _ _ h => h) (.inr ⟨by rfl, rfl⟩) hS ?_
      try simp only [z]
      refine tk (i := 12) (v := .bool true) rfl (by kernel_rfl) (fun _ _ _ h => h) (.inl ⟨by rfl, fun W' hS' => by go_simp⟩) hS ?_
      try simp only [z]
      refine tk (i := 13) (v := .bool true) rfl (by kernel_rfl) (fun _ _ _ h => h) (.inl ⟨by rfl, fun W' hS' => by go_simp⟩) hS ?_
      try simp only [z]
      refine tk (i := 14) (v := undef) rfl (by kernel_rfl) (fun _ _ _ h => h) (.inr ⟨by rfl, rfl⟩) hS ?_
      try simp only [z]
      refine tk (i := 15) (v := undef) rfl (by kernel_rfl) (fun _ _ _ h => h) (.inr ⟨by rfl, rfl⟩) hS ?_
      try simp only [z]
      refine tk (i := 16) (v := undef) rfl (by kernel_rfl) (fun _ _ _ h => h) (.inr ⟨by rfl, rfl⟩) hS ?_
      try simp only [z]
      refine tk (i := 17) (v := undef) rfl (by kernel_rfl) (fun _ _ _ h => h) (.inr ⟨by rfl, rfl⟩) hS ?_
      try simp only [z]
      refine tk (i := 18) (v := undef) rfl (by kernel_rfl) (fun _ _ _ h => h) (.inr ⟨by rfl, rfl⟩) hS ?_
      try simp only [z]
      refine tk (i := 19) (v := undef) rfl (by kernel_rfl) (fun _ _ _ h => h) (.inr ⟨by rfl, rfl⟩) hS ?_
      try simp only [z]
      refine tk (i := 20) (v := undef) rfl (by kernel_rfl) (fun _ _ _ h => h) (.inr ⟨by rfl, rfl⟩) hS ?_
      try simp only [z]
      refine tk (i := 21) (v := undef) rfl (by kernel_rfl) (fun _ _ _ h => h) (.inr ⟨by rfl, rfl⟩) hS ?_
      try simp only [z]
      refine tk (i := 22) (v := undef) rfl (by kernel_rfl) (fun _ _ _ h => h) (.inr ⟨by rfl, rfl⟩) hS ?_
      try simp only [z]
      refine tk (i := 23) (v := undef) rfl (by kernel_rfl) (fun _ _ _ h => h) (.inr ⟨by rfl, rfl⟩) hS ?_
      try simp only [z]
      refine tk (i := 24) (v := undef) rfl (by kernel_rfl) (fun _ _ _ h => h) (.inr ⟨by rfl, rfl⟩) hS ?_
      try simp only [z]
      refine tk (i := 25) (v := undef) rfl (by kernel_rfl) (fun _ _ _ h => h) (.inr ⟨by rfl, rfl⟩) hS ?_
      try simp only [z]
     rotate_left
     focus
      have hacb : (ac != 1500) = false := by simp [h1]
      have HB : Hid (Itm.stays true d zi = true) := by show _ = _; rw [HKD.out]; simp
      clear h1
      refine tk (i := 9) (v := .bool false) rfl (by kernel_rfl) (fun _ _ _ h => h) (.inl ⟨by rfl, fun W' hS' => by have h' := hacb; go_simp⟩) hS ?_
      try simp only [z]
      refine tk (i := 10) (v := .bool false) rfl (by kernel_rfl) (fun _ _ _ h => h) (.inl ⟨by rfl, fun W' hS' => by go_simp⟩) hS ?_
      try simp only [z]
      refine tk (i := 11) (v := .bool true) rfl (by kernel_rfl) (fun _ _ _ h => h) (.inl ⟨by rfl, fun W' hS' => by go_simp⟩) hS ?_
      try simp only [z]
      refine tk (i := 12) (v := .bool true) rfl (by kernel_rfl) (fun _ _ _ h => h) (.inl ⟨by rfl, fun W' hS' => by go_simp⟩) hS ?_
      try simp only [z]
      refine tk (i := 13) (v := .bool true) rfl (by kernel_rfl) (fun _ _ _ h => h) (.inl ⟨by rfl, fun W' hS' => by go_simp⟩) hS ?_
      try simp only [z]
      refine tk (i := 14) (v := undef) rfl (by kernel_rfl) (fun _ _ _ h => h) (.inr ⟨by rfl, rfl⟩) hS ?_
      try simp only [z]
      refine tk (i := 15) (v := undef) rfl (by kernel_rfl) (fun _ _ _ h => h) (.inr ⟨by rfl, rfl⟩) hS ?_
      try simp only [z]
      refine tk (i := 16) (v := undef) rfl (by kernel_rfl) (fun _ _ _ h => h) (.inr ⟨by rfl, rfl⟩) hS ?_
      try simp only [z]
      refine tk (i := 17) (v := undef) rfl (by kernel_rfl) (fun _ _ _ h => h) (.inr ⟨by rfl, rfl⟩) hS ?_
      try simp only [z]
      refine tk (i := 18) (v := undef) rfl (by kernel_rfl) (fun _ _ _ h => h) (.inr ⟨by rfl, rfl⟩) hS ?_
      try simp only [z]
      refine tk (i := 19) (v := undef) rfl (by kernel_rfl) (fun _ _ _ h => h) (.inr ⟨by rfl, rfl⟩) hS ?_
      try simp only [z]
      refine tk (i := 20) (v := undef) rfl (by kernel_rfl) (fun _ _ _ h => h) (.inr ⟨by rfl, rfl⟩) hS ?_
      try simp only [z]
      refine tk (i := 21) (v := undef) rfl (by kernel_rfl) (fun _ _ _ h => h) (.inr ⟨by rfl, rfl⟩) hS ?_
      try simp only [z]
      refine tk (i := 22) (v := undef) rfl (by kernel_rfl) (fun _ _ _ h => h) (.inr ⟨by rfl, rfl⟩) hS ?_
      try simp only [z]
      refine tk (i := 23) (v := undef) rfl (by kernel_rfl) (fun _ _ _ h => h) (.inr ⟨by rfl, rfl⟩) hS ?_
      try simp only [z]
      refine tk (i := 24) (v := undef) rfl (by kernel_rfl) (fun _ _ _ h => h) (.inr ⟨by rfl, rfl⟩) hS ?_
      try simp only [z]
      refine tk (i := 25) (v := undef) rfl (by kernel_rfl) (fun _ _ _ h => h) (.inr ⟨by rfl, rfl⟩) hS ?_
      try simp only [z]
     rotate_left
     focus
      have hacb : (ac != 1500) = false := by simp [h1]
      have HB : Hid (Itm.stays false d zi = true) := by show _ = _; rw [HKD.out]; simp [h2]
      refine tk (i := 9) (v := .bool false) rfl (by kernel_rfl) (fun _ _ _ h => h) (.inl ⟨by rfl, fun W' hS' => by have h' := hacb; go_simp⟩) hS ?_
      try simp only [z]
      refine tk (i := 10) (v := .bool false) rfl (by kernel_rfl) (fun _ _ _ h => h) (.inl ⟨by rfl, fun W' hS' => by go_simp⟩) hS ?_
      try simp only [z]
      refine tk (i := 11) (v := .bool false) rfl (by kernel_rfl) (fun _ _ _ h => h) (.inl ⟨by rfl, fun W' hS' => by go_simp⟩) hS ?_
      try simp only [z]
      refine tk (i := 12) (v := .bool false) rfl (by kernel_rfl) (fun _ _ _ h => h) (.inl ⟨by rfl, fun W' hS' => by go_simp⟩) hS ?_
      try simp only [z]
      refine tk (i := 13) (v := .bool false) rfl (by kernel_rfl) (fun _ _ _ h => h) (.inl ⟨by rfl, fun W' hS' => by go_simp⟩) hS ?_
      try simp only [z]
      refine tk (i := 14) (v := .slice (some ⟨G, 0, none⟩) n cap) rfl (by kernel_rfl) (fun _ _ _ h => h) (.inl ⟨by rfl, fun W' hS' => by go_simp⟩) hS ?_
      try simp only [z]
      refine tk (i := 15) (v := .int .i64 i) rfl (by kernel_rfl) (fun _ _ _ h => h) (.inl ⟨by rfl, fun W' hS' => by go_simp⟩) hS ?_
      try simp only [z]
      refine tk (i := 16) (v := .pointer (some ⟨G, i * 9, none⟩)) rfl (by kernel_rfl) (fun _ _ _ h => h) (.inl ⟨by rfl, fun W' hS' => by go_simp⟩) hS ?_
      try simp only [z]
      refine tk (i := 17) (v := .pointer (some ⟨G, i * 9 + 7, none⟩)) rfl (by kernel_rfl) (fun _ _ _ h => h) (.inl ⟨by rfl, fun W' hS' => by go_simp⟩) hS ?_
      try simp only [z]
      refine tk (i := 18) (v := .slice (some ⟨b2, o2, none⟩) xi.im xi.ic) rfl (by kernel_rfl) (fun _ _ _ h => h) (.inl ⟨by rfl, fun W' hS' => by have hc := (hS'.cell (p := ⟨G, i * 9 + 7, none⟩) sGq).trans R7q.out; have hl9 := Nat.lt_of_lt_of_le sGq hS'.size; go_simp⟩) hS ?_
      try simp only [z]
      refine tk (i := 19) (v := .int .i64 k) rfl (by kernel_rfl) (fun _ _ _ h => h) (.inl ⟨by rfl, fun W' hS' => by go_simp⟩) hS ?_
      try simp only [z]
      refine tk (i := 20) (v := .pointer (some ⟨b2, o2 + k * 7, none⟩)) rfl (by kernel_rfl) (fun _ _ _ h => h) (.inl ⟨by rfl, fun W' hS' => by go_simp⟩) hS ?_
      try simp only [z]
      refine tk (i := 21) (v := .pointer (some ⟨b2, o2 + k * 7 + 5, none⟩)) rfl (by kernel_rfl) (fun _ _ _ h => h) (.inl ⟨by rfl, fun W' hS' => by go_simp⟩) hS ?_
      try simp only [z]
      refine tk (i := 22) (v := .int .i64 dz) rfl (by kernel_rfl) (fun _ _ _ h => h) (.inl ⟨by rfl, fun W' hS' => by have hc := (hS'.cell (p := ⟨b2, o2 + k * 7 + 5, none⟩) hb2w).trans I5.out; have hl9 := Nat.lt_of_lt_of_le hb2w hS'.size; go_simp⟩) hS ?_
      try simp only [z]
      refine tk (i := 23) (v := .pointer (some ⟨V4.heap.size, 2, none⟩)) rfl (by kernel_rfl) (fun _ _ _ h => h) (.inl ⟨by rfl, fun W' hS' => by go_simp⟩) hS ?_
      try simp only [z]
      refine tk (i := 24) (v := .int .i64 d) rfl (by kernel_rfl) (fun _ _ _ h => h) (.inl ⟨by rfl, fun W' hS' => by have hc := cell_of_row _ _ 2 _ _ _ ((hS'.block _ sdw).trans Hdw.out); simp at hc; rw [<- Hd.out] at hc; have hl9 := Nat.lt_of_lt_of_le sdw hS'.size; go_simp⟩) hS ?_
      try simp only [z]
      refine tk (i := 25) (v := .bool true) rfl (by kernel_rfl) (fun _ _ _ h => h) (.inl ⟨by rfl, fun W' hS' => by have h' := h2; go_simp⟩) hS ?_
      try simp only [z]
      clear h1 h2
     rotate_left
     ·skip
      have hacb : (ac != 1500) = false := by simp [h1]
      have HB : Hid (Itm.stays false d zi = false) := by show _ = _; rw [HKD.out]; simp [h1, h2]
      refine tk (i := 9) (v := .bool false) rfl (by kernel_rfl) (fun _ _ _ h => h) (.inl ⟨by rfl, fun W' hS' => by have h' := hacb; go_simp⟩) hS ?_
      try simp only [z]
      refine tk (i := 10) (v := .bool false) rfl (by kernel_rfl) (fun _ _ _ h => h) (.inl ⟨by rfl, fun W' hS' => by go_simp⟩) hS ?_
      try simp only [z]
      refine tk (i := 11) (v := .bool false) rfl (by kernel_rfl) (fun _ _ _ h => h) (.inl ⟨by rfl, fun W' hS' => by go_simp⟩) hS ?_
      try simp only [z]
      refine tk (i := 12) (v := .bool false) rfl (by kernel_rfl) (fun _ _ _ h => h) (.inl ⟨by rfl, fun W' hS' => by go_simp⟩) hS ?_
      try simp only [z]
      refine tk (i := 13) (v := .bool false) rfl (by kernel_rfl) (fun _ _ _ h => h) (.inl ⟨by rfl, fun W' hS' => by go_simp⟩) hS ?_
      try simp only [z]
      refine tk (i := 14) (v := .slice (some ⟨G, 0, none⟩) n cap) rfl (by kernel_rfl) (fun _ _ _ h => h) (.inl ⟨by rfl, fun W' hS' => by go_simp⟩) hS ?_
      try simp only [z]
      refine tk (i := 15) (v := .int .i64 i) rfl (by kernel_rfl) (fun _ _ _ h => h) (.inl ⟨by rfl, fun W' hS' => by go_simp⟩) hS ?_
      try simp only [z]
      refine tk (i := 16) (v := .pointer (some ⟨G, i * 9, none⟩)) rfl (by kernel_rfl) (fun _ _ _ h => h) (.inl ⟨by rfl, fun W' hS' => by go_simp⟩) hS ?_
      try simp only [z]
      refine tk (i := 17) (v := .pointer (some ⟨G, i * 9 + 7, none⟩)) rfl (by kernel_rfl) (fun _ _ _ h => h) (.inl ⟨by rfl, fun W' hS' => by go_simp⟩) hS ?_
      try simp only [z]
      refine tk (i := 18) (v := .slice (some ⟨b2, o2, none⟩) xi.im xi.ic) rfl (by kernel_rfl) (fun _ _ _ h => h) (.inl ⟨by rfl, fun W' hS' => by have hc := (hS'.cell (p := ⟨G, i * 9 + 7, none⟩) sGq).trans R7q.out; have hl9 := Nat.lt_of_lt_of_le sGq hS'.size; go_simp⟩) hS ?_
      try simp only [z]
      refine tk (i := 19) (v := .int .i64 k) rfl (by kernel_rfl) (fun _ _ _ h => h) (.inl ⟨by rfl, fun W' hS' => by go_simp⟩) hS ?_
      try simp only [z]
      refine tk (i := 20) (v := .pointer (some ⟨b2, o2 + k * 7, none⟩)) rfl (by kernel_rfl) (fun _ _ _ h => h) (.inl ⟨by rfl, fun W' hS' => by go_simp⟩) hS ?_
      try simp only [z]
      refine tk (i := 21) (v := .pointer (some ⟨b2, o2 + k * 7 + 5, none⟩)) rfl (by kernel_rfl) (fun _ _ _ h => h) (.inl ⟨by rfl, fun W' hS' => by go_simp⟩) hS ?_
      try simp only [z]
      refine tk (i := 22) (v := .int .i64 dz) rfl (by kernel_rfl) (fun _ _ _ h => h) (.inl ⟨by rfl, fun W' hS' => by have hc := (hS'.cell (p := ⟨b2, o2 + k * 7 + 5, none⟩) hb2w).trans I5.out; have hl9 := Nat.lt_of_lt_of_le hb2w hS'.size; go_simp⟩) hS ?_
      try simp only [z]
      refine tk (i := 23) (v := .pointer (some ⟨V4.heap.size, 2, none⟩)) rfl (by kernel_rfl) (fun _ _ _ h => h) (.inl ⟨by rfl, fun W' hS' => by go_simp⟩) hS ?_
      try simp only [z]
      refine tk (i := 24) (v := .int .i64 d) rfl (by kernel_rfl) (fun _ _ _ h => h) (.inl ⟨by rfl, fun W' hS' => by have hc := cell_of_row _ _ 2 _ _ _ ((hS'.block _ sdw).trans Hdw.out); simp at hc; rw [<- Hd.out] at hc; have hl9 := Nat.lt_of_lt_of_le sdw hS'.size; go_simp⟩) hS ?_
      try simp only [z]
      refine tk (i := 25) (v := .bool false) rfl (by kernel_rfl) (fun _ _ _ h => h) (.inl ⟨by rfl, fun W' hS' => by have h' := h2; go_simp⟩) hS ?_
      try simp only [z]
      refine wpAnyH_ready (rs := [26]) (by kernel_rfl) (by simp) (AllReadyH.cons rfl (fun K hK => ?_) AllReadyH.nil)
      go_simp
      refine hK.out _ _ hS (fun _ => ?_)
      clear hK K
      try simp only [z]
      refine wpAnyH_done (by kernel_rfl) ?_ _
      try simp only [z]
      have HK2 : Hid ((xi.its.take (k + 1)).filter (Itm.stays false d) = (xi.its.take k).filter (Itm.stays false d)) := by show _ = _; rw [Hlt1.out, HB.out]; simp
      have HOz := Lib.hid (Hown.out.kept (grown_of_below_n hS) (by cases v'.ownBlock <;> simp))
      have HBz := Lib.hid (hbq.trans (hS.mono hqq))
      clear h1 h2 hS
      go_upto_region 15 with (fail)
      go_wp2
      go_roundw
      case rel => exact ⟨_, k + 1, rfl, by omega, by go_num, by rw [HK2.out]; exact HOz.out, HBz.out⟩
      case measure => simp [intOf]; omega
     all_goals (
      refine wpAnyH_ready (rs := [26]) (by kernel_rfl) (by simp) (AllReadyH.cons rfl (fun K hK => ?_) AllReadyH.nil)
      go_simp
      refine hK.out _ _ hS (fun _ => ?_)
      clear hK K
      try simp only [z]
      refine wpAnyH_done (by kernel_rfl) ?_ _
      try simp only [z]
      have HK2 := Lib.hid Hlt1.out
      rw [HB.out] at HK2
      have HOz := Lib.hid (Hown.out.kept (grown_of_below_n hS) (by cases v'.ownBlock <;> simp))
      have HBz := Lib.hid (hbq.trans (hS.mono hqq))
      have hownd := HOz.out.alloc (.cells #[.int .i64 zi.ent0, .int .i64 zi.lin, .int .i64 zi.ent, .int .i64 zi.acct, .int .i64 zi.partner, .int .i64 zi.date, .int .i64 zi.amt] 82)
      have hnew := cells_new Wz (Itm.cells zi) 82
      have hone : ∀ u ∈ Itm.cells zi, u.oneCell' = true := by
       intro u hu
       simp [Itm.cells] at hu
       rcases hu with h | h | h | h | h | h | h <;> (rw [h]; rfl)
      have r7 := (hS.cell (p := ⟨G, i * 9 + 7, none⟩) sGq).trans R7q.out
      have Hrz : Hid (Wz.rangeAt b2 (o2 + k * 7) [.int .i64 zi.ent0, .int .i64 zi.lin, .int .i64 zi.ent, .int .i64 zi.acct, .int .i64 zi.partner, .int .i64 zi.date, .int .i64 zi.amt]) := Lib.hid (range_below Hr2.out hS hb2w)
      have sGz := Nat.lt_of_lt_of_le sGq hS.size
      clear hS
      go_wp2_with (first | (refine wpList_load_mid rfl 82 (.tmp 96) rfl b2 (o2 + k * 7) rfl [.int .i64 zi.ent0, .int .i64 zi.lin, .int .i64 zi.ent, .int .i64 zi.acct, .int .i64 zi.partner, .int .i64 zi.date, .int .i64 zi.amt] _ Hrz.out Tryz.underlying82 rfl itmSize38 ?_) | (at_builtin; refine wpList_append_own _ rfl _ _ 60 rfl Wa.heap.size 82 i0 (.agg #[.int .i64 0, .int .i64 0, .int .i64 0, .int .i64 0, .int .i64 0, .int .i64 0, .int .i64 0]) 7 56 Tryz.underlying60 hi9 hz0 hz1 hz2 rfl (by decide) _ _ _ rfl hownd ⟨Wz.heap.size, 0, none⟩ 1 1 (Itm.cells zi) rfl rfl hnew hone (by unfold maxLen; omega) (by omega) (by have := HBz.out.size; simp; omega) ?_))
      intro v2 w9 hown' hgrow _
      have hb9 := (HBz.out.alloc HBz.out.size (.cells #[.int .i64 zi.ent0, .int .i64 zi.lin, .int .i64 zi.ent, .int .i64 zi.acct, .int .i64 zi.partner, .int .i64 zi.date, .int .i64 zi.amt] 82)).grown hgrow (by have := HBz.out.size; simp; omega) (own_base HOz.out)
      go_wp2
      go_roundw
      case rel => exact ⟨_, k + 1, rfl, by omega, by go_num, by rw [HK2.out]; simp only [if_true, List.length_append, List.flatMap_append]; simpa using hown', hb9⟩
      case measure => simp [intOf]; omega)
    ·obtain rfl : k = xi.im := by omega
     have hown := Hown.out
     have htk : xi.its.take xi.im = xi.its := List.take_of_length_le (by omega)
     rw [htk] at hown
     obtain ⟨Al, cl, hve, hAl⟩ := own_flat (f := Itm.cells) (by omega) (fun _ => rfl) hown rfl
     subst hve
     have hfr := own_fresh hown
     have hs := Hst.out.step hil hG (w1 := Wa) (w2 := wr) (by rw [<- Hxi.out]; exact HWa.out) hbq (A := Al) (c := cl) (by rw [<- Hxi.out]; exact hAl) hfr
     rw [<- Hxi.out] at hs
     have Hs := Lib.hid hs
     have hrq := gbox Hrowa.out hbq sGa
     have hcf := fun j => frozen_of_row _ _ j _ _ hrq
     have sGw : G < wr.heap.size := some_lt hrq
     clear hown htk hs hAl hrq
     go_upto_region 18 with (fail)
     go_wp2
     go_roundw
     case rel => exact ⟨i + 1, by omega, by go_num, Hs.out⟩
     case measure => simp [intOf]; omega
  ·obtain rfl : i = n := by omega
   have hst := Hst.out
   rw [<- Hl.out] at hst
   have hxr := (fun a ha => ((Hx5.out a ha).below hB5r (Nat.le_refl _)).more hB5r.size : ∀ a ∈ l, a.At wr wr.heap.size)
   obtain ⟨ms, hmlen, hraws, hmx, hmo, hmc⟩ := hst.done hxr Hall.out
   have Hmc := Lib.hid hmc
   have Hml := Lib.hid (hmlen.trans Hl.out)
   have Hraws := Lib.hid hraws
   have Hmx := Lib.hid hmx
   have Hall2 := Lib.hid hmo
   have HX0 := Lib.hid (gbox Hb5.out hB5r s5)
   have sx0 := some_lt HX0.out
   have HB0r := Lib.hid (hB05.trans (hB5r.mono hB05.size))
   clear hst hxr hmlen hraws hmx hmo hmc
   go_upto_region 19 with (fail)
   go_wp2_with (fail)
   refine (sample_any wr).mono ?_
   rintro e Y4 ⟨hD4, g, rfl, hg, hgs⟩
   obtain ⟨Y5, hY5, hD5, hg5, hy5⟩ := nw1 Y4 #[.string g.cur, .int .i64 g.Y, .int .i64 g.M, .int .i64 g.N, .slice g.cA g.cn g.cc, .int .i64 g.r0, .int .i64 g.r1, .int .i64 g.r2, .int .i64 g.r3, .int .i64 g.r4, .int .i64 g.r5, .int .i64 g.r6, .int .i64 g.r7, .int .i64 g.r8, .int .i64 g.r9, .int .i64 g.r10, .int .i64 g.r11, .int .i64 g.r12, .int .i64 g.r13, .int .i64 g.r14, .slice g.eA g.en g.ec] 29
   have HY5 := Lib.hid hY5
   have hDr5 := hD4.trans (hD5.mono hD4.size)
   have hB05' := HB0r.out.trans (hDr5.mono HB0r.out.size)
   have HB05 := Lib.hid hB05'
   have Hga := Lib.hid (hg.at_ hD5)
   have Hg5 := Lib.hid hg5
   have sg5 := some_lt hg5
   have hrg5 := Lib.hid (grp_range hg5)
   have Hr9 := Lib.hid (RowsAt.at_ Hraws.out hDr5)
   have Hx9 := Lib.hid (fun a ha => ((Hmx.out a ha).below hDr5 (Nat.le_refl _)).more hDr5.size : ∀ a ∈ ms, a.At Y5 Y5.heap.size)
   have HX5 := Lib.hid (gbox HX0.out hDr5 sx0)
   have H82 := Lib.hid (show ms.length <= 8 by have := Hml.out; have := Hl.out; have := H8.out; omega)
   obtain ⟨ln, hln⟩ : ∃ ln, ln = ms.length := ⟨_, rfl⟩
   have Hln := Lib.hid hln
   have HRQ := Lib.hid (Smp.roles40 hgs)
   have HI15 := Lib.hid (Smp.invest1500 hgs)
   obtain ⟨kk, hkk⟩ : ∃ kk, kk = Po.pk 5 (Gr.spost g (ms.map Raw.cnt) x) := ⟨_, rfl⟩
   obtain ⟨ee, hee⟩ : ∃ ee, ee = Po.pk x (Gr.spost g (ms.map Raw.cnt) x) := ⟨_, rfl⟩
   obtain ⟨oo, hoo⟩ : ∃ oo, oo = Po.pk (-1) (Gr.spost g (ms.map Raw.cnt) x) := ⟨_, rfl⟩
   obtain ⟨ep, hep⟩ : ∃ ep, ep = (Gr.spost g (ms.map Raw.cnt) x).2 := ⟨_, rfl⟩
   obtain ⟨ps, hps⟩ : ∃ ps, ps = Po.pl (Gr.spost g (ms.map Raw.cnt) x) := ⟨_, rfl⟩
   obtain ⟨np, hnp⟩ : ∃ np, np = ps.length := ⟨_, rfl⟩
   have HKK := Lib.hid hkk
   have HEE := Lib.hid hee
   have HOO := Lib.hid hoo
   have HEP := Lib.hid hep
   have HPS := Lib.hid hps
   have HNP := Lib.hid hnp
   clear hkk hee hoo hep hps hnp
   have HNO : Hid (ep ≠ 0 ∨ ok = false ∨ bl = false -> np = 0) := Lib.hid fun h => by
    have h1 : Po.pl (Gr.spost g (ms.map Raw.cnt) x) = [] := by
     rcases h with h | h
     ·exact Gr.spost_none (.inl (by rw [<- HEP.out]; exact h))
     ·rcases HEL.out with ⟨h1, h2⟩ | ⟨y, h1, h2, h3, _⟩
      ·exact Gr.spost_none (.inr (by rw [Hmc.out, Gr.elim_non, h2]; rfl))
      ·rcases h with h | h
       ·rw [h1] at h; cases h
       ·rw [Hmc.out, h, h3]; exact Gr.spost_non_empty h2 HI15.out
    rw [HNP.out, HPS.out, h1]; rfl
   have HTW : Hid (ep = 0 -> ok = true -> Po.part ps (if mt = 2 then g.r1 else g.r8) = -Po.part ps g.r0 /\ (np = 0 ∨ np = 2)) := Lib.hid fun h1 h2 => by
    rcases HEL.out with ⟨h3, _⟩ | ⟨y, _, h3, h4, h5⟩
    ·rw [h2] at h3; cases h3
    ·have h6 : (Gr.spost g (ms.map Raw.cnt) x).2 = 0 := by rw [<- HEP.out]; exact h1
     rw [Hmc.out, h4] at h6
     have h7 := Gr.spost_non_two HRQ.out h3 h6
     rw [HNP.out, HPS.out, Hmc.out, h4, h5]
     exact h7
   have HBD : Hid (ep = 0 -> -1000000000000 <= Po.part ps g.r0 /\ Po.part ps g.r0 <= 1000000000000) := Lib.hid fun h => by
    rw [HPS.out]; exact Gr.spost_part_bd (by rw [<- HEP.out]; exact h) g.r0
   have HN4 : Hid (np <= 3) := by show _ <= _; rw [HNP.out, HPS.out]; exact Nat.le_trans (Po.pl_length _) (Gr.spost_len _ _ _)
   have h1c : ∀ v ∈ (#[.string g.cur, .int .i64 g.Y, .int .i64 g.M, .int .i64 g.N, .slice g.cA g.cn g.cc, .int .i64 g.r0, .int .i64 g.r1, .int .i64 g.r2, .int .i64 g.r3, .int .i64 g.r4, .int .i64 g.r5, .int .i64 g.r6, .int .i64 g.r7, .int .i64 g.r8, .int .i64 g.r9, .int .i64 g.r10, .int .i64 g.r11, .int .i64 g.r12, .int .i64 g.r13, .int .i64 g.r14, .slice g.eA g.en g.ec] : Array Value).toList, v.oneCell' = true := by simp [Value.oneCell']
   clear hg hgs hY5 hg5 hy5 hln hB05'
   go_upto_region 20 with (refine wpList_store_new rfl 29 _ _ rfl 29 _ #[.string g.cur, .int .i64 g.Y, .int .i64 g.M, .int .i64 g.N, .slice g.cA g.cn g.cc, .int .i64 g.r0, .int .i64 g.r1, .int .i64 g.r2, .int .i64 g.r3, .int .i64 g.r4, .int .i64 g.r5, .int .i64 g.r6, .int .i64 g.r7, .int .i64 g.r8, .int .i64 g.r9, .int .i64 g.r10, .int .i64 g.r11, .int .i64 g.r12, .int .i64 g.r13, .int .i64 g.r14, .slice g.eA g.en g.ec] rfl rfl rfl h1c grpSize ?_)
   clear h1c
   rw [<- HY5.out]
   have hS : Below Y5.heap.size Y5 Y5.drew := below_drawn (Below.refl _ _) 1
   refine wp_region_held (S := Below Y5.heap.size Y5) (by kernel_rfl) ?_
   change wpAnyH _ _ _ _ _ _ _ _ (World.drew Y5)
   obtain ⟨W_0, hWd⟩ : ∃ W0, W0 = Y5.drew := ⟨_, rfl⟩
   rw [<- hWd] at hS ⊢
   clear hWd
   refine tk (i := 0) (v := .agg #[.string g.cur, .int .i64 g.Y, .int .i64 g.M, .int .i64 g.N, .slice g.cA g.cn g.cc, .int .i64 g.r0, .int .i64 g.r1, .int .i64 g.r2, .int .i64 g.r3, .int .i64 g.r4, .int .i64 g.r5, .int .i64 g.r6, .int .i64 g.r7, .int .i64 g.r8, .int .i64 g.r9, .int .i64 g.r10, .int .i64 g.r11, .int .i64 g.r12, .int .i64 g.r13, .int .i64 g.r14, .slice g.eA g.en g.ec]) rfl (by kernel_rfl) (fun _ _ _ h => h) (yieldsIf_load_mid (by rfl) 29 _ rfl Y4.heap.size 0 rfl [.string g.cur, .int .i64 g.Y, .int .i64 g.M, .int .i64 g.N, .slice g.cA g.cn g.cc, .int .i64 g.r0, .int .i64 g.r1, .int .i64 g.r2, .int .i64 g.r3, .int .i64 g.r4, .int .i64 g.r5, .int .i64 g.r6, .int .i64 g.r7, .int .i64 g.r8, .int .i64 g.r9, .int .i64 g.r10, .int .i64 g.r11, .int .i64 g.r12, .int .i64 g.r13, .int .i64 g.r14, .slice g.eA g.en g.ec] _ (fun W' hS' => range_below hrg5.out hS' sg5) Tryz.underlying29 rfl grpSize) hS ?_
   try simp only [z]
   refine tk (i := 1) (v := .slice (some ⟨G, 0, none⟩) i cap) rfl (by kernel_rfl) (fun _ _ _ h => h) (.inl ⟨by rfl, fun W' hS' => by go_simp⟩) hS ?_
   try simp only [z]
   refine tk (i := 3) (v := .int .i64 x) rfl (by kernel_rfl) (fun _ _ _ h => h) (.inl ⟨by rfl, fun W' hS' => by go_simp⟩) hS ?_
   try simp only [z]
   have hV0 := hS.size
   refine wpAnyH_letters fun md' ops' Q' a' hlm hlo hlq hla => ?_
   obtain ⟨RG, hRG⟩ : ∃ R : World -> Prop, R = Below Y5.heap.size Y5 := ⟨_, rfl⟩
   rw [<- hRG] at hS ⊢
   have n2 : ∀ (m : Nat) (W : World) (Ao : Option Addr) (co : Nat) (ds : List Con) (Ap : Option Addr) (cp : Nat) (bp : Bool) (vp : Value) (pp : Nat), 2 + cond bp 0 1 <= m -> RG W -> W_0.heap.size <= W.heap.size -> (PrtsAt W W.heap.size Ap ps) -> (bp = true -> ps ≠ [] -> ∀ ad, Ap = some ad -> ad.block ≠ pp) -> Mk W_0 W bp vp pp #[.int .i64 0, .int .i64 0, .int .i64 0, .int .i64 0, .slice none 0 0] 49 -> wpAnyH Tryz.prog md' ops' Q' RG m #[true, true, true, true, true, true, true, true, bp, false, false] ((((((a'.put (some 109) (.slice Ao ln co)).put (some 111) (.tuple #[.agg #[.int .i64 kk, .int .i64 ee, .int .i64 oo, .int .i64 0, .slice Ap np cp], .int .i64 ep])).put (some 106) (.tuple #[.agg #[.int .i64 kk, .int .i64 ee, .int .i64 oo, .int .i64 0, .slice Ap np cp], .int .i64 ep])).put (some 112) (.agg #[.int .i64 kk, .int .i64 ee, .int .i64 oo, .int .i64 0, .slice Ap np cp])).put (some 113) (.int .i64 ep)).put (some 16) vp) W := by
    intro m
    induction m with
    | zero => intros; omega
    | succ m ih =>
    intro W Ao co ds Ap cp bp vp pp hm hS hz hPp hq Hp
    subst hlm hlo hlq hla hRG
    try simp only [z]
    by_cases hb : bp = true
    rotate_left
    ·refine wpAnyH_ready (rs := (cond bp [] [8] ++ [])) (by revert hb; cases bp <;> intro hb <;> first | exact absurd (by decide) hb | kernel_rfl) (by revert hb; cases bp <;> decide) (ropt (fun hp => .cons rfl (fun K hK => ?_) .nil) .nil)
     ·subst hp
      obtain ⟨W', hWn, hB, hrow, _⟩ := nw1 W #[.int .i64 0, .int .i64 0, .int .i64 0, .int .i64 0, .slice none 0 0] 49
      go_simp
      rw [<- hWn]
      clear hWn
      have hS' := hS.trans (hB.mono hS.size)
      refine hK.out _ _ hS' (fun _ => ?_)
      clear hK K
      try simp only [z]
      have hn := ih W' Ao co ds Ap cp true (.pointer (some ⟨W.heap.size, 0, none⟩)) W.heap.size (by simp only [cond_true, cond_false] at hm ⊢; omega) hS' (Nat.le_trans hz hB.size) (RowsAt.at_ hPp hB) (fun _ h ad e => Nat.ne_of_lt (RowsAt.lt hPp h ad e)) (fun _ => ⟨rfl, hz, hrow⟩) 
      try simp only [z] at hn
      exact hn
    subst hb
    obtain ⟨rfl, gp, hp⟩ := Hp rfl
    obtain ⟨m, rfl⟩ : ∃ k, m = k + 1 := ⟨m - 1, by simp only [cond_true] at hm; omega⟩
    clear ih hm
    refine wpAnyH_ready (rs := [9]) (by kernel_rfl) (by simp) (AllReadyH.cons rfl (fun K hK => ?_) AllReadyH.nil)
    rw [if_pos (by rfl)]
    refine wp_store_row 49 _ _ none rfl rfl pp 49 _ #[.int .i64 kk, .int .i64 ee, .int .i64 oo, .int .i64 0, .slice Ap np cp] rfl rfl hp rfl postSize (by simp [Value.oneCell']) ?_
    have hPb := RowsAt.stored hPp (hq rfl) #[.int .i64 kk, .int .i64 ee, .int .i64 oo, .int .i64 0, .slice Ap np cp]
    have hrw := setRow_heap W pp _ #[.int .i64 kk, .int .i64 ee, .int .i64 oo, .int .i64 0, .slice Ap np cp] _ _ hp
    have hS2 := below_setRow hS (Nat.le_trans (show Y5.heap.size <= W_0.heap.size from hV0) gp) #[.int .i64 kk, .int .i64 ee, .int .i64 oo, .int .i64 0, .slice Ap np cp]
    refine hK.out _ _ hS2 (fun _ => ?_)
    clear hK K
    try simp only [z]
    refine wpAnyH_ready (rs := [10]) (by kernel_rfl) (by simp) (AllReadyH.cons rfl (fun K hK => ?_) AllReadyH.nil)
    go_simp
    refine hK.out _ _ hS2 (fun _ => ?_)
    clear hK K
    try simp only [z]
    refine wpAnyH_done (by kernel_rfl) ?_ _
    try simp only [z]
    obtain ⟨W6, hWn⟩ : ∃ W6, W6 = W.setRow pp #[.int .i64 kk, .int .i64 ee, .int .i64 oo, .int .i64 0, .slice Ap np cp] := ⟨_, rfl⟩
    rw [<- hWn] at hrw hS2 hPb ⊢
    clear hWn hS hp hPp hq hz gp
    have hB06 := HB05.out.trans (hS2.mono HB05.out.size)
    have Hpx := Lib.hid hrw
    have HPb := Lib.hid hPb
    have sp6 := some_lt hrw
    have Hg6 := Lib.hid ((hS2.block _ sg5).trans Hg5.out)
    have sg6 := some_lt Hg6.out
    have HX6 := Lib.hid (gbox HX5.out hS2 (some_lt HX5.out))
    have sx6 := some_lt HX6.out
    have p4 := cell_of_row _ _ 4 _ _ _ hrw
    have g6 := cell_of_row _ _ 6 _ _ _ Hg6.out
    have g13 := cell_of_row _ _ 13 _ _ _ Hg6.out
    have m1 := cell_of_row _ _ 1 _ _ _ HX6.out
    simp at p4 g6 g13 m1
    rw [<- Hmt.out] at m1
    have HPR := Lib.hid (range_row (cs := [.int .i64 kk, .int .i64 ee, .int .i64 oo, .int .i64 0, .slice Ap np cp]) hrw)
    clear hrw hS2 hPb
    by_cases h1 : ep = 0
    case neg =>
     have h1b : (ep != 0) = true := by simp [h1]
     have h0 := HNO.out (.inl h1)
     subst h0
     clear h1
     go_upto_region 22 with (fail)
     go_wp2
     go_ret
     exact ⟨by simp, hB06⟩
    have h1b : (ep != 0) = false := by simp [h1]
    have H1 := Lib.hid h1
    clear h1
    rcases Bool.eq_false_or_eq_true ok with hk2 | hk2
    case inr =>
     have h0 := HNO.out (.inr (.inl hk2))
     subst hk2 h0
     go_upto_region 22 with (fail)
     go_wp2
     go_ret
     exact ⟨by simp, hB06⟩
    rcases Bool.eq_false_or_eq_true bl with hk3 | hk3
    case inr =>
     have h0 := HNO.out (.inr (.inr hk3))
     subst hk2 hk3 h0
     go_upto_region 22 with (fail)
     go_wp2
     go_ret
     exact ⟨by simp, hB06⟩
    obtain ⟨ht1, ht2⟩ := HTW.out H1.out hk2
    subst hk2 hk3
    have HT2 := Lib.hid ht2
    refine (Classical.em (mt = 2)).elim (fun h2 => ?_) (fun h2 => ?_)
    focus
     have h2b : (mt == 2) = true := by simp [h2]
     rw [if_pos h2] at ht1
     obtain ⟨rs, hrs⟩ : ∃ rs, rs = g.r1 := ⟨_, rfl⟩
     rw [<- hrs] at ht1 g6
     clear h2 hrs ht2
    rotate_left
    focus
     have h2b : (mt == 2) = false := by simp [h2]
     rw [if_neg h2] at ht1
     obtain ⟨rs, hrs⟩ : ∃ rs, rs = g.r8 := ⟨_, rfl⟩
     rw [<- hrs] at ht1 g13
     clear h2 hrs ht2
    all_goals (
     obtain ⟨a0, ha0⟩ : ∃ a0, a0 = Po.part ps g.r0 := ⟨_, rfl⟩
     have k0 := HBD.out H1.out
     rw [<- ha0] at ht1 k0
     have Q0 := Lib.hid ha0.symm
     have Q1 := Lib.hid ht1
     have Hb06 := Lib.hid hB06
     clear ha0 ht1 hB06
     go_upto_region 26 with (fail)
     have hS : Below W6.heap.size W6 W6.drew := below_drawn (Below.refl _ _) 1
     refine wp_region_held (S := Below W6.heap.size W6) (by kernel_rfl) ?_
     change wpAnyH _ _ _ _ _ _ _ _ (World.drew W6)
     obtain ⟨WC0, hWd⟩ : ∃ W0, W0 = W6.drew := ⟨_, rfl⟩
     rw [<- hWd] at hS ⊢
     clear hWd
     refine tk (i := 0) (v := .agg #[.int .i64 kk, .int .i64 ee, .int .i64 oo, .int .i64 0, .slice Ap np cp]) rfl (by kernel_rfl) (fun _ _ _ h => h) (yieldsIf_load_mid (by rfl) 49 _ rfl pp 0 rfl [.int .i64 kk, .int .i64 ee, .int .i64 oo, .int .i64 0, .slice Ap np cp] _ (fun W' hS' => range_below HPR.out hS' sp6) Tryz.underlying49 rfl postSize) hS ?_
     try simp only [z]
     refine tk (i := 1) (v := .int .i64 rs) rfl (by kernel_rfl) (fun _ _ _ h => h) (.inl ⟨by rfl, fun W' hS' => by go_simp⟩) hS ?_
     try simp only [z]
     refine tk (i := 3) (v := .agg #[.int .i64 kk, .int .i64 ee, .int .i64 oo, .int .i64 0, .slice Ap np cp]) rfl (by kernel_rfl) (fun _ _ _ h => h) (yieldsIf_load_mid (by rfl) 49 _ rfl pp 0 rfl [.int .i64 kk, .int .i64 ee, .int .i64 oo, .int .i64 0, .slice Ap np cp] _ (fun W' hS' => range_below HPR.out hS' sp6) Tryz.underlying49 rfl postSize) hS ?_
     try simp only [z]
     refine tk (i := 4) (v := .pointer (some ⟨Y4.heap.size, 5, none⟩)) rfl (by kernel_rfl) (fun _ _ _ h => h) (.inl ⟨by rfl, fun W' hS' => by go_simp⟩) hS ?_
     try simp only [z]
     refine tk (i := 5) (v := .pointer (some ⟨Y4.heap.size, 5, none⟩)) rfl (by kernel_rfl) (fun _ _ _ h => h) (.inl ⟨by rfl, fun W' hS' => by go_simp⟩) hS ?_
     try simp only [z]
     refine tk (i := 6) (v := .int .i64 g.r0) rfl (by kernel_rfl) (fun _ _ _ h => h) (.inl ⟨by rfl, fun W' hS' => by have hc := cell_of_row _ _ 5 _ _ _ ((hS'.block _ sg6).trans Hg6.out); simp at hc; have hl9 := Nat.lt_of_lt_of_le sg6 hS'.size; go_simp⟩) hS ?_
     try simp only [z]
     refine wpAnyH_ready (rs := [2]) (by kernel_rfl) (by simp) (AllReadyH.cons rfl (fun K hK => ?_) AllReadyH.nil)
     go_simp
     refine (part40_any WC0 kk ee oo 0 Ap np cp ps rs HNP.out.symm (by have := HN4.out; omega) ((HPb.out.below hS (Nat.le_refl _)).more hS.size)).mono ?_
     rw [Q1.out]
     rintro e WC1 ⟨rfl, hBc⟩
     have hVC1 := hS.trans (hBc.mono hS.size)
     clear hBc
     refine hK.out _ _ hVC1 (fun _ => ?_)
     clear hK K
     try simp only [z]
     refine wpAnyH_ready (rs := [7]) (by kernel_rfl) (by simp) (AllReadyH.cons rfl (fun K hK => ?_) AllReadyH.nil)
     go_simp
     refine (part40_any WC1 kk ee oo 0 Ap np cp ps g.r0 HNP.out.symm (by have := HN4.out; omega) ((HPb.out.below hVC1 (Nat.le_refl _)).more hVC1.size)).mono ?_
     rw [Q0.out]
     rintro e WC2 ⟨rfl, hBc⟩
     have hVC2 := hVC1.trans (hBc.mono hVC1.size)
     clear hBc
     refine hK.out _ _ hVC2 (fun _ => ?_)
     clear hK K
     try simp only [z]
     refine tk (i := 8) (v := .int .i64 (-a0)) rfl (by kernel_rfl) (fun _ _ _ h => h) (.inl ⟨by rfl, fun W' hS' => by have hw : wrap64 (-a0) = -a0 := IntWalk.wrap64_in _ (by omega); (go_simp; try (rw [IntKind.wrap_i64]; clear hw; omega))⟩) hVC2 ?_
     try simp only [z]
     refine tk (i := 9) (v := .bool true) rfl (by kernel_rfl) (fun _ _ _ h => h) (.inl ⟨by rfl, fun W' hS' => by go_simp⟩) hVC2 ?_
     try simp only [z]
     refine tk (i := 10) (v := .bool true) rfl (by kernel_rfl) (fun _ _ _ h => h) (.inl ⟨by rfl, fun W' hS' => by go_simp⟩) hVC2 ?_
     try simp only [z]
     refine tk (i := 11) (v := .pointer (some ⟨pp, 4, none⟩)) rfl (by kernel_rfl) (fun _ _ _ h => h) (.inl ⟨by rfl, fun W' hS' => by go_simp⟩) hVC2 ?_
     try simp only [z]
     refine tk (i := 12) (v := .slice Ap np cp) rfl (by kernel_rfl) (fun _ _ _ h => h) (.inl ⟨by rfl, fun W' hS' => by have hc := cell_of_row _ _ 4 _ _ _ ((hS'.block _ sp6).trans Hpx.out); simp at hc; have hl9 := Nat.lt_of_lt_of_le sp6 hS'.size; go_simp⟩) hVC2 ?_
     try simp only [z]
     refine tk (i := 13) (v := .int .i64 np) rfl (by kernel_rfl) (fun _ _ _ h => h) (.inl ⟨by rfl, fun W' hS' => by go_simp⟩) hVC2 ?_
     try simp only [z]
     rcases HT2.out with rfl | rfl
     ·skip
      refine tk (i := 14) (v := .bool true) rfl (by kernel_rfl) (fun _ _ _ h => h) (.inl ⟨by rfl, fun W' hS' => by go_simp⟩) hVC2 ?_
      try simp only [z]
      refine tk (i := 15) (v := .bool true) rfl (by kernel_rfl) (fun _ _ _ h => h) (.inl ⟨by rfl, fun W' hS' => by go_simp⟩) hVC2 ?_
      try simp only [z]
      refine tk (i := 16) (v := undef) rfl (by kernel_rfl) (fun _ _ _ h => h) (.inr ⟨by rfl, rfl⟩) hVC2 ?_
      try simp only [z]
      refine tk (i := 17) (v := undef) rfl (by kernel_rfl) (fun _ _ _ h => h) (.inr ⟨by rfl, rfl⟩) hVC2 ?_
      try simp only [z]
      refine tk (i := 18) (v := undef) rfl (by kernel_rfl) (fun _ _ _ h => h) (.inr ⟨by rfl, rfl⟩) hVC2 ?_
      try simp only [z]
      refine tk (i := 19) (v := undef) rfl (by kernel_rfl) (fun _ _ _ h => h) (.inr ⟨by rfl, rfl⟩) hVC2 ?_
      try simp only [z]
      refine tk (i := 20) (v := .bool true) rfl (by kernel_rfl) (fun _ _ _ h => h) (.inl ⟨by rfl, fun W' hS' => by go_simp⟩) hVC2 ?_
      try simp only [z]
      refine tk (i := 21) (v := .bool true) rfl (by kernel_rfl) (fun _ _ _ h => h) (.inl ⟨by rfl, fun W' hS' => by go_simp⟩) hVC2 ?_
      try simp only [z]
      refine wpAnyH_ready (rs := [22]) (by kernel_rfl) (by simp) (AllReadyH.cons rfl (fun K hK => ?_) AllReadyH.nil)
      go_simp
      refine hK.out _ _ hVC2 (fun _ => ?_)
      clear hK K
      try simp only [z]
      refine wpAnyH_done (by kernel_rfl) ?_ _
      try simp only [z]
      have hB07 := Hb06.out.trans (hVC2.mono Hb06.out.size)
      go_wp2
      go_ret
      exact ⟨rfl, hB07⟩
     ·skip
      refine tk (i := 14) (v := .bool false) rfl (by kernel_rfl) (fun _ _ _ h => h) (.inl ⟨by rfl, fun W' hS' => by go_simp⟩) hVC2 ?_
      try simp only [z]
      refine tk (i := 15) (v := .bool false) rfl (by kernel_rfl) (fun _ _ _ h => h) (.inl ⟨by rfl, fun W' hS' => by go_simp⟩) hVC2 ?_
      try simp only [z]
      refine tk (i := 16) (v := .pointer (some ⟨pp, 4, none⟩)) rfl (by kernel_rfl) (fun _ _ _ h => h) (.inl ⟨by rfl, fun W' hS' => by go_simp⟩) hVC2 ?_
      try simp only [z]
      refine tk (i := 17) (v := .slice Ap 2 cp) rfl (by kernel_rfl) (fun _ _ _ h => h) (.inl ⟨by rfl, fun W' hS' => by have hc := cell_of_row _ _ 4 _ _ _ ((hS'.block _ sp6).trans Hpx.out); simp at hc; have hl9 := Nat.lt_of_lt_of_le sp6 hS'.size; go_simp⟩) hVC2 ?_
      try simp only [z]
      refine tk (i := 18) (v := .int .i64 2) rfl (by kernel_rfl) (fun _ _ _ h => h) (.inl ⟨by rfl, fun W' hS' => by go_simp⟩) hVC2 ?_
      try simp only [z]
      refine tk (i := 19) (v := .bool true) rfl (by kernel_rfl) (fun _ _ _ h => h) (.inl ⟨by rfl, fun W' hS' => by go_simp⟩) hVC2 ?_
      try simp only [z]
      refine tk (i := 20) (v := .bool true) rfl (by kernel_rfl) (fun _ _ _ h => h) (.inl ⟨by rfl, fun W' hS' => by go_simp⟩) hVC2 ?_
      try simp only [z]
      refine tk (i := 21) (v := .bool true) rfl (by kernel_rfl) (fun _ _ _ h => h) (.inl ⟨by rfl, fun W' hS' => by go_simp⟩) hVC2 ?_
      try simp only [z]
      refine wpAnyH_ready (rs := [22]) (by kernel_rfl) (by simp) (AllReadyH.cons rfl (fun K hK => ?_) AllReadyH.nil)
      go_simp
      refine hK.out _ _ hVC2 (fun _ => ?_)
      clear hK K
      try simp only [z]
      refine wpAnyH_done (by kernel_rfl) ?_ _
      try simp only [z]
      have hB07 := Hb06.out.trans (hVC2.mono Hb06.out.size)
      go_wp2
      go_ret
      exact ⟨rfl, hB07⟩)
   have n1 : ∀ (m : Nat) (W : World) (Ao : Option Addr) (co : Nat) (ds : List Con) (bp : Bool) (vp : Value) (pp : Nat), 6 + cond bp 0 1 <= m -> RG W -> W_0.heap.size <= W.heap.size -> (ds.length = ms.length) -> (ConsAt W W.heap.size Ao ds) -> (Hold (fun a b => a.Holds SD W W.heap.size b) ds (ms.map Raw.cnt)) -> Mk W_0 W bp vp pp #[.int .i64 0, .int .i64 0, .int .i64 0, .int .i64 0, .slice none 0 0] 49 -> wpAnyH Tryz.prog md' ops' Q' RG m #[true, true, true, true, false, false, false, false, bp, false, false] ((a'.put (some 109) (.slice Ao ln co)).put (some 16) vp) W := by
    intro m
    induction m with
    | zero => intros; omega
    | succ m ih =>
    intro W Ao co ds bp vp pp hm hS hz hdl hds hdo Hp
    subst hlm hlo hlq hla hRG
    try simp only [z]
    refine wpAnyH_ready (rs := 4 :: (cond bp [] [8] ++ [])) (by cases bp <;> kernel_rfl) (by simp) (.cons rfl (fun K hK => ?_) (ropt (fun hp => .cons rfl (fun K hK => ?_) .nil) .nil))
    ·clear ih
     have Hof := Lib.hid (spostd_any W g Ao ln co ds (ms.map Raw.cnt) x (hdl.trans Hln.out.symm) (by have := Hln.out; have := H82.out; omega) hds hdo (Hga.out.at_ hS))
     go_simp
     refine Hof.out.mono ?_
     rintro e W' hpp
     obtain ⟨hB, Ap, cp, hfp, rfl, hPp⟩ := PostingPost.one hpp
     clear hpp
     rw [<- HPS.out] at hPp
     rw [<- HKK.out, <- HEE.out, <- HOO.out, <- HEP.out, <- HPS.out, <- HNP.out]
     have hS' := hS.trans (hB.mono hS.size)
     refine hK.out _ _ hS' (fun _ => ?_)
     clear hK K
     try simp only [z]
     obtain ⟨m, rfl⟩ : ∃ k, m = k + 3 := ⟨m - 3, by omega⟩
     refine wpAnyH_take (i := 5) (v := .tuple #[.agg #[.int .i64 kk, .int .i64 ee, .int .i64 oo, .int .i64 0, .slice Ap np cp], .int .i64 ep]) rfl (by kernel_rfl) (by cases bp <;> kernel_rfl) (by cases bp <;> kernel_rfl) (fun _ _ _ h => h) (.inl ⟨by rfl, fun W' hS' => by go_simp⟩) hS' ?_
     try simp only [z]
     refine wpAnyH_take (i := 6) (v := .agg #[.int .i64 kk, .int .i64 ee, .int .i64 oo, .int .i64 0, .slice Ap np cp]) rfl (by kernel_rfl) (by cases bp <;> kernel_rfl) (by cases bp <;> kernel_rfl) (fun _ _ _ h => h) (.inl ⟨by rfl, fun W' hS' => by go_simp⟩) hS' ?_
     try simp only [z]
     refine wpAnyH_take (i := 7) (v := .int .i64 ep) rfl (by kernel_rfl) (by cases bp <;> kernel_rfl) (by cases bp <;> kernel_rfl) (fun _ _ _ h => h) (.inl ⟨by rfl, fun W' hS' => by go_simp⟩) hS' ?_
     try simp only [z]
     have hn := n2 m W' Ao co ds Ap cp bp vp pp (by omega) hS' (Nat.le_trans hz hB.size) (hPp) (fun hb _ ad e => Nat.ne_of_gt (Nat.lt_of_lt_of_le (some_lt (Hp hb).2.2) (hfp ad e))) (Hp.step hB)
     try simp only [z] at hn
     exact hn
    ·subst hp
     obtain ⟨W', hWn, hB, hrow, _⟩ := nw1 W #[.int .i64 0, .int .i64 0, .int .i64 0, .int .i64 0, .slice none 0 0] 49
     go_simp
     rw [<- hWn]
     clear hWn
     have hS' := hS.trans (hB.mono hS.size)
     refine hK.out _ _ hS' (fun _ => ?_)
     clear hK K
     try simp only [z]
     have hn := ih W' Ao co ds true (.pointer (some ⟨W.heap.size, 0, none⟩)) W.heap.size (by simp only [cond_true, cond_false] at hm ⊢; omega) hS' (Nat.le_trans hz hB.size) (hdl) (RowsAt.at_ hds hB) (hdo.imp (Q := fun a b => a.Holds SD W' W'.heap.size b) fun _ _ h => h.atD hB) (fun _ => ⟨rfl, hz, hrow⟩) 
     try simp only [z] at hn
     exact hn
   have n0 : ∀ (m : Nat) (W : World) (bp : Bool) (vp : Value) (pp : Nat), 7 + cond bp 0 1 <= m -> RG W -> W_0.heap.size <= W.heap.size -> Mk W_0 W bp vp pp #[.int .i64 0, .int .i64 0, .int .i64 0, .int .i64 0, .slice none 0 0] 49 -> wpAnyH Tryz.prog md' ops' Q' RG m #[true, true, false, true, false, false, false, false, bp, false, false] (a'.put (some 16) vp) W := by
    intro m
    induction m with
    | zero => intros; omega
    | succ m ih =>
    intro W bp vp pp hm hS hz Hp
    subst hlm hlo hlq hla hRG
    try simp only [z]
    refine wpAnyH_ready (rs := 2 :: (cond bp [] [8] ++ [])) (by cases bp <;> kernel_rfl) (by simp) (.cons rfl (fun K hK => ?_) (ropt (fun hp => .cons rfl (fun K hK => ?_) .nil) .nil))
    ·clear ih
     have Hown := Lib.hid (own40_any W (some ⟨G, 0, none⟩) i cap ms Hml.out (by have := Hml.out; have := H82.out; omega) (RowsAt.at_ Hr9.out hS) (fun a ha => ((Hx9.out a ha).below hS (Nat.le_refl _)).more hS.size) Hall2.out)
     go_simp
     refine Hown.out.mono ?_
     rintro e W' ⟨hB, Ao, co, ds, rfl, hdl, hds, hdo⟩
     rw [<- Hln.out]
     have hS' := hS.trans (hB.mono hS.size)
     refine hK.out _ _ hS' (fun _ => ?_)
     clear hK K
     try simp only [z]
     have hn := n1 m W' Ao co ds bp vp pp (by omega) hS' (Nat.le_trans hz hB.size) (hdl) (hds) (hdo) (Hp.step hB)
     try simp only [z] at hn
     exact hn
    ·subst hp
     obtain ⟨W', hWn, hB, hrow, _⟩ := nw1 W #[.int .i64 0, .int .i64 0, .int .i64 0, .int .i64 0, .slice none 0 0] 49
     go_simp
     rw [<- hWn]
     clear hWn
     have hS' := hS.trans (hB.mono hS.size)
     refine hK.out _ _ hS' (fun _ => ?_)
     clear hK K
     try simp only [z]
     have hn := ih W' true (.pointer (some ⟨W.heap.size, 0, none⟩)) W.heap.size (by simp only [cond_true, cond_false] at hm ⊢; omega) hS' (Nat.le_trans hz hB.size) (fun _ => ⟨rfl, hz, hrow⟩) 
     try simp only [z] at hn
     exact hn
   have hn := n0 _ W_0 false undef 0 (Nat.le_refl _) hS (Nat.le_refl _)  (fun h => nomatch h)
   subst hlm hlo hlq hla hRG
   exact hn
end
end Go.Proofs.YtccapfbblnnfjaaGreat
