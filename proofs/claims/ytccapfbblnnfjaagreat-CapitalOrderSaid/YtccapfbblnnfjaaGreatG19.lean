/- My texts ChartR. -/
import Derived.Test.YtccapfbblnnfjaaGreatG18
set_option linter.unusedVariables false
set_option linter.unusedSimpArgs false
set_option maxRecDepth 100000
set_option maxHeartbeats 8000000
namespace Go.Proofs.YtccapfbblnnfjaaGreat
open Go.RowKit
theorem okAt_all {gr : Bool} {l : List Acc} {k : Nat} (h : (List.range k).all (Ch.okAt gr l) = true) (hk : Ch.okAt gr l k = true) : (List.range (k + 1)).all (Ch.okAt gr l) = true := by
 rw [List.range_succ, List.all_append, h]; simp [hk]
theorem ok_bad {gr : Bool} {l : List Acc} {i : Nat} (hi : i < l.length) (h : Ch.okAt gr l i = false) : Ch.valid gr l = false := by
 unfold Ch.valid; rw [Ch.all_not hi h, Bool.and_false]
theorem range_mid {w : World} {B : Nat} {A : Option Addr} {l : List Acc} (h : AccsAt w B A l) {k : Nat} (hk : k < l.length) {b o : Nat} (hA : A = some ⟨b, o, none⟩) : w.rangeAt b (o + k * 4) [.int .i64 (l[k]).code, .int .i64 (l[k]).kind, .int .i64 (l[k]).basis, .int .i64 (l[k]).parent] := by
 obtain ⟨b', o', e, _, hr⟩ := RowsAt.look h hk
 rw [hA] at e; cases e
 exact hr
section
variable (w : World)
theorem validr_any (A : Option Addr) (n c : Nat) (l : List Acc) (gr : Bool) (hl : l.length = n) (hn : n <= 100000) (h : AccsAt w w.heap.size A l) :
  Calls Tryz.prog 150 #[.slice A n c, .bool gr] w fun e w' => e = .returned (.bool (Ch.valid gr l)) /\ Below w.heap.size w w' := by
 subst hl
 by_cases h200 : 200 < l.length
 ·have hgt : (200 : Int) < (l.length : Int) := by omega
  have Hf : Hid (Ch.valid gr l = false) := by show _ = _; unfold Ch.valid; rw [decide_eq_false (by omega), Bool.false_and]
  clear h
  go_enter Tryz.func150, Tryz.ntmps150
  go_wp2
  go_ret
  exact ⟨by rw [Hf.out]; rfl, Below.refl _ _⟩
 have hle : ¬ (200 : Int) < (l.length : Int) := by omega
 have Hle := Lib.hid h200
 clear h200
 go_enter Tryz.func150, Tryz.ntmps150
 go_wp2
 go_loopw [5] (fun i wr => ∃ k : Nat, k <= l.length /\ i = .int .i64 k /\ (List.range k).all (Ch.okAt gr l) = true /\ Below w.heap.size w wr) (fun i _ => l.length - (intOf i).toNat)
 case atStart => exact ⟨0, Nat.zero_le _, rfl, rfl, Below.refl _ _⟩
 case round =>
  obtain ⟨k, hk, rfl, hg, hb⟩ := hrel
  have Hg := Lib.hid hg
  clear hg
  by_cases hlt : k < l.length
  ·obtain ⟨b, o, hAe, hbB, c0, c1, c2, c3⟩ := AccsAt.four (RowsAt.below h hb (Nat.le_refl _)) hlt
   have hx := range_mid (RowsAt.below h hb (Nat.le_refl _)) hlt hAe
   subst hAe
   have hbw : b < wr.heap.size := Nat.lt_of_lt_of_le hbB hb.size
   have hA1 := RowsAt.below h hb (Nat.le_refl _)
   have hS : Below wr.heap.size wr wr.drew := below_drawn (Below.refl _ _) 1
   have Hat := Lib.hid (Ch.at_lt hlt)
   have hk0 : (0 : Int) <= (k : Int) := by omega
   have hkl : (k : Int) < (l.length : Int) := by omega
   obtain ⟨m, hm⟩ : ∃ m, m = k - 1 := ⟨_, rfl⟩
   have Hm := Lib.hid hm
   clear c1 c2 c3 hm
   go_upto_region 6 with (fail)
   refine wp_region_held (S := Below wr.heap.size wr) (by kernel_rfl) ?_
   change wpAnyH _ _ _ _ _ _ _ _ (World.drew _)
   refine tk (i := 0) (v := .slice (some ⟨b, o, none⟩) l.length c) rfl (by kernel_rfl) (fun _ _ _ h => h) (.inl ⟨by rfl, fun W' hS' => by go_simp⟩) hS ?_
   try simp only [z]
   refine tk (i := 1) (v := .slice (some ⟨b, o, none⟩) l.length c) rfl (by kernel_rfl) (fun _ _ _ h => h) (.inl ⟨by rfl, fun W' hS' => by go_simp⟩) hS ?_
   try simp only [z]
   refine tk (i := 2) (v := .int .i64 k) rfl (by kernel_rfl) (fun _ _ _ h => h) (.inl ⟨by rfl, fun W' hS' => by go_simp⟩) hS ?_
   try simp only [z]
   refine tk (i := 3) (v := .pointer (some ⟨b, o + k * 4, none⟩)) rfl (by kernel_rfl) (fun _ _ _ h => h) (.inl ⟨by rfl, fun W' hS' => by go_simp⟩) hS ?_
   try simp only [z]
   refine tk (i := 4) (v := .agg #[.int .i64 (l[k]).code, .int .i64 (l[k]).kind, .int .i64 (l[k]).basis, .int .i64 (l[k]).parent]) rfl (by kernel_rfl) (fun _ _ _ h => h) (yieldsIf_load_mid (by rfl) 132 _ rfl b (o + k * 4) rfl [.int .i64 (l[k]).code, .int .i64 (l[k]).kind, .int .i64 (l[k]).basis, .int .i64 (l[k]).parent] _ (fun W' hS' => range_below hx hS' hbw) Tryz.underlying132 rfl accSize) hS ?_
   try simp only [z]
   refine tk (i := 5) (v := .bool gr) rfl (by kernel_rfl) (fun _ _ _ h => h) (.inl ⟨by rfl, fun W' hS' => by go_simp⟩) hS ?_
   try simp only [z]
   refine wpAnyH_ready (rs := [6]) (by kernel_rfl) (by simp) (AllReadyH.cons rfl (fun K hK => ?_) AllReadyH.nil)
   go_simp
   refine (properr_any wr.drew (some ⟨b, o, none⟩) l.length c l l[k] gr rfl hn ((RowsAt.below hA1 hS (by have := hb.size; omega)).more (by have := hb.size; show _ <= wr.heap.size; omega))).mono ?_
   rintro e W2 ⟨rfl, hB2⟩
   have hS2 : Below wr.heap.size wr W2 := hS.trans (hB2.mono (Nat.le_refl _))
   refine hK.out _ _ hS2 (fun _ => ?_)
   clear hK K
   try simp only [z]
   by_cases hbas : Ch.basic gr l l[k] = true
   ·skip
    have Hbas := Lib.hid hbas
    rw [hbas]
    clear hbas
    refine tk (i := 7) (v := .bool false) rfl (by kernel_rfl) (fun _ _ _ h => h) (.inl ⟨by rfl, fun W' hS' => by go_simp⟩) hS2 ?_
    try simp only [z]
    refine tk (i := 8) (v := .bool false) rfl (by kernel_rfl) (fun _ _ _ h => h) (.inl ⟨by rfl, fun W' hS' => by go_simp⟩) hS2 ?_
    try simp only [z]
    refine tk (i := 9) (v := .int .i64 k) rfl (by kernel_rfl) (fun _ _ _ h => h) (.inl ⟨by rfl, fun W' hS' => by go_simp⟩) hS2 ?_
    try simp only [z]
    by_cases hz : k = 0
    ·have Hz := Lib.hid hz
     have Hord : Hid ((decide (k = 0) || decide ((Ch.at_ l (k - 1)).code < l[k].code)) = true) := by show _ = _; simp [hz]
     have hgt : ¬ (0 : Int) < (k : Int) := by omega
     clear hz
     refine tk (i := 10) (v := .bool false) rfl (by kernel_rfl) (fun _ _ _ h => h) (.inl ⟨by rfl, fun W' hS' => by go_simp; exact Hz.out⟩) hS2 ?_
     try simp only [z]
     refine tk (i := 11) (v := .bool false) rfl (by kernel_rfl) (fun _ _ _ h => h) (.inl ⟨by rfl, fun W' hS' => by go_simp⟩) hS2 ?_
     try simp only [z]
     refine tk (i := 12) (v := undef) rfl (by kernel_rfl) (fun _ _ _ h => h) (.inr ⟨by rfl, rfl⟩) hS2 ?_
     try simp only [z]
     refine tk (i := 13) (v := undef) rfl (by kernel_rfl) (fun _ _ _ h => h) (.inr ⟨by rfl, rfl⟩) hS2 ?_
     try simp only [z]
     refine tk (i := 14) (v := undef) rfl (by kernel_rfl) (fun _ _ _ h => h) (.inr ⟨by rfl, rfl⟩) hS2 ?_
     try simp only [z]
     refine tk (i := 15) (v := undef) rfl (by kernel_rfl) (fun _ _ _ h => h) (.inr ⟨by rfl, rfl⟩) hS2 ?_
     try simp only [z]
     refine tk (i := 16) (v := undef) rfl (by kernel_rfl) (fun _ _ _ h => h) (.inr ⟨by rfl, rfl⟩) hS2 ?_
     try simp only [z]
     refine tk (i := 17) (v := undef) rfl (by kernel_rfl) (fun _ _ _ h => h) (.inr ⟨by rfl, rfl⟩) hS2 ?_
     try simp only [z]
     refine tk (i := 18) (v := undef) rfl (by kernel_rfl) (fun _ _ _ h => h) (.inr ⟨by rfl, rfl⟩) hS2 ?_
     try simp only [z]
     refine tk (i := 19) (v := undef) rfl (by kernel_rfl) (fun _ _ _ h => h) (.inr ⟨by rfl, rfl⟩) hS2 ?_
     try simp only [z]
     refine tk (i := 20) (v := undef) rfl (by kernel_rfl) (fun _ _ _ h => h) (.inr ⟨by rfl, rfl⟩) hS2 ?_
     try simp only [z]
     refine tk (i := 21) (v := undef) rfl (by kernel_rfl) (fun _ _ _ h => h) (.inr ⟨by rfl, rfl⟩) hS2 ?_
     try simp only [z]
     refine tk (i := 22) (v := undef) rfl (by kernel_rfl) (fun _ _ _ h => h) (.inr ⟨by rfl, rfl⟩) hS2 ?_
     try simp only [z]
     refine tk (i := 23) (v := undef) rfl (by kernel_rfl) (fun _ _ _ h => h) (.inr ⟨by rfl, rfl⟩) hS2 ?_
     try simp only [z]
     refine tk (i := 24) (v := .bool false) rfl (by kernel_rfl) (fun _ _ _ h => h) (.inl ⟨by rfl, fun W' hS' => by go_simp⟩) hS2 ?_
     try simp only [z]
     refine tk (i := 25) (v := .bool false) rfl (by kernel_rfl) (fun _ _ _ h => h) (.inl ⟨by rfl, fun W' hS' => by go_simp⟩) hS2 ?_
     try simp only [z]
     refine tk (i := 26) (v := .bool false) rfl (by kernel_rfl) (fun _ _ _ h => h) (.inl ⟨by rfl, fun W' hS' => by go_simp⟩) hS2 ?_
     try simp only [z]
     refine tk (i := 27) (v := .slice (some ⟨b, o, none⟩) l.length c) rfl (by kernel_rfl) (fun _ _ _ h => h) (.inl ⟨by rfl, fun W' hS' => by go_simp⟩) hS2 ?_
     try simp only [z]
     refine tk (i := 28) (v := .slice (some ⟨b, o, none⟩) l.length c) rfl (by kernel_rfl) (fun _ _ _ h => h) (.inl ⟨by rfl, fun W' hS' => by go_simp⟩) hS2 ?_
     try simp only [z]
     refine tk (i := 29) (v := .int .i64 k) rfl (by kernel_rfl) (fun _ _ _ h => h) (.inl ⟨by rfl, fun W' hS' => by go_simp⟩) hS2 ?_
     try simp only [z]
     refine tk (i := 30) (v := .pointer (some ⟨b, o + k * 4, none⟩)) rfl (by kernel_rfl) (fun _ _ _ h => h) (.inl ⟨by rfl, fun W' hS' => by go_simp⟩) hS2 ?_
     try simp only [z]
     refine tk (i := 31) (v := .pointer (some ⟨b, o + k * 4, none⟩)) rfl (by kernel_rfl) (fun _ _ _ h => h) (.inl ⟨by rfl, fun W' hS' => by go_simp⟩) hS2 ?_
     try simp only [z]
     refine tk (i := 32) (v := .int .i64 l[k].code) rfl (by kernel_rfl) (fun _ _ _ h => h) (.inl ⟨by rfl, fun W' hS' => by have hc := (hS'.cell (p := ⟨b, o + k * 4, none⟩) hbw).trans c0; go_simp⟩) hS2 ?_
     try simp only [z]
     refine tk (i := 35) (v := .slice (some ⟨b, o, none⟩) l.length c) rfl (by kernel_rfl) (fun _ _ _ h => h) (.inl ⟨by rfl, fun W' hS' => by go_simp⟩) hS2 ?_
     try simp only [z]
     refine tk (i := 36) (v := .int .i64 l.length) rfl (by kernel_rfl) (fun _ _ _ h => h) (.inl ⟨by rfl, fun W' hS' => by go_simp⟩) hS2 ?_
     try simp only [z]
     refine wpAnyH_ready (rs := [33]) (by kernel_rfl) (by simp) (AllReadyH.cons rfl (fun K hK => ?_) AllReadyH.nil)
     go_simp
     refine (climbr_any W2 (some ⟨b, o, none⟩) l.length c l l[k].code rfl hn ((RowsAt.below hA1 hS2 (by have := hb.size; omega)).more (by have := hb.size; have := hS2.size; omega))).mono ?_
     rintro e W3 ⟨⟨A3, c3, rfl⟩, hB3⟩
     have hS3 : Below wr.heap.size wr W3 := hS2.trans (hB3.mono hS2.size)
     refine hK.out _ _ hS3 (fun _ => ?_)
     clear hK K
     try simp only [z]
     obtain ⟨h9, hh9⟩ : ∃ h9, h9 = Ch.climb l (l.length + 1) l[k].code := ⟨_, rfl⟩
     rw [<- hh9]
     have Hh9 := Lib.hid hh9
     clear hh9
     refine tk (i := 34) (v := .int .i64 h9) rfl (by kernel_rfl) (fun _ _ _ h => h) (.inl ⟨by rfl, fun W' hS' => by go_simp⟩) hS3 ?_
     try simp only [z]
     by_cases hcl : (l.length : Int) < (h9 : Int)
     ·skip
      refine tk (i := 37) (v := .bool true) rfl (by kernel_rfl) (fun _ _ _ h => h) (.inl ⟨by rfl, fun W' hS' => by go_simp⟩) hS3 ?_
      try simp only [z]
      refine tk (i := 38) (v := .bool true) rfl (by kernel_rfl) (fun _ _ _ h => h) (.inl ⟨by rfl, fun W' hS' => by go_simp⟩) hS3 ?_
      try simp only [z]
      refine wpAnyH_done (by kernel_rfl) ?_ _
      have Hf := Lib.hid (ok_bad (gr := gr) hlt (by rw [Ch.okAt, Hat.out, <- Hh9.out, decide_eq_false (show ¬ h9 <= l.length by omega), Bool.and_false]))
      clear hcl
      go_wp2
      go_ret
      exact ⟨by rw [Hf.out]; rfl, hb.trans (hS3.mono hb.size)⟩
     ·skip
      refine tk (i := 37) (v := .bool false) rfl (by kernel_rfl) (fun _ _ _ h => h) (.inl ⟨by rfl, fun W' hS' => by go_simp⟩) hS3 ?_
      try simp only [z]
      refine tk (i := 38) (v := .bool false) rfl (by kernel_rfl) (fun _ _ _ h => h) (.inl ⟨by rfl, fun W' hS' => by go_simp⟩) hS3 ?_
      try simp only [z]
      refine wpAnyH_done (by kernel_rfl) ?_ _
      have Hg2 := Lib.hid (okAt_all Hg.out (k := k) (by rw [Ch.okAt, Hat.out, <- Hh9.out, decide_eq_true (show h9 <= l.length by omega), Bool.and_true, Hbas.out, Bool.true_and]; exact Hord.out))
      clear hcl
      go_wp2
      go_roundw
      case rel => exact ⟨k + 1, by omega, by go_num, Hg2.out, hb.trans (hS3.mono hb.size)⟩
      case measure => simp [intOf]; omega
    ·have hgt : (0 : Int) < (k : Int) := by omega
     have hkp : 0 < k := by omega
     have hmk : (k : Int) - 1 = (m : Int) := by have := Hm.out; omega
     have hml : m < l.length := by have := Hm.out; omega
     have hmi : (m : Int) < (l.length : Int) := by omega
     have hm0 : (0 : Int) <= (m : Int) := by omega
     have hwr : IntKind.i64.wrap ((k : Int) - 1) = (m : Int) := by rw [hmk]; exact IntWalk.i64_in _ (by omega)
     obtain ⟨b', o', hA', _, hpc, _⟩ := AccsAt.four hA1 hml
     cases hA'
     have Hpa : Hid (Ch.at_ l (k - 1) = l[m]) := by show _ = _; rw [<- Hm.out]; exact Ch.at_lt hml
     obtain ⟨pc, hpce⟩ : ∃ pc, pc = l[m].code := ⟨_, rfl⟩
     rw [<- hpce] at hpc
     have Hpce := Lib.hid hpce
     have Hkz : Hid (decide (k = 0) = false) := by show _ = _; exact decide_eq_false hz
     clear hmk hz hpce
     refine tk (i := 10) (v := .bool true) rfl (by kernel_rfl) (fun _ _ _ h => h) (.inl ⟨by rfl, fun W' hS' => by go_simp⟩) hS2 ?_
     try simp only [z]
     refine tk (i := 11) (v := .bool true) rfl (by kernel_rfl) (fun _ _ _ h => h) (.inl ⟨by rfl, fun W' hS' => by go_simp⟩) hS2 ?_
     try simp only [z]
     refine tk (i := 12) (v := .slice (some ⟨b, o, none⟩) l.length c) rfl (by kernel_rfl) (fun _ _ _ h => h) (.inl ⟨by rfl, fun W' hS' => by go_simp⟩) hS2 ?_
     try simp only [z]
     refine tk (i := 13) (v := .int .i64 k) rfl (by kernel_rfl) (fun _ _ _ h => h) (.inl ⟨by rfl, fun W' hS' => by go_simp⟩) hS2 ?_
     try simp only [z]
     refine tk (i := 14) (v := .pointer (some ⟨b, o + k * 4, none⟩)) rfl (by kernel_rfl) (fun _ _ _ h => h) (.inl ⟨by rfl, fun W' hS' => by go_simp⟩) hS2 ?_
     try simp only [z]
     refine tk (i := 15) (v := .pointer (some ⟨b, o + k * 4, none⟩)) rfl (by kernel_rfl) (fun _ _ _ h => h) (.inl ⟨by rfl, fun W' hS' => by go_simp⟩) hS2 ?_
     try simp only [z]
     refine tk (i := 16) (v := .int .i64 l[k].code) rfl (by kernel_rfl) (fun _ _ _ h => h) (.inl ⟨by rfl, fun W' hS' => by have hc := (hS'.cell (p := ⟨b, o + k * 4, none⟩) hbw).trans c0; go_simp⟩) hS2 ?_
     try simp only [z]
     refine tk (i := 17) (v := .slice (some ⟨b, o, none⟩) l.length c) rfl (by kernel_rfl) (fun _ _ _ h => h) (.inl ⟨by rfl, fun W' hS' => by go_simp⟩) hS2 ?_
     try simp only [z]
     refine tk (i := 18) (v := .int .i64 k) rfl (by kernel_rfl) (fun _ _ _ h => h) (.inl ⟨by rfl, fun W' hS' => by go_simp⟩) hS2 ?_
     try simp only [z]
     refine tk (i := 19) (v := .int .i64 m) rfl (by kernel_rfl) (fun _ _ _ h => h) (.inl ⟨by rfl, fun W' hS' => by go_simp⟩) hS2 ?_
     try simp only [z]
     refine tk (i := 20) (v := .pointer (some ⟨b, o + m * 4, none⟩)) rfl (by kernel_rfl) (fun _ _ _ h => h) (.inl ⟨by rfl, fun W' hS' => by go_simp⟩) hS2 ?_
     try simp only [z]
     refine tk (i := 21) (v := .pointer (some ⟨b, o + m * 4, none⟩)) rfl (by kernel_rfl) (fun _ _ _ h => h) (.inl ⟨by rfl, fun W' hS' => by go_simp⟩) hS2 ?_
     try simp only [z]
     refine tk (i := 22) (v := .int .i64 pc) rfl (by kernel_rfl) (fun _ _ _ h => h) (.inl ⟨by rfl, fun W' hS' => by have hc := (hS'.cell (p := ⟨b, o + m * 4, none⟩) hbw).trans hpc; go_simp⟩) hS2 ?_
     try simp only [z]
     by_cases hord : pc < l[k].code
     ·have hnge : ¬ l[k].code <= pc := by omega
      have Hord : Hid ((decide (k = 0) || decide ((Ch.at_ l (k - 1)).code < l[k].code)) = true) := by show _ = _; rw [Hpa.out, <- Hpce.out, decide_eq_true hord, Bool.or_true]
      refine tk (i := 23) (v := .bool false) rfl (by kernel_rfl) (fun _ _ _ h => h) (.inl ⟨by rfl, fun W' hS' => by go_simp⟩) hS2 ?_
      try simp only [z]
      refine tk (i := 24) (v := .bool false) rfl (by kernel_rfl) (fun _ _ _ h => h) (.inl ⟨by rfl, fun W' hS' => by go_simp⟩) hS2 ?_
      try simp only [z]
      refine tk (i := 25) (v := .bool false) rfl (by kernel_rfl) (fun _ _ _ h => h) (.inl ⟨by rfl, fun W' hS' => by go_simp⟩) hS2 ?_
      try simp only [z]
      refine tk (i := 26) (v := .bool false) rfl (by kernel_rfl) (fun _ _ _ h => h) (.inl ⟨by rfl, fun W' hS' => by go_simp⟩) hS2 ?_
      try simp only [z]
      refine tk (i := 27) (v := .slice (some ⟨b, o, none⟩) l.length c) rfl (by kernel_rfl) (fun _ _ _ h => h) (.inl ⟨by rfl, fun W' hS' => by go_simp⟩) hS2 ?_
      try simp only [z]
      refine tk (i := 28) (v := .slice (some ⟨b, o, none⟩) l.length c) rfl (by kernel_rfl) (fun _ _ _ h => h) (.inl ⟨by rfl, fun W' hS' => by go_simp⟩) hS2 ?_
      try simp only [z]
      refine tk (i := 29) (v := .int .i64 k) rfl (by kernel_rfl) (fun _ _ _ h => h) (.inl ⟨by rfl, fun W' hS' => by go_simp⟩) hS2 ?_
      try simp only [z]
      refine tk (i := 30) (v := .pointer (some ⟨b, o + k * 4, none⟩)) rfl (by kernel_rfl) (fun _ _ _ h => h) (.inl ⟨by rfl, fun W' hS' => by go_simp⟩) hS2 ?_
      try simp only [z]
      refine tk (i := 31) (v := .pointer (some ⟨b, o + k * 4, none⟩)) rfl (by kernel_rfl) (fun _ _ _ h => h) (.inl ⟨by rfl, fun W' hS' => by go_simp⟩) hS2 ?_
      try simp only [z]
      refine tk (i := 32) (v := .int .i64 l[k].code) rfl (by kernel_rfl) (fun _ _ _ h => h) (.inl ⟨by rfl, fun W' hS' => by have hc := (hS'.cell (p := ⟨b, o + k * 4, none⟩) hbw).trans c0; go_simp⟩) hS2 ?_
      try simp only [z]
      refine tk (i := 35) (v := .slice (some ⟨b, o, none⟩) l.length c) rfl (by kernel_rfl) (fun _ _ _ h => h) (.inl ⟨by rfl, fun W' hS' => by go_simp⟩) hS2 ?_
      try simp only [z]
      refine tk (i := 36) (v := .int .i64 l.length) rfl (by kernel_rfl) (fun _ _ _ h => h) (.inl ⟨by rfl, fun W' hS' => by go_simp⟩) hS2 ?_
      try simp only [z]
      refine wpAnyH_ready (rs := [33]) (by kernel_rfl) (by simp) (AllReadyH.cons rfl (fun K hK => ?_) AllReadyH.nil)
      go_simp
      refine (climbr_any W2 (some ⟨b, o, none⟩) l.length c l l[k].code rfl hn ((RowsAt.below hA1 hS2 (by have := hb.size; omega)).more (by have := hb.size; have := hS2.size; omega))).mono ?_
      rintro e W3 ⟨⟨A3, c3, rfl⟩, hB3⟩
      have hS3 : Below wr.heap.size wr W3 := hS2.trans (hB3.mono hS2.size)
      refine hK.out _ _ hS3 (fun _ => ?_)
      clear hK K
      try simp only [z]
      obtain ⟨h9, hh9⟩ : ∃ h9, h9 = Ch.climb l (l.length + 1) l[k].code := ⟨_, rfl⟩
      rw [<- hh9]
      have Hh9 := Lib.hid hh9
      clear hh9
      refine tk (i := 34) (v := .int .i64 h9) rfl (by kernel_rfl) (fun _ _ _ h => h) (.inl ⟨by rfl, fun W' hS' => by go_simp⟩) hS3 ?_
      try simp only [z]
      by_cases hcl : (l.length : Int) < (h9 : Int)
      ·skip
       refine tk (i := 37) (v := .bool true) rfl (by kernel_rfl) (fun _ _ _ h => h) (.inl ⟨by rfl, fun W' hS' => by go_simp⟩) hS3 ?_
       try simp only [z]
       refine tk (i := 38) (v := .bool true) rfl (by kernel_rfl) (fun _ _ _ h => h) (.inl ⟨by rfl, fun W' hS' => by go_simp⟩) hS3 ?_
       try simp only [z]
       refine wpAnyH_done (by kernel_rfl) ?_ _
       have Hf := Lib.hid (ok_bad (gr := gr) hlt (by rw [Ch.okAt, Hat.out, <- Hh9.out, decide_eq_false (show ¬ h9 <= l.length by omega), Bool.and_false]))
       clear hcl
       go_wp2
       go_ret
       exact ⟨by rw [Hf.out]; rfl, hb.trans (hS3.mono hb.size)⟩
      ·skip
       refine tk (i := 37) (v := .bool false) rfl (by kernel_rfl) (fun _ _ _ h => h) (.inl ⟨by rfl, fun W' hS' => by go_simp⟩) hS3 ?_
       try simp only [z]
       refine tk (i := 38) (v := .bool false) rfl (by kernel_rfl) (fun _ _ _ h => h) (.inl ⟨by rfl, fun W' hS' => by go_simp⟩) hS3 ?_
       try simp only [z]
       refine wpAnyH_done (by kernel_rfl) ?_ _
       have Hg2 := Lib.hid (okAt_all Hg.out (k := k) (by rw [Ch.okAt, Hat.out, <- Hh9.out, decide_eq_true (show h9 <= l.length by omega), Bool.and_true, Hbas.out, Bool.true_and]; exact Hord.out))
       clear hcl
       go_wp2
       go_roundw
       case rel => exact ⟨k + 1, by omega, by go_num, Hg2.out, hb.trans (hS3.mono hb.size)⟩
       case measure => simp [intOf]; omega
     ·have hge : l[k].code <= pc := by omega
      have Hf := Lib.hid (ok_bad (gr := gr) hlt (by rw [Ch.okAt, Hat.out, Hpa.out, <- Hpce.out, Hkz.out, decide_eq_false hord]; simp))
      refine tk (i := 23) (v := .bool true) rfl (by kernel_rfl) (fun _ _ _ h => h) (.inl ⟨by rfl, fun W' hS' => by go_simp⟩) hS2 ?_
      try simp only [z]
      refine tk (i := 24) (v := .bool true) rfl (by kernel_rfl) (fun _ _ _ h => h) (.inl ⟨by rfl, fun W' hS' => by go_simp⟩) hS2 ?_
      try simp only [z]
      refine tk (i := 25) (v := .bool true) rfl (by kernel_rfl) (fun _ _ _ h => h) (.inl ⟨by rfl, fun W' hS' => by go_simp⟩) hS2 ?_
      try simp only [z]
      refine tk (i := 26) (v := .bool true) rfl (by kernel_rfl) (fun _ _ _ h => h) (.inl ⟨by rfl, fun W' hS' => by go_simp⟩) hS2 ?_
      try simp only [z]
      refine tk (i := 27) (v := undef) rfl (by kernel_rfl) (fun _ _ _ h => h) (.inr ⟨by rfl, rfl⟩) hS2 ?_
      try simp only [z]
      refine tk (i := 28) (v := undef) rfl (by kernel_rfl) (fun _ _ _ h => h) (.inr ⟨by rfl, rfl⟩) hS2 ?_
      try simp only [z]
      refine tk (i := 29) (v := undef) rfl (by kernel_rfl) (fun _ _ _ h => h) (.inr ⟨by rfl, rfl⟩) hS2 ?_
      try simp only [z]
      refine tk (i := 30) (v := undef) rfl (by kernel_rfl) (fun _ _ _ h => h) (.inr ⟨by rfl, rfl⟩) hS2 ?_
      try simp only [z]
      refine tk (i := 31) (v := undef) rfl (by kernel_rfl) (fun _ _ _ h => h) (.inr ⟨by rfl, rfl⟩) hS2 ?_
      try simp only [z]
      refine tk (i := 32) (v := undef) rfl (by kernel_rfl) (fun _ _ _ h => h) (.inr ⟨by rfl, rfl⟩) hS2 ?_
      try simp only [z]
      refine tk (i := 33) (v := undef) rfl (by kernel_rfl) (fun _ _ _ h => h) (.inr ⟨by rfl, rfl⟩) hS2 ?_
      try simp only [z]
      refine tk (i := 34) (v := undef) rfl (by kernel_rfl) (fun _ _ _ h => h) (.inr ⟨by rfl, rfl⟩) hS2 ?_
      try simp only [z]
      refine tk (i := 35) (v := undef) rfl (by kernel_rfl) (fun _ _ _ h => h) (.inr ⟨by rfl, rfl⟩) hS2 ?_
      try simp only [z]
      refine tk (i := 36) (v := undef) rfl (by kernel_rfl) (fun _ _ _ h => h) (.inr ⟨by rfl, rfl⟩) hS2 ?_
      try simp only [z]
      refine tk (i := 37) (v := undef) rfl (by kernel_rfl) (fun _ _ _ h => h) (.inr ⟨by rfl, rfl⟩) hS2 ?_
      try simp only [z]
      refine tk (i := 38) (v := .bool true) rfl (by kernel_rfl) (fun _ _ _ h => h) (.inl ⟨by rfl, fun W' hS' => by go_simp⟩) hS2 ?_
      try simp only [z]
      refine wpAnyH_done (by kernel_rfl) ?_ _
      go_wp2
      go_ret
      exact ⟨by rw [Hf.out]; rfl, hb.trans (hS2.mono hb.size)⟩
   ·have hbas' : Ch.basic gr l l[k] = false := by simpa using hbas
    rw [hbas']
    have Hf := Lib.hid (ok_bad (gr := gr) hlt (by rw [Ch.okAt, Hat.out, hbas']; simp))
    clear hbas hbas'
    refine tk (i := 7) (v := .bool true) rfl (by kernel_rfl) (fun _ _ _ h => h) (.inl ⟨by rfl, fun W' hS' => by go_simp⟩) hS2 ?_
    try simp only [z]
    refine tk (i := 8) (v := .bool true) rfl (by kernel_rfl) (fun _ _ _ h => h) (.inl ⟨by rfl, fun W' hS' => by go_simp⟩) hS2 ?_
    try simp only [z]
    refine tk (i := 9) (v := undef) rfl (by kernel_rfl) (fun _ _ _ h => h) (.inr ⟨by rfl, rfl⟩) hS2 ?_
    try simp only [z]
    refine tk (i := 10) (v := undef) rfl (by kernel_rfl) (fun _ _ _ h => h) (.inr ⟨by rfl, rfl⟩) hS2 ?_
    try simp only [z]
    refine tk (i := 11) (v := undef) rfl (by kernel_rfl) (fun _ _ _ h => h) (.inr ⟨by rfl, rfl⟩) hS2 ?_
    try simp only [z]
    refine tk (i := 12) (v := undef) rfl (by kernel_rfl) (fun _ _ _ h => h) (.inr ⟨by rfl, rfl⟩) hS2 ?_
    try simp only [z]
    refine tk (i := 13) (v := undef) rfl (by kernel_rfl) (fun _ _ _ h => h) (.inr ⟨by rfl, rfl⟩) hS2 ?_
    try simp only [z]
    refine tk (i := 14) (v := undef) rfl (by kernel_rfl) (fun _ _ _ h => h) (.inr ⟨by rfl, rfl⟩) hS2 ?_
    try simp only [z]
    refine tk (i := 15) (v := undef) rfl (by kernel_rfl) (fun _ _ _ h => h) (.inr ⟨by rfl, rfl⟩) hS2 ?_
    try simp only [z]
    refine tk (i := 16) (v := undef) rfl (by kernel_rfl) (fun _ _ _ h => h) (.inr ⟨by rfl, rfl⟩) hS2 ?_
    try simp only [z]
    refine tk (i := 17) (v := undef) rfl (by kernel_rfl) (fun _ _ _ h => h) (.inr ⟨by rfl, rfl⟩) hS2 ?_
    try simp only [z]
    refine tk (i := 18) (v := undef) rfl (by kernel_rfl) (fun _ _ _ h => h) (.inr ⟨by rfl, rfl⟩) hS2 ?_
    try simp only [z]
    refine tk (i := 19) (v := undef) rfl (by kernel_rfl) (fun _ _ _ h => h) (.inr ⟨by rfl, rfl⟩) hS2 ?_
    try simp only [z]
    refine tk (i := 20) (v := undef) rfl (by kernel_rfl) (fun _ _ _ h => h) (.inr ⟨by rfl, rfl⟩) hS2 ?_
    try simp only [z]
    refine tk (i := 21) (v := undef) rfl (by kernel_rfl) (fun _ _ _ h => h) (.inr ⟨by rfl, rfl⟩) hS2 ?_
    try simp only [z]
    refine tk (i := 22) (v := undef) rfl (by kernel_rfl) (fun _ _ _ h => h) (.inr ⟨by rfl, rfl⟩) hS2 ?_
    try simp only [z]
    refine tk (i := 23) (v := undef) rfl (by kernel_rfl) (fun _ _ _ h => h) (.inr ⟨by rfl, rfl⟩) hS2 ?_
    try simp only [z]
    refine tk (i := 24) (v := undef) rfl (by kernel_rfl) (fun _ _ _ h => h) (.inr ⟨by rfl, rfl⟩) hS2 ?_
    try simp only [z]
    refine tk (i := 25) (v := .bool true) rfl (by kernel_rfl) (fun _ _ _ h => h) (.inl ⟨by rfl, fun W' hS' => by go_simp⟩) hS2 ?_
    try simp only [z]
    refine tk (i := 26) (v := .bool true) rfl (by kernel_rfl) (fun _ _ _ h => h) (.inl ⟨by rfl, fun W' hS' => by go_simp⟩) hS2 ?_
    try simp only [z]
    refine tk (i := 27) (v := undef) rfl (by kernel_rfl) (fun _ _ _ h => h) (.inr ⟨by rfl, rfl⟩) hS2 ?_
    try simp only [z]
    refine tk (i := 28) (v := undef) rfl (by kernel_rfl) (fun _ _ _ h => h) (.inr ⟨by rfl, rfl⟩) hS2 ?_
    try simp only [z]
    refine tk (i := 29) (v := undef) rfl (by kernel_rfl) (fun _ _ _ h => h) (.inr ⟨by rfl, rfl⟩) hS2 ?_
    try simp only [z]
    refine tk (i := 30) (v := undef) rfl (by kernel_rfl) (fun _ _ _ h => h) (.inr ⟨by rfl, rfl⟩) hS2 ?_
    try simp only [z]
    refine tk (i := 31) (v := undef) rfl (by kernel_rfl) (fun _ _ _ h => h) (.inr ⟨by rfl, rfl⟩) hS2 ?_
    try simp only [z]
    refine tk (i := 32) (v := undef) rfl (by kernel_rfl) (fun _ _ _ h => h) (.inr ⟨by rfl, rfl⟩) hS2 ?_
    try simp only [z]
    refine tk (i := 33) (v := undef) rfl (by kernel_rfl) (fun _ _ _ h => h) (.inr ⟨by rfl, rfl⟩) hS2 ?_
    try simp only [z]
    refine tk (i := 34) (v := undef) rfl (by kernel_rfl) (fun _ _ _ h => h) (.inr ⟨by rfl, rfl⟩) hS2 ?_
    try simp only [z]
    refine tk (i := 35) (v := undef) rfl (by kernel_rfl) (fun _ _ _ h => h) (.inr ⟨by rfl, rfl⟩) hS2 ?_
    try simp only [z]
    refine tk (i := 36) (v := undef) rfl (by kernel_rfl) (fun _ _ _ h => h) (.inr ⟨by rfl, rfl⟩) hS2 ?_
    try simp only [z]
    refine tk (i := 37) (v := undef) rfl (by kernel_rfl) (fun _ _ _ h => h) (.inr ⟨by rfl, rfl⟩) hS2 ?_
    try simp only [z]
    refine tk (i := 38) (v := .bool true) rfl (by kernel_rfl) (fun _ _ _ h => h) (.inl ⟨by rfl, fun W' hS' => by go_simp⟩) hS2 ?_
    try simp only [z]
    refine wpAnyH_done (by kernel_rfl) ?_ _
    go_wp2
    go_ret
    exact ⟨by rw [Hf.out]; rfl, hb.trans (hS2.mono hb.size)⟩
  ·obtain rfl : k = l.length := by omega
   have hf : Hid (Ch.valid gr l = true) := by show _ = _; unfold Ch.valid; rw [Hg.out, decide_eq_true (by have := Hle.out; omega)]; rfl
   clear h
   go_wp2
   go_ret
   exact ⟨by rw [hf.out]; rfl, hb⟩
end
end Go.Proofs.YtccapfbblnnfjaaGreat
