/- My texts ChartV. -/
import Derived.IntWalk
import Derived.Test.YtobnfmneeabomaaGreatG17
set_option linter.unusedVariables false
set_option linter.unusedSimpArgs false
set_option maxRecDepth 100000
set_option maxHeartbeats 8000000
namespace Go.Proofs.YtobnfmneeabomaaGreat
open Go.RowKit

def GoodAt (gr : Bool) (l : List Acc) (i : Nat) : Prop :=
 Ch.basic gr l (Ch.at_ l i) = true /\ (i = 0 ∨ (Ch.at_ l (i - 1)).code < (Ch.at_ l i).code) /\
  ((Ch.at_ l i).parent = 0 ∨ ∃ p, Ch.Up l (Ch.at_ l i).code p 0 /\ Ch.Ends l p 0)
def BadAt (gr : Bool) (l : List Acc) (i : Nat) : Prop :=
 Ch.basic gr l (Ch.at_ l i) = false ∨ (0 < i /\ (Ch.at_ l i).code <= (Ch.at_ l (i - 1)).code) ∨ ∃ p c, Ch.Up l (Ch.at_ l i).code p c /\ Ch.Ends l p c /\ c ≠ 0
theorem valid_parts {gr : Bool} {l : List Acc} (h : Ch.valid gr l = true) : l.length <= 200 /\ ∀ i, i < l.length -> Ch.okAt gr l i = true := by
 unfold Ch.valid at h
 simp only [Bool.and_eq_true, decide_eq_true_eq] at h
 refine ⟨h.1, fun i hi => ?_⟩
 exact List.all_eq_true.1 h.2 i (List.mem_range.2 hi)
theorem all_basic {gr : Bool} {l : List Acc} (h : ∀ i, i < l.length -> Ch.basic gr l (Ch.at_ l i) = true) : ∀ a ∈ l, Ch.basic gr l a = true := by
 intro a ha
 obtain ⟨i, hi, rfl⟩ := List.getElem_of_mem ha
 have := h i hi
 rwa [Ch.at_lt hi] at this
theorem at_mem {l : List Acc} {i : Nat} (h : i < l.length) : Ch.at_ l i ∈ l := by rw [Ch.at_lt h]; exact List.getElem_mem h
theorem bad_valid {gr : Bool} {l : List Acc} {i : Nat} (hi : i < l.length) (h : BadAt gr l i) : Ch.valid gr l = false := by
 cases hv : Ch.valid gr l with
 | false => rfl
 | true =>
  exfalso
  obtain ⟨_, ho⟩ := valid_parts hv
  have hb : ∀ j, j < l.length -> Ch.basic gr l (Ch.at_ l j) = true := fun j hj => by
   have := ho j hj
   unfold Ch.okAt at this
   simp only [Bool.and_eq_true] at this
   exact this.1.1
  have hoi := ho i hi
  unfold Ch.okAt at hoi
  simp only [Bool.and_eq_true, Bool.or_eq_true, decide_eq_true_eq] at hoi
  rcases h with h | ⟨h1, h2⟩ | ⟨p, c, h1, h2, h3⟩
  ·rw [hb i hi] at h; cases h
  ·omega
  ·exact h3 ((Ch.top_iff (all_basic hb) (at_mem hi) h1 h2).2 hoi.2)
theorem code_inj {l : List Acc} (ho : ∀ i, i < l.length -> i = 0 ∨ (Ch.at_ l (i - 1)).code < (Ch.at_ l i).code) : ∀ (d i : Nat), i + d + 1 < l.length -> (Ch.at_ l i).code < (Ch.at_ l (i + d + 1)).code
 | 0, i, h => by
  rcases ho (i + 1) h with h1 | h1
  ·omega
  ·simpa using h1
 | d + 1, i, h => by
  have h1 := code_inj ho d i (by omega)
  rcases ho (i + (d + 1) + 1) h with h2 | h2
  ·omega
  ·have : i + (d + 1) + 1 - 1 = i + d + 1 := by omega
   rw [this] at h2; omega
theorem find_self {l : List Acc} (ho : ∀ i, i < l.length -> i = 0 ∨ (Ch.at_ l (i - 1)).code < (Ch.at_ l i).code) {a : Acc} (ha : a ∈ l) : Ch.find l a.code = some a := by
 obtain ⟨b, hb⟩ := Ch.find_mem ha
 obtain ⟨hm, hc⟩ := Ch.find_some hb
 obtain ⟨i, hi, rfl⟩ := List.getElem_of_mem ha
 obtain ⟨j, hj, rfl⟩ := List.getElem_of_mem hm
 have e : i = j := by
  rcases Nat.lt_trichotomy i j with h | h | h
  ·have := code_inj ho (j - i - 1) i (by omega)
   rw [show i + (j - i - 1) + 1 = j by omega, Ch.at_lt hi, Ch.at_lt hj] at this; omega
  ·exact h
  ·have := code_inj ho (i - j - 1) j (by omega)
   rw [show j + (i - j - 1) + 1 = i by omega, Ch.at_lt hi, Ch.at_lt hj] at this; omega
 subst e; exact hb
theorem good_valid {gr : Bool} {l : List Acc} (h : ∀ i, i < l.length -> GoodAt gr l i) : Ch.valid gr l = decide (l.length <= 200) := by
 have hb : ∀ j, j < l.length -> Ch.basic gr l (Ch.at_ l j) = true := fun j hj => (h j hj).1
 have hba := all_basic hb
 unfold Ch.valid
 rw [Ch.all_of (fun i hi => ?_), Bool.and_true]
 obtain ⟨h1, h2, h3⟩ := h i hi
 have hcl : Ch.climb l (l.length + 1) (Ch.at_ l i).code <= l.length := by
  rcases h3 with h3 | ⟨p, h3, h4⟩
  ·have hf := find_self (fun j hj => (h j hj).2.1) (at_mem hi)
   have hn : Ch.find l 0 = none := by
    cases he : Ch.find l 0 with
    | none => rfl
    | some b =>
     obtain ⟨hm, hc⟩ := Ch.find_some he
     have := hba b hm
     rw [Ch.basic, hc] at this
     simp at this
   simp only [Ch.climb, hf, h3, Ch.climb_none hn]; omega
  ·exact (Ch.top_iff hba (at_mem hi) h3 h4).1 rfl
 unfold Ch.okAt
 rw [h1, decide_eq_true hcl]
 rcases h2 with h2 | h2
 ·simp [h2]
 ·simp [h2]
theorem range_row {w : World} {b : Nat} {cs : List Value} {t : TypeId} {fr : Nat × Nat} (h : w.heap[b]? = some (.cells cs.toArray t fr)) : w.rangeAt b 0 cs := by
 intro j v hj
 rw [Nat.zero_add, cell_of_row _ _ _ _ _ _ h]
 simpa using hj
theorem range_below {a b : World} {C B o : Nat} {cs : List Value} (h : a.rangeAt B o cs) (hb : Below C a b) (hB : B < C) : b.rangeAt B o cs := fun j v hj => (hb.cell (p := ⟨B, _, none⟩) hB).trans (h j v hj)
section
variable (w : World)
theorem validd_any (A : Option Addr) (n c : Nat) (l : List Acc) (gr : Bool) (hl : l.length = n) (hn : n <= 100000) (hwf : ∀ a ∈ l, a.wf) (h : AccsAt w w.heap.size A l) :
  Calls Tryz.prog 52 #[.slice A n c, .bool gr] w fun e w' => e = .returned (.bool (Ch.valid gr l)) /\ Below w.heap.size w w' := by
 subst hl
 have Hwf := Lib.hid hwf
 clear hwf
 go_enter Tryz.func52, Tryz.ntmps52
 go_wp2
 go_loopw [9] (fun i wr => ∃ k : Nat, k <= l.length /\ i = .int .i64 k /\ (∀ i, i < k -> GoodAt gr l i) /\ Below w.heap.size w wr) (fun i _ => l.length - (intOf i).toNat)
 case atStart => exact ⟨0, Nat.zero_le _, rfl, fun i hi => by omega, Below.refl _ _⟩
 case round =>
  obtain ⟨k, hk, rfl, hg, hb⟩ := hrel
  have Hg := Lib.hid hg
  clear hg
  by_cases hlt : k < l.length
  ·obtain ⟨b, o, rfl, hbB, c0, c1, c2, c3⟩ := AccsAt.four (RowsAt.below h hb (Nat.le_refl _)) hlt
   have hbw : b < wr.heap.size := Nat.lt_of_lt_of_le hbB hb.size
   obtain ⟨W1, hW1, hBa, hra, hza⟩ := nw1 wr #[.int .i64 (l[k]).code, .int .i64 (l[k]).kind, .int .i64 (l[k]).basis, .int .i64 (l[k]).parent] 111
   have HW := Lib.hid hW1
   have hBw1 := hb.trans (hBa.mono hb.size)
   have hA1 := RowsAt.below h hBw1 (Nat.le_refl _)
   have hS : Below W1.heap.size W1 W1.drew := below_drawn (Below.refl _ _) 1
   have hq1 : wr.heap.size < W1.heap.size := some_lt hra
   have hqb : b < W1.heap.size := by omega
   have hx := range_row (cs := [.int .i64 (l[k]).code, .int .i64 (l[k]).kind, .int .i64 (l[k]).basis, .int .i64 (l[k]).parent]) hra
   have Hmem := Lib.hid (List.getElem_mem hlt)
   have Hat := Lib.hid (Ch.at_lt hlt)
   have hk0 : (0 : Int) <= (k : Int) := by omega
   clear hW1
   go_upto_region 4 with (fail)
   rw [<- HW.out]
   clear c1 c2 c3
   by_cases hz : k = 0
   ·have hgt : ¬ (0 : Int) < (k : Int) := by omega
    have Hord : Hid (k = 0 ∨ (Ch.at_ l (k - 1)).code < l[k].code) := .inl hz
    have Hz := Lib.hid hz
    clear hz
    refine wp_region_held (S := Below W1.heap.size W1) (by kernel_rfl) ?_
    change wpAnyH _ _ _ _ _ _ _ _ (World.drew _)
    refine tk (i := 0) (v := .int .i64 k) rfl (by kernel_rfl) (fun _ _ _ h => h) (.inl ⟨by rfl, fun W' hS' => by go_simp⟩) hS ?_
    try simp only [z]
    refine tk (i := 1) (v := .bool false) rfl (by kernel_rfl) (fun _ _ _ h => h) (.inl ⟨by rfl, fun W' hS' => by go_simp; exact Hz.out⟩) hS ?_
    try simp only [z]
    refine tk (i := 2) (v := .bool false) rfl (by kernel_rfl) (fun _ _ _ h => h) (.inl ⟨by rfl, fun W' hS' => by go_simp⟩) hS ?_
    try simp only [z]
    refine tk (i := 3) (v := undef) rfl (by kernel_rfl) (fun _ _ _ h => h) (.inr ⟨by rfl, rfl⟩) hS ?_
    try simp only [z]
    refine tk (i := 4) (v := undef) rfl (by kernel_rfl) (fun _ _ _ h => h) (.inr ⟨by rfl, rfl⟩) hS ?_
    try simp only [z]
    refine tk (i := 5) (v := undef) rfl (by kernel_rfl) (fun _ _ _ h => h) (.inr ⟨by rfl, rfl⟩) hS ?_
    try simp only [z]
    refine tk (i := 6) (v := undef) rfl (by kernel_rfl) (fun _ _ _ h => h) (.inr ⟨by rfl, rfl⟩) hS ?_
    try simp only [z]
    refine tk (i := 7) (v := undef) rfl (by kernel_rfl) (fun _ _ _ h => h) (.inr ⟨by rfl, rfl⟩) hS ?_
    try simp only [z]
    refine tk (i := 8) (v := undef) rfl (by kernel_rfl) (fun _ _ _ h => h) (.inr ⟨by rfl, rfl⟩) hS ?_
    try simp only [z]
    refine tk (i := 9) (v := undef) rfl (by kernel_rfl) (fun _ _ _ h => h) (.inr ⟨by rfl, rfl⟩) hS ?_
    try simp only [z]
    refine tk (i := 10) (v := undef) rfl (by kernel_rfl) (fun _ _ _ h => h) (.inr ⟨by rfl, rfl⟩) hS ?_
    try simp only [z]
    refine tk (i := 11) (v := undef) rfl (by kernel_rfl) (fun _ _ _ h => h) (.inr ⟨by rfl, rfl⟩) hS ?_
    try simp only [z]
    refine tk (i := 12) (v := .bool false) rfl (by kernel_rfl) (fun _ _ _ h => h) (.inl ⟨by rfl, fun W' hS' => by go_simp⟩) hS ?_
    try simp only [z]
    refine tk (i := 13) (v := .bool false) rfl (by kernel_rfl) (fun _ _ _ h => h) (.inl ⟨by rfl, fun W' hS' => by go_simp⟩) hS ?_
    try simp only [z]
    refine tk (i := 14) (v := .slice (some ⟨b, o, none⟩) l.length c) rfl (by kernel_rfl) (fun _ _ _ h => h) (.inl ⟨by rfl, fun W' hS' => by go_simp⟩) hS ?_
    try simp only [z]
    refine tk (i := 15) (v := .agg #[.int .i64 (l[k]).code, .int .i64 (l[k]).kind, .int .i64 (l[k]).basis, .int .i64 (l[k]).parent]) rfl (by kernel_rfl) (fun _ _ _ h => h) (yieldsIf_load_mid (by rfl) 111 _ rfl wr.heap.size 0 rfl [.int .i64 (l[k]).code, .int .i64 (l[k]).kind, .int .i64 (l[k]).basis, .int .i64 (l[k]).parent] _ (fun W' hS' => range_below hx hS' hq1) Tryz.underlying111 rfl accSize) hS ?_
    try simp only [z]
    refine tk (i := 16) (v := .bool gr) rfl (by kernel_rfl) (fun _ _ _ h => h) (.inl ⟨by rfl, fun W' hS' => by go_simp⟩) hS ?_
    try simp only [z]
    refine wpAnyH_ready (rs := [17]) (by kernel_rfl) (by simp) (AllReadyH.cons rfl (fun K hK => ?_) AllReadyH.nil)
    go_simp
    refine (properd_any W1.drew (some ⟨b, o, none⟩) l.length c l l[k] gr rfl hn Hwf.out Hmem.out ((RowsAt.below hA1 hS (by have := hBw1.size; omega)).more (by have := hBw1.size; show _ <= W1.heap.size; omega))).mono ?_
    rintro e W2 ⟨hB2, q, rfl, hq⟩
    have hS2 : Below W1.heap.size W1 W2 := hS.trans (hB2.mono (Nat.le_refl _))
    refine hK.out _ _ hS2 (fun _ => ?_)
    clear hK K
    try simp only [z]
    cases q
    ·skip
     refine tk (i := 18) (v := .bool true) rfl (by kernel_rfl) (fun _ _ _ h => h) (.inl ⟨by rfl, fun W' hS' => by go_simp⟩) hS2 ?_
     try simp only [z]
     refine tk (i := 19) (v := .bool true) rfl (by kernel_rfl) (fun _ _ _ h => h) (.inl ⟨by rfl, fun W' hS' => by go_simp⟩) hS2 ?_
     try simp only [z]
     refine wpAnyH_done (by kernel_rfl) ?_ _
     have hBad : BadAt gr l k := by
      rw [BadAt, Hat.out]
      rcases hq with ⟨h1, _⟩ | ⟨_, _, h3⟩ | ⟨_, p, cc, h3, h4, h5⟩
      ·exact .inl h1
      ·cases h3
      ·exact .inr (.inr ⟨p, cc, h3, h4, by simpa using h5.symm⟩)
     have Hf := Lib.hid (bad_valid hlt hBad)
     clear hBad hq
     go_wp2
     go_ret
     exact ⟨by rw [Hf.out]; rfl, hBw1.trans (hS2.mono hBw1.size)⟩
    ·skip
     refine tk (i := 18) (v := .bool false) rfl (by kernel_rfl) (fun _ _ _ h => h) (.inl ⟨by rfl, fun W' hS' => by go_simp⟩) hS2 ?_
     try simp only [z]
     refine tk (i := 19) (v := .bool false) rfl (by kernel_rfl) (fun _ _ _ h => h) (.inl ⟨by rfl, fun W' hS' => by go_simp⟩) hS2 ?_
     try simp only [z]
     refine wpAnyH_done (by kernel_rfl) ?_ _
     have hGood : GoodAt gr l k := by
      rw [GoodAt, Hat.out]
      refine ⟨?_, Hord.out, ?_⟩
      ·rcases hq with ⟨_, h2⟩ | ⟨h1, _⟩ | ⟨h1, _⟩
       ·cases h2
       ·exact h1
       ·exact h1
      ·rcases hq with ⟨_, h2⟩ | ⟨_, h2, _⟩ | ⟨_, p, cc, h3, h4, h5⟩
       ·cases h2
       ·exact .inl h2
       ·have h6 : cc = 0 := by simpa using h5.symm
        subst h6; exact .inr ⟨p, h3, h4⟩
     have HG : Hid (∀ i, i < k + 1 -> GoodAt gr l i) := by
      show ∀ i, _ -> _
      intro i hi
      rcases Nat.lt_or_ge i k with h1 | h1
      ·exact Hg.out i h1
      ·obtain rfl : i = k := by omega
       exact hGood
     clear hGood hq
     go_wp2
     go_roundw
     case rel => exact ⟨k + 1, by omega, by go_num, HG.out, hBw1.trans (hS2.mono hBw1.size)⟩
     case measure => simp [intOf]; omega
   ·have hgt : (0 : Int) < (k : Int) := by omega
    obtain ⟨m, hm⟩ : ∃ m, m = k - 1 := ⟨_, rfl⟩
    have hmk : (k : Int) - 1 = (m : Int) := by omega
    have hml : m < l.length := by omega
    have hmi : (m : Int) < (l.length : Int) := by omega
    have hm0 : (0 : Int) <= (m : Int) := by omega
    have hwr : IntKind.i64.wrap ((k : Int) - 1) = (m : Int) := by rw [hmk]; exact IntWalk.i64_in _ (by omega)
    obtain ⟨b', o', hA', _, hpc, _⟩ := AccsAt.four hA1 hml
    cases hA'
    have Hpa : Hid (Ch.at_ l (k - 1) = l[m]) := by show _ = _; rw [<- hm]; exact Ch.at_lt hml
    obtain ⟨pc, hpce⟩ : ∃ pc, pc = l[m].code := ⟨_, rfl⟩
    rw [<- hpce] at hpc
    have Hpce := Lib.hid hpce
    have hkp : 0 < k := by omega
    clear hm hmk hz hpce
    by_cases hord : pc < l[k].code
    ·have hnge : ¬ l[k].code <= pc := by omega
     have Hord : Hid (k = 0 ∨ (Ch.at_ l (k - 1)).code < l[k].code) := .inr (by rw [Hpa.out, <- Hpce.out]; exact hord)
     refine wp_region_held (S := Below W1.heap.size W1) (by kernel_rfl) ?_
     change wpAnyH _ _ _ _ _ _ _ _ (World.drew _)
     refine tk (i := 0) (v := .int .i64 k) rfl (by kernel_rfl) (fun _ _ _ h => h) (.inl ⟨by rfl, fun W' hS' => by go_simp⟩) hS ?_
     try simp only [z]
     refine tk (i := 1) (v := .bool true) rfl (by kernel_rfl) (fun _ _ _ h => h) (.inl ⟨by rfl, fun W' hS' => by go_simp⟩) hS ?_
     try simp only [z]
     refine tk (i := 2) (v := .bool true) rfl (by kernel_rfl) (fun _ _ _ h => h) (.inl ⟨by rfl, fun W' hS' => by go_simp⟩) hS ?_
     try simp only [z]
     refine tk (i := 3) (v := .slice (some ⟨b, o, none⟩) l.length c) rfl (by kernel_rfl) (fun _ _ _ h => h) (.inl ⟨by rfl, fun W' hS' => by go_simp⟩) hS ?_
     try simp only [z]
     refine tk (i := 4) (v := .int .i64 k) rfl (by kernel_rfl) (fun _ _ _ h => h) (.inl ⟨by rfl, fun W' hS' => by go_simp⟩) hS ?_
     try simp only [z]
     refine tk (i := 5) (v := .int .i64 m) rfl (by kernel_rfl) (fun _ _ _ h => h) (.inl ⟨by rfl, fun W' hS' => by go_simp⟩) hS ?_
     try simp only [z]
     refine tk (i := 6) (v := .pointer (some ⟨b, o + m * 4, none⟩)) rfl (by kernel_rfl) (fun _ _ _ h => h) (.inl ⟨by rfl, fun W' hS' => by go_simp⟩) hS ?_
     try simp only [z]
     refine tk (i := 7) (v := .pointer (some ⟨b, o + m * 4, none⟩)) rfl (by kernel_rfl) (fun _ _ _ h => h) (.inl ⟨by rfl, fun W' hS' => by go_simp⟩) hS ?_
     try simp only [z]
     refine tk (i := 8) (v := .int .i64 pc) rfl (by kernel_rfl) (fun _ _ _ h => h) (.inl ⟨by rfl, fun W' hS' => by have hc := (hS'.cell (p := ⟨b, o + m * 4, none⟩) hqb).trans hpc; go_simp⟩) hS ?_
     try simp only [z]
     refine tk (i := 9) (v := .pointer (some ⟨wr.heap.size, 0, none⟩)) rfl (by kernel_rfl) (fun _ _ _ h => h) (.inl ⟨by rfl, fun W' hS' => by go_simp⟩) hS ?_
     try simp only [z]
     refine tk (i := 10) (v := .int .i64 l[k].code) rfl (by kernel_rfl) (fun _ _ _ h => h) (.inl ⟨by rfl, fun W' hS' => by have hc := (hS'.cell (p := ⟨wr.heap.size, 0, none⟩) hq1).trans (hx 0 _ rfl); go_simp⟩) hS ?_
     try simp only [z]
     refine tk (i := 11) (v := .bool false) rfl (by kernel_rfl) (fun _ _ _ h => h) (.inl ⟨by rfl, fun W' hS' => by go_simp⟩) hS ?_
     try simp only [z]
     refine tk (i := 12) (v := .bool false) rfl (by kernel_rfl) (fun _ _ _ h => h) (.inl ⟨by rfl, fun W' hS' => by go_simp⟩) hS ?_
     try simp only [z]
     refine tk (i := 13) (v := .bool false) rfl (by kernel_rfl) (fun _ _ _ h => h) (.inl ⟨by rfl, fun W' hS' => by go_simp⟩) hS ?_
     try simp only [z]
     refine tk (i := 14) (v := .slice (some ⟨b, o, none⟩) l.length c) rfl (by kernel_rfl) (fun _ _ _ h => h) (.inl ⟨by rfl, fun W' hS' => by go_simp⟩) hS ?_
     try simp only [z]
     refine tk (i := 15) (v := .agg #[.int .i64 (l[k]).code, .int .i64 (l[k]).kind, .int .i64 (l[k]).basis, .int .i64 (l[k]).parent]) rfl (by kernel_rfl) (fun _ _ _ h => h) (yieldsIf_load_mid (by rfl) 111 _ rfl wr.heap.size 0 rfl [.int .i64 (l[k]).code, .int .i64 (l[k]).kind, .int .i64 (l[k]).basis, .int .i64 (l[k]).parent] _ (fun W' hS' => range_below hx hS' hq1) Tryz.underlying111 rfl accSize) hS ?_
     try simp only [z]
     refine tk (i := 16) (v := .bool gr) rfl (by kernel_rfl) (fun _ _ _ h => h) (.inl ⟨by rfl, fun W' hS' => by go_simp⟩) hS ?_
     try simp only [z]
     refine wpAnyH_ready (rs := [17]) (by kernel_rfl) (by simp) (AllReadyH.cons rfl (fun K hK => ?_) AllReadyH.nil)
     go_simp
     refine (properd_any W1.drew (some ⟨b, o, none⟩) l.length c l l[k] gr rfl hn Hwf.out Hmem.out ((RowsAt.below hA1 hS (by have := hBw1.size; omega)).more (by have := hBw1.size; show _ <= W1.heap.size; omega))).mono ?_
     rintro e W2 ⟨hB2, q, rfl, hq⟩
     have hS2 : Below W1.heap.size W1 W2 := hS.trans (hB2.mono (Nat.le_refl _))
     refine hK.out _ _ hS2 (fun _ => ?_)
     clear hK K
     try simp only [z]
     cases q
     ·skip
      refine tk (i := 18) (v := .bool true) rfl (by kernel_rfl) (fun _ _ _ h => h) (.inl ⟨by rfl, fun W' hS' => by go_simp⟩) hS2 ?_
      try simp only [z]
      refine tk (i := 19) (v := .bool true) rfl (by kernel_rfl) (fun _ _ _ h => h) (.inl ⟨by rfl, fun W' hS' => by go_simp⟩) hS2 ?_
      try simp only [z]
      refine wpAnyH_done (by kernel_rfl) ?_ _
      have hBad : BadAt gr l k := by
       rw [BadAt, Hat.out]
       rcases hq with ⟨h1, _⟩ | ⟨_, _, h3⟩ | ⟨_, p, cc, h3, h4, h5⟩
       ·exact .inl h1
       ·cases h3
       ·exact .inr (.inr ⟨p, cc, h3, h4, by simpa using h5.symm⟩)
      have Hf := Lib.hid (bad_valid hlt hBad)
      clear hBad hq
      go_wp2
      go_ret
      exact ⟨by rw [Hf.out]; rfl, hBw1.trans (hS2.mono hBw1.size)⟩
     ·skip
      refine tk (i := 18) (v := .bool false) rfl (by kernel_rfl) (fun _ _ _ h => h) (.inl ⟨by rfl, fun W' hS' => by go_simp⟩) hS2 ?_
      try simp only [z]
      refine tk (i := 19) (v := .bool false) rfl (by kernel_rfl) (fun _ _ _ h => h) (.inl ⟨by rfl, fun W' hS' => by go_simp⟩) hS2 ?_
      try simp only [z]
      refine wpAnyH_done (by kernel_rfl) ?_ _
      have hGood : GoodAt gr l k := by
       rw [GoodAt, Hat.out]
       refine ⟨?_, Hord.out, ?_⟩
       ·rcases hq with ⟨_, h2⟩ | ⟨h1, _⟩ | ⟨h1, _⟩
        ·cases h2
        ·exact h1
        ·exact h1
       ·rcases hq with ⟨_, h2⟩ | ⟨_, h2, _⟩ | ⟨_, p, cc, h3, h4, h5⟩
        ·cases h2
        ·exact .inl h2
        ·have h6 : cc = 0 := by simpa using h5.symm
         subst h6; exact .inr ⟨p, h3, h4⟩
      have HG : Hid (∀ i, i < k + 1 -> GoodAt gr l i) := by
       show ∀ i, _ -> _
       intro i hi
       rcases Nat.lt_or_ge i k with h1 | h1
       ·exact Hg.out i h1
       ·obtain rfl : i = k := by omega
        exact hGood
      clear hGood hq
      go_wp2
      go_roundw
      case rel => exact ⟨k + 1, by omega, by go_num, HG.out, hBw1.trans (hS2.mono hBw1.size)⟩
      case measure => simp [intOf]; omega
    ·have hge : l[k].code <= pc := by omega
     have hBad : BadAt gr l k := .inr (.inl ⟨hkp, by rw [Hat.out, Hpa.out, <- Hpce.out]; exact hge⟩)
     have Hf := Lib.hid (bad_valid hlt hBad)
     clear hBad
     refine wp_region_held (S := Below W1.heap.size W1) (by kernel_rfl) ?_
     change wpAnyH _ _ _ _ _ _ _ _ (World.drew _)
     refine tk (i := 0) (v := .int .i64 k) rfl (by kernel_rfl) (fun _ _ _ h => h) (.inl ⟨by rfl, fun W' hS' => by go_simp⟩) hS ?_
     try simp only [z]
     refine tk (i := 1) (v := .bool true) rfl (by kernel_rfl) (fun _ _ _ h => h) (.inl ⟨by rfl, fun W' hS' => by go_simp⟩) hS ?_
     try simp only [z]
     refine tk (i := 2) (v := .bool true) rfl (by kernel_rfl) (fun _ _ _ h => h) (.inl ⟨by rfl, fun W' hS' => by go_simp⟩) hS ?_
     try simp only [z]
     refine tk (i := 3) (v := .slice (some ⟨b, o, none⟩) l.length c) rfl (by kernel_rfl) (fun _ _ _ h => h) (.inl ⟨by rfl, fun W' hS' => by go_simp⟩) hS ?_
     try simp only [z]
     refine tk (i := 4) (v := .int .i64 k) rfl (by kernel_rfl) (fun _ _ _ h => h) (.inl ⟨by rfl, fun W' hS' => by go_simp⟩) hS ?_
     try simp only [z]
     refine tk (i := 5) (v := .int .i64 m) rfl (by kernel_rfl) (fun _ _ _ h => h) (.inl ⟨by rfl, fun W' hS' => by go_simp⟩) hS ?_
     try simp only [z]
     refine tk (i := 6) (v := .pointer (some ⟨b, o + m * 4, none⟩)) rfl (by kernel_rfl) (fun _ _ _ h => h) (.inl ⟨by rfl, fun W' hS' => by go_simp⟩) hS ?_
     try simp only [z]
     refine tk (i := 7) (v := .pointer (some ⟨b, o + m * 4, none⟩)) rfl (by kernel_rfl) (fun _ _ _ h => h) (.inl ⟨by rfl, fun W' hS' => by go_simp⟩) hS ?_
     try simp only [z]
     refine tk (i := 8) (v := .int .i64 pc) rfl (by kernel_rfl) (fun _ _ _ h => h) (.inl ⟨by rfl, fun W' hS' => by have hc := (hS'.cell (p := ⟨b, o + m * 4, none⟩) hqb).trans hpc; go_simp⟩) hS ?_
     try simp only [z]
     refine tk (i := 9) (v := .pointer (some ⟨wr.heap.size, 0, none⟩)) rfl (by kernel_rfl) (fun _ _ _ h => h) (.inl ⟨by rfl, fun W' hS' => by go_simp⟩) hS ?_
     try simp only [z]
     refine tk (i := 10) (v := .int .i64 l[k].code) rfl (by kernel_rfl) (fun _ _ _ h => h) (.inl ⟨by rfl, fun W' hS' => by have hc := (hS'.cell (p := ⟨wr.heap.size, 0, none⟩) hq1).trans (hx 0 _ rfl); go_simp⟩) hS ?_
     try simp only [z]
     refine tk (i := 11) (v := .bool true) rfl (by kernel_rfl) (fun _ _ _ h => h) (.inl ⟨by rfl, fun W' hS' => by go_simp⟩) hS ?_
     try simp only [z]
     refine tk (i := 12) (v := .bool true) rfl (by kernel_rfl) (fun _ _ _ h => h) (.inl ⟨by rfl, fun W' hS' => by go_simp⟩) hS ?_
     try simp only [z]
     refine tk (i := 13) (v := .bool true) rfl (by kernel_rfl) (fun _ _ _ h => h) (.inl ⟨by rfl, fun W' hS' => by go_simp⟩) hS ?_
     try simp only [z]
     refine tk (i := 14) (v := undef) rfl (by kernel_rfl) (fun _ _ _ h => h) (.inr ⟨by rfl, rfl⟩) hS ?_
     try simp only [z]
     refine tk (i := 15) (v := undef) rfl (by kernel_rfl) (fun _ _ _ h => h) (.inr ⟨by rfl, rfl⟩) hS ?_
     try simp only [z]
     refine tk (i := 16) (v := undef) rfl (by kernel_rfl) (fun _ _ _ h => h) (.inr ⟨by rfl, rfl⟩) hS ?_
     try simp only [z]
     refine tk (i := 17) (v := undef) rfl (by kernel_rfl) (fun _ _ _ h => h) (.inr ⟨by rfl, rfl⟩) hS ?_
     try simp only [z]
     refine tk (i := 18) (v := undef) rfl (by kernel_rfl) (fun _ _ _ h => h) (.inr ⟨by rfl, rfl⟩) hS ?_
     try simp only [z]
     refine tk (i := 19) (v := .bool true) rfl (by kernel_rfl) (fun _ _ _ h => h) (.inl ⟨by rfl, fun W' hS' => by go_simp⟩) hS ?_
     try simp only [z]
     refine wpAnyH_done (by kernel_rfl) ?_ _
     go_wp2
     go_ret
     exact ⟨by rw [Hf.out]; rfl, hBw1.trans (hS.mono hBw1.size)⟩
  ·obtain rfl : k = l.length := by omega
   have hf := Lib.hid (good_valid Hg.out)
   clear h
   go_wp2
   go_ret
   exact ⟨ret_bool (by rw [hf.out]; rw [Bool.eq_iff_iff]; simp; omega), hb⟩
end
end Go.Proofs.YtobnfmneeabomaaGreat
