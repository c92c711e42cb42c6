/- My texts ChartW, ChartUp. -/
import Derived.Deep.LoopGhost
import Derived.Test.YtobnfmneeabomaaGreatG00
import Derived.Test.YtobnfmneeabomaaGreatG05
import Derived.Test.YtobnfmneeabomaaGreatG15
set_option linter.unusedVariables false
set_option linter.unusedSimpArgs false
set_option maxRecDepth 100000
set_option maxHeartbeats 8000000
namespace Go.Proofs.YtobnfmneeabomaaGreat
open Go.RowKit

def Acc.wf (a : Acc) : Prop := (Lit.int .i64 a.code).wf = true /\ (Lit.int .i64 a.kind).wf = true /\ (Lit.int .i64 a.basis).wf = true /\ (Lit.int .i64 a.parent).wf = true
abbrev AccsAt := RowsAt Acc.cells 4
theorem AccsAt.four {w : World} {B : Nat} {A : Option Addr} {l : List Acc} (h : AccsAt w B A l) {k : Nat} (hk : k < l.length) : ∃ b o, A = some ⟨b, o, none⟩ /\ b < B /\ w.cell? ⟨b, o + k * 4, none⟩ = some (.int .i64 l[k].code) /\ w.cell? ⟨b, o + k * 4 + 1, none⟩ = some (.int .i64 l[k].kind) /\ w.cell? ⟨b, o + k * 4 + 2, none⟩ = some (.int .i64 l[k].basis) /\ w.cell? ⟨b, o + k * 4 + 3, none⟩ = some (.int .i64 l[k].parent) := by
 obtain ⟨b, o, e, hb, hr⟩ := RowsAt.look h hk
 exact ⟨b, o, e, hb, hr 0 _ rfl, hr 1 _ rfl, hr 2 _ rfl, hr 3 _ rfl⟩
theorem accSize : (Tryz.prog.info? 111).map (·.size) = some 4 := by kernel_rfl
theorem accOne (a b c d : Int) : (#[.int .i64 a, .int .i64 b, .int .i64 c, .int .i64 d] : Array Value).all (·.oneCell') = true := by simp [Value.oneCell']
section
variable (w : World)
theorem findd_any (A : Option Addr) (n c : Nat) (l : List Acc) (x : Int) (hl : l.length = n) (hn : n <= 100000) (h : AccsAt w w.heap.size A l) :
  Calls Tryz.prog 57 #[.slice A n c, .int .i64 x] w fun e w' => e = .returned (.tuple #[.agg #[.int .i64 (Ch.found l x).code, .int .i64 (Ch.found l x).kind, .int .i64 (Ch.found l x).basis, .int .i64 (Ch.found l x).parent], .bool (Ch.has l x)]) /\ Below w.heap.size w w' := by
 subst hl
 have hB0 := (Below.refl w.heap.size w).alloc (Nat.le_refl _) (.cells #[.int .i64 0, .int .i64 0, .int .i64 0, .int .i64 0] 111)
 have hZ0 := heap_alloc_new w (.cells #[.int .i64 0, .int .i64 0, .int .i64 0, .int .i64 0] 111)
 go_enter Tryz.func57, Tryz.ntmps57
 go_wp2
 go_loopw [10] (fun i wr => ∃ k : Nat, k <= l.length /\ i = .int .i64 k /\ Ch.find (l.take k) x = none /\ Below w.heap.size w wr /\ wr.heap[w.heap.size]? = some (.cells #[.int .i64 0, .int .i64 0, .int .i64 0, .int .i64 0] 111 (0, 0))) (fun i _ => l.length - (intOf i).toNat)
 case atStart => exact ⟨0, Nat.zero_le _, rfl, rfl, hB0, hZ0⟩
 case round =>
  obtain ⟨k, hk, rfl, hno, hb, hZ⟩ := hrel
  have Hno := Lib.hid hno
  have HZ := Lib.hid hZ
  clear hno hZ hB0 hZ0
  by_cases hlt : k < l.length
  ·obtain ⟨b, o, rfl, hbB, c0, c1, c2, c3⟩ := AccsAt.four (h.below hb (Nat.le_refl _)) hlt
   have hbw : b < wr.heap.size := Nat.lt_of_lt_of_le hbB hb.size
   have hgr := some_lt HZ.out
   by_cases hc : l[k].code = x
   ·have hf := Ch.find_hit hlt Hno.out hc
    have HF : Hid (Ch.found l x = l[k]) := by show _ = _; simp [Ch.found, hf]
    have HH : Hid (Ch.has l x = true) := by show _ = _; simp [Ch.has, hf]
    have hbe : (l[k].code == x) = true := by simp [hc]
    have Ho := Lib.hid (accOne l[k].code l[k].kind l[k].basis l[k].parent)
    have HZ1 := Lib.hid ((Below.heap_alloc wr (.cells #[.int .i64 (l[k]).code, .int .i64 (l[k]).kind, .int .i64 (l[k]).basis, .int .i64 (l[k]).parent] 111) _ hgr).trans HZ.out)
    have hR := setRow_heap (wr.alloc (.cells #[.int .i64 (l[k]).code, .int .i64 (l[k]).kind, .int .i64 (l[k]).basis, .int .i64 (l[k]).parent] 111)) w.heap.size _ #[.int .i64 (l[k]).code, .int .i64 (l[k]).kind, .int .i64 (l[k]).basis, .int .i64 (l[k]).parent] _ _ HZ1.out
    have hload := Lib.hid (run_loadVar_row (P := Tryz.prog) _ _ _ 111 _ _ _ hR Tryz.underlying111 rfl accSize)
    have hBF := Lib.hid (below_setRow (hb.alloc hb.size (.cells #[.int .i64 (l[k]).code, .int .i64 (l[k]).kind, .int .i64 (l[k]).basis, .int .i64 (l[k]).parent] 111)) (Nat.le_refl _) #[.int .i64 (l[k]).code, .int .i64 (l[k]).kind, .int .i64 (l[k]).basis, .int .i64 (l[k]).parent])
    clear hf hc hR
    go_wp2_with (refine wpList_store_row rfl 111 (.tmp 4) (.tmp 18) none rfl rfl w.heap.size 111 _ #[.int .i64 (l[k]).code, .int .i64 (l[k]).kind, .int .i64 (l[k]).basis, .int .i64 (l[k]).parent] rfl rfl HZ1.out rfl accSize Ho.out ?_)
    exact bodyPost_ret (v := .tuple #[.agg #[.int .i64 (l[k]).code, .int .i64 (l[k]).kind, .int .i64 (l[k]).basis, .int .i64 (l[k]).parent], .bool true]) (by simp [results, Tryz.results57, asAddr, Act.put, hload.out]) rfl ⟨by rw [HF.out, HH.out], hBF.out⟩
   ·have hbe : (l[k].code == x) = false := by simp [hc]
    have hf : Hid (Ch.find (l.take (k + 1)) x = none) := by show _ = _; rw [Ch.find_take hlt Hno.out, if_neg hc]
    clear hc
    go_wp2
    go_roundw
    case rel => exact ⟨k + 1, by omega, by go_num, hf.out, hb.alloc hb.size _, (Below.heap_alloc wr _ _ hgr).trans HZ.out⟩
    case measure => simp [intOf]; omega
  ·obtain rfl : k = l.length := by omega
   have hf : Ch.find l x = none := by have := Hno.out; rwa [List.take_length] at this
   have HF : Hid (Ch.found l x = Acc.zero) := by show _ = _; simp [Ch.found, hf]
   have HH : Hid (Ch.has l x = false) := by show _ = _; simp [Ch.has, hf]
   have Ho := Lib.hid (accOne 0 0 0 0)
   have hR := setRow_heap wr w.heap.size _ #[.int .i64 0, .int .i64 0, .int .i64 0, .int .i64 0] _ _ HZ.out
   have hload := Lib.hid (run_loadVar_row (P := Tryz.prog) _ _ _ 111 _ _ _ hR Tryz.underlying111 rfl accSize)
   have hBF := Lib.hid (below_setRow hb (Nat.le_refl _) #[.int .i64 0, .int .i64 0, .int .i64 0, .int .i64 0])
   clear hf hR h
   go_wp2_with (refine wpList_store_row rfl 111 (.tmp 4) (.tmp 20) none rfl rfl w.heap.size 111 _ #[.int .i64 0, .int .i64 0, .int .i64 0, .int .i64 0] rfl rfl HZ.out rfl accSize Ho.out ?_)
   exact bodyPost_ret (v := .tuple #[.agg #[.int .i64 0, .int .i64 0, .int .i64 0, .int .i64 0], .bool false]) (by simp [results, Tryz.results57, asAddr, Act.put, hload.out]) rfl ⟨by rw [HF.out, HH.out]; rfl, hBF.out⟩
end

def ClimbPost (l : List Acc) (code : Int) (w : World) (e : Ending) (w' : World) : Prop :=
 Below w.heap.size w w' /\ ∃ (p : List Int) (c : Int) (A : Option Addr) (n cap : Nat), e = .returned (.slice A n cap) /\ p.length = n /\ Ch.Up l code p c /\ Ch.Ends l p c /\ LimbsAt .i64 w' w'.heap.size A p
def UpRel (l : List Acc) (code : Int) (w : World) (t : Nat) (s1 s5 : Value) (wr : World) : Prop :=
 ∃ (p : List Int) (c : Int), s1 = .int .i64 c /\ (Lit.int .i64 c).wf = true /\ Ch.Up l code p c /\ wr.ownsRow (w.heap.size + 1) 3 1 s5 p.length (p.map (Value.int .i64)) /\ SetAt wr w.heap.size p /\ Below w.heap.size w wr /\ t = l.length - p.length
theorem has_some {l : List Acc} {c : Int} (h : Ch.has l c = true) : Ch.find l c = some (Ch.found l c) := by
 unfold Ch.has at h; unfold Ch.found
 cases hf : Ch.find l c with
 | none => rw [hf] at h; cases h
 | some a => rfl
theorem has_none {l : List Acc} {c : Int} (h : Ch.has l c = false) : Ch.find l c = none := by
 unfold Ch.has at h
 cases hf : Ch.find l c with
 | none => rfl
 | some a => rw [hf] at h; cases h
theorem own_below {a b : World} {C base : Nat} {e : TypeId} {size n : Nat} {v : Value} {xs : List Value} (h : a.ownsRow base e size v n xs) (hb : Below C a b) (hC : a.heap.size <= C) : b.ownsRow base e size v n xs := by
 refine ⟨h.1, ?_⟩
 rcases h.2 with h2 | ⟨g, cap, cur, h1, h3, h4, h5⟩
 ·exact .inl h2
 ·exact .inr ⟨g, cap, cur, h1, h3, (hb.block g (Nat.lt_of_lt_of_le (Array.getElem?_eq_some_iff.1 h4).1 hC)).trans h4, h5⟩
section
variable (w : World)
theorem climbd_any (A : Option Addr) (n c : Nat) (l : List Acc) (code : Int) (hl : l.length = n) (hn : n <= 100000) (hc : (Lit.int .i64 code).wf = true) (hwf : ∀ a ∈ l, a.wf) (h : AccsAt w w.heap.size A l) :
  Calls Tryz.prog 96 #[.slice A n c, .int .i64 code] w (ClimbPost l code w) := by
 have hmm := @run_makeMap Tryz.prog
 obtain ⟨i0, hi, hz0, hz1, hz2⟩ := info_parts R1.iinfo
 have hB0 := (Below.refl w.heap.size w).alloc (Nat.le_refl _) (.map #[] 0)
 go_enter Tryz.func96, Tryz.ntmps96
 go_wp2
 go_step3
 go_wp2
 go_step3
 go_wp2
 go_loopg [1, 5] l.length (fun t s1 s5 wr => UpRel l code w t s1 s5 wr)
 case atStart => exact ⟨[], code, rfl, hc, .nil, World.ownsRow_nil _ _ _ _, SetAt.made w, hB0, by simp⟩
 case round =>
  obtain ⟨p, x, rfl, hx, hup, hown, hset, hb, rfl⟩ := hrel
  have Hup := Lib.hid hup
  have hgr := hset.lt
  have hpl := hup.length
  have hol := Lib.hid hown.lt
  clear hup hmm
  go_wp2_with (fail)
  refine (findd_any wr A n c l x hl hn ((h.below hb (Nat.le_refl _)).more hb.size)).mono ?_
  rintro e w4 ⟨rfl, hB4⟩
  have hb4 := hb.trans (hB4.mono hb.size)
  have hz4 := hB4.size
  have hset4 := hset.below hB4 hgr
  have hown4 := own_below hown hB4 (Nat.le_refl _)
  obtain ⟨q, hq⟩ : ∃ q, q = Ch.found l x := ⟨_, rfl⟩
  rw [<- hq]
  have Hq := Lib.hid hq
  have hb5 := hb4.alloc hb4.size (.cells #[.int .i64 (q).code, .int .i64 (q).kind, .int .i64 (q).basis, .int .i64 (q).parent] 111)
  have hset5 := hset4.alloc (.cells #[.int .i64 (q).code, .int .i64 (q).kind, .int .i64 (q).basis, .int .i64 (q).parent] 111)
  have hown5 := hown4.alloc (.cells #[.int .i64 (q).code, .int .i64 (q).kind, .int .i64 (q).basis, .int .i64 (q).parent] 111)
  have hlk := hset5.look x hx
  have hg4 : w.heap.size < w4.heap.size := by omega
  clear hq hset hset4 hown hown4
  by_cases hh : Ch.has l x = true
  ·have hf := has_some hh
   rw [hh]
   by_cases hm : x ∈ p
   ·have hd : decide (x ∈ p) = true := decide_eq_true hm
    rw [hd] at hlk
    obtain ⟨A5, c5, rfl, hc5, hl5⟩ := limbs_own hown5 rfl
    have Hl5 := Lib.hid hl5
    have hE : Hid (Ch.Ends l p x) := .inr hm
    clear hf hm hh hd hown5 hl5
    go_wp2
    rw [Exit.noGoto_ret]
    go_ret
    exact ⟨hb5, p, x, A5, p.length, c5, rfl, rfl, Hup.out, hE.out, Hl5.out⟩
   ·have hd : decide (x ∈ p) = false := decide_eq_false hm
    rw [hd] at hlk
    obtain ⟨f, hfm, hff⟩ := hset5
    have hkl := Maps.keyOf_int_mk (P := Tryz.prog) Tryz.underlying3 hx
    have Hff := Lib.hid (set_step hff x)
    have Hup' := Lib.hid (Hq.out ▸ Ch.Up.snoc Hup.out hf hm)
    have Hqw := Lib.hid (hwf q (by rw [Hq.out]; exact (Ch.find_some hf).1)).2.2.2
    have Hf2 := Lib.hid hf
    clear hf hm hh hd hff
    go_upto_region 6 with (at_mapUpdate; refine wpList_mapUpdate_at rfl _ _ _ rfl hfm intLaw Tryz.underlying137 rfl (by unfold maxLen; omega) _ _ _ rfl rfl hkl ?_; intro w7 hm7 hg7)
    have hb7 := hb5.grown hg7 hb5.size (fun j e => by cases e; exact Nat.le_refl _)
    have hown7 := hown5.kept hg7 (.inr (fun e => by have := own_base hown5 _ e; omega))
    have hrow := (hg7.block w4.heap.size (by simp) (fun e => by simp at e; omega)).trans (heap_alloc_new w4 (.cells #[.int .i64 (q).code, .int .i64 (q).kind, .int .i64 (q).basis, .int .i64 (q).parent] 111))
    have hw7 := hb7.size
    have hlt7 : w4.heap.size < w7.heap.size := some_lt hrow
    have x3 := cell_of_row _ _ 3 _ _ _ ((Below.heap_alloc w7 (.cells #[.int .i64 x] 3) _ hlt7).trans hrow)
    simp at x3
    have Hnew := Lib.hid (one_cell (heap_alloc_new w7 (.cells #[.int .i64 x] 3)))
    have Hown := Lib.hid (hown7.alloc (.cells #[.int .i64 x] 3))
    have Hone : Hid (∀ u ∈ ([Value.int .i64 x] : List Value), u.oneCell' = true) := by show ∀ u ∈ _, _; simp [Value.oneCell']
    have Hrow := Lib.hid hrow
    clear hlk hfm hown5
    go_upto_region 7 with (at_builtin; refine wpList_append_own _ rfl _ _ 70 rfl (w.heap.size + 1) 3 i0 (.int .i64 0) 1 8 Tryz.underlying70 hi hz0 hz1 hz2 rfl (by decide) _ _ _ rfl Hown.out ⟨w7.heap.size, 0, none⟩ 1 1 [.int .i64 x] rfl rfl Hnew.out Hone.out (by unfold maxLen; omega) (by omega) (by simp; omega) ?_; intro v' w9 hown' hgrow _)
    have hb9 := (hb7.alloc hb7.size (.cells #[.int .i64 x] 3)).grown hgrow (by simp; omega) (fun q hq => by have := own_base hown7 q hq; omega)
    have hset9 : SetAt w9 w.heap.size (p ++ [x]) := by
     have hM := (hm7.alloc (.cells #[.int .i64 x] 3)).kept hgrow (fun e => by have := own_base hown7 _ e.symm; omega)
     exact ⟨_, by rw [List.length_append]; exact hM, Hff.out⟩
    have hr9 := (hgrow.block w4.heap.size (by simp; omega) (fun e => by have := hol.out _ e.symm; omega)).trans ((Below.heap_alloc w7 (.cells #[.int .i64 x] 3) _ hlt7).trans Hrow.out)
    have x3 := cell_of_row _ _ 3 _ _ _ hr9
    simp at x3
    have hlt9 : w4.heap.size < w9.heap.size := some_lt hr9
    have hl1 := (Ch.Up.length Hup'.out)
    rw [List.length_append, List.length_singleton] at hl1
    have Hs9 := Lib.hid hset9
    have Hown9 := Lib.hid hown'
    clear hr9 hset9 hown' hrow
    go_wp2
    go_roundg (l.length - (p ++ [x]).length)
    case measure => simp; omega
    case rel => exact ⟨p ++ [x], q.parent, rfl, Hqw.out, Hup'.out, by rw [List.map_append, List.length_append]; exact Hown9.out, Hs9.out, hb9, rfl⟩
  ·have hh' : Ch.has l x = false := by simpa using hh
   rw [hh']
   obtain ⟨A5, c5, rfl, hc5, hl5⟩ := limbs_own hown5 rfl
   have Hl5 := Lib.hid hl5
   have hE : Hid (Ch.Ends l p x) := .inl (has_none hh')
   clear hh hh' hown5 hl5 hlk
   go_wp2
   rw [Exit.noGoto_ret]
   go_ret
   exact ⟨hb5, p, x, A5, p.length, c5, rfl, rfl, Hup.out, hE.out, Hl5.out⟩
end
end Go.Proofs.YtobnfmneeabomaaGreat
