/- My texts PostD. -/
import Derived.Test.YtobnfmneeabomaaGreatShelf
import Derived.Maps.RangeWalk
import Derived.Sort.OwnSorted
import Derived.Sort.OwnSortedInts
import Derived.OwnWalk
import Derived.Test.YtobnfmneeabomaaGreatG40
set_option linter.unusedVariables false
set_option linter.unusedSimpArgs false
set_option maxRecDepth 100000
set_option maxHeartbeats 8000000
namespace Go.Proofs.YtobnfmneeabomaaGreat
open Go.RowKit Go.Maps Go.Sort

def SumsIs (D : DataW Value) (l : List Prt) : Prop :=
 IsMap D /\ (∀ x, (Lit.int .i64 x).wf = true -> D.atKey (.int .i64 x) (.lit (.int .i64 0)) = .lit (.int .i64 (Po.sum x l))) /\ (∀ x, (Lit.int .i64 x).wf = true -> has D (.int .i64 x) = l.any (fun y => decide (y.acct = x)))
def SumsAt (w : World) (b : Nat) (l : List Prt) : Prop := ∃ D : DataW Value, w.ownsMap Tryz.prog 3 (plainElem Tryz.prog 3) b l.length D /\ SumsIs D l
theorem SumsAt.lt {w : World} {b : Nat} {l : List Prt} (h : SumsAt w b l) : b < w.heap.size := by obtain ⟨D, h, _⟩ := h; exact h.lt
theorem SumsAt.kept {w w' : World} {b : Nat} {l : List Prt} {row : Option Nat} (h : SumsAt w b l) (hg : w.grownBy w' row) (hne : some b ≠ row) : SumsAt w' b l := by
 obtain ⟨D, h, r⟩ := h; exact ⟨D, h.kept hg hne, r⟩
theorem ownsMap_below {w w' : World} {b n B : Nat} {D : DataW Value} (h : w.ownsMap Tryz.prog 3 (plainElem Tryz.prog 3) b n D) (hb : Below B w w') (hB : b < B) : w'.ownsMap Tryz.prog 3 (plainElem Tryz.prog 3) b n D := by
 obtain ⟨es, clock, he, r⟩ := h
 exact ⟨es, clock, (hb.block b hB).trans he, r⟩
theorem SumsAt.below {w w' : World} {b B : Nat} {l : List Prt} (h : SumsAt w b l) (hb : Below B w w') (hB : b < B) : SumsAt w' b l := by
 obtain ⟨D, h, r⟩ := h
 exact ⟨D, ownsMap_below h hb hB, r⟩
theorem SumsAt.made (w : World) : SumsAt (w.alloc (.map #[] 0)) w.heap.size [] :=
 ⟨_, World.ownsMap_made w Tryz.prog 3 (plainElem Tryz.prog 3), isMap_empty, fun _ _ => rfl, fun _ _ => rfl⟩
theorem keyI {x : Int} (h : (Lit.int .i64 x).wf = true) : keyOf Tryz.prog 3 (.int .i64 x) = some (.int .i64 x) := keyOf_int_mk Tryz.underlying3 h
theorem look_own {w : World} {b n : Nat} {D : DataW Value} {l : List Prt} (h : w.ownsMap Tryz.prog 3 (plainElem Tryz.prog 3) b n D) (hs : SumsIs D l) {x : Int} (hx : (Lit.int .i64 x).wf = true) :
  (Instr.lookup 96 (.map (some b)) (.int .i64 x) false).run Tryz.prog w = .ok (.int .i64 (Po.sum x l)) w := by
 have hz : (zeroValue 3).run Tryz.prog w = .ok (.int .i64 0) w := by kernel_rfl
 obtain ⟨c, hrun, hat, _⟩ := h.lookup_int intLaw Tryz.underlying96 Tryz.underlying3 hz (keyI hx)
 rw [hs.2.1 x hx] at hat
 rw [hrun]
 have : Po.sum x l = c := by injection hat with h1; injection h1
 rw [this]
theorem SumsAt.look {w : World} {b : Nat} {l : List Prt} (h : SumsAt w b l) {x : Int} (hx : (Lit.int .i64 x).wf = true) :
  (Instr.lookup 96 (.map (some b)) (.int .i64 x) false).run Tryz.prog w = .ok (.int .i64 (Po.sum x l)) w := by
 obtain ⟨D, h, hs⟩ := h
 exact look_own h hs hx
theorem SumsIs.put {D : DataW Value} {l : List Prt} (h : SumsIs D l) {c m s : Int} (hc : (Lit.int .i64 c).wf = true) (hs : s = Po.sum c l + m) : SumsIs (D.put (.int .i64 c) (.lit (.int .i64 s))) (l ++ [⟨c, m⟩]) := by
 obtain ⟨h1, h2, h3⟩ := h
 have hk := intLaw.key (keyI hc)
 refine ⟨h1.put _ _, fun x hx => ?_, fun x hx => ?_⟩
 ·rw [Po.sum_append]
  by_cases e : x = c
  ·subst e
   rw [atKey_put_same h1 hk]
   simp [Po.sum, hs]
  ·rw [atKey_put_other (by simp [e]), h2 x hx]
   simp [Po.sum, Ne.symm e]
 ·rw [List.any_append]
  by_cases e : x = c
  ·subst e
   rw [has_put_same h1 hk]
   simp
  ·rw [has_put_other (by simp [e]), h3 x hx]
   simp [Ne.symm e]
theorem wpList_sums_add {w : World} {b : Nat} {l : List Prt} {ops : Array Oper} {rest : List Oper} {o : Oper} {a : Act} {Q : Exit -> Act -> World -> Prop}
  (hg : o.guard = none) (m x v : Operand) (hop : o.op = Op.mapUpdate 96 m x v) (h : SumsAt w b l) (hm : a.eval m = .map (some b)) (hn : l.length < maxLen) (c n s : Int) (hc : (Lit.int .i64 c).wf = true) (hs : s = Po.sum c l + n) (hw : (Lit.int .i64 s).wf = true)
  (hx : a.eval x = .int .i64 c) (hv : a.eval v = .int .i64 s)
  (hK : ∀ w', SumsAt w' b (l ++ [⟨c, n⟩]) -> w.grownBy w' (some b) -> wpList Tryz.prog ops Q rest (a.put o.dst undef) w') :
  wpList Tryz.prog ops Q (o :: rest) a w := by
 refine wpList_plain hg fun K' hK' => ?_
 obtain ⟨D, hD, hS⟩ := h
 obtain ⟨w', hrun, r1, r2⟩ := hD.update intLaw Tryz.underlying96 hn (keyI hc) (plainElem_int Tryz.underlying3 hw)
 unfold Oper.wp
 simp [execOp, hop, hm, hx, hv, hrun, Result.andThen]
 exact hK' _ _ (hK w' ⟨_, by rw [List.length_append]; exact r1, hS.put hc hs⟩ r2)
theorem intInfo : (Tryz.prog.info? 3).map (fun i => (i.zero, i.size, i.bytes)) = some (some (.int .i64 0), 1, 8) := by kernel_rfl
theorem own_ne_type {W : World} {b1 b2 s1 s2 n1 n2 : Nat} {v1 v2 : Value} {e1 e2 : TypeId} {x1 x2 : List Value} (h1 : W.ownsRow b1 e1 s1 v1 n1 x1) (h2 : W.ownsRow b2 e2 s2 v2 n2 x2) (he : e1 ≠ e2) : v1.ownBlock = none ∨ v1.ownBlock ≠ v2.ownBlock := by
 rcases h1.2 with ⟨rfl, _⟩ | ⟨g, cap, cur, rfl, _, hg, _⟩
 ·exact .inl rfl
 ·rcases h2.2 with ⟨rfl, _⟩ | ⟨g', cap', cur', rfl, _, hg', _⟩
  ·right; simp [Value.ownBlock]
  ·right
   simp only [Value.ownBlock, ne_eq, Option.some.injEq]
   intro e
   subst e
   rw [hg] at hg'
   cases hg'
   exact he rfl
theorem intI_same (a b : Int) : (Lit.int .i64 a).sameKey (.int .i64 b) = decide (a = b) := by
 by_cases h : a = b
 ·subst h; rw [decide_eq_true rfl]; simp [Lit.sameKey]
 ·rw [decide_eq_false h]; exact sameKey_ne (by simp [h])
theorem int_flat : ∀ (l : List Int), l.map (Value.int .i64) = l.flatMap (fun x => [Value.int .i64 x])
 | [] => rfl
 | x :: l => by rw [List.map_cons, List.flatMap_cons, int_flat l]; rfl
structure Met (l : List Prt) (left : Lit -> Bool) (ss : List Int) : Prop where
 gone : ∀ x ∈ Po.asc l, left (.int .i64 x) = false -> Po.okAmt (Po.sum x l) = true /\ (Po.sum x l ≠ 0 -> x ∈ ss)
 good : ∀ x ∈ ss, x ∈ Po.asc l /\ Po.sum x l ≠ 0 /\ left (.int .i64 x) = false
 nodup : ss.Nodup
theorem Met.end_ {l : List Prt} {left : Lit -> Bool} {ss : List Int} (h : Met l left ss) (h0 : ∀ kl, left kl = false) : Po.clean l = (Po.parts l, 0) /\ ss.mergeSort (fun x y => decide (x <= y)) = Po.keep l := by
 constructor
 ·rw [Po.clean, Po.bad_none fun a ha => (h.gone a ha (h0 _)).1]; rfl
 ·refine Po.eq_of_mem ?_ (Po.keep_lt l) fun a => ?_
  ·have hp := List.pairwise_mergeSort (le := fun (x y : Int) => decide (x <= y)) (by intro a b c; simp; omega) (by intro a b; simp; omega) ss
   have hn : (ss.mergeSort (fun x y => decide (x <= y))).Nodup := (List.mergeSort_perm ss _).nodup_iff.2 h.nodup
   exact (hp.and hn).imp fun {a b} hab => by
    have h1 := hab.1
    have h2 := hab.2
    simp at h1
    omega
  ·rw [List.mem_mergeSort, Po.keep, List.mem_filter]
   constructor
   ·intro ha
    obtain ⟨h1, h2, _⟩ := h.good a ha
    exact ⟨h1, by simp [h2]⟩
   ·rintro ⟨h1, h2⟩
    exact (h.gone a h1 (h0 _)).2 (by simpa using h2)
theorem Met.step {l : List Prt} {left : Lit -> Bool} {ss : List Int} {x : Int} (h : Met l left ss) (hx : x ∈ Po.asc l) (hl : left (.int .i64 x) = true) (hok : Po.okAmt (Po.sum x l) = true) :
  (Po.sum x l ≠ 0 -> Met l (fun z => left z && !z.sameKey (.int .i64 x)) (ss ++ [x])) /\ (Po.sum x l = 0 -> Met l (fun z => left z && !z.sameKey (.int .i64 x)) ss) := by
 have hsplit : ∀ y, (left (.int .i64 y) && !(Lit.int .i64 y).sameKey (.int .i64 x)) = false -> y = x ∨ left (.int .i64 y) = false := by
  intro y hy
  rw [intI_same] at hy
  by_cases e : y = x
  ·exact .inl e
  ·right; simpa [e] using hy
 have hns : x ∉ ss := fun hm => by have := (h.good x hm).2.2; rw [hl] at this; cases this
 constructor
 ·intro hs
  refine ⟨fun y hy hg => ?_, fun y hy => ?_, ?_⟩
  ·rcases hsplit y hg with rfl | hg
   ·exact ⟨hok, fun _ => by simp⟩
   ·have := h.gone y hy hg
    exact ⟨this.1, fun hne => List.mem_append_left _ (this.2 hne)⟩
  ·rw [List.mem_append, List.mem_singleton] at hy
   rcases hy with hy | rfl
   ·obtain ⟨h1, h2, h3⟩ := h.good y hy
    exact ⟨h1, h2, by rw [h3]; rfl⟩
   ·exact ⟨hx, hs, by rw [intI_same]; simp⟩
  ·rw [List.nodup_append]
   exact ⟨h.nodup, by simp, fun a ha b hb => by rw [List.mem_singleton] at hb; subst hb; exact fun e => hns (e ▸ ha)⟩
 ·intro hs
  refine ⟨fun y hy hg => ?_, fun y hy => ?_, h.nodup⟩
  ·rcases hsplit y hg with rfl | hg
   ·exact ⟨hok, fun hne => (hne hs).elim⟩
   ·exact h.gone y hy hg
  ·obtain ⟨h1, h2, h3⟩ := h.good y hy
   exact ⟨h1, h2, by rw [h3]; rfl⟩
section
variable (w : World)
theorem collect_any (b : Nat) (l : List Prt) (hn : l.length <= 1000) (hw : ∀ x ∈ l, (Lit.int .i64 x.acct).wf = true) (h : SumsAt w b l) :
  Calls Tryz.prog 42 #[.map (some b)] w (CleanPost l w) := by
 obtain ⟨D, hD, hS⟩ := h
 have HS := Lib.hid hS
 have HD := Lib.hid hD
 have HW := Lib.hid hw
 obtain ⟨ii, hii, hi0, hi1, hi2⟩ := info_parts intInfo
 obtain ⟨i0, hi, hz0, hz1, hz2⟩ := info_parts prtInfo
 have hbl := hD.lt
 have hsz := hD.size_le
 have Hm1 : Hid (ii.bytes * Maps.size D <= 281474976710656) := by show _ <= _; rw [hi2]; omega
 have Hm2 : Hid (Maps.size D <= maxLen) := by show _ <= _; unfold maxLen; omega
 clear hw hS
 go_enter Tryz.func42, Tryz.ntmps42
 go_wp2_with (first
  | (at_len; refine wpList_len_own _ rfl _ 96 rfl 3 3 Tryz.underlying96 _ b l.length _ rfl HD.out ?_)
  | (at_make; refine wpList_make_own _ rfl _ _ 70 rfl w.heap.size 3 ii (.int .i64 0) 1 Tryz.underlying70 hii hi0 hi1 _ _ _ (Maps.size D) rfl rfl rfl Hm1.out Hm2.out (Nat.le_refl _) ?_; intro w1 hrow1 hg1)
  | (at_range; refine wpList_range_own _ rfl _ 96 rfl 3 3 intLaw Tryz.underlying96 _ b l.length _ rfl (HD.out.kept hg1 (by simp)) ?_; intro w0 hrg0 hg0 hs0))
 go_frame
 go_loopw [4] (fun v wr => ∃ (left : Lit -> Bool) (cnt : Nat) (ss : List Int), wr.ranges Tryz.prog 3 (plainElem Tryz.prog 3) b w1.heap.size l.length D left cnt /\ ss.length + cnt <= Maps.size D /\
   wr.ownsRow w.heap.size 3 1 v ss.length (ss.map (Value.int .i64)) /\ v ≠ .slice none 0 0 /\ Met l left ss /\ Below w.heap.size w wr)
  (fun _ wr => wr.rangeLeft b w1.heap.size)
 case atStart =>
  refine ⟨_, _, [], hrg0, by simp, hrow1.kept hg0 (Or.inr (by simp [Value.ownBlock])), by simp, ⟨fun x hx hl => ?_, by simp, List.nodup_nil⟩,
   ((Below.refl _ _).grown hg1 (Nat.le_refl _) (fun j hj => by cases hj)).grown hg0 hg1.size (fun j hj => by cases hj)⟩
  obtain ⟨y, hy, e⟩ := (Po.mem_asc _ _).1 hx
  rw [HS.out.2.2 x (by rw [<- e]; exact HW.out y hy)] at hl
  rw [List.any_eq_false] at hl
  have := hl y hy
  simp [e] at this
 case round =>
  obtain ⟨left, cnt, ss, hrg, hcs, hrow, hnn, hC, hnx⟩ := hrel
  have HC := Lib.hid hC
  have Hrow := Lib.hid hrow
  have Hrg := Lib.hid hrg
  clear hC hrow hrg hrg0 hrow1 hs0 hg0
  go_upto_region 4 with (at_next; refine wpList_next_ranges_ii _ rfl _ rfl 3 3 .i64 .i64 intLaw Tryz.underlying3 Tryz.underlying3 b w1.heap.size l.length _ _ _ rfl Hrg.out ?_ ?_)
  ·skip
   intro _ hl0
   obtain ⟨HV, HK⟩ := HC.out.end_ hl0
   have HV := Lib.hid HV
   have HK := Lib.hid HK
   clear hl0 HC
   have hrow := Hrow.out
   rcases hrow.2 with ⟨hnil, _⟩ | ⟨g, cap, cur, rfl, hbase, hbk, h1, h2, h3, h4⟩
   ·exact absurd hnil hnn
   have hH : Holds (Value.int .i64) wr g 0 ss.toArray := holds_of_blockI hbk (by simpa using h4)
   have hgl : g < wr.heap.size := (Array.getElem?_eq_some_iff.1 hbk).1
   have hlen : ss.length <= 1000 := by omega
   have hc := Any.slices_Sort_int Tryz.sortInt g 0 cap ss wr hH hgl (by omega)
   change Calls Tryz.prog 71 _ _ _ at hc
   rw [HK.out] at hc
   have Hc := Lib.hid hc
   have hkl : (Po.keep l).length = ss.length := by rw [<- HK.out, List.length_mergeSort]
   have hown1 : ∀ (n : Nat) (os : Array Obj), (grow (putRow (Value.int .i64) (Sort.ahead wr n) g 0 (Po.keep l).toArray) os).ownsRow w.heap.size 3 1 (.slice (some ⟨g, 0, none⟩) ss.length cap) ss.length ((Po.keep l).map (Value.int .i64)) := fun n os => ownsRow_sortedI hkl hbase hbk h1 h2 h3
   have hb1 : ∀ (n : Nat) (os : Array Obj), Below w.heap.size w (grow (putRow (Value.int .i64) (Sort.ahead wr n) g 0 (Po.keep l).toArray) os) := fun n os => hnx.grown (grownBy_sortedI _) hnx.size (fun j hj => by cases hj; exact hbase)
   have Ho1 := Lib.hid hown1
   have Hb1 := Lib.hid hb1
   have Hkl := Lib.hid hkl
   clear hc hH hkl hown1 hb1 h4 h3 hbk hrow hnx hcs Hrow Hrg
   go_wp2_with (fail)
   refine Hc.out.mono ?_
   rintro e W2 ⟨rfl, nn, os, hW2⟩
   have Ho2 : Hid (W2.ownsRow w.heap.size 3 1 (.slice (some ⟨g, 0, none⟩) ss.length cap) ss.length ((Po.keep l).map (Value.int .i64))) := by show World.ownsRow _ _ _ _ _ _ _; rw [hW2]; exact Ho1.out nn os
   have hB2 : Below w.heap.size w W2 := by rw [hW2]; exact Hb1.out nn os
   have HB2 := Lib.hid hB2
   have hq2 := hB2.size
   clear hW2 hB2 Ho1 Hb1 Hc
   go_wp2
   go_loopw [7, 33] (fun out i wr => ∃ k : Nat, k <= ss.length /\ i = .int .i64 k /\ wr.ownsRow w.heap.size 3 1 (.slice (some ⟨g, 0, none⟩) ss.length cap) ss.length ((Po.keep l).map (Value.int .i64)) /\
    wr.ownsRow w.heap.size 67 2 out k (prtRow ((Po.parts l).take k)) /\ Below w.heap.size w wr) (fun _ i _ => ss.length - (intOf i).toNat)
   case atStart => exact ⟨0, Nat.zero_le _, rfl, Ho2.out, World.ownsRow_nil _ _ _ _, HB2.out⟩
   case round =>
    obtain ⟨k, hk, rfl, ho, hp, hb⟩ := hrel
    have Ho := Lib.hid ho
    have Hp := Lib.hid hp
    have hzr := hb.size
    by_cases hlt : k < ss.length
    ·have hkk : k < (Po.keep l).length := by have := Hkl.out; omega
     have hkp : k < (Po.parts l).length := by unfold Po.parts; rw [List.length_map]; exact hkk
     have ho' := ho
     rw [int_flat] at ho'
     obtain ⟨A', c', e', hA'⟩ := own_flat (f := fun x : Int => [Value.int .i64 x]) (by decide) (fun _ => rfl) ho' Hkl.out.symm
     cases e'
     obtain ⟨a, ha⟩ : ∃ a, a = (Po.keep l)[k] := ⟨_, rfl⟩
     obtain ⟨b', o', e2, hbB, hr⟩ := RowsAt.look hA' hkk
     cases e2
     have c0 := hr 0 _ rfl
     rw [<- ha] at c0
     simp at c0
     have hwa : (Lit.int .i64 a).wf = true := by
      have hm : a ∈ Po.asc l := (List.mem_filter.1 (ha ▸ List.getElem_mem hkk : a ∈ Po.keep l)).1
      obtain ⟨y, hy, e⟩ := (Po.mem_asc _ _).1 hm
      rw [<- e]; exact HW.out y hy
     obtain ⟨sm, hsm⟩ : ∃ sm, sm = Po.sum a l := ⟨_, rfl⟩
     have hlk := look_own (ownsMap_below HD.out hb hbl) HS.out hwa
     rw [<- hsm] at hlk
     have hst : (Po.parts l).take (k + 1) = (Po.parts l).take k ++ [⟨a, sm⟩] := by
      rw [List.take_succ_eq_append_getElem hkp]
      congr 2
      simp only [Po.parts, List.getElem_map]
      rw [hsm, ha]
     have Hst := Lib.hid hst
     have hown1 := hp.alloc (.cells #[.int .i64 a, .int .i64 sm] 67)
     have ho1 := Lib.hid (ho.alloc (.cells #[.int .i64 a, .int .i64 sm] 67))
     have hnew := cells_new wr [.int .i64 a, .int .i64 sm] 67
     have hone : ∀ u ∈ ([.int .i64 a, .int .i64 sm] : List Value), u.oneCell' = true := by simp [Value.oneCell']
     have h63 : k + 1 <= maxLen := by unfold maxLen; omega
     have h64 : (k + 1) * 16 <= 140737488355328 := by omega
     have h65 : w.heap.size <= (wr.alloc (.cells #[.int .i64 a, .int .i64 sm] 67)).heap.size := by simp; omega
     clear ho' hA' hr ha hwa hsm hst ho hp
     go_wp2_with (at_builtin; refine wpList_append_own _ rfl _ _ 51 rfl w.heap.size 67 i0 (.agg #[.int .i64 0, .int .i64 0]) 2 16 Tryz.underlying51 hi hz0 hz1 hz2 rfl (by decide) _ _ _ rfl hown1 ⟨wr.heap.size, 0, none⟩ 1 1 [.int .i64 a, .int .i64 sm] rfl rfl hnew hone h63 h64 h65 ?_)
     intro v' w9 hown' hgrow _
     have hb9 := (hb.alloc hzr (.cells #[.int .i64 a, .int .i64 sm] 67)).grown hgrow h65 (own_base hown1)
     have ho9 := ho1.out.kept hgrow (own_ne_type ho1.out hown1 (by decide))
     go_wp2
     go_roundw
     case rel => exact ⟨k + 1, by omega, by go_num, ho9, by rw [Hst.out, prtRow_snoc]; exact hown', hb9⟩
     case measure => simp [intOf]; omega
    ·obtain rfl : k = ss.length := by omega
     have htk : (Po.parts l).take ss.length = Po.parts l := List.take_of_length_le (by unfold Po.parts; rw [List.length_map]; have := Hkl.out; omega)
     rw [htk] at hp
     obtain ⟨A', c', e', hA'⟩ := own_flat (f := Prt.cells) (by decide) (fun _ => rfl) hp (by unfold Po.parts; rw [List.length_map]; exact Hkl.out.symm)
     have HA := Lib.hid hA'
     rw [e'] at hp
     have Hfr := Lib.hid (own_fresh hp)
     have hpl : (Po.parts l).length = ss.length := by unfold Po.parts; rw [List.length_map]; exact Hkl.out
     have Hpl := Lib.hid hpl
     clear hA' hp ho htk hpl
     subst e'
     go_wp2
     go_ret2
     exact ⟨hb, A', c', Hfr.out, by rw [HV.out, Hpl.out]; rfl, by rw [HV.out]; exact HA.out⟩
  ·skip
   intro x c w2 cnt2 hwx hwc hlk hat hrg2 hlt hg2 hs2 hen
   have hat0 := hat (.lit (.int .i64 0))
   have hhas := has_true_of_atKey hat
   rw [HS.out.2.1 x hwx] at hat0
   rw [HS.out.2.2 x hwx, List.any_eq_true] at hhas
   have hc : Po.sum x l = c := by injection hat0 with q1; injection q1
   obtain ⟨y, hy, hye⟩ := hhas
   have hxa : x ∈ Po.asc l := (Po.mem_asc _ _).2 ⟨y, hy, by simpa using hye⟩
   have Hc := Lib.hid hc
   have Hxa := Lib.hid hxa
   have hrow2 := Hrow.out.kept hg2 (Or.inr (row_ne_iter Hrow.out Hrg.out).symm)
   have Hrg2 := Lib.hid hrg2
   have Hb2 := Lib.hid (hnx.grown hg2 hnx.size (fun j hj => by cases hj; exact hg1.size))
   have Hlk := Lib.hid hlk
   have hq2 := Hb2.out.size
   have hqg := hg2.size
   have Hg2 := Lib.hid hg2
   clear hs2 hat hat0 hy hye hxa hc hlk hrg2 hg2
   go_wp2_with (fail)
   refine (money_any w2 c).mono ?_
   rintro e w5 ⟨rfl, rfl⟩
   cases hv : Po.okAmt c with
   | false =>
    have HV : Hid (Po.clean l = ([], 2)) := by
     show _ = _
     rw [Po.clean]
     refine if_pos ?_
     unfold Po.bad
     rw [List.any_eq_true]
     exact ⟨x, Hxa.out, by rw [Hc.out, hv]; rfl⟩
    go_wp2
    go_ret2
    exact ⟨Hb2.out, none, 0, (fun _ h => by cases h), by rw [HV.out]; rfl, by rw [HV.out]; exact .inl rfl⟩
   | true =>
    obtain ⟨HC1, HC2⟩ := HC.out.step Hxa.out Hlk.out (by rw [Hc.out]; exact hv)
    rw [Hc.out] at HC1 HC2
    have HC1 := Lib.hid HC1
    have HC2 := Lib.hid HC2
    by_cases h0 : c = 0
    ·have h0b : (c != 0) = false := by simp [h0]
     have HCn := Lib.hid (HC2.out h0)
     have Hrow2 := Lib.hid hrow2
     clear h0 hrow2
     go_wp2
     go_roundw
     case rel => exact ⟨_, cnt2, ss, Hrg2.out, by omega, Hrow2.out, hnn, HCn.out, Hb2.out⟩
     case measure => rw [Hrg2.out.left_eq, Hrg.out.left_eq]; exact hlt
    ·have h0b : (c != 0) = true := by simp [h0]
     have HCn := Lib.hid (HC1.out h0)
     clear h0
     have hlen : ss.length + 1 <= 1000 := by omega
     have h63 : ss.length + 1 <= maxLen := by unfold maxLen; omega
     have h64 : (ss.length + 1) * 8 <= 140737488355328 := by omega
     have h65 : w.heap.size <= (w2.alloc (.cells #[.int .i64 x] 3)).heap.size := by simp; omega
     have hone : ∀ u ∈ ([.int .i64 x] : List Value), u.oneCell' = true := by simp [Value.oneCell']
     have hrow3 := hrow2.alloc (.cells #[.int .i64 x] 3)
     have hnew := cells_new w2 [.int .i64 x] 3
     go_wp2_with (at_builtin; refine wpList_append_own _ rfl _ _ 70 rfl w.heap.size 3 ii (.int .i64 0) 1 8 Tryz.underlying70 hii hi0 hi1 hi2 rfl (by decide) _ _ _ rfl hrow3 ⟨w2.heap.size, 0, none⟩ 1 1 [.int .i64 x] rfl rfl hnew hone h63 h64 h65 ?_; intro v' w3 hown' hg3 hnil3; go_frame)
     have hrg3 := (Hrg2.out.alloc (.cells #[.int .i64 x] 3)).kept hg3 (row_ne_low hrow3 hbl) (row_ne_iter hrow3 (Hrg2.out.alloc (.cells #[.int .i64 x] 3)))
     go_roundw
     case rel =>
      refine ⟨_, cnt2, ss ++ [x], hrg3, by simp; omega, by simpa using hown', fun hv' => by have := (hnil3.1 hv').2; omega, HCn.out, ?_⟩
      exact (Hb2.out.alloc hq2 _).grown hg3 h65 (fun j hj => (hrow3.lt j hj).1)
     case measure => rw [hrg3.left_eq, Hrg.out.left_eq]; exact hlt
theorem cleand_any (A : Option Addr) (n c : Nat) (l : List Prt) (hl : l.length = n) (hn : n <= 100) (hs : ∀ x ∈ l, -10000000000000000 <= x.amt /\ x.amt <= 10000000000000000) (hw : ∀ x ∈ l, (Lit.int .i64 x.acct).wf = true) (h : PrtsAt w w.heap.size A l) :
  Calls Tryz.prog 27 #[.slice A n c] w (CleanPost l w) := by
 have Hl := Lib.hid hl
 have Hs := Lib.hid hs
 have HW := Lib.hid hw
 have hm0 := SumsAt.made w
 have hB0 := (Below.refl w.heap.size w).alloc (Nat.le_refl _) (.map #[] 0)
 have HM0 := Lib.hid hm0
 have HB0 := Lib.hid hB0
 have hmm := @run_makeMap Tryz.prog
 clear hl hs hw hm0 hB0
 go_enter Tryz.func27, Tryz.ntmps27
 go_wp2
 go_loopw [10] (fun i wr => ∃ k : Nat, k <= n /\ i = .int .i64 k /\ SumsAt wr w.heap.size (l.take k) /\ Below w.heap.size w wr) (fun i _ => n - (intOf i).toNat)
 case atStart => exact ⟨0, Nat.zero_le _, rfl, HM0.out, HB0.out⟩
 case round =>
  obtain ⟨k, hk, rfl, hm, hb⟩ := hrel
  have Hm := Lib.hid hm
  have hgr := hm.lt
  clear hm
  by_cases hlt : k < n
  ·have hkl : k < l.length := by have := Hl.out; omega
   obtain ⟨b, o, rfl, hbB, hr⟩ := RowsAt.look (RowsAt.below h hb (Nat.le_refl _)) hkl
   obtain ⟨x, hx⟩ : ∃ x, x = l[k] := ⟨_, rfl⟩
   rw [<- hx] at hr
   have Hx := Lib.hid hx
   have Hr := Lib.hid hr
   have hbw : b < wr.heap.size := by have := hb.size; omega
   have hxm : x ∈ l := by rw [hx]; exact List.getElem_mem _
   have hwx := HW.out x hxm
   have hbx := Hs.out x hxm
   have hbd := Po.sum_bd 10000000000000000 x.acct (by omega) (l.take k) fun y hy => Hs.out y (List.mem_of_mem_take hy)
   rw [List.length_take, Nat.min_eq_left (by omega)] at hbd
   obtain ⟨a, ha⟩ : ∃ a, a = x.acct := ⟨_, rfl⟩
   obtain ⟨m, hm⟩ : ∃ m, m = x.amt := ⟨_, rfl⟩
   obtain ⟨u, hu⟩ : ∃ u, u = Po.sum x.acct (l.take k) := ⟨_, rfl⟩
   have Hst : Hid (l.take (k + 1) = l.take k ++ [⟨a, m⟩]) := by show _ = _; rw [List.take_succ_eq_append_getElem hkl, <- Hx.out, ha, hm]
   rw [<- hu] at hbd
   rw [<- ha] at hu hwx
   rw [<- hm] at hbx
   have hub : -1000000000000000000 <= u /\ u <= 1000000000000000000 := by omega
   have hcells : x.cells = [.int .i64 a, .int .i64 m] := by rw [ha, hm]; rfl
   rw [hcells] at hr
   have Hr := Lib.hid hr
   have Ha := Lib.hid hu
   have hB1 := (Below.refl wr.heap.size wr).alloc (Nat.le_refl _) (.cells #[.int .i64 a, .int .i64 m] 67)
   have Hm1 := Lib.hid (Hm.out.below hB1 hgr)
   have hlk := Hm1.out.look hwx
   rw [<- hu] at hlk
   have hsw : (Lit.int .i64 (u + m)).wf = true := by simp [Lit.wf, IntKind.min, IntKind.max, IntKind.signed, IntKind.bits]; omega
   have hse : u + m = Po.sum a (l.take k) + m := by rw [hu]
   have hll : (l.take k).length < maxLen := by rw [List.length_take]; unfold maxLen; omega
   have Hse := Lib.hid hse
   have Hsw := Lib.hid hsw
   have Hwx := Lib.hid hwx
   have Hb1 := Lib.hid (hb.alloc hb.size (.cells #[.int .i64 a, .int .i64 m] 67))
   have hq := hb.size
   clear hx hxm hbd hu ha hm hr hcells hB1 hse hsw hwx
   go_wp2_with (first | (refine wpList_load_mid rfl 67 (.tmp 12) rfl b (o + k * 2) rfl [.int .i64 a, .int .i64 m] _ Hr.out Tryz.underlying67 rfl prtSize ?_) | (at_mapUpdate; refine wpList_sums_add rfl _ _ _ rfl Hm1.out rfl hll a m (u + m) Hwx.out Hse.out Hsw.out rfl rfl ?_; intro w7 hm7 hg7; go_frame))
   rw [<- Hst.out] at hm7
   have hb7 := Hb1.out.grown hg7 (by simp; omega) (fun j hj => by cases hj; exact Nat.le_refl _)
   go_wp2
   go_roundw
   case rel => exact ⟨k + 1, by omega, by go_num, hm7, hb7⟩
   case measure => simp [intOf]; omega
  ·obtain rfl : k = n := by omega
   have htk : l.take k = l := List.take_of_length_le (by have := Hl.out; omega)
   have hm := Hm.out
   rw [htk] at hm
   have hln : l.length <= 1000 := by have := Hl.out; omega
   have Hq := Lib.hid (collect_any wr w.heap.size l hln HW.out hm)
   clear htk hm
   go_wp2_with (fail)
   refine Hq.out.mono ?_
   rintro e W2 ⟨hB2, A2, c2, hfr, rfl, hA2⟩
   have Hfr : Hid (Fresh w.heap.size A2) := Lib.hid (fun ad h => Nat.le_trans hb.size (hfr ad h))
   have HB := Lib.hid (hb.trans (hB2.mono hb.size))
   have HA2 := Lib.hid hA2
   clear hB2 hA2 hfr
   go_wp2
   go_ret2
   exact ⟨HB.out, A2, c2, Hfr.out, rfl, HA2.out⟩
end
end Go.Proofs.YtobnfmneeabomaaGreat
