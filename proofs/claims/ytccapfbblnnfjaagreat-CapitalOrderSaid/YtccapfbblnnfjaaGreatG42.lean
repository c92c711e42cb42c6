/- My texts ConR, ConD0. -/
import Derived.Laws.OwnMore
import Derived.Test.YtccapfbblnnfjaaGreatG39
import Derived.Test.YtccapfbblnnfjaaGreatG40
set_option linter.unusedVariables false
set_option linter.unusedSimpArgs false
set_option maxRecDepth 100000
set_option maxHeartbeats 8000000
namespace Go.Proofs.YtccapfbblnnfjaaGreat
open Go.RowKit

def conRow (l : List Con) : List Value := l.flatMap Con.cells
theorem conRow_snoc (l : List Con) (x : Con) : conRow (l ++ [x]) = conRow l ++ x.cells := by simp [conRow]
theorem con_one (x : Con) : ∀ u ∈ x.cells, u.oneCell' = true := by simp [Con.cells, Value.oneCell']
theorem conInfoR : (Tryz.prog.info? 62).map (fun i => (i.zero, i.size, i.bytes)) = some (some (.agg #[.int .i64 (Con.zero).ent, .int .i64 (Con.zero).meth, .int .i64 (Con.zero).since, .bool (Con.zero).sg1, .slice (Con.zero).sA1 (Con.zero).sn1 (Con.zero).sc1, .bool (Con.zero).sg2, .slice (Con.zero).sA2 (Con.zero).sn2 (Con.zero).sc2, .bool (Con.zero).fg1, .slice (Con.zero).fA1 (Con.zero).fn1 (Con.zero).fc1, .bool (Con.zero).fg2, .slice (Con.zero).fA2 (Con.zero).fn2 (Con.zero).fc2, .slice (Con.zero).iA (Con.zero).im (Con.zero).ic, .slice (Con.zero).hA (Con.zero).hm (Con.zero).hc]), 13, 200) := by kernel_rfl
theorem consAt_own {W : World} {base n : Nat} {v : Value} {e : TypeId} {l : List Con} (h : W.ownsRow base e 13 v n (conRow l)) (hn : n = l.length) : ∃ A c, v = .slice A n c /\ ConsAt W W.heap.size A l := by
 subst hn
 rcases h.2 with ⟨e, h0⟩ | ⟨g, cap, cur, e, _, hg, hle, _, hsz, htk⟩
 ·exact ⟨none, 0, by rw [e, h0], .inl (List.length_eq_zero_iff.1 h0)⟩
 ·refine ⟨_, cap, e, .inr ⟨g, 0, rfl, (Array.getElem?_eq_some_iff.1 hg).1, fun k hk j v hj => ?_⟩⟩
  have hjl : j < 13 := by have := (List.getElem?_eq_some_iff.1 hj).1; simpa [Con.cells] using this
  rw [Nat.zero_add, cell_of_row _ _ _ _ _ _ hg]
  have hf := flat_get Con.cells 13 l (fun _ _ => rfl) k hk j hjl
  rw [hj] at hf
  have hlt : k * 13 + j < l.length * 13 := by omega
  have : (cur.toList.take (l.length * 13))[k * 13 + j]? = some v := by rw [htk]; exact hf
  rw [List.getElem?_take, if_pos hlt] at this
  simpa using this
theorem row_of_own {W : World} {base n sz : Nat} {v : Value} {e : TypeId} {xs : List Value} (h : W.ownsRow base e sz v n xs) (t : TypeId) (ht : e ≠ t) : OtherRow W t v.ownBlock := by
 intro b hb
 rcases h.2 with ⟨rfl, _⟩ | ⟨g, cap, cur, rfl, _, hg, _⟩
 ·simp [Value.ownBlock] at hb
 ·simp [Value.ownBlock] at hb
  subst hb
  exact ⟨_, _, _, hg, ht⟩
theorem raw_cells {W : World} {p : Nat} {x : Raw} (h : W.heap[p]? = some (.cells #[.int .i64 x.ent, .int .i64 x.meth, .int .i64 x.since, .int .i64 x.s0, .int .i64 x.s1, .int .i64 x.f0, .int .i64 x.f1, .slice x.iA x.im x.ic, .slice x.hA x.hm x.hc] 78 (0, 0))) :
  (W.cell? ⟨p, 0, none⟩ = some (.int .i64 x.ent) /\ W.cell? ⟨p, 1, none⟩ = some (.int .i64 x.meth) /\ W.cell? ⟨p, 2, none⟩ = some (.int .i64 x.since)) /\
  (W.cell? ⟨p, 3, none⟩ = some (.int .i64 x.s0) /\ W.cell? ⟨p, 4, none⟩ = some (.int .i64 x.s1)) /\ (W.cell? ⟨p, 5, none⟩ = some (.int .i64 x.f0) /\ W.cell? ⟨p, 6, none⟩ = some (.int .i64 x.f1)) /\
  W.cell? ⟨p, 7, none⟩ = some (.slice x.iA x.im x.ic) /\ W.cell? ⟨p, 8, none⟩ = some (.slice x.hA x.hm x.hc) := by
 refine ⟨⟨?_, ?_, ?_⟩, ⟨?_, ?_⟩, ⟨?_, ?_⟩, ?_, ?_⟩ <;> (rw [cell_of_row _ _ _ _ _ _ h]; simp)
def ConPost (R : World -> Nat -> Value -> Int -> Int -> Prop) (l : List Raw) (w : World) (v : Value) (w' : World) : Prop :=
 l.length <= 8 /\ (∀ x ∈ l, x.ok = true) /\ ∃ A c cs, v = .slice A l.length c /\ cs.length = l.length /\ ConsAt w' w'.heap.size A cs /\ Hold (fun a b => a.Holds R w' w'.heap.size b) cs (l.map Raw.cnt)
def ContrPost (l : List Raw) (w : World) (e : Ending) (w' : World) : Prop :=
 Below w.heap.size w w' /\ ∃ v b, e = .returned (.tuple #[v, .bool b]) /\ (b = true -> ConPost SR l w v w')
section
variable (w : World)
theorem contrr_any (A : Option Addr) (n c : Nat) (l : List Raw) (hl : l.length = n) (hn : n <= 9223372036854775807) (h : RawsAt w w.heap.size A l) (hx : ∀ x ∈ l, x.At w w.heap.size) :
  Calls Tryz.prog 14 #[.slice A n c] w (ContrPost l w) := by
 have Hl := Lib.hid hl
 have HX := Lib.hid hx
 obtain ⟨i0, hi, hz0, hz1, hz2⟩ := info_parts conInfoR
 clear hl hx
 by_cases h8 : n <= 8
 case neg =>
  go_enter Tryz.func14, Tryz.ntmps14
  go_wp2
  go_ret2
  exact ⟨Below.refl _ _, _, _, rfl, fun h => by cases h⟩
 go_enter Tryz.func14, Tryz.ntmps14
 go_wp2
 go_loopw [4, 5] (fun v i wr => ∃ (k : Nat) (cs : List Con), k <= n /\ i = .int .i64 k /\ (∀ x ∈ l.take k, x.ok = true) /\ cs.length = k /\ wr.ownsRow w.heap.size 62 13 v k (conRow cs) /\ Hold (fun a b => a.Fits SR wr w.heap.size b) cs ((l.take k).map Raw.cnt) /\ Below w.heap.size w wr) (fun _ i _ => n - (intOf i).toNat)
 case atStart => exact ⟨0, [], Nat.zero_le _, rfl, by simp, rfl, World.ownsRow_nil _ _ _ _, trivial, Below.refl _ _⟩
 case round =>
  obtain ⟨k, cs, hk, rfl, hok, hcl, hown, hhold, hb⟩ := hrel
  have Hok := Lib.hid hok
  have Hcl := Lib.hid hcl
  have Hown := Lib.hid hown
  have Hhold := Lib.hid hhold
  clear hok hcl hown hhold
  by_cases hlt : k < n
  ·have hkl : k < l.length := by have := Hl.out; omega
   obtain ⟨b, o, rfl, hbB, hr⟩ := RowsAt.look (h.below hb (Nat.le_refl _)) hkl
   obtain ⟨x, hx⟩ : ∃ x, x = l[k] := ⟨_, rfl⟩
   rw [<- hx] at hr
   have HXe := Lib.hid hx
   have Hr := Lib.hid hr
   have hxa := (HX.out x (by rw [hx]; exact List.getElem_mem _)).below hb (Nat.le_refl _)
   have hbw : b < wr.heap.size := Nat.lt_of_lt_of_le hbB hb.size
   obtain ⟨W1, hW1, hB1, hb1, hz1⟩ := nw1 wr #[.int .i64 x.ent, .int .i64 x.meth, .int .i64 x.since, .int .i64 x.s0, .int .i64 x.s1, .int .i64 x.f0, .int .i64 x.f1, .slice x.iA x.im x.ic, .slice x.hA x.hm x.hc] 78
   have HW1 := Lib.hid hW1
   have Hb1 := Lib.hid hb1
   have Hxa := Lib.hid ((hxa.below (hB1.mono (show w.heap.size <= wr.heap.size from hb.size)) (Nat.le_refl _)).more (C := W1.heap.size) (by have := hb.size; omega))
   have s1 : wr.heap.size < W1.heap.size := by omega
   have hbw1 := hb.trans (hB1.mono hb.size)
   clear hr hx hxa hb1 hz1 hW1
   go_upto_region 8 with (refine wpList_load_mid rfl 78 (.tmp 22) rfl b (o + k * 9) rfl [.int .i64 x.ent, .int .i64 x.meth, .int .i64 x.since, .int .i64 x.s0, .int .i64 x.s1, .int .i64 x.f0, .int .i64 x.f1, .slice x.iA x.im x.ic, .slice x.hA x.hm x.hc] _ Hr.out Tryz.underlying78 rfl rawSize ?_)
   rw [<- HW1.out]
   have hbad : x.ok = false -> ∀ (W : World), Below w.heap.size w W -> ContrPost l w (.returned (.tuple #[.slice none 0 0, .bool false])) W := fun _ W hW => ⟨hW, _, _, rfl, fun h => by cases h⟩
   have Hbad := Lib.hid hbad
   clear hbad
   obtain ⟨_, ⟨c3, c4⟩, _⟩ := raw_cells Hb1.out
   go_wp2_with (fail)
   refine (quot_any W1 x.s0 x.s1).mono ?_
   rintro e W2 ⟨rfl, hB2⟩
   have hb2 := gbox Hb1.out hB2 s1
   have Hb2 := Lib.hid hb2
   have s2 := some_lt hb2
   have hbw2 := hbw1.trans (hB2.mono hbw1.size)
   clear c3 c4 hb2
   cases hq1 : Raw.quot x.s0 x.s1 with
   | false =>
    go_wp2
    go_ret2
    exact Hbad.out (by unfold Raw.ok; rw [hq1]; rfl) _ hbw2
   | true =>
   have Hq1 := Lib.hid hq1
   clear hq1
   obtain ⟨_, _, ⟨c5, c6⟩, _⟩ := raw_cells Hb2.out
   go_wp2_with (fail)
   refine (quot_any W2 x.f0 x.f1).mono ?_
   rintro e W3 ⟨rfl, hB3⟩
   have hb3 := gbox Hb2.out hB3 s2
   have Hb3 := Lib.hid hb3
   have s3 := some_lt hb3
   have hbw3 := hbw2.trans (hB3.mono hbw2.size)
   clear c5 c6 hb3
   cases hq2 : Raw.quot x.f0 x.f1 with
   | false =>
    go_wp2
    go_ret2
    exact Hbad.out (by unfold Raw.ok; rw [hq2, Bool.and_false]; rfl) _ hbw3
   | true =>
   have Hq2 := Lib.hid hq2
   clear hq2
   have hxa3 := Hxa.out.below (hB2.trans (hB3.mono hB2.size)) (Nat.le_refl _)
   have Hx3 := Lib.hid (hxa3.more (C := W3.heap.size) (by have := hB2.size; have := hB3.size; omega))
   obtain ⟨_, _, _, c7, _⟩ := raw_cells Hb3.out
   clear hxa3
   go_wp2_with (fail)
   refine (few_any W3 x.iA x.im x.ic x.its Hx3.out.hil Hx3.out.him Hx3.out.hiA).mono ?_
   rintro e W4 ⟨rfl, hB4⟩
   have hb4 := gbox Hb3.out hB4 s3
   have Hb4 := Lib.hid hb4
   have s4 := some_lt hb4
   have hbw4 := hbw3.trans (hB4.mono hbw3.size)
   have Hx4 := Lib.hid ((Hx3.out.below hB4 (Nat.le_refl _)).more (C := W4.heap.size) hB4.size)
   clear c7 hb4
   cases hq3 : Raw.few x.its with
   | false =>
    go_wp2
    go_ret2
    exact Hbad.out (by unfold Raw.ok; rw [hq3, Bool.and_false]; rfl) _ hbw4
   | true =>
   have Hq3 := Lib.hid hq3
   clear hq3
   obtain ⟨_, _, _, _, c8⟩ := raw_cells Hb4.out
   go_wp2_with (fail)
   refine (few_any W4 x.hA x.hm x.hc x.shs Hx4.out.hhl Hx4.out.hhm Hx4.out.hhA).mono ?_
   rintro e W5 ⟨rfl, hB5⟩
   have hb5 := gbox Hb4.out hB5 s4
   have Hb5 := Lib.hid hb5
   have s5 := some_lt hb5
   have hbw5 := hbw4.trans (hB5.mono hbw4.size)
   have Hx5 := Lib.hid ((Hx4.out.below hB5 (Nat.le_refl _)).more (C := W5.heap.size) hB5.size)
   clear c8 hb5
   cases hq4 : Raw.few x.shs with
   | false =>
    go_wp2
    go_ret2
    exact Hbad.out (by unfold Raw.ok; rw [hq4, Bool.and_false]) _ hbw5
   | true =>
   have hso := Raw.quot_ok Hq1.out
   have hfo := Raw.quot_ok Hq2.out
   have Hxok : Hid (x.ok = true) := by show _ = _; unfold Raw.ok; rw [Hq1.out, Hq2.out, Hq3.out, hq4]; rfl
   have Hfi := Lib.hid (Raw.few_ok Hq3.out)
   have Hfs := Lib.hid (Raw.few_ok hq4)
   have Hso := Lib.hid hso
   have Hfo := Lib.hid hfo
   clear hq4 hso hfo
   obtain ⟨_, ⟨c3, c4⟩, _⟩ := raw_cells Hb5.out
   go_wp2_with (fail)
   refine (R1.ratof_any W5 x.s0 x.s1 (by have := Hso.out; unfold ShareOk at this; omega) (by have := Hso.out; unfold ShareOk at this; omega) Hso.out.1 (by have := Hso.out; unfold ShareOk at this; omega)).mono ?_
   rintro e W6 ⟨⟨r6, rfl, hr6⟩, hB6⟩
   obtain ⟨g1, A1, n1, k1, g2, A2, n2, k2, rfl⟩ := hr6.open
   have hb6 := gbox Hb5.out hB6 s5
   have s6 := some_lt hb6
   have hbw6 := hbw5.trans (hB6.mono hbw5.size)
   have Hx6 := Lib.hid ((Hx5.out.below hB6 (Nat.le_refl _)).more (C := W6.heap.size) hB6.size)
   obtain ⟨W7, hW7, hB7, ha7, hz7⟩ := nw1 W6 #[.bool g1, .slice A1 n1 k1, .bool g2, .slice A2 n2 k2] 59
   have HW7 := Lib.hid hW7
   have Hb7 := Lib.hid (gbox hb6 hB7 s6)
   have Ha7 := Lib.hid ha7
   have Hr7 := Lib.hid (hr6.at_ hB7)
   have hbw7 := hbw6.trans (hB7.mono hbw6.size)
   have Hx7 := Lib.hid ((Hx6.out.below hB7 (Nat.le_refl _)).more (C := W7.heap.size) hB7.size)
   have s7 := some_lt Hb7.out
   have s7' := some_lt Ha7.out
   clear c3 c4 hb6 ha7 hr6 hW7 hz7
   go_upto_region 11 with (fail)
   rw [<- HW7.out]
   obtain ⟨_, _, ⟨c5, c6⟩, _⟩ := raw_cells Hb7.out
   go_wp2_with (fail)
   refine (R1.ratof_any W7 x.f0 x.f1 (by have := Hfo.out; unfold ShareOk at this; omega) (by have := Hfo.out; unfold ShareOk at this; omega) Hfo.out.1 (by have := Hfo.out; unfold ShareOk at this; omega)).mono ?_
   rintro e W8 ⟨⟨r8, rfl, hr8⟩, hB8⟩
   obtain ⟨g3, A3, n3, k3, g4, A4, n4, k4, rfl⟩ := hr8.open
   have hb8 := gbox Hb7.out hB8 s7
   have ha8 := gbox Ha7.out hB8 s7'
   have s8 := some_lt hb8
   have s8' := some_lt ha8
   have hbw8 := hbw7.trans (hB8.mono hbw7.size)
   have Hr8 := Lib.hid (Hr7.out.at_ hB8)
   have Hx8 := Lib.hid ((Hx7.out.below hB8 (Nat.le_refl _)).more (C := W8.heap.size) hB8.size)
   obtain ⟨W9, hW9, hB9, hd9, hz9⟩ := nw1 W8 #[.bool g3, .slice A3 n3 k3, .bool g4, .slice A4 n4 k4] 59
   have HW9 := Lib.hid hW9
   have Hb9 := Lib.hid (gbox hb8 hB9 s8)
   have Ha9 := Lib.hid (gbox ha8 hB9 s8')
   have Hd9 := Lib.hid hd9
   have Hs9 := Lib.hid (Hr8.out.at_ hB9)
   have Hf9 := Lib.hid (hr8.at_ hB9)
   have hbw9 := hbw8.trans (hB9.mono hbw8.size)
   have s9 := some_lt Hb9.out
   have s9' := some_lt Ha9.out
   have s9'' := some_lt hd9
   clear c5 c6 hb8 ha8 hd9 hr8 hW9
   go_upto_region 12 with (fail)
   rw [<- HW9.out]
   have hBr9 : Below wr.heap.size wr W9 := hB1.trans ((hB2.trans ((hB3.trans ((hB4.trans ((hB5.trans ((hB6.trans ((hB7.trans ((hB8.trans (hB9.mono hB8.size)).mono hB7.size)).mono hB6.size)).mono hB5.size)).mono hB4.size)).mono hB3.size)).mono hB2.size)).mono hB1.size)
   have hown9 := pOwns_below Hown.out hBr9
   have Hold9 := Lib.hid (Hhold.out.imp (Q := fun a b => a.Fits SR W9 w.heap.size b) fun _ _ h => h.belowR hBr9 hb.size)
   obtain ⟨y, hy⟩ : ∃ y : Con, y = ⟨x.ent, x.meth, x.since, g1, A1, n1, k1, g2, A2, n2, k2, g3, A3, n3, k3, g4, A4, n4, k4, x.iA, x.im, x.ic, x.hA, x.hm, x.hc⟩ := ⟨_, rfl⟩
   have hyf : y.Fits SR W9 w.heap.size x.cnt := by
    have hit := HX.out x (by rw [HXe.out]; exact List.getElem_mem _)
    have hi9 := RowsAt.below hit.hiA hbw9 (Nat.le_refl _)
    have hh9 := RowsAt.below hit.hhA hbw9 (Nat.le_refl _)
    have hq := hbw9.size
    subst hy
    exact ⟨⟨rfl, rfl, rfl, Hs9.out, Hf9.out, Raw.red_ok Hso.out, Raw.red_ok Hfo.out, hit.hil, by rw [<- hit.hil]; exact Hfi.out.1, Hfi.out.2, RowsAt.more hi9 hq, hit.hhl, by rw [<- hit.hhl]; exact Hfs.out.1, Hfs.out.2, RowsAt.more hh9 hq⟩, hi9, hh9⟩
   have Hyf := Lib.hid hyf
   have hra := Lib.hid (range_row (cs := [.bool g1, .slice A1 n1 k1, .bool g2, .slice A2 n2 k2]) Ha9.out)
   have hrd := Lib.hid (range_row (cs := [.bool g3, .slice A3 n3 k3, .bool g4, .slice A4 n4 k4]) Hd9.out)
   obtain ⟨⟨c0, c1, c2⟩, _, _, c7, c8⟩ := raw_cells Hb9.out
   have hq9 := hbw9.size
   have hk8 : k + 1 <= 8 := by omega
   have hyc : y.cells = [.int .i64 x.ent, .int .i64 x.meth, .int .i64 x.since, .bool g1, .slice A1 n1 k1, .bool g2, .slice A2 n2 k2, .bool g3, .slice A3 n3 k3, .bool g4, .slice A4 n4 k4, .slice x.iA x.im x.ic, .slice x.hA x.hm x.hc] := by rw [hy]; rfl
   have Hyc := Lib.hid hyc
   have hnew := cells_new W9 [.int .i64 x.ent, .int .i64 x.meth, .int .i64 x.since, .bool g1, .slice A1 n1 k1, .bool g2, .slice A2 n2 k2, .bool g3, .slice A3 n3 k3, .bool g4, .slice A4 n4 k4, .slice x.iA x.im x.ic, .slice x.hA x.hm x.hc] 62
   have hown10 := hown9.alloc (.cells #[.int .i64 x.ent, .int .i64 x.meth, .int .i64 x.since, .bool g1, .slice A1 n1 k1, .bool g2, .slice A2 n2 k2, .bool g3, .slice A3 n3 k3, .bool g4, .slice A4 n4 k4, .slice x.iA x.im x.ic, .slice x.hA x.hm x.hc] 62)
   have hone : ∀ u ∈ ([.int .i64 x.ent, .int .i64 x.meth, .int .i64 x.since, .bool g1, .slice A1 n1 k1, .bool g2, .slice A2 n2 k2, .bool g3, .slice A3 n3 k3, .bool g4, .slice A4 n4 k4, .slice x.iA x.im x.ic, .slice x.hA x.hm x.hc] : List Value), u.oneCell' = true := by rw [<- hyc]; exact con_one y
   have h63 : k + 1 <= maxLen := by unfold maxLen; omega
   have h64 : (k + 1) * 200 <= 140737488355328 := by omega
   have h65 : w.heap.size <= (W9.alloc (.cells #[.int .i64 x.ent, .int .i64 x.meth, .int .i64 x.since, .bool g1, .slice A1 n1 k1, .bool g2, .slice A2 n2 k2, .bool g3, .slice A3 n3 k3, .bool g4, .slice A4 n4 k4, .slice x.iA x.im x.ic, .slice x.hA x.hm x.hc] 62)).heap.size := by simp; omega
   have Hy := Lib.hid hy
   clear hyf hBr9 hown9 hyc hy hz9
   go_wp2_with (first | (refine wpList_load_mid rfl 59 (.tmp 7) rfl W6.heap.size 0 rfl [.bool g1, .slice A1 n1 k1, .bool g2, .slice A2 n2 k2] _ hra.out Tryz.underlying59 rfl R1.ratSize ?_) | (refine wpList_load_mid rfl 59 (.tmp 9) rfl W8.heap.size 0 rfl [.bool g3, .slice A3 n3 k3, .bool g4, .slice A4 n4 k4] _ hrd.out Tryz.underlying59 rfl R1.ratSize ?_) | (at_builtin; refine wpList_append_own _ rfl _ _ 32 rfl w.heap.size 62 i0 (.agg #[.int .i64 (Con.zero).ent, .int .i64 (Con.zero).meth, .int .i64 (Con.zero).since, .bool (Con.zero).sg1, .slice (Con.zero).sA1 (Con.zero).sn1 (Con.zero).sc1, .bool (Con.zero).sg2, .slice (Con.zero).sA2 (Con.zero).sn2 (Con.zero).sc2, .bool (Con.zero).fg1, .slice (Con.zero).fA1 (Con.zero).fn1 (Con.zero).fc1, .bool (Con.zero).fg2, .slice (Con.zero).fA2 (Con.zero).fn2 (Con.zero).fc2, .slice (Con.zero).iA (Con.zero).im (Con.zero).ic, .slice (Con.zero).hA (Con.zero).hm (Con.zero).hc]) 13 200 Tryz.underlying32 hi hz0 hz1 hz2 rfl (by decide) _ _ _ rfl hown10 ⟨W9.heap.size, 0, none⟩ 1 1 [.int .i64 x.ent, .int .i64 x.meth, .int .i64 x.since, .bool g1, .slice A1 n1 k1, .bool g2, .slice A2 n2 k2, .bool g3, .slice A3 n3 k3, .bool g4, .slice A4 n4 k4, .slice x.iA x.im x.ic, .slice x.hA x.hm x.hc] rfl rfl hnew hone h63 h64 h65 ?_))
   intro v' w10 hown' hgrow _
   rw [<- Hyc.out] at hown'
   have hbA := hbw9.alloc hq9 (.cells #[.int .i64 x.ent, .int .i64 x.meth, .int .i64 x.since, .bool g1, .slice A1 n1 k1, .bool g2, .slice A2 n2 k2, .bool g3, .slice A3 n3 k3, .bool g4, .slice A4 n4 k4, .slice x.iA x.im x.ic, .slice x.hA x.hm x.hc] 62)
   have hb10 := hbA.grown hgrow h65 (own_base Hown.out)
   have hBal := (row_new W9 #[.int .i64 x.ent, .int .i64 x.meth, .int .i64 x.since, .bool g1, .slice A1 n1 k1, .bool g2, .slice A2 n2 k2, .bool g3, .slice A3 n3 k3, .bool g4, .slice A4 n4 k4, .slice x.iA x.im x.ic, .slice x.hA x.hm x.hc] 62).1
   have hty := row_of_own hown10 3 (by decide)
   have kp : ∀ (a : Con) (b : Cnt), a.Fits SR W9 w.heap.size b -> a.Fits SR w10 w.heap.size b := fun a b h => (h.belowR hBal hq9).keptR hgrow h65 (own_base hown10) hty
   have hnh : Hold (fun a b => a.Fits SR w10 w.heap.size b) (cs ++ [y]) ((l.take (k + 1)).map Raw.cnt) := by
    rw [List.take_succ_eq_append_getElem hkl, List.map_append, <- HXe.out]
    exact Hold.snoc (kp _ _ Hyf.out) (Hold9.out.imp kp)
   have Hnh := Lib.hid hnh
   have Hok2 : Hid (∀ x ∈ l.take (k + 1), x.ok = true) := Lib.hid (take_mem_all (P := fun x : Raw => x.ok = true) hkl Hok.out (by rw [<- HXe.out]; exact Hxok.out))
   have Ho10 := Lib.hid hown'
   have Hb10 := Lib.hid hb10
   clear hown' hnh kp hty hBal hbA hgrow hb10
   go_wp2
   go_roundw
   case rel => exact ⟨k + 1, cs ++ [y], by omega, by go_num, Hok2.out, by rw [List.length_append, Hcl.out]; rfl, by rw [conRow_snoc]; exact Ho10.out, Hnh.out, Hb10.out⟩
   case measure => simp [intOf]; omega
  ·obtain rfl : k = n := by omega
   have htk : l.take k = l := List.take_of_length_le (by have := Hl.out; omega)
   have Htk := Lib.hid htk
   clear htk
   go_wp2
   go_ret2
   refine ⟨hb, _, _, rfl, fun _ => ?_⟩
   obtain ⟨A', c', rfl, hC⟩ := consAt_own Hown.out (by have := Hcl.out; omega)
   have hok := Hok.out
   have hho := Hhold.out
   rw [Htk.out] at hok hho
   have hlk := Hl.out
   refine ⟨by omega, hok, A', c', cs, by rw [hlk]; rfl, by rw [Hcl.out, hlk], hC, hho.imp fun _ _ h => h.1⟩
end
theorem conInfoD : (Tryz.prog.info? 94).map (fun i => (i.zero, i.size, i.bytes)) = some (some (.agg #[.int .i64 (Con.zero).ent, .int .i64 (Con.zero).meth, .int .i64 (Con.zero).since, .bool (Con.zero).sg1, .slice (Con.zero).sA1 (Con.zero).sn1 (Con.zero).sc1, .bool (Con.zero).sg2, .slice (Con.zero).sA2 (Con.zero).sn2 (Con.zero).sc2, .bool (Con.zero).fg1, .slice (Con.zero).fA1 (Con.zero).fn1 (Con.zero).fc1, .bool (Con.zero).fg2, .slice (Con.zero).fA2 (Con.zero).fn2 (Con.zero).fc2, .slice (Con.zero).iA (Con.zero).im (Con.zero).ic, .slice (Con.zero).hA (Con.zero).hm (Con.zero).hc]), 13, 200) := by kernel_rfl
theorem itmInfo : (Tryz.prog.info? 82).map (fun i => (i.zero, i.size, i.bytes)) = some (some (.agg #[.int .i64 0, .int .i64 0, .int .i64 0, .int .i64 0, .int .i64 0, .int .i64 0, .int .i64 0]), 7, 56) := by kernel_rfl
def ItmsTy (w : World) (A : Option Addr) (l : List Itm) : Prop := l = [] ∨ ∃ b o cur fr, A = some ⟨b, o, none⟩ /\ w.heap[b]? = some (.cells cur 82 fr)
theorem ItmsTy.below {w w' : World} {A : Option Addr} {l : List Itm} (h : ItmsTy w A l) (_ : ItmsAt w w.heap.size A l) (hb : Below w.heap.size w w') : ItmsTy w' A l := by
 rcases h with h | ⟨b, o, cur, fr, e, hg⟩
 ·exact .inl h
 ·exact .inr ⟨b, o, cur, fr, e, (hb.block b (some_lt hg)).trans hg⟩
theorem ItmsTy.kept {w w' : World} {A : Option Addr} {l : List Itm} {row : Option Nat} (h : ItmsTy w A l) (hi : ItmsAt w w.heap.size A l) (hg : w.grownBy w' row) (hr : OtherRow w 82 row) : ItmsTy w' A l /\ ItmsAt w' w'.heap.size A l := by
 rcases h with h | ⟨b, o, cur, fr, e, hb⟩
 ·exact ⟨.inl h, .inl h⟩
 ·have hne : some b ≠ row := fun e' => by
   obtain ⟨cs, s, fr', h1, h2⟩ := hr b e'.symm
   rw [hb] at h1
   cases h1
   exact h2 rfl
  refine ⟨.inr ⟨b, o, cur, fr, e, (hg.block b (some_lt hb) hne).trans hb⟩, RowsAt.kept hi hg fun b' o' e' => ?_⟩
  rw [e] at e'
  cases e'
  exact hne
def Con.FitsD (w : World) (x : Con) (y : Cnt) : Prop := x.Holds SD w w.heap.size y /\ ItmsTy w x.iA y.its /\ ItmsTy w x.hA y.shs
theorem Con.FitsD.below {w w' : World} {x : Con} {y : Cnt} (h : x.FitsD w y) (hb : Below w.heap.size w w') : x.FitsD w' y :=
 ⟨h.1.atD hb, h.2.1.below h.1.hiA hb, h.2.2.below h.1.hhA hb⟩
theorem Con.FitsD.kept {w w' : World} {x : Con} {y : Cnt} {row : Option Nat} (h : x.FitsD w y) (hg : w.grownBy w' row) (ht : OtherRow w 182 row) (hr : OtherRow w 82 row) : x.FitsD w' y := by
 obtain ⟨h0, h1, h2⟩ := h
 obtain ⟨t1, i1⟩ := h1.kept h0.hiA hg hr
 obtain ⟨t2, i2⟩ := h2.kept h0.hhA hg hr
 exact ⟨⟨h0.he, h0.hm, h0.hs, RI.kept h0.hsh hg ht, RI.kept h0.hfi hg ht, h0.hso, h0.hfo, h0.hil, h0.hin, h0.hix, i1, h0.hhl, h0.hhn, h0.hhx, i2⟩, t1, t2⟩
theorem Raw.ok_parts {x : Raw} (h : x.ok = true) : Raw.quot x.s0 x.s1 = true /\ Raw.quot x.f0 x.f1 = true /\ Raw.few x.its = true /\ Raw.few x.shs = true := by
 unfold Raw.ok at h
 simp only [Bool.and_eq_true] at h
 exact ⟨h.1.1.1, h.1.1.2, h.1.2, h.2⟩
theorem row_not {W : World} {base n sz b : Nat} {v : Value} {e t : TypeId} {xs : List Value} {cs : Array Value} {fr : Nat × Nat} (h : W.ownsRow base e sz v n xs) (hb : v.ownBlock = some b) (hc : W.heap[b]? = some (.cells cs t fr)) (ht : e ≠ t) : False := by
 rcases h.2 with ⟨rfl, _⟩ | ⟨g, cap, cur, rfl, _, hg, _⟩
 ·simp [Value.ownBlock] at hb
 ·simp [Value.ownBlock] at hb
  subst hb
  rw [hg] at hc
  cases hc
  exact ht rfl
def OwnPost (l : List Raw) (w : World) (e : Ending) (w' : World) : Prop :=
 Below w.heap.size w w' /\ ∃ A c cs, e = .returned (.slice A l.length c) /\ cs.length = l.length /\ ConsAt w' w'.heap.size A cs /\ Hold (fun a b => a.Holds SD w' w'.heap.size b) cs (l.map Raw.cnt)
theorem run_append_zero {P : Program} {w : World} (t ty e : TypeId) (i : TypeInfo) (ht : P.underlying t = some (.slice e)) (hi : P.info? e = some i) (g : Nat) (A : Option Addr) (c : Nat) :
  (Builtin.append_ #[t, t] ty #[.slice (some ⟨g, 0, none⟩) 0 0, .slice A 0 c]).run P w = .ok (.slice (some ⟨g, 0, none⟩) 0 0) w := by
 cases A <;> simp [Builtin.append_, run_underlying ht, sizeOf, typeInfo, hi, Builtin.lenOf, Builtin.firstCells, storeCells, loadCells, loadCellsFrom]
theorem itms_len : ∀ (l : List Itm), (l.flatMap Itm.cells).length = l.length * 7
 | [] => rfl
 | a :: l => by rw [List.flatMap_cons, List.length_append, itms_len l]; simp [Itm.cells]; omega
theorem wp_copy_itms (w : World) {o : Oper} {a : Act} {K : Act -> World -> Prop} {Q : Exit -> Act -> World -> Prop} (s x : Operand) (t : TypeId)
  (ho : o.op = .call { callee := .builtin .append, args := #[s, x], argTypes := #[t, t] }) (ht : Tryz.prog.underlying t = some (.slice 82))
  (g : Nat) (hs : a.eval s = .slice (some ⟨g, 0, none⟩) 0 0) (hg : w.heap[g]? = some (.cells #[] 82 (0, 0)))
  (A : Option Addr) (m c : Nat) (l : List Itm) (hx : a.eval x = .slice A m c) (hl : l.length = m) (hm : m <= 40) (h : ItmsAt w w.heap.size A l)
  (hK : ∀ A' c' w', Below w.heap.size w w' -> ItmsAt w' w'.heap.size A' l -> ItmsTy w' A' l -> K (a.put o.dst (.slice A' m c')) w') : o.wp Tryz.prog a w K Q := by
 obtain ⟨i0, hi, hz0, hz1, hz2⟩ := info_parts itmInfo
 subst hl
 rcases h with h | ⟨b, off, rfl, hb, hr⟩
 ·subst h
  have hrun := run_append_zero (P := Tryz.prog) (w := w) t o.type _ i0 ht hi g A c
  have hk := hK (some ⟨g, 0, none⟩) 0 w (Below.refl _ _) (.inl rfl) (.inl rfl)
  unfold Oper.wp execOp
  simp only [ho, resolve, invoke, builtin, Sem.run_bind, Sem.run_pure, Result.andThen_ok, List.map_toArray, List.map_cons, List.map_nil, hs, hx, List.length_nil, hrun]
  exact hk
 ·by_cases h0 : l.length = 0
  ·have hl0 : l = [] := List.length_eq_zero_iff.1 h0
   subst hl0
   have hrun := run_append_zero (P := Tryz.prog) (w := w) t o.type _ i0 ht hi g (some ⟨b, off, none⟩) c
   have hk := hK (some ⟨g, 0, none⟩) 0 w (Below.refl _ _) (.inl rfl) (.inl rfl)
   unfold Oper.wp execOp
   simp only [ho, resolve, invoke, builtin, Sem.run_bind, Sem.run_pure, Result.andThen_ok, List.map_toArray, List.map_cons, List.map_nil, hs, hx, List.length_nil, hrun]
   exact hk
  ·have hfl : (l.flatMap Itm.cells).length = l.length * 7 := itms_len l
   have hnews : ∀ j u, (l.flatMap Itm.cells)[j]? = some u -> w.cell? ((⟨b, off, none⟩ : Addr).add j) = some u := by
    intro j u hj
    have hjl : j < l.length * 7 := by have := (List.getElem?_eq_some_iff.1 hj).1; rw [hfl] at this; exact this
    have hk : j / 7 < l.length := by omega
    have e := flat_get Itm.cells 7 l (fun _ _ => rfl) (j / 7) hk (j % 7) (by omega)
    rw [show j / 7 * 7 + j % 7 = j by omega, hj] at e
    have := hr (j / 7) hk (j % 7) u e.symm
    rw [Addr.add_mid]
    rw [show off + j / 7 * 7 + j % 7 = off + j by omega] at this
    exact this
   have hrun := run_append_grow (P := Tryz.prog) w t o.type _ i0 _ ht hi hz0 ⟨g, 0, none⟩ 0 0 [] (by simp) (by simp) ⟨b, off, none⟩ l.length c (l.flatMap Itm.cells) (by rw [hfl, hz1]) hnews (by omega) (by omega) (growslice_fits (by omega) (by rw [hz2]; omega))
   rw [Nat.zero_add] at hrun
   have hown0 : w.ownsRow 0 82 7 (.slice (some ⟨g, 0, none⟩) 0 0) 0 [] := ⟨rfl, .inr ⟨g, 0, #[], rfl, Nat.zero_le _, hg, Nat.le_refl _, Nat.zero_le _, rfl, rfl⟩⟩
   obtain ⟨v2, w2, hr2, ho2, _⟩ := run_append_own (P := Tryz.prog) w 0 t o.type _ i0 _ 7 56 ht hi hz0 hz1 hz2 rfl (by decide) _ _ _ hown0 ⟨b, off, none⟩ l.length c (l.flatMap Itm.cells) hfl hnews (by
    intro u hu
    rw [List.mem_flatMap] at hu
    obtain ⟨y, _, hy⟩ := hu
    simp [Itm.cells] at hy
    rcases hy with h | h | h | h | h | h | h <;> (rw [h]; rfl)) (by unfold maxLen; omega) (by omega) (Nat.zero_le _)
   rw [Nat.zero_add, List.nil_append] at ho2
   rw [hrun] at hr2
   generalize hW : World.alloc _ _ = W' at hrun hr2
   cases hr2
   have hbl : Below w.heap.size w w2 := by rw [<- hW]; exact ⟨rfl, rfl, rfl, by simp, fun k hk => Below.heap_alloc w.drew _ k hk⟩
   have hty : ∃ cur fr, w2.heap[w.heap.size]? = some (.cells cur 82 fr) := by rw [<- hW]; exact ⟨_, _, heap_alloc_new w.drew _⟩
   obtain ⟨A', c', he, hat⟩ := own_flat (f := Itm.cells) (by decide) (fun _ => rfl) ho2 rfl
   cases he
   obtain ⟨cur, fr, hty⟩ := hty
   have hk := hK _ (grownCap w l.length 0 82) w2 hbl hat (.inr ⟨_, _, _, _, rfl, hty⟩)
   unfold Oper.wp execOp
   simp only [ho, resolve, invoke, builtin, Sem.run_bind, Sem.run_pure, Result.andThen_ok, List.map_toArray, List.map_cons, List.map_nil, hs, hx, hrun]
   exact hk
end Go.Proofs.YtccapfbblnnfjaaGreat
