/- My texts Spots. -/
import Derived.RangeFuncNested
import Derived.RangeFuncBound
import Derived.RangeFuncCalls
import Derived.RangeFuncLeaves
import Derived.Shelf.Abstract
import Derived.OwnWalkIn
import Derived.TacticsInMore
import Derived.LoopNIn
import Derived.LoopIn
import Derived.Test.YtalfikdjclineaaGreatDoorG17
set_option linter.unusedVariables false
set_option linter.unusedSimpArgs false
set_option maxRecDepth 100000
set_option maxHeartbeats 8000000
namespace Go.Proofs.YtalfikdjclineaaGreatDoor
open Go.RowKit Go.Shelf

attribute [local go_sem] Oper.semAt_some

def KeepBut (n : Nat) (L : Option Nat) (W W' : World) : Prop := ∀ b, b < n -> some b ≠ L -> W'.heap[b]? = W.heap[b]?
theorem KeepBut.refl (n : Nat) (L : Option Nat) (W : World) : KeepBut n L W W := fun _ _ _ => rfl
theorem KeepBut.trans {n : Nat} {L : Option Nat} {A B C : World} (h : KeepBut n L A B) (k : KeepBut n L B C) : KeepBut n L A C := fun b hb hL => (k b hb hL).trans (h b hb hL)
theorem KeepBut.putObj {n : Nat} {L : Option Nat} {w : World} (hn : n <= w.heap.size) (W : World) (l : Nat) (o o' : Obj) (hl : w.heap.size <= l) (_ : W.heap[l]? = some o) (_ : o.isCells = false) (_ : o.isWalk = false) : KeepBut n L W (W.putObj l o') :=
  fun _ hb _ => World.putObj_heap_other (by omega)
theorem KeepBut.alloc {n : Nat} {L : Option Nat} {A W : World} (h : KeepBut n L A W) (hn : n <= W.heap.size) (o : Obj) : KeepBut n L A (W.alloc o) := fun b hb hL => (Below.heap_alloc W o b (by omega)).trans (h b hb hL)
theorem KeepBut.cell {n : Nat} {L : Option Nat} {A B : World} (h : KeepBut n L A B) {b : Nat} (hb : b < n) (hL : some b ≠ L) (o : Nat) : B.cell? ⟨b, o, none⟩ = A.cell? ⟨b, o, none⟩ := World.cell?_of_block (w := A) (h b hb hL)
theorem KeepBut.of_below {n m : Nat} {L : Option Nat} {A B : World} (h : Below m A B) (hn : n <= m) : KeepBut n L A B := fun b hb _ => h.block b (by omega)

theorem RatesAt.keep {w w' : World} {B n : Nat} {L : Option Nat} {A : Option Addr} {rs : List Rt} (h : RatesAt w B A rs) (hb : KeepBut n L w w') (hB : B <= n) (hL : ∀ l, L = some l -> B <= l) : RatesAt w' B A rs := by
  rcases h with h | ⟨b, o, e, hl, hc⟩
  · exact .inl h
  · have hne : some b ≠ L := fun e => by have := hL b e.symm; omega
    refine .inr ⟨b, o, e, hl, fun k hk => ?_⟩
    obtain ⟨h0, h1, h2, h3⟩ := hc k hk
    exact ⟨(hb.cell (by omega) hne _).trans h0, (hb.cell (by omega) hne _).trans h1, (hb.cell (by omega) hne _).trans h2, (hb.cell (by omega) hne _).trans h3⟩

section
variable (w : World)
theorem spots_any (A : Option Addr) (n c : Nat) (cur : ByteArray) (a b : Int) :
    Calls Tryz.prog 56 #[.slice A n c, .string cur, .int .i64 a, .int .i64 b] w fun e w' =>
      e = .returned (.func (.func 83) #[] #[.pointer (some ⟨w.heap.size, 0, none⟩), .pointer (some ⟨w.heap.size + 1, 0, none⟩), .pointer (some ⟨w.heap.size + 2, 0, none⟩), .pointer (some ⟨w.heap.size + 3, 0, none⟩)]) /\
      w' = (((w.alloc (.cells #[.slice A n c] 30)).alloc (.cells #[.string cur] 9)).alloc (.cells #[.int .i64 a] 3)).alloc (.cells #[.int .i64 b] 3) := by
  go_enter Tryz.func56, Tryz.ntmps56
  go_wp2
  go_ret
  exact ⟨rfl, rfl⟩

def encR (r : Rt) : Array Value := #[.agg #[.string r.cur, .int .i64 r.kind, .int .i64 r.when_, .int .i64 r.val]]

theorem filter_take_hit (rs : List Rt) (p : Rt -> Bool) (k : Nat) (h : k < rs.length) (hp : p rs[k] = true) : (rs.take (k + 1)).filter p = (rs.take k).filter p ++ [rs[k]] := by
  rw [List.take_succ_eq_append_getElem h, List.filter_append, List.filter_cons_of_pos hp, List.filter_nil]
theorem filter_take_miss (rs : List Rt) (p : Rt -> Bool) (k : Nat) (h : k < rs.length) (hp : p rs[k] = false) : (rs.take (k + 1)).filter p = (rs.take k).filter p := by
  rw [List.take_succ_eq_append_getElem h, List.filter_append, List.filter_cons_of_neg (by simp [hp]), List.filter_nil, List.append_nil]

theorem sel_split (cur : ByteArray) (a b : Int) (r : Rt) (h : Rates.sel cur a b r = false) : (r.cur.toList == cur.toList) = false ∨ ((r.cur.toList == cur.toList) = true /\ (r.kind == 1) = false) ∨
    ((r.cur.toList == cur.toList) = true /\ (r.kind == 1) = true /\ r.when_ < a) ∨ ((r.cur.toList == cur.toList) = true /\ (r.kind == 1) = true /\ a <= r.when_ /\ b < r.when_) := by
  unfold Rates.sel at h
  cases h1 : (r.cur.toList == cur.toList) <;> cases h2 : (r.kind == 1) <;> simp [h1, h2] at h ⊢
  omega

theorem spots1_in (m : Nat) (hm : 1 <= m) (l n₀ : Nat) (L : Option Nat) (B0 B1 B2 B3 : Nat) (A : Option Addr) (n c : Nat) (rs : List Rt) (cur : ByteArray) (a b : Int) (hl : rs.length = n) (hn : n <= 100000)
    (q : Nat) (hq : q <= n₀) (hLq : ∀ x, L = some x -> q <= x) (hb1 : B1 < n₀) (hb2 : B2 < n₀) (hb3 : B3 < n₀) (hl1 : some B1 ≠ L) (hl2 : some B2 ≠ L) (hl3 : some B3 ≠ L)
    (J Jx : List Rt -> World -> Prop) (W : World) (hW : n₀ <= W.heap.size) (hJ : AbidesFrom W.heap.size J)
    (hY : ∀ pre x W1, J pre W1 -> pre.length < rs.length -> YieldAt Fence.wide (m - 1) Tryz.prog l (encR x) W1 fun e W' =>
      (e = .returned (.bool true) /\ J (pre ++ [x]) W' /\ (KeepBut n₀ L W1 W' /\ W1.heap.size <= W'.heap.size)) ∨ (e = .returned (.bool false) /\ Jx (pre ++ [x]) W'))
    (c0 : W.cell? ⟨B0, 0, none⟩ = some (.slice A n c)) (c1 : W.cell? ⟨B1, 0, none⟩ = some (.string cur)) (c2 : W.cell? ⟨B2, 0, none⟩ = some (.int .i64 a)) (c3 : W.cell? ⟨B3, 0, none⟩ = some (.int .i64 b))
    (h : RatesAt W q A rs) (h0 : J [] W) :
    CallsIn Fence.wide m Tryz.prog 83 #[.func (.yield l) #[] #[], .pointer (some ⟨B0, 0, none⟩), .pointer (some ⟨B1, 0, none⟩), .pointer (some ⟨B2, 0, none⟩), .pointer (some ⟨B3, 0, none⟩)] W fun e W' => (∃ v, e = .returned v) /\
      ((∃ ys, ys = rs.filter (Rates.sel cur a b) /\ J ys W') ∨ (∃ pre, True /\ Jx pre W')) := by
  subst hl
  refine callsIn_of_wp Tryz.func83 rfl trivial ?_ rfl
  simp only [Tryz.ntmps83, List.size_toArray, List.length_cons, List.length_nil, Nat.reduceAdd, Nat.reduceSub, Array.replicate_succ, Array.replicate_zero, List.push_toArray, List.append_toArray, List.nil_append, List.cons_append]
  gi_wp2
  gi_loopw [10] (fun i wr => ∃ k : Nat, k <= rs.length /\ i = .int .i64 k /\ J ((rs.take k).filter (Rates.sel cur a b)) wr /\ KeepBut n₀ L W wr /\ W.heap.size <= wr.heap.size) (fun i _ => rs.length - (intOf i).toNat)
  case atStart => exact ⟨0, Nat.zero_le _, rfl, h0, KeepBut.refl _ _ _, Nat.le_refl _⟩
  case round =>
    obtain ⟨k, hk, rfl, hJs, hKb, hsz⟩ := hrel
    by_cases hlt : k < rs.length
    · obtain ⟨bb, o, rfl, hbB, d0, d1, d2, d3⟩ := (h.keep hKb hq hLq).look hlt
      have hbw : bb < wr.heap.size := by omega
      have e1 := (hKb.cell hb1 hl1 0).trans c1
      have e2 := (hKb.cell hb2 hl2 0).trans c2
      have e3 := (hKb.cell hb3 hl3 0).trans c3
      have f1 : B1 < wr.heap.size := by omega
      have f2 : B2 < wr.heap.size := by omega
      have f3 : B3 < wr.heap.size := by omega
      by_cases hsel : Rates.sel cur a b rs[k] = true
      · have hft := Lib.hid (filter_take_hit rs _ k hlt hsel)
        have hlen : ((rs.take k).filter (Rates.sel cur a b)).length < rs.length := Nat.lt_of_le_of_lt (List.length_filter_le _ _) (by rw [List.length_take]; omega)
        have hJa : J ((rs.take k).filter (Rates.sel cur a b)) (wr.alloc (.cells #[.string rs[k].cur, .int .i64 rs[k].kind, .int .i64 rs[k].when_, .int .i64 rs[k].val] 59)) := hJ _ _ _ none hJs (World.grownBy_alloc _ _ none) (by simp)
        obtain ⟨fn, tmps, assign, body, hy, hR⟩ := hY _ rs[k] _ hJa hlen
        obtain ⟨h1, h2, h3⟩ := (Rates.sel_iff _ _ _ _).1 hsel
        obtain ⟨g1, g2, _⟩ := (Rt.at_iff _ _ _ _).1 h1
        have q1 : (rs[k].cur.toList == cur.toList) = true := by simp [g1]
        have q2 : (rs[k].kind == 1) = true := by simp [g2]
        clear g1 g2 h1 hsel hlen hJa
        unfold encR at hy
        gi_wp2
        refine hR.mono ?_
        rintro e W3 (⟨rfl, hJ3, hk3, hs3⟩ | ⟨rfl, hJx3⟩)
        · have hK3 := (hKb.alloc (by omega) _).trans hk3
          have hs3' := hs3
          simp at hs3'
          gi_wp2
          go_roundw
          case rel => exact ⟨k + 1, by omega, by go_num, by rw [hft.out]; exact hJ3, hK3, by omega⟩
          case measure => simp [intOf]; omega
        · gi_wp2
          refine bodyPost_ret (results_none rfl _ _ _) rfl ?_
          exact ⟨⟨_, rfl⟩, .inr ⟨_, trivial, hJx3⟩⟩
      · have hsel' : Rates.sel cur a b rs[k] = false := by simpa using hsel
        have hft := Lib.hid (filter_take_miss rs _ k hlt hsel')
        have hJa : Hid (J ((rs.take (k + 1)).filter (Rates.sel cur a b)) (wr.alloc (.cells #[.string rs[k].cur, .int .i64 rs[k].kind, .int .i64 rs[k].when_, .int .i64 rs[k].val] 59))) := by
          show J _ _
          rw [hft.out]; exact hJ _ _ _ none hJs (World.grownBy_alloc _ _ none) (by simp)
        clear hft hsel hJs hY hJ h0
        rcases sel_split cur a b rs[k] hsel' with q1 | ⟨q1, q2⟩ | ⟨q1, q2, q3⟩ | ⟨q1, q2, q3, q4⟩
        all_goals
          clear hsel'
          gi_wp2
          refine ⟨fun _ _ => trivial, ?_⟩
          gi_wp2
          go_roundw
          case rel => exact ⟨k + 1, by omega, by go_num, hJa.out, hKb.alloc (by omega) _, by simp; omega⟩
          case measure => simp [intOf]; omega
    · obtain rfl : k = rs.length := by omega
      rw [List.take_length] at hJs
      gi_wp2
      go_end0
      exact ⟨⟨_, rfl⟩, .inl ⟨_, rfl, hJs⟩⟩

theorem grown_alloc {a w : World} {row : Option Nat} (h : a.grownBy w row) (o : Obj) : a.grownBy (w.alloc o) row :=
  ⟨h.os, h.tape, h.output, Nat.le_trans h.size (by simp), fun i hi hne => (Below.heap_alloc w o i (Nat.lt_of_lt_of_le hi h.size)).trans (h.block i hi hne)⟩
theorem grown_drewN {a w : World} {row : Option Nat} (h : a.grownBy w row) (n : Nat) : a.grownBy (w.drewN n) row := ⟨h.os, h.tape, h.output, h.size, h.block⟩
theorem grown_set {a w : World} {g : Nat} (h : a.grownBy w (some g)) (i : Nat) (u : Value) : a.grownBy (w.setCell ⟨g, i, none⟩ u) (some g) :=
  ⟨h.os, h.tape, h.output, by simpa [World.setCell] using h.size, fun k hk hne => (Below.heap_setCell w ⟨g, i, none⟩ u k (fun e => hne (by rw [e]))).trans (h.block k hk hne)⟩
theorem grown_refl (w : World) (row : Option Nat) : w.grownBy w row := ⟨rfl, rfl, rfl, Nat.le_refl _, fun _ _ _ => rfl⟩
def Row (w : World) (g : Nat) (t : TypeId) (cs : Array Value) : Prop := w.heap[g]? = some (.cells cs t (0, 0))
theorem Row.set {w : World} {g : Nat} {t : TypeId} {cs : Array Value} (h : Row w g t cs) (i : Nat) (v : Value) : Row (w.setCell ⟨g, i, none⟩ v) g t (cs.setIfInBounds i v) := heap_setCell_same w g i cs t v h
theorem Row.alloc {w : World} {g : Nat} {t : TypeId} {cs : Array Value} (h : Row w g t cs) (o : Obj) : Row (w.alloc o) g t cs := (Below.heap_alloc w o g (Array.getElem?_eq_some_iff.1 h).1).trans h
theorem Row.drewN {w : World} {g : Nat} {t : TypeId} {cs : Array Value} (h : Row w g t cs) (n : Nat) : Row (w.drewN n) g t cs := h

def latC (acc : Option Rt) : Array Value :=
  match acc with
  | none => #[.string ByteArray.empty, .int .i64 0, .int .i64 0, .int .i64 0, .bool false]
  | some r => #[.string r.cur, .int .i64 r.kind, .int .i64 r.when_, .int .i64 r.val, .bool true]

theorem see_any (L : Nat) (acc : Option Rt) (r : Rt) (hL : w.heap[L]? = some (.cells (latC acc) 114 (0, 0))) :
    Calls Tryz.prog 57 #[.pointer (some ⟨L, 0, none⟩), .agg #[.string r.cur, .int .i64 r.kind, .int .i64 r.when_, .int .i64 r.val]] w fun e w' =>
      e = .returned (.tuple #[]) /\ w.grownBy w' (some L) /\ w'.heap[L]? = some (.cells (latC (Rates.see acc r)) 114 (0, 0)) := by
  have hlt : L < w.heap.size := (Array.getElem?_eq_some_iff.1 hL).1
  cases acc with
  | none =>
    have z0 := cell_of_row _ _ 0 _ _ _ hL
    have z1 := cell_of_row _ _ 1 _ _ _ hL
    have z2 := cell_of_row _ _ 2 _ _ _ hL
    have z3 := cell_of_row _ _ 3 _ _ _ hL
    have z4 := cell_of_row _ _ 4 _ _ _ hL
    have zf := fun j => frozen_of_row _ _ j _ _ hL
    simp [latC] at z0 z1 z2 z3 z4
    have HL := Lib.hid hL
    clear hL
    go_enter Tryz.func57, Tryz.ntmps57
    go_wp2
    go_quiet (fail)
    go_wp2
    go_end0
    refine ⟨rfl, ?_, ?_⟩
    · exact grown_set (grown_set (grown_set (grown_set (grown_set (grown_drewN (grown_alloc (grown_refl _ _) _) _) _ _) _ _) _ _) _ _) _ _
    · exact ((((((Row.alloc HL.out _).drewN _).set 0 _).set 1 _).set 2 _).set 3 _).set 4 _
  | some x =>
    have z0 := cell_of_row _ _ 0 _ _ _ hL
    have z1 := cell_of_row _ _ 1 _ _ _ hL
    have z2 := cell_of_row _ _ 2 _ _ _ hL
    have z3 := cell_of_row _ _ 3 _ _ _ hL
    have z4 := cell_of_row _ _ 4 _ _ _ hL
    have zf := fun j => frozen_of_row _ _ j _ _ hL
    simp [latC] at z0 z1 z2 z3 z4
    have HL := Lib.hid hL
    clear hL
    by_cases hx : x.when_ < r.when_
    · have hs : Hid (Rates.see (some x) r = some r) := by show _ = _; simp [Rates.see, hx]
      go_enter Tryz.func57, Tryz.ntmps57
      go_wp2
      go_quiet (fail)
      go_wp2
      rw [hs.out]
      go_end0
      refine ⟨rfl, ?_, ?_⟩
      · exact grown_set (grown_set (grown_set (grown_set (grown_set (grown_drewN (grown_alloc (grown_refl _ _) _) _) _ _) _ _) _ _) _ _) _ _
      · exact ((((((Row.alloc HL.out _).drewN _).set 0 _).set 1 _).set 2 _).set 3 _).set 4 _
    · have hs : Hid (Rates.see (some x) r = some x) := by show _ = _; simp [Rates.see, hx]
      have hx' : decide (x.when_ < r.when_) = false := decide_eq_false hx
      go_enter Tryz.func57, Tryz.ntmps57
      go_wp2
      go_quiet (fail)
      go_wp2
      rw [hs.out]
      go_end0
      exact ⟨rfl, grown_drewN (grown_alloc (grown_refl _ _) _) _, (Row.alloc HL.out _).drewN _⟩
end
end Go.Proofs.YtalfikdjclineaaGreatDoor
