/- slices.AppendSeq and slices.Collect over the iterator of quote. -/
import Derived.Test.YtbbbiioojgnpdaaWhich
import Derived.RangeFuncBox
import Derived.Maps.AppendAt
namespace Go.Proofs.Ytbbbiioojgnpdaa
open Go.RowKit Go.Shelf

attribute [local go_sem] Oper.semAt_some

def Rt.cells (r : Rt) : List Value := [.string r.cur, .int .i64 r.kind, .int .i64 r.when_, .int .i64 r.val]
def rowOf (l : List Rt) : List Value := l.flatMap Rt.cells
theorem rowOf_snoc (l : List Rt) (r : Rt) : rowOf (l ++ [r]) = rowOf l ++ r.cells := by simp [rowOf]
theorem rowOf_length (l : List Rt) : (rowOf l).length = l.length * 4 := by
  induction l with
  | nil => rfl
  | cons r l ih => simp only [rowOf, List.flatMap_cons, List.length_append] at *; rw [ih]; simp [Rt.cells]; omega

theorem info39 : (Try.prog.info? 39).map (fun i => (i.zero, i.size, i.bytes)) = some (some Rt.zero.v, 4, 40) := by kernel_rfl

/-- The iterator's contract at a loop that writes nothing that lay below n₀. -/
theorem spots_stops0 (ws : World) (B n₀ m : Nat) (hm : 1 ≤ m) (A : Option Addr) (n c : Nat) (rs : List Rt) (cur : ByteArray) (a b : Int) (hl : rs.length = n) (hn : n ≤ 100000) (q : Nat) (hq : q ≤ n₀) (hws : n₀ ≤ ws.heap.size) (hB : B + 3 < n₀)
    (c0 : ws.cell? ⟨B, 0, none⟩ = some (.slice A n c)) (c1 : ws.cell? ⟨B + 1, 0, none⟩ = some (.string cur)) (c2 : ws.cell? ⟨B + 2, 0, none⟩ = some (.int .i64 a)) (c3 : ws.cell? ⟨B + 3, 0, none⟩ = some (.int .i64 b)) (h : RatesAt ws q A rs) :
    SeqStopsK Fence.wide m Try.prog 46 #[.pointer (some ⟨B, 0, none⟩), .pointer (some ⟨B + 1, 0, none⟩), .pointer (some ⟨B + 2, 0, none⟩), .pointer (some ⟨B + 3, 0, none⟩)] encR
      (fun W W' => KeepBut n₀ none W W' ∧ W.heap.size ≤ W'.heap.size) (fun ys => ys = rs.filter (Rates.sel cur a b)) (fun _ => True) rs.length ws := fun l J Jx W hW hJ _ hY h0 =>
  spots1_in m hm l n₀ none B (B + 1) (B + 2) (B + 3) A n c rs cur a b hl hn q hq (fun x e => by cases e) (by omega) (by omega) (by omega) (by simp) (by simp) (by simp)
    J Jx W (by have := hW.size; omega) hJ hY ((hW.cell (p := ⟨B, 0, none⟩) (by show B < _; omega)).trans c0) ((hW.cell (p := ⟨B + 1, 0, none⟩) (by show B + 1 < _; omega)).trans c1)
    ((hW.cell (p := ⟨B + 2, 0, none⟩) (by show B + 2 < _; omega)).trans c2) ((hW.cell (p := ⟨B + 3, 0, none⟩) (by show B + 3 < _; omega)).trans c3) (h.below hW (by omega)) h0

theorem cells_at (W : World) (g : Nat) (t : TypeId) (r : Rt) (h : Row W g t #[.string r.cur, .int .i64 r.kind, .int .i64 r.when_, .int .i64 r.val]) :
    ∀ j u, r.cells[j]? = some u → W.cell? ((⟨g, 0, none⟩ : Addr).add j) = some u := by
  intro j u hj
  have hadd : (⟨g, 0, none⟩ : Addr).add j = ⟨g, j, none⟩ := by unfold Addr.add; split <;> simp_all
  rw [hadd, cell_of_row W g j _ _ _ h]
  rw [← hj]; simp [Rt.cells]

section
variable (w : World)
set_option maxRecDepth 100000 in
set_option maxHeartbeats 2000000 in
theorem appendSeq_any (B : Nat) (A : Option Addr) (n c : Nat) (rs : List Rt) (cur : ByteArray) (a b : Int) (hl : rs.length = n) (hn : n ≤ 1000) (hB : B + 3 < w.heap.size)
    (c0 : w.cell? ⟨B, 0, none⟩ = some (.slice A n c)) (c1 : w.cell? ⟨B + 1, 0, none⟩ = some (.string cur)) (c2 : w.cell? ⟨B + 2, 0, none⟩ = some (.int .i64 a)) (c3 : w.cell? ⟨B + 3, 0, none⟩ = some (.int .i64 b)) (h : RatesAt w w.heap.size A rs) :
    Calls Try.prog 67 #[.slice none 0 0, .func (.func 46) #[] #[.pointer (some ⟨B, 0, none⟩), .pointer (some ⟨B + 1, 0, none⟩), .pointer (some ⟨B + 2, 0, none⟩), .pointer (some ⟨B + 3, 0, none⟩)]] w fun e w' =>
      ∃ v, e = .returned v ∧ w'.ownsRow w.heap.size 39 4 v (rs.filter (Rates.sel cur a b)).length (rowOf (rs.filter (Rates.sel cur a b))) ∧ Below w.heap.size w w' := by
  obtain ⟨i0, hi, hz0, hz1, hz2⟩ := info_parts info39
  have hb0 : Below w.heap.size w (w.alloc (.cells #[.slice none 0 0] 30)) := (Below.refl _ w).alloc (Nat.le_refl _) _
  refine callsIn_wide.1 (callsIn_of_wp_marks (F := Fence.wide) (n := 8) Try.func67 rfl trivial ?_ rfl)
  simp only [Try.ntmps67, List.size_toArray, List.length_cons, List.length_nil, Nat.reduceAdd, Nat.reduceSub, Array.replicate_succ, Array.replicate_zero, List.push_toArray, List.append_toArray, List.nil_append, List.cons_append]
  gi_wp2
  obtain ⟨sq, hsq⟩ : ∃ sq : Value, sq = .func (.func 46) #[] #[.pointer (some ⟨B, 0, none⟩), .pointer (some ⟨B + 1, 0, none⟩), .pointer (some ⟨B + 2, 0, none⟩), .pointer (some ⟨B + 3, 0, none⟩)] := ⟨_, rfl⟩
  refine wpIn_rangeFunc_ownH rfl (by omega : 1 ≤ 8) (gf := 46) (lb := #[.pointer (some ⟨B, 0, none⟩), .pointer (some ⟨B + 1, 0, none⟩), .pointer (some ⟨B + 2, 0, none⟩), .pointer (some ⟨B + 3, 0, none⟩)]) rfl trivial (enters_of Try.func46 (by kernel_rfl) rfl)
    (spots_stops0 (w.alloc (.cells #[.slice none 0 0] 30)) B w.heap.size 7 (by omega) A n c rs cur a b hl (by omega) w.heap.size (Nat.le_refl _) (by simp) hB
      ((hb0.cell (p := ⟨B, 0, none⟩) (by show B < _; omega)).trans c0) ((hb0.cell (p := ⟨B + 1, 0, none⟩) (by show B + 1 < _; omega)).trans c1) ((hb0.cell (p := ⟨B + 2, 0, none⟩) (by show B + 2 < _; omega)).trans c2) ((hb0.cell (p := ⟨B + 3, 0, none⟩) (by show B + 3 < _; omega)).trans c3) (h.below hb0 (Nat.le_refl _)))
    (fun h k => ⟨h.1.trans k.1, Nat.le_trans h.2 k.2⟩) (fun W l o o' h1 h2 h3 h4 => ⟨KeepBut.putObj (n := w.heap.size) (w := w.alloc (.cells #[.slice none 0 0] 30)) (by simp) W l o o' h1 h2 h3 h4, by simp [World.putObj]⟩) (Below.refl _ _) (fun _ => rfl)
    (fun pre W => (∃ v, Boxed W w.heap.size 30 v ∧ W.ownsRow w.heap.size 39 4 v pre.length (rowOf pre) ∧ True) ∧ Below w.heap.size w W ∧ pre.length ≤ pre.length) (fun _ _ _ => False)
    (OwnFrom.and (Own.from (holdsRow_own w.heap.size w.heap.size 30 39 4 (fun pre : List Rt => pre.length) rowOf (fun _ _ => True)) _) (OwnFrom.and (ownFrom_below (Nat.le_refl _) (by simp)) (ownFrom_pure _ _))) (fun _ _ _ _ _ hs _ _ => hs)
    ⟨⟨_, Boxed.new w _ _, World.ownsRow_nil _ _ _ _, trivial⟩, hb0, Nat.le_refl _⟩
    (fun x a' W => ∃ Bx, w.heap.size < Bx ∧ Row W Bx 39 #[.string x.cur, .int .i64 x.kind, .int .i64 x.when_, .int .i64 x.val] ∧ a' = { tmps := #[.slice none 0 0, sq, .pointer (some ⟨w.heap.size, 0, none⟩), undef, .slice none 0 0, .pointer (some ⟨Bx, 0, none⟩), sq, .agg #[.string x.cur, .int .i64 x.kind, .int .i64 x.when_, .int .i64 x.val], undef, undef, undef, undef, undef], defers := [] })
    ?hAx ?assign ?body ?done ?stop
  case hAx =>
    rintro x a' _ X Y row ⟨Bx, k1, k2, k3⟩ hg hrow
    exact ⟨Bx, k1, (hg.block Bx (Array.getElem?_eq_some_iff.1 k2).1 (fun e => by obtain ⟨_, o, ho, hc⟩ := hrow Bx e.symm; rw [show X.heap[Bx]? = _ from k2] at ho; cases ho; cases hc)).trans k2, k3⟩
  case assign =>
    rintro l pre x W K ⟨⟨v, i1, i2, _⟩, i3, _⟩ hK
    have i4 := i1.lt
    subst hsq
    dsimp only [encR]
    gi_wp2
    exact hK _ _ ((KeepsOthers.alloc _ _).from _) ⟨(KeepBut.refl _ _ _).alloc (by omega) _, by simp⟩ ⟨⟨v, i1.alloc _, i2.alloc _, trivial⟩, i3.alloc i3.size _, Nat.le_refl _⟩ ⟨W.heap.size, i4, heap_alloc_new W _, rfl⟩
  case body =>
    rintro l pre x a' W hl' ⟨r, hr'⟩ ⟨⟨v, i1, i2, _⟩, i3, _⟩ ⟨Bx, k1, k2, rfl⟩ hlt
    have x0 := cell_of_row _ _ 0 _ _ _ k2
    have x1 := cell_of_row _ _ 1 _ _ _ k2
    have x2 := cell_of_row _ _ 2 _ _ _ k2
    have x3 := cell_of_row _ _ 3 _ _ _ k2
    simp at x0 x1 x2 x3
    have hc := i1.cell
    have hsz := i3.size
    have hnew := cells_at _ _ _ x (heap_alloc_new W (.cells #[.string x.cur, .int .i64 x.kind, .int .i64 x.when_, .int .i64 x.val] 39))
    have hb1000 : pre.length + 1 ≤ 1000 := by omega
    gi_wp2_with (gi_at_builtin; refine wpListIn_append_own _ rfl _ _ 30 rfl w.heap.size 39 i0 Rt.zero.v 4 40 Try.underlying30 hi hz0 hz1 hz2 rfl (by decide) _ _ _ rfl (i2.alloc _) ⟨W.heap.size, 0, none⟩ 1 1 x.cells rfl rfl hnew (by simp [Rt.cells, Value.oneCell']) (by unfold maxLen; omega) (by omega) (by simp; omega) ?_)
    intro v' w1 hown' hgrow _
    obtain ⟨g', cap', rfl⟩ := ownsRow_succ hown'
    obtain ⟨hv1, hv2, hr2, hk2, hb2⟩ := i1.appended (by decide) i2 hsz (Nat.le_refl _) hown' hgrow
    have hc1 := hv1.cell
    have hf1 := hv1.frozen
    gi_wp2
    exact ⟨hk2.from _, ⟨KeepBut.of_below hb2 (Nat.le_refl _), hb2.size⟩, ⟨_, hv2, by rw [List.length_append, rowOf_snoc]; exact hr2, trivial⟩, i3.trans hb2, Nat.le_refl _⟩
  case done =>
    rintro D ys W hD rfl ⟨⟨v, i1, i2, _⟩, i3, _⟩ hK
    have hc := i1.cell
    gi_wp2
    refine ⟨by simp, .inl ⟨_, _, rfl, run_takeDeferred hK, ?_⟩⟩
    exact ⟨_, results_tmp rfl _ _ _, v, rfl, ownsRow_putObj i2 _ hK rfl, i3.trans (belowK_b (w := w) (Nat.le_refl _) W D _ _ (by simp at hD; omega) hK rfl rfl)⟩
  case stop =>
    rintro D c' pre W _ _ hx _
    exact hx.elim

theorem collect_any (B : Nat) (A : Option Addr) (n c : Nat) (rs : List Rt) (cur : ByteArray) (a b : Int) (hl : rs.length = n) (hn : n ≤ 1000) (hB : B + 3 < w.heap.size)
    (c0 : w.cell? ⟨B, 0, none⟩ = some (.slice A n c)) (c1 : w.cell? ⟨B + 1, 0, none⟩ = some (.string cur)) (c2 : w.cell? ⟨B + 2, 0, none⟩ = some (.int .i64 a)) (c3 : w.cell? ⟨B + 3, 0, none⟩ = some (.int .i64 b)) (h : RatesAt w w.heap.size A rs) :
    Calls Try.prog 52 #[.func (.func 46) #[] #[.pointer (some ⟨B, 0, none⟩), .pointer (some ⟨B + 1, 0, none⟩), .pointer (some ⟨B + 2, 0, none⟩), .pointer (some ⟨B + 3, 0, none⟩)]] w fun e w' =>
      ∃ v, e = .returned v ∧ w'.ownsRow w.heap.size 39 4 v (rs.filter (Rates.sel cur a b)).length (rowOf (rs.filter (Rates.sel cur a b))) ∧ Below w.heap.size w w' := by
  have H := Lib.hid (appendSeq_any w B A n c rs cur a b hl hn hB c0 c1 c2 c3 h)
  clear c0 c1 c2 c3 h
  go_enter Try.func52, Try.ntmps52
  go_wp2_with (fail)
  refine H.out.mono ?_
  rintro e w' ⟨v, rfl, h1, h2⟩
  go_wp2
  go_ret
  exact ⟨v, rfl, h1, h2⟩
end
end Go.Proofs.Ytbbbiioojgnpdaa
