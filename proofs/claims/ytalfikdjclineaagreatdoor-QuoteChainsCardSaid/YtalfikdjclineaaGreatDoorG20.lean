/- My texts Collect, RefDays, SortR. -/
import Derived.RangeFuncBox
import Derived.Maps.AppendAt
import Derived.Test.YtalfikdjclineaaGreatDoorShelf
import Derived.Test.YtalfikdjclineaaGreatDoorG19
set_option linter.unusedVariables false
set_option linter.unusedSimpArgs false
set_option maxRecDepth 100000
set_option maxHeartbeats 8000000
namespace Go.Proofs.YtalfikdjclineaaGreatDoor
open Go.RowKit Go.Shelf

attribute [local go_sem] Oper.semAt_some

def Rt.cells (r : Rt) : List Value := [.string r.cur, .int .i64 r.kind, .int .i64 r.when_, .int .i64 r.val]
def rowOf (l : List Rt) : List Value := l.flatMap Rt.cells
theorem rowOf_snoc (l : List Rt) (r : Rt) : rowOf (l ++ [r]) = rowOf l ++ r.cells := by simp [rowOf]
theorem rowOf_length (l : List Rt) : (rowOf l).length = l.length * 4 := by
  induction l with
  | nil => rfl
  | cons r l ih => simp only [rowOf, List.flatMap_cons, List.length_append] at *; rw [ih]; simp [Rt.cells]; omega

theorem info39 : (Tryz.prog.info? 59).map (fun i => (i.zero, i.size, i.bytes)) = some (some Rt.zero.v, 4, 40) := by kernel_rfl

theorem spots_stops0 (ws : World) (B n₀ m : Nat) (hm : 1 <= m) (A : Option Addr) (n c : Nat) (rs : List Rt) (cur : ByteArray) (a b : Int) (hl : rs.length = n) (hn : n <= 100000) (q : Nat) (hq : q <= n₀) (hws : n₀ <= ws.heap.size) (hB : B + 3 < n₀)
    (c0 : ws.cell? ⟨B, 0, none⟩ = some (.slice A n c)) (c1 : ws.cell? ⟨B + 1, 0, none⟩ = some (.string cur)) (c2 : ws.cell? ⟨B + 2, 0, none⟩ = some (.int .i64 a)) (c3 : ws.cell? ⟨B + 3, 0, none⟩ = some (.int .i64 b)) (h : RatesAt ws q A rs) :
    SeqStopsK Fence.wide m Tryz.prog 83 #[.pointer (some ⟨B, 0, none⟩), .pointer (some ⟨B + 1, 0, none⟩), .pointer (some ⟨B + 2, 0, none⟩), .pointer (some ⟨B + 3, 0, none⟩)] encR
      (fun W W' => KeepBut n₀ none W W' /\ W.heap.size <= W'.heap.size) (fun ys => ys = rs.filter (Rates.sel cur a b)) (fun _ => True) rs.length ws := fun l J Jx W hW hJ _ hY h0 =>
  spots1_in m hm l n₀ none B (B + 1) (B + 2) (B + 3) A n c rs cur a b hl hn q hq (fun x e => by cases e) (by omega) (by omega) (by omega) (by simp) (by simp) (by simp)
    J Jx W (by have := hW.size; omega) hJ hY ((hW.cell (p := ⟨B, 0, none⟩) (by show B < _; omega)).trans c0) ((hW.cell (p := ⟨B + 1, 0, none⟩) (by show B + 1 < _; omega)).trans c1)
    ((hW.cell (p := ⟨B + 2, 0, none⟩) (by show B + 2 < _; omega)).trans c2) ((hW.cell (p := ⟨B + 3, 0, none⟩) (by show B + 3 < _; omega)).trans c3) (h.below hW (by omega)) h0

theorem cells_at (W : World) (g : Nat) (t : TypeId) (r : Rt) (h : Row W g t #[.string r.cur, .int .i64 r.kind, .int .i64 r.when_, .int .i64 r.val]) :
    ∀ j u, r.cells[j]? = some u -> W.cell? ((⟨g, 0, none⟩ : Addr).add j) = some u := by
  intro j u hj
  have hadd : (⟨g, 0, none⟩ : Addr).add j = ⟨g, j, none⟩ := by unfold Addr.add; split <;> simp_all
  rw [hadd, cell_of_row W g j _ _ _ h]
  rw [<- hj]; simp [Rt.cells]

section
variable (w : World)
theorem appendSeq_any (B : Nat) (A : Option Addr) (n c : Nat) (rs : List Rt) (cur : ByteArray) (a b : Int) (hl : rs.length = n) (hn : n <= 1000) (hB : B + 3 < w.heap.size)
    (c0 : w.cell? ⟨B, 0, none⟩ = some (.slice A n c)) (c1 : w.cell? ⟨B + 1, 0, none⟩ = some (.string cur)) (c2 : w.cell? ⟨B + 2, 0, none⟩ = some (.int .i64 a)) (c3 : w.cell? ⟨B + 3, 0, none⟩ = some (.int .i64 b)) (h : RatesAt w w.heap.size A rs) :
    Calls Tryz.prog 105 #[.slice none 0 0, .func (.func 83) #[] #[.pointer (some ⟨B, 0, none⟩), .pointer (some ⟨B + 1, 0, none⟩), .pointer (some ⟨B + 2, 0, none⟩), .pointer (some ⟨B + 3, 0, none⟩)]] w fun e w' =>
      ∃ v, e = .returned v /\ w'.ownsRow w.heap.size 59 4 v (rs.filter (Rates.sel cur a b)).length (rowOf (rs.filter (Rates.sel cur a b))) /\ Below w.heap.size w w' := by
  obtain ⟨i0, hi, hz0, hz1, hz2⟩ := info_parts info39
  have hb0 : Below w.heap.size w (w.alloc (.cells #[.slice none 0 0] 30)) := (Below.refl _ w).alloc (Nat.le_refl _) _
  refine callsIn_wide.1 (callsIn_of_wp_marks (F := Fence.wide) (n := 8) Tryz.func105 rfl trivial ?_ rfl)
  simp only [Tryz.ntmps105, List.size_toArray, List.length_cons, List.length_nil, Nat.reduceAdd, Nat.reduceSub, Array.replicate_succ, Array.replicate_zero, List.push_toArray, List.append_toArray, List.nil_append, List.cons_append]
  gi_wp2
  obtain ⟨sq, hsq⟩ : ∃ sq : Value, sq = .func (.func 83) #[] #[.pointer (some ⟨B, 0, none⟩), .pointer (some ⟨B + 1, 0, none⟩), .pointer (some ⟨B + 2, 0, none⟩), .pointer (some ⟨B + 3, 0, none⟩)] := ⟨_, rfl⟩
  refine wpIn_rangeFunc_ownH rfl (by omega : 1 <= 8) (gf := 83) (lb := #[.pointer (some ⟨B, 0, none⟩), .pointer (some ⟨B + 1, 0, none⟩), .pointer (some ⟨B + 2, 0, none⟩), .pointer (some ⟨B + 3, 0, none⟩)]) rfl trivial (enters_of Tryz.func83 (by kernel_rfl) rfl)
    (spots_stops0 (w.alloc (.cells #[.slice none 0 0] 30)) B w.heap.size 7 (by omega) A n c rs cur a b hl (by omega) w.heap.size (Nat.le_refl _) (by simp) hB
      ((hb0.cell (p := ⟨B, 0, none⟩) (by show B < _; omega)).trans c0) ((hb0.cell (p := ⟨B + 1, 0, none⟩) (by show B + 1 < _; omega)).trans c1) ((hb0.cell (p := ⟨B + 2, 0, none⟩) (by show B + 2 < _; omega)).trans c2) ((hb0.cell (p := ⟨B + 3, 0, none⟩) (by show B + 3 < _; omega)).trans c3) (h.below hb0 (Nat.le_refl _)))
    (fun h k => ⟨h.1.trans k.1, Nat.le_trans h.2 k.2⟩) (fun W l o o' h1 h2 h3 h4 => ⟨KeepBut.putObj (n := w.heap.size) (w := w.alloc (.cells #[.slice none 0 0] 30)) (by simp) W l o o' h1 h2 h3 h4, by simp [World.putObj]⟩) (Below.refl _ _) (fun _ => rfl)
    (fun pre W => (∃ v, Boxed W w.heap.size 30 v /\ W.ownsRow w.heap.size 59 4 v pre.length (rowOf pre) /\ True) /\ Below w.heap.size w W /\ pre.length <= pre.length) (fun _ _ _ => False)
    (OwnFrom.and (Own.from (holdsRow_own w.heap.size w.heap.size 30 59 4 (fun pre : List Rt => pre.length) rowOf (fun _ _ => True)) _) (OwnFrom.and (ownFrom_below (Nat.le_refl _) (by simp)) (ownFrom_pure _ _))) (fun _ _ _ _ _ hs _ _ => hs)
    ⟨⟨_, Boxed.new w _ _, World.ownsRow_nil _ _ _ _, trivial⟩, hb0, Nat.le_refl _⟩
    (fun x a' W => ∃ Bx, w.heap.size < Bx /\ Row W Bx 59 #[.string x.cur, .int .i64 x.kind, .int .i64 x.when_, .int .i64 x.val] /\ a' = { tmps := #[.slice none 0 0, sq, .pointer (some ⟨w.heap.size, 0, none⟩), undef, .slice none 0 0, .pointer (some ⟨Bx, 0, none⟩), sq, .agg #[.string x.cur, .int .i64 x.kind, .int .i64 x.when_, .int .i64 x.val], undef, undef, undef, undef, undef], defers := [] })
    ?hAx ?assign ?body ?done ?stop
  case hAx =>
    rintro x a' _ X Y row ⟨Bx, k1, k2, k3⟩ hg hrow
    exact ⟨Bx, k1, (hg.block Bx (Array.getElem?_eq_some_iff.1 k2).1 (fun e => by obtain ⟨_, o, ho, hc⟩ := hrow Bx e.symm; rw [show X.heap[Bx]? = _ from k2] at ho; cases ho; cases hc)).trans k2, k3⟩
  case assign =>
    rintro l pre x W K ⟨⟨v, i1, i2, _⟩, i3, _⟩ hK
    have i4 := i1.lt
    subst hsq
    dsimp only [encR]
    gi_wp2
    exact hK _ _ ((KeepsOthers.alloc _ _).from _) ⟨(KeepBut.refl _ _ _).alloc (by omega) _, by simp⟩ ⟨⟨v, i1.alloc _, i2.alloc _, trivial⟩, i3.alloc i3.size _, Nat.le_refl _⟩ ⟨W.heap.size, i4, heap_alloc_new W _, rfl⟩
  case body =>
    rintro l pre x a' W hl' ⟨r, hr'⟩ ⟨⟨v, i1, i2, _⟩, i3, _⟩ ⟨Bx, k1, k2, rfl⟩ hlt
    have x0 := cell_of_row _ _ 0 _ _ _ k2
    have x1 := cell_of_row _ _ 1 _ _ _ k2
    have x2 := cell_of_row _ _ 2 _ _ _ k2
    have x3 := cell_of_row _ _ 3 _ _ _ k2
    simp at x0 x1 x2 x3
    have hc := i1.cell
    have hsz := i3.size
    have hnew := cells_at _ _ _ x (heap_alloc_new W (.cells #[.string x.cur, .int .i64 x.kind, .int .i64 x.when_, .int .i64 x.val] 59))
    have hb1000 : pre.length + 1 <= 1000 := by omega
    gi_wp2_with (gi_at_builtin; refine wpListIn_append_own _ rfl _ _ 30 rfl w.heap.size 59 i0 Rt.zero.v 4 40 Tryz.underlying30 hi hz0 hz1 hz2 rfl (by decide) _ _ _ rfl (i2.alloc _) ⟨W.heap.size, 0, none⟩ 1 1 x.cells rfl rfl hnew (by simp [Rt.cells, Value.oneCell']) (by unfold maxLen; omega) (by omega) (by simp; omega) ?_)
    intro v' w1 hown' hgrow _
    obtain ⟨g', cap', rfl⟩ := ownsRow_succ hown'
    obtain ⟨hv1, hv2, hr2, hk2, hb2⟩ := i1.appended (by decide) i2 hsz (Nat.le_refl _) hown' hgrow
    have hc1 := hv1.cell
    have hf1 := hv1.frozen
    gi_wp2
    exact ⟨hk2.from _, ⟨KeepBut.of_below hb2 (Nat.le_refl _), hb2.size⟩, ⟨_, hv2, by rw [List.length_append, rowOf_snoc]; exact hr2, trivial⟩, i3.trans hb2, Nat.le_refl _⟩
  case done =>
    rintro D ys W hD rfl ⟨⟨v, i1, i2, _⟩, i3, _⟩ hK
    have hc := i1.cell
    gi_wp2
    refine ⟨by simp, .inl ⟨_, _, rfl, run_takeDeferred hK, ?_⟩⟩
    exact ⟨_, results_tmp rfl _ _ _, v, rfl, ownsRow_putObj i2 _ hK rfl, i3.trans (belowK_b (w := w) (Nat.le_refl _) W D _ _ (by simp at hD; omega) hK rfl rfl)⟩
  case stop =>
    rintro D c' pre W _ _ hx _
    exact hx.elim

theorem collect_any (B : Nat) (A : Option Addr) (n c : Nat) (rs : List Rt) (cur : ByteArray) (a b : Int) (hl : rs.length = n) (hn : n <= 1000) (hB : B + 3 < w.heap.size)
    (c0 : w.cell? ⟨B, 0, none⟩ = some (.slice A n c)) (c1 : w.cell? ⟨B + 1, 0, none⟩ = some (.string cur)) (c2 : w.cell? ⟨B + 2, 0, none⟩ = some (.int .i64 a)) (c3 : w.cell? ⟨B + 3, 0, none⟩ = some (.int .i64 b)) (h : RatesAt w w.heap.size A rs) :
    Calls Tryz.prog 87 #[.func (.func 83) #[] #[.pointer (some ⟨B, 0, none⟩), .pointer (some ⟨B + 1, 0, none⟩), .pointer (some ⟨B + 2, 0, none⟩), .pointer (some ⟨B + 3, 0, none⟩)]] w fun e w' =>
      ∃ v, e = .returned v /\ w'.ownsRow w.heap.size 59 4 v (rs.filter (Rates.sel cur a b)).length (rowOf (rs.filter (Rates.sel cur a b))) /\ Below w.heap.size w w' := by
  have H := Lib.hid (appendSeq_any w B A n c rs cur a b hl hn hB c0 c1 c2 c3 h)
  clear c0 c1 c2 c3 h
  go_enter Tryz.func87, Tryz.ntmps87
  go_wp2_with (fail)
  refine H.out.mono ?_
  rintro e w' ⟨v, rfl, h1, h2⟩
  go_wp2
  go_ret
  exact ⟨v, rfl, h1, h2⟩
end
end Go.Proofs.YtalfikdjclineaaGreatDoor
namespace Go.Proofs.YtalfikdjclineaaGreatDoor
open Go.RowKit Go.Shelf

theorem grown_of_below {a b : World} (h : Below a.heap.size a b) : a.grownBy b none := ⟨h.os, h.tape, h.output, h.size, fun i hi _ => h.block i hi⟩
theorem owns_below {a b : World} {base : Nat} {e : TypeId} {size n : Nat} {v : Value} {xs : List Value} (h : a.ownsRow base e size v n xs) (hb : Below a.heap.size a b) : b.ownsRow base e size v n xs :=
  h.kept (grown_of_below hb) (by cases v.ownBlock <;> simp)
theorem errR_errP (g : Grp) (rs : List Rt) (cur : ByteArray) (p : Int) :
    (Rates.errR g.gc rs cur = 1 /\ Rates.errP g rs cur p = 1) ∨ (Rates.errR g.gc rs cur = 0 /\ Cal.ok g.Y g.M g.N = false /\ Rates.errP g rs cur p = 1) ∨
    (Rates.errR g.gc rs cur = 0 /\ Cal.ok g.Y g.M g.N = true /\ Cal.err g.Y g.M g.N p = 2 /\ Rates.errP g rs cur p = 2) ∨ (Rates.errR g.gc rs cur = 0 /\ Cal.ok g.Y g.M g.N = true /\ Cal.err g.Y g.M g.N p = 0 /\ Rates.errP g rs cur p = 0) := by
  unfold Rates.errR
  rcases Rates.errP_cases g rs cur p with ⟨h1, e⟩ | ⟨h1, h2, e⟩ | ⟨h1, h2, h3, e⟩ | ⟨h1, h2, h3, h4, e⟩ | ⟨h1, h2, h3, h4, e⟩ <;> simp [*]

section
variable (w : World)
end
end Go.Proofs.YtalfikdjclineaaGreatDoor
namespace Go.Proofs.YtalfikdjclineaaGreatDoor
open Go.RowKit Go.Shelf Go.Lib Go.Sort

instance : Inhabited Rt := ⟨Rt.zero⟩
def cmpR (x y : Rt) : Int := Lib.compareInt x.when_ y.when_
theorem ltR (x y : Rt) : ltOf cmpR x y = decide (x.when_ < y.when_) := by
  unfold ltOf cmpR Lib.compareInt
  by_cases h1 : x.when_ < y.when_
  · simp [h1]
  · by_cases h2 : y.when_ < x.when_ <;> simp [h1, h2]
theorem swoR : SWO (ltOf cmpR) where
  irrefl x := by rw [ltR]; simp
  trans x y z h1 h2 := by rw [ltR] at *; simp at *; omega
  ntrans x y z h1 h2 := by rw [ltR] at *; simp at *; omega

theorem cmp_any (x y : Rt) (W : World) : Calls Tryz.prog 60 #[.agg #[.string x.cur, .int .i64 x.kind, .int .i64 x.when_, .int .i64 x.val], .agg #[.string y.cur, .int .i64 y.kind, .int .i64 y.when_, .int .i64 y.val]] W fun e w' =>
    e = .returned (.int .i64 (cmpR x y)) /\ ∃ q os', w' = grow (W.drewN q) os' := by
  have hcon := fun W' => AnyG.cmp_Compare_int Tryz.cmpInt x.when_ y.when_ W'
  change ∀ W', Calls Tryz.prog 61 _ _ _ at hcon
  unfold cmpR
  generalize Lib.compareInt x.when_ y.when_ = r at hcon ⊢
  go_enter Tryz.func60, Tryz.ntmps60
  go_wp2_with (go_at_call 61; refine (hcon _).mono ?_; rintro e w' ⟨rfl, rfl⟩)
  go_ret
  exact ⟨rfl, 0, _, by rw [alloc_eq_grow, alloc_eq_grow, grow_grow]; rfl⟩
theorem cmpLays (blk off size : Nat) (w : World) : CmpLays Tryz.prog 60 #[] Rt.cells 4 cmpR blk off size w :=
  fun _ _ _ _ x y => cmp_any x y _

theorem below_sorted (w : World) (blk off n : Nat) (d : Array Rt) (os : Array Obj) (B : Nat) (hB : B <= blk) (hw : B <= w.heap.size) : RowKit.Below B w (sortWorldK Rt.cells 4 w blk off n d os) := by
  refine ⟨rfl, rfl, rfl, size_sortWorldK_c Rt.cells 4 w blk off n d os, fun k hk => ?_⟩
  show (w.heap.modify blk _ ++ os)[k]? = w.heap[k]?
  rw [Array.getElem?_append_left (by simp; omega), Array.getElem?_modify, if_neg (by omega)]

theorem rowOf_get (l : List Rt) (i c : Nat) (hi : i < l.length) (hc : c < 4) : (rowOf l)[i * 4 + c]? = (Rt.cells l[i])[c]? := by
  induction l generalizing i with
  | nil => simp at hi
  | cons r l ih =>
    have e : rowOf (r :: l) = r.cells ++ rowOf l := by simp [rowOf]
    rw [e]
    cases i with
    | zero =>
      rw [List.getElem?_append_left (by simp [Rt.cells]; omega)]; simp
    | succ i =>
      rw [List.getElem?_append_right (by simp [Rt.cells]; omega)]
      have := ih i (by simpa using hi)
      rw [show (i + 1) * 4 + c - r.cells.length = i * 4 + c by simp [Rt.cells]; omega, this]; simp
theorem flat_get (l : List Rt) (t : Nat) (h : t < l.length * 4) : (rowOf l)[t]? = some ((flatK Rt.cells 4 l.toArray)[t]!) := by
  have hd : t / 4 < l.length := by omega
  have hm : t % 4 < 4 := Nat.mod_lt _ (by omega)
  rw [get_flatK _ _ _ _ (by simpa using h)]
  have e : t = t / 4 * 4 + t % 4 := by omega
  conv => lhs; rw [e]
  rw [rowOf_get l (t / 4) (t % 4) hd hm]
  have e2 : l.toArray[t / 4]! = l[t / 4] := by simp [hd]
  rw [e2]
  have hlen : (Rt.cells l[t / 4]).length = 4 := rfl
  rw [List.getElem?_eq_getElem (by omega), getElem!_pos _ _ (by omega)]
theorem holds_own {W : World} {base g n cap : Nat} {l : List Rt} (h : W.ownsRow base 59 4 (.slice (some ⟨g, 0, none⟩) n cap) n (rowOf l)) (hn : n = l.length) : HoldsK Rt.cells 4 W g 0 l.toArray := by
  subst hn
  rcases h.2 with ⟨e, _⟩ | ⟨g', cap', cur, e, _, hg, hle, _, hsz, htk⟩
  · cases e
  · simp only [Value.slice.injEq, Option.some.injEq, Addr.mk.injEq, and_true, true_and] at e
    obtain ⟨rfl, rfl⟩ := e
    intro j hj
    have hj' : j < l.length * 4 := by simpa using hj
    refine ⟨?_, ?_⟩
    · rw [Nat.zero_add, cell_of_row _ _ _ _ _ _ hg, id]
      have hf := flat_get l j hj'
      rw [<- htk, List.getElem?_take, if_pos hj'] at hf
      simpa using hf
    · rw [Nat.zero_add]; exact frozen_of_row _ _ _ _ _ hg
theorem ratesAt_holds {W : World} {g B : Nat} {l : List Rt} (h : HoldsK Rt.cells 4 W g 0 l.toArray) (hB : g < B) : RatesAt W B (some ⟨g, 0, none⟩) l := by
  refine .inr ⟨g, 0, rfl, hB, fun k hk => ?_⟩
  have hc : ∀ c, c < 4 -> W.cell? ⟨g, 0 + k * 4 + c, none⟩ = (Rt.cells l[k])[c]? := fun c hc => by
    have h1 := (h (k * 4 + c) (by simp; omega)).1
    rw [Nat.zero_add] at h1 ⊢
    rw [h1, id, <- flat_get l (k * 4 + c) (by omega), rowOf_get l k c hk hc]
  exact ⟨hc 0 (by omega), hc 1 (by omega), hc 2 (by omega), hc 3 (by omega)⟩

theorem sorted_list (l : List Rt) (d : Array Rt) (hp : PermIn 0 l.toArray.size l.toArray d) (hs : SortedIn (ltOf cmpR) 0 l.toArray.size d) : d.toList.Perm l /\ d.toList.Pairwise (fun x y => x.when_ <= y.when_) := by
  obtain ⟨h1, _, h3⟩ := hp
  have e1 : d.extract 0 l.toArray.size = d := by rw [<- h1]; simp
  have e2 : l.toArray.extract 0 l.toArray.size = l.toArray := by simp
  rw [e1, e2] at h3
  refine ⟨by simpa using h3, ?_⟩
  rw [List.pairwise_iff_getElem]
  intro i j hi hj hij
  have hi' : i < d.size := by simpa using hi
  have hj' : j < d.size := by simpa using hj
  have := hs i j (Nat.zero_le _) hij (by omega)
  rw [ltR, getElem!_pos d i hi', getElem!_pos d j hj'] at this
  simp only [decide_eq_false_iff_not] at this
  simp only [Array.getElem_toList]
  exact Int.not_lt.1 this

theorem isAggR : ∀ w, (isAgg 59).run Tryz.prog w = .ok true w := fun w => by kernel_rfl
theorem sizeOfR : ∀ w, (Go.sizeOf 59).run Tryz.prog w = .ok 4 w := fun w => by kernel_rfl

section
variable (w : World)
theorem sortFunc_any (base g cap : Nat) (l : List Rt) (hl : l.length <= 1000) (h : w.ownsRow base 59 4 (.slice (some ⟨g, 0, none⟩) l.length cap) l.length (rowOf l)) (hb : base <= g) :
    Calls Tryz.prog 88 #[.slice (some ⟨g, 0, none⟩) l.length cap, .func (.func 60) #[] #[]] w fun e w' =>
      e = .returned (.tuple #[]) /\ RowKit.Below (min base w.heap.size) w w' /\ ∃ s : List Rt, s.Perm l /\ s.Pairwise (fun x y => x.when_ <= y.when_) /\ RatesAt w' w'.heap.size (some ⟨g, 0, none⟩) s := by
  have hH := holds_own h rfl
  have hg : g < w.heap.size := by
    rcases h.2 with ⟨e, _⟩ | ⟨g', cap', cur, e, _, hg, _⟩
    · cases e
    · simp only [Value.slice.injEq, Option.some.injEq, Addr.mk.injEq, and_true, true_and] at e
      rw [e.1]; exact (Array.getElem?_eq_some_iff.1 hg).1
  have hcon := AnyQ.slices_SortFunc Tryz.sortRt 4 isAggR sizeOfR Rt.cells (fun _ => rfl) (fun x v hv => by simp [Rt.cells] at hv; rcases hv with rfl | rfl | rfl | rfl <;> rfl) cmpR swoR 60 #[] g 0 cap l.toArray w
    (enters_of Tryz.func60 (by kernel_rfl) rfl) (cmpLays g 0 _ w) hH hg (by simp; omega)
  change Calls Tryz.prog 88 _ _ _ at hcon
  have hsz : l.toArray.size = l.length := by simp
  rw [hsz] at hcon
  refine hcon.mono ?_
  rintro e w' ⟨rfl, d, n, os, hp, hs, rfl⟩
  obtain ⟨p1, p2⟩ := sorted_list l d (by rw [hsz]; exact hp) (by rw [hsz]; exact hs)
  refine ⟨rfl, below_sorted w g 0 n d os _ (by omega) (by omega), d.toList, p1, p2, ?_⟩
  have hH2 := holdsK_sortWorldK_c Rt.cells 4 w g 0 l.toArray d n os hH hg (by simpa using hp.1)
  exact ratesAt_holds (by simpa using hH2) (Nat.lt_of_lt_of_le hg (size_sortWorldK_c Rt.cells 4 w g 0 n d os))

theorem insertion_none : Calls Tryz.prog 119 #[.slice none 0 0, .int .i64 0, .int .i64 0, .func (.func 60) #[] #[]] w fun e w' => e = .returned (.tuple #[]) /\ w = w' := by
  go_enter Tryz.func119, Tryz.ntmps119
  go_wp2
  go_loop [8] (fun i => i = .int .i64 1) (fun _ => 0)
  case atStart => rfl
  case round =>
    obtain rfl := hrel
    go_wp2
    go_end0
    exact ⟨rfl, rfl⟩
theorem pdq_none (lim : Int) : Calls Tryz.prog 106 #[.slice none 0 0, .int .i64 0, .int .i64 0, .int .i64 lim, .func (.func 60) #[] #[]] w fun e w' => e = .returned (.tuple #[]) /\ w = w' := by
  go_enter Tryz.func106, Tryz.ntmps106
  go_wp2
  go_loop [1, 2] (fun a b => a = .int .i64 0 /\ b = .int .i64 0) (fun _ _ => 0)
  case atStart => exact ⟨rfl, rfl⟩
  case round =>
    obtain ⟨rfl, rfl⟩ := hrel
    go_wp2_with (go_at_call 119; refine (insertion_none _).mono ?_; rintro e w' ⟨rfl, rfl⟩)
    first | go_end0 | refine bodyPost_ret (results_none rfl _ _ _) rfl ?_
    exact ⟨rfl, rfl⟩
theorem bitsLen0 : Calls Tryz.prog 107 #[.int .u64 0] w fun e w' => e = .returned (.int .i64 0) /\ w = w' := by
  have h := Any.bits_Len Tryz.bitsLen 0 w (by omega) (by omega)
  change Calls Tryz.prog 107 _ _ _ at h
  exact h.mono fun e w' ⟨he, hw⟩ => ⟨he, hw.symm⟩
theorem sortFunc_none : Calls Tryz.prog 88 #[.slice none 0 0, .func (.func 60) #[] #[]] w fun e w' => e = .returned (.tuple #[]) /\ w = w' := by
  go_enter Tryz.func88, Tryz.ntmps88
  go_wp2_with (first | (go_at_call 107; refine (bitsLen0 _).mono ?_; rintro e w' ⟨rfl, rfl⟩) | (go_at_call 106; refine (pdq_none _ _).mono ?_; rintro e w' ⟨rfl, rfl⟩))
  go_end0
  exact ⟨rfl, rfl⟩

theorem sortedFunc_any (B : Nat) (A : Option Addr) (n c : Nat) (rs : List Rt) (cur : ByteArray) (a b : Int) (hl : rs.length = n) (hn : n <= 1000) (hB : B + 3 < w.heap.size)
    (c0 : w.cell? ⟨B, 0, none⟩ = some (.slice A n c)) (c1 : w.cell? ⟨B + 1, 0, none⟩ = some (.string cur)) (c2 : w.cell? ⟨B + 2, 0, none⟩ = some (.int .i64 a)) (c3 : w.cell? ⟨B + 3, 0, none⟩ = some (.int .i64 b)) (h : RatesAt w w.heap.size A rs) :
    Calls Tryz.prog 59 #[.func (.func 83) #[] #[.pointer (some ⟨B, 0, none⟩), .pointer (some ⟨B + 1, 0, none⟩), .pointer (some ⟨B + 2, 0, none⟩), .pointer (some ⟨B + 3, 0, none⟩)], .func (.func 60) #[] #[]] w fun e w' =>
      RowKit.Below w.heap.size w w' /\ ∃ (A' : Option Addr) (c' : Nat) (s : List Rt), e = .returned (.slice A' s.length c') /\ s.Perm (rs.filter (Rates.sel cur a b)) /\ s.Pairwise (fun x y => x.when_ <= y.when_) /\ RatesAt w' w'.heap.size A' s := by
  have H := Lib.hid (collect_any w B A n c rs cur a b hl hn hB c0 c1 c2 c3 h)
  clear c0 c1 c2 c3 h
  have hlen : (rs.filter (Rates.sel cur a b)).length <= 1000 := Nat.le_trans (List.length_filter_le _ _) (by omega)
  obtain ⟨l, hle⟩ : ∃ l, rs.filter (Rates.sel cur a b) = l := ⟨_, rfl⟩
  rw [hle] at H hlen ⊢
  clear hle
  go_enter Tryz.func59, Tryz.ntmps59
  go_wp2_with (fail)
  refine H.out.mono ?_
  rintro e w1 ⟨v, rfl, ho, hB1⟩
  have hcases : (v = .slice none 0 0 /\ l = []) ∨ ∃ g cap, v = .slice (some ⟨g, 0, none⟩) l.length cap /\ w.heap.size <= g := by
    rcases ho.2 with ⟨e, h0⟩ | ⟨g, cap, cur', e, hb, _⟩
    · exact .inl ⟨e, List.length_eq_zero_iff.1 h0⟩
    · exact .inr ⟨g, cap, e, hb⟩
  rcases hcases with ⟨rfl, rfl⟩ | ⟨g, cap, rfl, hb⟩
  · go_wp2_with (go_at_call 88; refine (sortFunc_none _).mono ?_; rintro e w' ⟨rfl, rfl⟩)
    go_ret
    exact ⟨hB1, none, 0, [], rfl, List.Perm.refl _, List.Pairwise.nil, .inl rfl⟩
  · have Ho := Lib.hid ho
    clear ho
    go_wp2_with (fail)
    refine (sortFunc_any _ _ g cap l hlen Ho.out hb).mono ?_
    rintro e w2 ⟨rfl, hB2, s, p1, p2, p3⟩
    have hsl := Lib.hid p1.length_eq
    go_wp2
    go_ret
    exact ⟨hB1.trans (hB2.mono (by have := hB1.size; omega)), _, cap, s, by rw [hsl.out]; rfl, p1, p2, p3⟩
end
end Go.Proofs.YtalfikdjclineaaGreatDoor
