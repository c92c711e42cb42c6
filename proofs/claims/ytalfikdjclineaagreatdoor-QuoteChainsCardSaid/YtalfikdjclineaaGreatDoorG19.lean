/- My texts Which. -/
import Derived.Test.YtalfikdjclineaaGreatDoorG18
set_option linter.unusedVariables false
set_option linter.unusedSimpArgs false
set_option maxRecDepth 100000
set_option maxHeartbeats 8000000
namespace Go.Proofs.YtalfikdjclineaaGreatDoor
open Go.RowKit Go.Shelf

attribute [local go_sem] Oper.semAt_some

theorem wpListIn_load_row {F : Fence} {n : Nat} {P : Program} {ops : Array Oper} {rest : List Oper} {o : Oper} {a : Act} {w : World} {Q : Exit -> Act -> World -> Prop} (hgd : o.guard = none) (ty : TypeId) (x : Operand) (ho : o.op = .load ty x)
    (g : Nat) (hx : a.eval x = .pointer (some ⟨g, 0, none⟩)) (t : TypeId) (cs : Array Value) (fr : Nat × Nat) (d : TypeDesc) (hg : w.heap[g]? = some (.cells cs t fr))
    (hu : P.underlying ty = some d) (hd : (match d with | .struct _ | .array _ _ => true | _ => false) = true) (hi : (P.info? ty).map (·.size) = some cs.size)
    (h : wpListIn F n P ops Q rest (a.put o.dst (.agg cs)) w) : wpListIn F n P ops Q (o :: rest) a w := by
  refine wpListIn_plain hgd fun K hK => ?_
  unfold Oper.wpIn
  refine ⟨?_, ?_⟩
  · simp [Oper.about, ho]
  · rw [Oper.semAt_plain F _ _ (by rw [ho]; intro c hc'; cases hc')]
    unfold execOp
    simp only [ho, hx, Instr.loadAt, Instr.sureAddr, Sem.run_bind, Sem.run_pure, Result.andThen_ok, run_loadVar_row w g t ty cs fr d hg hu hd hi]
    exact hK _ _ h

theorem heap_alloc3_new (w : World) (X Y Z : Obj) : (((w.alloc X).alloc Y).alloc Z).heap[w.heap.size + 1 + 1]? = some Z := by
  have h := heap_alloc_new ((w.alloc X).alloc Y) Z
  rwa [World.size_alloc, World.size_alloc] at h

theorem row_own {β : Type} (L : Nat) (t : TypeId) (f : β -> Array Value) : Own (fun (s : β) W => Row W L t (f s)) := fun s X Y row hs hg hrow =>
  (hg.block L (Array.getElem?_eq_some_iff.1 hs).1 (fun e => by obtain ⟨o, ho, hc⟩ := hrow L e.symm; rw [show X.heap[L]? = _ from hs] at ho; cases ho; cases hc)).trans hs
theorem Row.other {w : World} {g : Nat} {t : TypeId} {cs : Array Value} (h : Row w g t cs) (p : Addr) (hp : g ≠ p.block) (u : Value) : Row (w.setCell p u) g t cs := (Below.heap_setCell w p u g hp).trans h
theorem Row.putObj {w : World} {g : Nat} {t : TypeId} {cs : Array Value} (h : Row w g t cs) (D : Nat) (o : Obj) (hD : g ≠ D) : Row (w.putObj D o) g t cs := (World.putObj_heap_other hD).trans h
theorem Row.below {w w' : World} {B g : Nat} {t : TypeId} {cs : Array Value} (h : Row w g t cs) (hb : Below B w w') (hB : g < B) : Row w' g t cs := (hb.block g hB).trans h

theorem results_row_tmp {P : Program} {fn : Func} {p t : Tmp} {ty : TypeId} (h : fn.results = #[.cell p ty, .tmp t]) (tmps : Array Value) (w : World) (g : Nat) (tt : TypeId) (cs : Array Value) (fr : Nat × Nat) (d : TypeDesc)
    (hp : tmps.getD p undef = .pointer (some ⟨g, 0, none⟩)) (hg : w.heap[g]? = some (.cells cs tt fr))
    (hu : P.underlying ty = some d) (hd : (match d with | .struct _ | .array _ _ => true | _ => false) = true) (hi : (P.info? ty).map (·.size) = some cs.size) :
    (results fn tmps).run P w = .ok (.tuple #[.agg cs, tmps.getD t undef]) w := by
  have hp' : tmps[p]?.getD undef = .pointer (some ⟨g, 0, none⟩) := by simpa using hp
  simp [results, h, hp', asAddr, run_loadVar_row w g tt ty cs fr d hg hu hd hi]
theorem rsize : (Tryz.prog.info? 59).map (·.size) = some 4 := by kernel_rfl
theorem deferred_set {W : World} {D g i : Nat} {u : Value} {o : Obj} (h : W.heap[D]? = some o) (hne : D ≠ g) : (W.setCell ⟨g, i, none⟩ u).heap[D]? = some o := (Below.heap_setCell W ⟨g, i, none⟩ u D hne).trans h

theorem spots_stops (ws : World) (L m : Nat) (hm : 1 <= m) (A : Option Addr) (n c : Nat) (rs : List Rt) (cur : ByteArray) (a b : Int) (hl : rs.length = n) (hn : n <= 100000) (q : Nat) (hqL : q <= L) (hws : ws.heap.size = L + 5)
    (c0 : ws.cell? ⟨L + 1, 0, none⟩ = some (.slice A n c)) (c1 : ws.cell? ⟨L + 2, 0, none⟩ = some (.string cur)) (c2 : ws.cell? ⟨L + 3, 0, none⟩ = some (.int .i64 a)) (c3 : ws.cell? ⟨L + 4, 0, none⟩ = some (.int .i64 b)) (h : RatesAt ws q A rs) :
    SeqStopsK Fence.wide m Tryz.prog 83 #[.pointer (some ⟨L + 1, 0, none⟩), .pointer (some ⟨L + 2, 0, none⟩), .pointer (some ⟨L + 3, 0, none⟩), .pointer (some ⟨L + 4, 0, none⟩)] encR
      (fun W W' => KeepBut (L + 5) (some L) W W' /\ W.heap.size <= W'.heap.size) (fun ys => ys = rs.filter (Rates.sel cur a b)) (fun _ => True) rs.length ws := fun l J Jx W hW hJ _ hY h0 =>
  spots1_in m hm l (L + 5) (some L) (L + 1) (L + 2) (L + 3) (L + 4) A n c rs cur a b hl hn q (by omega) (fun x e => by cases e; exact hqL) (by omega) (by omega) (by omega) (by simp) (by simp) (by simp)
    J Jx W (by have := hW.size; omega) hJ hY ((hW.cell (p := ⟨L + 1, 0, none⟩) (by rw [hws]; show L + 1 < _; omega)).trans c0) ((hW.cell (p := ⟨L + 2, 0, none⟩) (by rw [hws]; show L + 2 < _; omega)).trans c1)
    ((hW.cell (p := ⟨L + 3, 0, none⟩) (by rw [hws]; show L + 3 < _; omega)).trans c2) ((hW.cell (p := ⟨L + 4, 0, none⟩) (by rw [hws]; show L + 4 < _; omega)).trans c3) (h.below hW (by omega)) h0

section
variable (w : World)
theorem Rates.errQ_cases (g : ByteArray) (rs : List Rt) (cur : ByteArray) (d : Int) :
    (Rates.errQ g rs cur d ≠ 0 /\ (Rates.errQ g rs cur d != 0) = true /\ Rates.whichR g rs cur d = (Rt.zero, Rates.errQ g rs cur d)) ∨
    (Rates.errQ g rs cur d = 0 /\ -25567 <= d /\ d <= 84005 /\ (cur.toList == g.toList) = true /\ Rates.whichR g rs cur d = (⟨cur, 1, d, 1000000⟩, 0)) ∨
    (Rates.errQ g rs cur d = 0 /\ -25567 <= d /\ d <= 84005 /\ (cur.toList == g.toList) = false /\ Rates.whichR g rs cur d = match Rates.which rs cur d with | some r => (r, 0) | none => (Rt.zero, 13)) := by
  by_cases h : Rates.errQ g rs cur d = 0
  · have hd : -25567 <= d /\ d <= 84005 := by
      unfold Rates.errQ Rates.dateB at h
      by_cases h1 : Rates.valid g rs = true /\ Rates.isCur cur = true
      · rw [if_pos h1] at h
        by_cases h2 : -25567 <= d /\ d <= 84005
        · exact h2
        · rw [decide_eq_false h2] at h; simp at h
      · rw [if_neg h1] at h; simp at h
    right
    unfold Rates.whichR
    rw [if_pos h]
    cases h3 : (cur.toList == g.toList)
    · right; exact ⟨h, hd.1, hd.2, rfl, rfl⟩
    · left; exact ⟨h, hd.1, hd.2, rfl, rfl⟩
  · left
    unfold Rates.whichR
    rw [if_neg h]
    exact ⟨h, by simpa using h, rfl⟩

theorem dwhich_any (g : Grp) (A : Option Addr) (n c : Nat) (rs : List Rt) (cur : ByteArray) (d : Int) (hl : rs.length = n) (hn : n <= 1000) (hg : g.gc.size <= maxLen) (hcu : cur.size <= maxLen) (hr : ∀ r ∈ rs, r.wf) (h : RatesAt w w.heap.size A rs) :
    Calls Tryz.prog 29 #[.agg #[.string g.gc, .int .i64 g.Y, .int .i64 g.M, .int .i64 g.N, g.x0, g.x1, g.x2, g.x3, g.x4, g.x5, g.x6, g.x7, g.x8, g.x9, g.x10, g.x11, g.x12, g.x13, g.x14, g.x15, g.x16], .slice A n c, .string cur, .int .i64 d] w fun e w' => e = .returned (.tuple #[(Rates.whichR g.gc rs cur d).1.v, .int .i64 (Rates.whichR g.gc rs cur d).2]) /\ Below w.heap.size w w' := by
  have HR := Lib.hid (((h.start (.cells #[.string g.gc, .int .i64 g.Y, .int .i64 g.M, .int .i64 g.N, g.x0, g.x1, g.x2, g.x3, g.x4, g.x5, g.x6, g.x7, g.x8, g.x9, g.x10, g.x11, g.x12, g.x13, g.x14, g.x15, g.x16] 29)).start (.cells #[.string ByteArray.empty, .int .i64 0, .int .i64 0, .int .i64 0] 59)).start (.cells #[.string cur] 9))
  have H := Lib.hid h
  clear h
  have hG := heap_alloc2_old w (.cells #[.string g.gc, .int .i64 g.Y, .int .i64 g.M, .int .i64 g.N, g.x0, g.x1, g.x2, g.x3, g.x4, g.x5, g.x6, g.x7, g.x8, g.x9, g.x10, g.x11, g.x12, g.x13, g.x14, g.x15, g.x16] 29) (.cells #[.string ByteArray.empty, .int .i64 0, .int .i64 0, .int .i64 0] 59)
  have hZ := heap_alloc2_new w (.cells #[.string g.gc, .int .i64 g.Y, .int .i64 g.M, .int .i64 g.N, g.x0, g.x1, g.x2, g.x3, g.x4, g.x5, g.x6, g.x7, g.x8, g.x9, g.x10, g.x11, g.x12, g.x13, g.x14, g.x15, g.x16] 29) (.cells #[.string ByteArray.empty, .int .i64 0, .int .i64 0, .int .i64 0] 59)
  have hB0 := (((Below.refl w.heap.size w).alloc (Nat.le_refl _) (.cells #[.string g.gc, .int .i64 g.Y, .int .i64 g.M, .int .i64 g.N, g.x0, g.x1, g.x2, g.x3, g.x4, g.x5, g.x6, g.x7, g.x8, g.x9, g.x10, g.x11, g.x12, g.x13, g.x14, g.x15, g.x16] 29)).alloc (by simp) (.cells #[.string ByteArray.empty, .int .i64 0, .int .i64 0, .int .i64 0] 59)).alloc (by simp; omega) (.cells #[.string cur] 9)
  rcases Rates.errQ_cases g.gc rs cur d with ⟨h1, h2, e⟩ | ⟨h1, h2, h2', h3, e⟩ | ⟨h1, h2, h2', h3, e⟩
  all_goals
    have E := Lib.hid e
    clear e
    refine callsIn_wide.1 (callsIn_of_wp_marks (F := Fence.wide) (n := 8) Tryz.func29 rfl trivial ?_ rfl)
    simp only [Tryz.ntmps29, List.size_toArray, List.length_cons, List.length_nil, Nat.reduceAdd, Nat.reduceSub, Array.replicate_succ, Array.replicate_zero, List.push_toArray, List.append_toArray, List.nil_append, List.cons_append]
    gi_wp2_with (refine wpListIn_load_row rfl 29 _ rfl _ rfl _ _ _ _ hG Tryz.underlying29 rfl gsize ?_)
    refine ⟨trivial, callsIn_wide.2 ((check_any _ _ _ _ _ _ _ rs cur d hl (by omega) hg hcu hr HR.out (by simp) ?_).mono ?_)⟩
    · rw [cell_of_row _ _ _ _ _ _ (heap_alloc3_new _ _ _ _)]; rfl
    rintro e w4 ⟨rfl, hB⟩
    have hB1 := hB0.trans (hB.mono (by simp; omega))
    have hz1 := hB.size
    simp at hz1
    have hG4 := gbox (heap_alloc_old _ (.cells #[.string cur] 9) _ (by simp; omega) |>.trans hG) hB (by simp; omega)
    have hZ4 := gbox (heap_alloc_old _ (.cells #[.string cur] 9) _ (by simp) |>.trans hZ) hB (by simp)
    have hc4 := cell_of_row _ _ 0 _ _ _ hG4
    have hq4 : w.heap.size + 1 < w4.heap.size := by omega
    have z0 := cell_of_row _ _ 0 _ _ _ hZ4
    have z1 := cell_of_row _ _ 1 _ _ _ hZ4
    have z2 := cell_of_row _ _ 2 _ _ _ hZ4
    have z3 := cell_of_row _ _ 3 _ _ _ hZ4
    have zf := fun j => frozen_of_row _ _ j _ _ hZ4
    simp at z0 z1 z2 z3 hc4
    clear hG hZ
  · gi_wp2
    refine ⟨.tuple #[Rt.zero.v, .int .i64 (Rates.errQ g.gc rs cur d)], by simp [results, Tryz.results29, go_sem, Rt.v, Rt.zero, z0, z1, z2, z3]; try rfl, by rw [E.out], ?_⟩
    exact (((hB1.setCell (by simp) _).setCell (by simp) _).setCell (by simp) _).setCell (by simp) _
  · rw [h1]
    gi_wp2
    refine ⟨.tuple #[(Rt.mk cur 1 d 1000000).v, .int .i64 0], by simp [results, Tryz.results29, go_sem, Rt.v, z0, z1, z2, z3], by rw [E.out], ?_⟩
    exact (((hB1.setCell (by simp) _).setCell (by simp) _).setCell (by simp) _).setCell (by simp) _
  · rw [h1]
    gi_wp2
    refine ⟨trivial, callsIn_wide.2 ((spots_any _ _ _ _ _ _ _).mono ?_)⟩
    rintro e w5 ⟨rfl, rfl⟩
    gi_wp2
    obtain ⟨L, hLe⟩ : ∃ L, w4.heap.size = L := ⟨_, rfl⟩
    have hR0 := H.out.below hB1 (Nat.le_refl _)
    have hLw := hB1.size
    obtain ⟨ws, hws⟩ : ∃ ws, ((((w4.alloc (.cells #[.string ⟨#[]⟩, .int .i64 0, .int .i64 0, .int .i64 0, .bool false] 114)).alloc (.cells #[.slice A n c] 30)).alloc (.cells #[.string cur] 9)).alloc (.cells #[.int .i64 (d - 40)] 3)).alloc (.cells #[.int .i64 d] 3) = ws := ⟨_, rfl⟩
    have hwb : Below w4.heap.size w4 ws := by rw [<- hws]; exact (((((Below.refl _ w4).alloc (Nat.le_refl _) _).alloc (by simp) _).alloc (by simp; omega) _).alloc (by simp; omega) _).alloc (by simp; omega) _
    have hsz : ws.heap.size = L + 5 := by rw [<- hws, <- hLe]; simp
    have b0 : ws.cell? ⟨L + 1, 0, none⟩ = some (.slice A n c) := by rw [<- hws, <- hLe]; simp [go_sem]
    have b1 : ws.cell? ⟨L + 2, 0, none⟩ = some (.string cur) := by rw [<- hws, <- hLe]; simp [go_sem]
    have b2 : ws.cell? ⟨L + 3, 0, none⟩ = some (.int .i64 (d - 40)) := by rw [<- hws, <- hLe]; simp [go_sem]
    have b3 : ws.cell? ⟨L + 4, 0, none⟩ = some (.int .i64 d) := by rw [<- hws, <- hLe]; simp [go_sem]
    have bL : Row ws L 114 (latC none) := by
      rw [<- hws, <- hLe]
      exact (((Row.alloc (heap_alloc_new w4 (.cells (latC none) 114)) _).alloc _).alloc _).alloc _
    rw [hws]
    simp only [hLe]
    have hL1 : L <= w4.heap.size := Nat.le_of_eq hLe.symm
    have hL2 : w4.heap.size <= L := Nat.le_of_eq hLe
    replace hLw : w.heap.size <= L := by omega
    replace hwb : Below L w4 ws := hLe ▸ hwb
    clear hLe
    refine wpIn_rangeFunc_ownH rfl (by omega : 1 <= 8) (gf := 83) (lb := #[.pointer (some ⟨L + 1, 0, none⟩), .pointer (some ⟨L + 2, 0, none⟩), .pointer (some ⟨L + 3, 0, none⟩), .pointer (some ⟨L + 4, 0, none⟩)]) rfl trivial (enters_of Tryz.func83 (by kernel_rfl) rfl)
      (spots_stops ws L 7 (by omega) A n c rs cur (d - 40) d hl (by omega) w.heap.size hLw hsz b0 b1 b2 b3 (hR0.below hwb hLw))
      (fun h k => ⟨h.1.trans k.1, Nat.le_trans h.2 k.2⟩) (fun W l o o' h1 h2 h3 h4 => ⟨KeepBut.putObj (n := L + 5) (w := ws) (by omega) W l o o' h1 h2 h3 h4, by simp [World.putObj]⟩) (Below.refl _ _) (fun _ => rfl)
      (fun pre W => Row W L 114 (latC (pre.foldl Rates.see none)) /\ Below L w4 W /\ L + 5 <= W.heap.size) (fun _ _ _ => False)
      (OwnFrom.and (Own.from (row_own L 114 (fun pre : List Rt => latC (pre.foldl Rates.see none))) _) (OwnFrom.and (ownFrom_below (by omega) (by omega)) (fun _ _ _ _ hs hg _ => Nat.le_trans hs hg.size))) (fun _ _ _ _ _ hs _ _ => hs)
      ⟨bL, hwb, by omega⟩
      (fun x a' W => ∃ Bx, L + 5 <= Bx /\ Row W Bx 59 #[.string x.cur, .int .i64 x.kind, .int .i64 x.when_, .int .i64 x.val] /\ a' = { tmps := #[.agg #[.string g.gc, .int .i64 g.Y, .int .i64 g.M, .int .i64 g.N, g.x0, g.x1, g.x2, g.x3, g.x4, g.x5, g.x6, g.x7, g.x8, g.x9, g.x10, g.x11, g.x12, g.x13, g.x14, g.x15, g.x16], .slice A n c, .string cur, .int .i64 d, .pointer (some ⟨w.heap.size, 0, none⟩), undef, undef, undef, .pointer (some ⟨w.heap.size + 1, 0, none⟩), .int .i64 0, .int .i64 0, .pointer (some ⟨L, 0, none⟩), .pointer (some ⟨Bx, 0, none⟩), .agg #[.string g.gc, .int .i64 g.Y, .int .i64 g.M, .int .i64 g.N, g.x0, g.x1, g.x2, g.x3, g.x4, g.x5, g.x6, g.x7, g.x8, g.x9, g.x10, g.x11, g.x12, g.x13, g.x14, g.x15, g.x16], .slice A n c, .int .i64 d, .string cur, .slice (some ⟨w.heap.size + 1 + 1, 0, none⟩) 1 1, .int .i64 0, .int .i64 0, .bool false, undef, undef, .string cur, .pointer (some ⟨w.heap.size, 0, none⟩), .string g.gc, .bool false, undef, undef, undef, .slice A n c, .string cur, .int .i64 d, .int .i64 (d - 40), .int .i64 d, .func (.func 83) #[] #[.pointer (some ⟨L + 1, 0, none⟩), .pointer (some ⟨L + 2, 0, none⟩), .pointer (some ⟨L + 3, 0, none⟩), .pointer (some ⟨L + 4, 0, none⟩)], .agg #[.string x.cur, .int .i64 x.kind, .int .i64 x.when_, .int .i64 x.val], undef, undef, undef, undef, undef, undef, undef, undef], defers := [] })
      ?hAx ?assign ?body ?done ?stop
    case hAx =>
      rintro x a' _ X Y row ⟨Bx, k1, k2, k3⟩ hg hrow
      exact ⟨Bx, k1, (hg.block Bx (Array.getElem?_eq_some_iff.1 k2).1 (fun e => by obtain ⟨_, o, ho, hc⟩ := hrow Bx e.symm; rw [show X.heap[Bx]? = _ from k2] at ho; cases ho; cases hc)).trans k2, k3⟩
    case assign =>
      rintro l pre x W K ⟨i1, i2, i3⟩ hK
      dsimp only [encR]
      gi_wp2
      exact hK _ _ ((KeepsOthers.alloc _ _).from _) ⟨(KeepBut.refl _ _ _).alloc i3 _, by simp⟩ ⟨i1.alloc _, i2.alloc (by omega) _, by simp; omega⟩ ⟨W.heap.size, i3, heap_alloc_new W _, rfl⟩
    case body =>
      rintro l pre x a' W hl' ⟨r, hr'⟩ ⟨i1, i2, i3⟩ ⟨Bx, k1, k2, rfl⟩ hlt
      have x0 := cell_of_row _ _ 0 _ _ _ k2
      have x1 := cell_of_row _ _ 1 _ _ _ k2
      have x2 := cell_of_row _ _ 2 _ _ _ k2
      have x3 := cell_of_row _ _ 3 _ _ _ k2
      simp at x0 x1 x2 x3
      gi_wp2
      refine ⟨trivial, CallsIn.inRound l (callsIn_wide.2 ((see_any W L _ x i1).mono ?_))⟩
      rintro e W2 ⟨rfl, hg2, hRow2⟩
      gi_wp2
      exact ⟨KeepsFrom.of_grownBy hg2 (fun j e => by cases e; omega), ⟨fun b hb hne => hg2.block b (by omega) hne, hg2.size⟩, by rw [List.foldl_append]; exact hRow2, i2.grown hg2 (by omega) (fun k e => by cases e; exact Nat.le_refl _), Nat.le_trans i3 hg2.size⟩
    case done =>
      rintro D ys W hD rfl ⟨i1, i2, i3⟩ hK
      have hBW := hB1.trans (i2.mono (by omega))
      have hZW : Row W (w.heap.size + 1) 59 _ := Row.below hZ4 i2 (by omega)
      clear z0 z1 z2 z3 zf hZ4
      have z0 := cell_of_row _ _ 0 _ _ _ hZW
      have z1 := cell_of_row _ _ 1 _ _ _ hZW
      have z2 := cell_of_row _ _ 2 _ _ _ hZW
      have z3 := cell_of_row _ _ 3 _ _ _ hZW
      have zf := fun j => frozen_of_row _ _ j _ _ hZW
      simp at z0 z1 z2 z3
      have hres := E.out
      unfold Rates.which at hres
      cases hacc : (rs.filter (Rates.sel cur (d - 40) d)).foldl Rates.see none with
      | none =>
        rw [hacc] at hres i1
        have E2 := Lib.hid hres
        clear hres
        have l4 := cell_of_row _ _ 4 _ _ _ i1
        simp [latC] at l4
        clear hacc
        gi_wp2
        have hK' := deferred_set (g := w.heap.size + 1) (i := 3) (u := .int .i64 0) (deferred_set (g := w.heap.size + 1) (i := 2) (u := .int .i64 0) (deferred_set (g := w.heap.size + 1) (i := 1) (u := .int .i64 0) (deferred_set (g := w.heap.size + 1) (i := 0) (u := .string ⟨#[]⟩) hK (by omega)) (by omega)) (by omega)) (by omega)
        refine ⟨by simp, .inl ⟨_, _, rfl, run_takeDeferred hK', ⟨_, results_row_tmp rfl _ _ _ _ _ _ _ rfl (((((hZW.set 0 _).set 1 _).set 2 _).set 3 _).putObj D _ (by omega)) Tryz.underlying59 rfl rsize, by rw [E2.out]; rfl, ?_⟩⟩⟩
        exact ((((hBW.setCell (by simp) _).setCell (by simp) _).setCell (by simp) _).setCell (by simp) _).trans (belowK_b (w := ws) (by omega) _ D _ _ (by omega) hK' rfl rfl)
      | some x =>
        rw [hacc] at hres i1
        have E2 := Lib.hid hres
        clear hres
        have l0 := cell_of_row _ _ 0 _ _ _ i1
        have l1 := cell_of_row _ _ 1 _ _ _ i1
        have l2 := cell_of_row _ _ 2 _ _ _ i1
        have l3 := cell_of_row _ _ 3 _ _ _ i1
        have l4 := cell_of_row _ _ 4 _ _ _ i1
        simp [latC] at l0 l1 l2 l3 l4
        clear hacc
        gi_wp2
        have hK' := deferred_set (g := w.heap.size + 1) (i := 3) (u := .int .i64 x.val) (deferred_set (g := w.heap.size + 1) (i := 2) (u := .int .i64 x.when_) (deferred_set (g := w.heap.size + 1) (i := 1) (u := .int .i64 x.kind) (deferred_set (g := w.heap.size + 1) (i := 0) (u := .string x.cur) hK (by omega)) (by omega)) (by omega)) (by omega)
        refine ⟨by simp, .inl ⟨_, _, rfl, run_takeDeferred hK', ⟨_, results_row_tmp rfl _ _ _ _ _ _ _ rfl (((((hZW.set 0 _).set 1 _).set 2 _).set 3 _).putObj D _ (by omega)) Tryz.underlying59 rfl rsize, by rw [E2.out]; rfl, ?_⟩⟩⟩
        exact ((((hBW.setCell (by simp) _).setCell (by simp) _).setCell (by simp) _).setCell (by simp) _).trans (belowK_b (w := ws) (by omega) _ D _ _ (by omega) hK' rfl rfl)
    case stop =>
      rintro D c' pre W _ _ hx _
      exact hx.elim
end
end Go.Proofs.YtalfikdjclineaaGreatDoor
