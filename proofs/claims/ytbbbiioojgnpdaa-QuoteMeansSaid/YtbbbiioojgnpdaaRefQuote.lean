/- The walks of the reference of layer 17: Few, check, Which. -/
import Derived.Test.YtbbbiioojgnpdaaCheck
import Derived.Test.YtbbbiioojgnpdaaQuotePlain
namespace Go.Proofs.Ytbbbiioojgnpdaa
open Go.RowKit

def fewB (g : Grp) (rs : List Rt) : Bool := rs.all (fun r => decide (r.cur.size ≤ 20)) && decide (g.gc.size ≤ 20) && decide (rs.length ≤ 150)

theorem RatesAt.start {w : World} {A : Option Addr} {rs : List Rt} (h : RatesAt w w.heap.size A rs) (o : Obj) : RatesAt (w.alloc o) (w.alloc o).heap.size A rs :=
  (h.below ((Below.refl w.heap.size w).alloc (Nat.le_refl _) o) (Nat.le_refl _)).more (by simp)
theorem RatesAt.at_ {w w' : World} {B : Nat} {A : Option Addr} {rs : List Rt} (h : RatesAt w B A rs) (hb : Below B w w') (hB : B ≤ w.heap.size) : RatesAt w' w'.heap.size A rs :=
  (h.below hb (Nat.le_refl _)).more (Nat.le_trans hB hb.size)

section
variable (w : World)
set_option maxHeartbeats 1000000 in
theorem few_any (g : Grp) (A : Option Addr) (n c : Nat) (rs : List Rt) (hl : rs.length = n) (hn : n ≤ maxLen) (hg : g.gc.size ≤ maxLen) (hr : ∀ r ∈ rs, r.wf) (h : RatesAt w w.heap.size A rs) :
    Calls Try.prog 24 #[.agg #[.string g.gc, .int .i64 g.Y, .int .i64 g.M, .int .i64 g.N, g.x0, g.x1, g.x2, g.x3, g.x4, g.x5, g.x6, g.x7, g.x8, g.x9, g.x10, g.x11, g.x12, g.x13, g.x14, g.x15, g.x16], .slice A n c] w fun e w' => e = .returned (.bool (fewB g rs)) ∧ Below w.heap.size w w' := by
  subst hl
  unfold maxLen at hn hg
  go_enter Try.func24, Try.ntmps24
  go_wp2
  go_loopw [5] (fun i wr => ∃ k : Nat, k ≤ rs.length ∧ i = .int .i64 k ∧ (rs.take k).all (fun r => decide (r.cur.size ≤ 20)) = true ∧ w.alloc (.cells #[.string g.gc, .int .i64 g.Y, .int .i64 g.M, .int .i64 g.N, g.x0, g.x1, g.x2, g.x3, g.x4, g.x5, g.x6, g.x7, g.x8, g.x9, g.x10, g.x11, g.x12, g.x13, g.x14, g.x15, g.x16] 29) = wr) (fun i _ => rs.length - (intOf i).toNat)
  case atStart => exact ⟨0, Nat.zero_le _, rfl, rfl, rfl⟩
  case round =>
    obtain ⟨k, hk, rfl, ha, rfl⟩ := hrel
    have Ha := Lib.hid ha
    clear ha
    by_cases hlt : k < rs.length
    · obtain ⟨b, o, rfl, hbB, c0, c1, c2, c3⟩ := h.look hlt
      have hbw : b < w.heap.size := hbB
      have hs := (hr rs[k] (List.getElem_mem hlt)).1
      unfold maxLen at hs
      by_cases h20 : rs[k].cur.size ≤ 20
      · have hf : Hid ((rs.take (k + 1)).all (fun r => decide (r.cur.size ≤ 20)) = true) := by
          show _ = true
          rw [List.take_succ_eq_append_getElem hlt, List.all_append, Ha.out]; simp [h20]
        go_wp2
        go_roundw
        case rel => exact ⟨k + 1, by omega, by go_num, hf.out, trivial⟩
        case measure => simp [intOf]; omega
      · have hf : Hid (fewB g rs = false) := by
          show fewB g rs = false
          unfold fewB
          rw [List.all_eq_false.2 ⟨rs[k], List.getElem_mem hlt, by simpa using h20⟩]; rfl
        go_wp2
        go_ret
        exact ⟨ret_bool hf.out.symm, (Below.refl _ _).alloc (Nat.le_refl _) _⟩
    · obtain rfl : k = rs.length := by omega
      have hf : Hid (fewB g rs = (decide (g.gc.size ≤ 20) && decide (rs.length ≤ 150))) := by
        show _ = _
        have := Ha.out
        rw [List.take_length] at this
        unfold fewB; rw [this]; rfl
      by_cases h20 : g.gc.size ≤ 20
      · have hf2 : Hid (fewB g rs = decide (rs.length ≤ 150)) := by show _ = _; rw [hf.out]; simp [h20]
        go_wp2
        go_ret
        exact ⟨ret_bool (by rw [hf2.out, Bool.eq_iff_iff]; simp <;> omega), (Below.refl _ _).alloc (Nat.le_refl _) _⟩
      · have hf2 : Hid (fewB g rs = false) := by show _ = _; rw [hf.out]; simp [h20]
        have h20' : 20 < g.gc.size := by omega
        clear h20
        go_wp2
        go_ret
        exact ⟨ret_bool hf2.out.symm, (Below.refl _ _).alloc (Nat.le_refl _) _⟩

/-- The reference's check: 1 or 0. -/
def Rates.errR (g : ByteArray) (rs : List Rt) (cur : ByteArray) : Int := if Rates.valid g rs = true ∧ Rates.isCur cur = true then 0 else 1
theorem Rates.errR_cases (g : ByteArray) (rs : List Rt) (cur : ByteArray) : (Rates.valid g rs = false ∧ Rates.errR g rs cur = 1) ∨ (Rates.valid g rs = true ∧ Rates.isCur cur = false ∧ Rates.errR g rs cur = 1) ∨ (Rates.valid g rs = true ∧ Rates.isCur cur = true ∧ Rates.errR g rs cur = 0) := by
  unfold Rates.errR
  cases Rates.valid g rs <;> cases Rates.isCur cur <;> simp

theorem rqcheck_any (g : Grp) (A : Option Addr) (n c : Nat) (rs : List Rt) (cur : ByteArray) (hl : rs.length = n) (hn : n ≤ 100000) (hg : g.gc.size ≤ maxLen) (hcu : cur.size ≤ maxLen) (hr : ∀ r ∈ rs, r.wf) (h : RatesAt w w.heap.size A rs) :
    Calls Try.prog 28 #[.agg #[.string g.gc, .int .i64 g.Y, .int .i64 g.M, .int .i64 g.N, g.x0, g.x1, g.x2, g.x3, g.x4, g.x5, g.x6, g.x7, g.x8, g.x9, g.x10, g.x11, g.x12, g.x13, g.x14, g.x15, g.x16], .slice A n c, .string cur] w fun e w' => e = .returned (.int .i64 (Rates.errR g.gc rs cur)) ∧ Below w.heap.size w w' := by
  have HR := Lib.hid (h.start (.cells #[.string g.gc, .int .i64 g.Y, .int .i64 g.M, .int .i64 g.N, g.x0, g.x1, g.x2, g.x3, g.x4, g.x5, g.x6, g.x7, g.x8, g.x9, g.x10, g.x11, g.x12, g.x13, g.x14, g.x15, g.x16] 29))
  clear h
  rcases Rates.errR_cases g.gc rs cur with ⟨h1, e⟩ | ⟨h1, h2, e⟩ | ⟨h1, h2, e⟩
  all_goals
    rw [e]
    clear e
    go_enter Try.func28, Try.ntmps28
    go_wp2_with (fail)
    refine (rvalidr_any _ _ _ _ rs _ hl hn hg hr HR.out).mono ?_
    rw [h1]
    rintro e w4 ⟨rfl, hB⟩
    have hB1 := ((Below.refl w.heap.size w).alloc (Nat.le_refl _) (.cells #[.string g.gc, .int .i64 g.Y, .int .i64 g.M, .int .i64 g.N, g.x0, g.x1, g.x2, g.x3, g.x4, g.x5, g.x6, g.x7, g.x8, g.x9, g.x10, g.x11, g.x12, g.x13, g.x14, g.x15, g.x16] 29)).trans (hB.mono (by simp))
  · go_wp2
    go_ret
    exact ⟨rfl, hB1⟩
  all_goals
    go_wp2_with (go_at_call 47; refine (rcur_any _ _ hcu).mono ?_; rw [h2]; rintro e w5 ⟨rfl, rfl⟩)
    go_ret
    exact ⟨rfl, hB1⟩

/-- Which and its error. -/
def Rates.whichR (g : ByteArray) (rs : List Rt) (cur : ByteArray) (d : Int) : Rt × Int :=
  if Rates.errQ g rs cur d = 0 then
    (if (cur.toList == g.toList) = true then (⟨cur, 1, d, 1000000⟩, 0) else match Rates.which rs cur d with | some r => (r, 0) | none => (Rt.zero, 13))
  else (Rt.zero, Rates.errQ g rs cur d)
theorem Rates.whichR_cases (g : ByteArray) (rs : List Rt) (cur : ByteArray) (d : Int) :
    (Rates.errR g rs cur = 1 ∧ Rates.errQ g rs cur d = 1 ∧ Rates.whichR g rs cur d = (Rt.zero, 1)) ∨
    (Rates.errR g rs cur = 0 ∧ decide (-25567 ≤ d ∧ d ≤ 84005) = false ∧ Rates.errQ g rs cur d = 2 ∧ Rates.whichR g rs cur d = (Rt.zero, 2)) ∨
    (Rates.errR g rs cur = 0 ∧ decide (-25567 ≤ d ∧ d ≤ 84005) = true ∧ Rates.errQ g rs cur d = 0 ∧ (cur.toList == g.toList) = true ∧ Rates.whichR g rs cur d = (⟨cur, 1, d, 1000000⟩, 0)) ∨
    (Rates.errR g rs cur = 0 ∧ decide (-25567 ≤ d ∧ d ≤ 84005) = true ∧ Rates.errQ g rs cur d = 0 ∧ (cur.toList == g.toList) = false ∧ Rates.whichR g rs cur d = match Rates.which rs cur d with | some r => (r, 0) | none => (Rt.zero, 13)) := by
  unfold Rates.whichR Rates.errQ Rates.errR Rates.dateB
  by_cases h1 : Rates.valid g rs = true ∧ Rates.isCur cur = true
  · rw [if_pos h1, if_pos h1]
    cases h2 : decide (-25567 ≤ d ∧ d ≤ 84005) <;> cases h3 : (cur.toList == g.toList) <;> simp
  · rw [if_neg h1, if_neg h1]; simp

theorem gsize : (Try.prog.info? 29).map (·.size) = some 21 := by kernel_rfl

/-- The box of a group, in a later world. -/
theorem gbox {W W' : World} {B b : Nat} {O : Obj} (hG : W.heap[b]? = some O) (hB : Below B W W') (hb : b < B) : W'.heap[b]? = some O := (hB.block b hb).trans hG

theorem Rates.find_getD (o : Option Int) : (∃ v, o = some v) ∨ o = none := by cases o <;> simp

set_option maxRecDepth 100000 in
set_option maxHeartbeats 2000000 in
theorem rwhich_any (g : Grp) (A : Option Addr) (n c : Nat) (rs : List Rt) (cur : ByteArray) (d : Int) (hl : rs.length = n) (hn : n ≤ 1000) (hg : g.gc.size ≤ maxLen) (hcu : cur.size ≤ maxLen) (hr : ∀ r ∈ rs, r.wf) (h : RatesAt w w.heap.size A rs) :
    Calls Try.prog 13 #[.agg #[.string g.gc, .int .i64 g.Y, .int .i64 g.M, .int .i64 g.N, g.x0, g.x1, g.x2, g.x3, g.x4, g.x5, g.x6, g.x7, g.x8, g.x9, g.x10, g.x11, g.x12, g.x13, g.x14, g.x15, g.x16], .slice A n c, .string cur, .int .i64 d] w fun e w' => e = .returned (.tuple #[(Rates.whichR g.gc rs cur d).1.v, .int .i64 (Rates.whichR g.gc rs cur d).2]) ∧ Below w.heap.size w w' := by
  have HR := Lib.hid ((h.start (.cells #[.string g.gc, .int .i64 g.Y, .int .i64 g.M, .int .i64 g.N, g.x0, g.x1, g.x2, g.x3, g.x4, g.x5, g.x6, g.x7, g.x8, g.x9, g.x10, g.x11, g.x12, g.x13, g.x14, g.x15, g.x16] 29)).start (.cells #[.string ByteArray.empty, .int .i64 0, .int .i64 0, .int .i64 0] 39))
  have H := Lib.hid h
  clear h
  have hG := heap_alloc2_old w (.cells #[.string g.gc, .int .i64 g.Y, .int .i64 g.M, .int .i64 g.N, g.x0, g.x1, g.x2, g.x3, g.x4, g.x5, g.x6, g.x7, g.x8, g.x9, g.x10, g.x11, g.x12, g.x13, g.x14, g.x15, g.x16] 29) (.cells #[.string ByteArray.empty, .int .i64 0, .int .i64 0, .int .i64 0] 39)
  have hZ := heap_alloc2_new w (.cells #[.string g.gc, .int .i64 g.Y, .int .i64 g.M, .int .i64 g.N, g.x0, g.x1, g.x2, g.x3, g.x4, g.x5, g.x6, g.x7, g.x8, g.x9, g.x10, g.x11, g.x12, g.x13, g.x14, g.x15, g.x16] 29) (.cells #[.string ByteArray.empty, .int .i64 0, .int .i64 0, .int .i64 0] 39)
  have hB0 := ((Below.refl w.heap.size w).alloc (Nat.le_refl _) (.cells #[.string g.gc, .int .i64 g.Y, .int .i64 g.M, .int .i64 g.N, g.x0, g.x1, g.x2, g.x3, g.x4, g.x5, g.x6, g.x7, g.x8, g.x9, g.x10, g.x11, g.x12, g.x13, g.x14, g.x15, g.x16] 29)).alloc (by simp) (.cells #[.string ByteArray.empty, .int .i64 0, .int .i64 0, .int .i64 0] 39)
  rcases Rates.whichR_cases g.gc rs cur d with ⟨h1, _, e⟩ | ⟨h1, h2, _, e⟩ | ⟨h1, h2, _, h3, e⟩ | ⟨h1, h2, _, h3, e⟩
  all_goals
    have E := Lib.hid e
    clear e
    go_enter Try.func13, Try.ntmps13
    go_wp2_with (refine wpList_load_row rfl 29 _ rfl _ rfl _ _ _ _ hG Try.underlying29 rfl gsize ?_)
    refine (rqcheck_any _ _ _ _ _ rs _ hl (by omega) hg hcu hr HR.out).mono ?_
    rw [h1]
    rintro e w4 ⟨rfl, hB⟩
    have hB1 := hB0.trans (hB.mono (by simp; omega))
    have hz1 := hB.size
    simp at hz1
    have hG4 := gbox hG hB (by simp; omega)
    have hZ4 := gbox hZ hB (by simp)
    have hc4 := cell_of_row _ _ 0 _ _ _ hG4
    have hq4 : w.heap.size + 1 < w4.heap.size := by omega
    clear hG hZ
    have z0 := cell_of_row _ _ 0 _ _ _ hZ4
    have z1 := cell_of_row _ _ 1 _ _ _ hZ4
    have z2 := cell_of_row _ _ 2 _ _ _ hZ4
    have z3 := cell_of_row _ _ 3 _ _ _ hZ4
    have zf := fun j => frozen_of_row _ _ j _ _ hZ4
    simp at z0 z1 z2 z3 hc4
  · go_wp2
    refine bodyPost_ret (v := .tuple #[Rt.zero.v, .int .i64 1]) (by simp [results, Try.results13, go_sem, Rt.v, Rt.zero, z0, z1, z2, z3]; try rfl) rfl ⟨by rw [E.out], ?_⟩
    exact (((hB1.setCell (by simp) _).setCell (by simp) _).setCell (by simp) _).setCell (by simp) _
  · go_wp2_with (go_at_call 19; refine (rvalid_any _ _).mono ?_; rw [h2]; rintro e w5 ⟨rfl, rfl⟩)
    refine bodyPost_ret (v := .tuple #[Rt.zero.v, .int .i64 2]) (by simp [results, Try.results13, go_sem, Rt.v, Rt.zero, z0, z1, z2, z3]; try rfl) rfl ⟨by rw [E.out], ?_⟩
    exact (((hB1.setCell (by simp) _).setCell (by simp) _).setCell (by simp) _).setCell (by simp) _
  · go_wp2_with (go_at_call 19; refine (rvalid_any _ _).mono ?_; rw [h2]; rintro e w5 ⟨rfl, rfl⟩)
    refine bodyPost_ret (v := .tuple #[(Rt.mk cur 1 d 1000000).v, .int .i64 0]) (by simp [results, Try.results13, go_sem, Rt.v, z0, z1, z2, z3]; try rfl) rfl ⟨by rw [E.out], ?_⟩
    exact (((hB1.setCell (by simp) _).setCell (by simp) _).setCell (by simp) _).setCell (by simp) _
  · have hd : -25567 ≤ d ∧ d ≤ 84005 := of_decide_eq_true h2
    go_wp2_with (go_at_call 19; refine (rvalid_any _ _).mono ?_; rw [h2]; rintro e w5 ⟨rfl, rfl⟩)
    go_loopw [11] (fun x wr => ∃ j : Nat, j ≤ 41 ∧ x = .int .i64 (d - j) ∧ (∀ i : Nat, i < j → Rates.find rs cur 1 (d - i) = none) ∧ Below w4.heap.size w4 wr) (fun x _ => (intOf x - d + 41).toNat)
    case atStart => exact ⟨0, by omega, by simp, fun i hi => absurd hi (by omega), Below.refl _ _⟩
    case round =>
      obtain ⟨j, hj, rfl, hno, hb⟩ := hrel
      have Hno := Lib.hid hno
      clear hno
      have hB2 := hB1.trans (hb.mono hB1.size)
      have hz5 := hb.size
      have hZ5 := gbox hZ4 hb (by omega)
      have y0 := cell_of_row _ _ 0 _ _ _ hZ5
      have y1 := cell_of_row _ _ 1 _ _ _ hZ5
      have y2 := cell_of_row _ _ 2 _ _ _ hZ5
      have y3 := cell_of_row _ _ 3 _ _ _ hZ5
      have yf := fun j => frozen_of_row _ _ j _ _ hZ5
      simp at y0 y1 y2 y3
      have hq5 : w.heap.size + 1 < wr.heap.size := by omega
      clear z0 z1 z2 z3 zf hc4 hG4 hZ4
      by_cases hlt : j < 41
      · rcases Rates.find_getD (Rates.find rs cur 1 (d - j)) with ⟨v, hv⟩ | hv
        · have E2 : Hid (Rates.whichR g.gc rs cur d = (⟨cur, 1, d - j, v⟩, 0)) := by
            show _ = _
            rw [E.out, Rates.which_eq_back, (Rates.back_some rs cur ⟨cur, 1, d - j, v⟩ 41 d).2 ⟨j, hlt, Hno.out, hv, rfl⟩]
          have Hv := Lib.hid hv
          clear hv
          go_wp2_with (fail)
          refine (rfind_any _ _ _ _ rs _ _ _ hl hn (H.out.at_ hB2 (Nat.le_refl _))).mono ?_
          rw [Hv.out]
          rintro e w6 ⟨rfl, hB6⟩
          have hB3 := hB2.trans (hB6.mono hB2.size)
          have hZ6 := gbox hZ5 hB6 hq5
          have x0 := cell_of_row _ _ 0 _ _ _ hZ6
          have x1 := cell_of_row _ _ 1 _ _ _ hZ6
          have x2 := cell_of_row _ _ 2 _ _ _ hZ6
          have x3 := cell_of_row _ _ 3 _ _ _ hZ6
          have xf := fun j => frozen_of_row _ _ j _ _ hZ6
          simp at x0 x1 x2 x3
          clear y0 y1 y2 y3 yf hZ5
          go_wp2
          refine bodyPost_ret (v := .tuple #[(Rt.mk cur 1 (d - j) v).v, .int .i64 0]) (by simp [results, Try.results13, go_sem, Rt.v, x0, x1, x2, x3]) rfl ⟨by rw [E2.out], ?_⟩
          exact (((hB3.setCell (by simp) _).setCell (by simp) _).setCell (by simp) _).setCell (by simp) _
        · have hno2 : Hid (∀ i : Nat, i < j + 1 → Rates.find rs cur 1 (d - i) = none) := by
            show ∀ i : Nat, _
            intro i hi
            rcases Nat.lt_or_ge i j with h | h
            · exact Hno.out i h
            · obtain rfl : i = j := by omega
              exact hv
          have Hv := Lib.hid hv
          clear hv
          go_wp2_with (fail)
          refine (rfind_any _ _ _ _ rs _ _ _ hl hn (H.out.at_ hB2 (Nat.le_refl _))).mono ?_
          rw [Hv.out]
          rintro e w6 ⟨rfl, hB6⟩
          clear y0 y1 y2 y3 yf hZ5
          go_wp2
          go_roundw
          case rel => exact ⟨j + 1, by omega, by go_num, hno2.out, hb.trans (hB6.mono hb.size)⟩
          case measure => simp [intOf]; omega
      · obtain rfl : j = 41 := by omega
        have E2 : Hid (Rates.whichR g.gc rs cur d = (Rt.zero, 13)) := by
          show _ = _
          rw [E.out, Rates.which_eq_back, (Rates.back_none rs cur 41 d).2 Hno.out]
        go_wp2
        refine bodyPost_ret (v := .tuple #[Rt.zero.v, .int .i64 13]) (by simp [results, Try.results13, go_sem, Rt.v, Rt.zero, y0, y1, y2, y3]; try rfl) rfl ⟨by rw [E2.out], ?_⟩
        exact (((hB2.setCell (by simp) _).setCell (by simp) _).setCell (by simp) _).setCell (by simp) _
end
end Go.Proofs.Ytbbbiioojgnpdaa
