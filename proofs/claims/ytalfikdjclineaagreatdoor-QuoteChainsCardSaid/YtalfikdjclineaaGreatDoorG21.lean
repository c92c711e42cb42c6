/- My texts Average. -/
import Derived.Test.YtalfikdjclineaaGreatDoorG20
set_option linter.unusedVariables false
set_option linter.unusedSimpArgs false
set_option maxRecDepth 100000
set_option maxHeartbeats 8000000
namespace Go.Proofs.YtalfikdjclineaaGreatDoor
open Go.RowKit Go.Shelf

theorem ratesAt_own {W : World} {base n : Nat} {l : List Rt} {v : Value} (h : W.ownsRow base 59 4 v n (rowOf l)) (hn : n = l.length) : ∃ A c, v = .slice A l.length c /\ RatesAt W W.heap.size A l := by
  subst hn
  rcases h.2 with ⟨e, h0⟩ | ⟨g, cap, cur, e, _, hg, _⟩
  · have : l = [] := List.length_eq_zero_iff.1 h0
    subst this
    exact ⟨none, 0, e, .inl rfl⟩
  · subst e
    exact ⟨_, cap, rfl, ratesAt_holds (holds_own h rfl) (Array.getElem?_eq_some_iff.1 hg).1⟩

def sumV (l : List Rt) : Int := (l.map (·.val)).sum
theorem sumV_take (l : List Rt) (k : Nat) (h : k < l.length) : sumV (l.take (k + 1)) = sumV (l.take k) + l[k].val := by
  unfold sumV; rw [List.take_succ_eq_append_getElem h, List.map_append, List.sum_append]; simp
theorem sumV_bd (l : List Rt) (h : ∀ r ∈ l, 1 <= r.val /\ r.val <= 1000000000000) : l.length <= sumV l /\ sumV l <= 1000000000000 * l.length := by
  unfold sumV
  induction l with
  | nil => simp
  | cons r l ih =>
    have h1 := h r (by simp)
    have h2 := ih (fun x hx => h x (List.mem_cons_of_mem _ hx))
    simp only [List.map_cons, List.sum_cons, List.length_cons]
    omega
namespace Rates
def daysP (g : Grp) (rs : List Rt) (cur : ByteArray) (p : Int) : List Rt := days rs cur (Cal.first g.Y g.M p) (Cal.last g.Y g.M p)
def mean (l : List Rt) : Int := (2 * sumV l + l.length) / (2 * l.length)
def avg (g : Grp) (rs : List Rt) (cur : ByteArray) (p : Int) : Int × Int :=
  if errP g rs cur p = 0 then
    (if (cur.toList == g.gc.toList) = true then (1000000, 0) else match find rs cur 2 p with
      | some v => (v, 0)
      | none => if (daysP g rs cur p).length = 0 then (0, 13) else (mean (daysP g rs cur p), 0))
  else (0, errP g rs cur p)
theorem proper_val (g : ByteArray) (r : Rt) (h : proper g r = true) : 1 <= r.val /\ r.val <= 1000000000000 := by
  unfold proper at h
  simp only [Bool.and_eq_true, decide_eq_true_eq] at h
  exact h.1.2
theorem days_vals (g : ByteArray) (rs : List Rt) (hv : valid g rs = true) (cur : ByteArray) (a b : Int) : ∀ r ∈ days rs cur a b, 1 <= r.val /\ r.val <= 1000000000000 := by
  intro r hr
  obtain ⟨h1, h2, _⟩ := (valid_iff g rs).1 hv
  rw [days_mem rs h2] at hr
  exact proper_val g r (h1 r (List.mem_filter.1 hr).1)
theorem daysP_len (g : Grp) (rs : List Rt) (cur : ByteArray) (p : Int) (h : errP g rs cur p = 0) : (daysP g rs cur p).length <= 31 := by
  obtain ⟨_, _, h3⟩ := (errP_zero g rs cur p).1 h
  obtain ⟨k1, k2, k3⟩ := (Cal.err_zero g.Y g.M g.N p).1 h3
  have := Cal.first_bd g.Y g.M g.N p k1 k2 k3
  have := days_len rs cur (Cal.first g.Y g.M p) (Cal.last g.Y g.M p)
  unfold daysP; omega
end Rates

section
variable (w : World)
def DaysPost (g : Grp) (rs : List Rt) (cur : ByteArray) (p : Int) (w : World) (e : Ending) (w' : World) : Prop :=
  Below w.heap.size w w' /\ ((Rates.errP g rs cur p ≠ 0 /\ e = .returned (.tuple #[.slice none 0 0, .int .i64 (Rates.errP g rs cur p)])) ∨
   (Rates.errP g rs cur p = 0 /\ ∃ A c, e = .returned (.tuple #[.slice A (Rates.daysP g rs cur p).length c, .int .i64 0]) /\ RatesAt w' w'.heap.size A (Rates.daysP g rs cur p)))

theorem dDays_any (g : Grp) (A : Option Addr) (n c : Nat) (rs : List Rt) (cur : ByteArray) (p : Int) (hl : rs.length = n) (hn : n <= 1000) (hg : g.gc.size <= maxLen) (hcu : cur.size <= maxLen) (hr : ∀ r ∈ rs, r.wf) (h : RatesAt w w.heap.size A rs) :
    Calls Tryz.prog 30 #[.agg #[.string g.gc, .int .i64 g.Y, .int .i64 g.M, .int .i64 g.N, g.x0, g.x1, g.x2, g.x3, g.x4, g.x5, g.x6, g.x7, g.x8, g.x9, g.x10, g.x11, g.x12, g.x13, g.x14, g.x15, g.x16], .slice A n c, .string cur, .int .i64 p] w (DaysPost g rs cur p w) := by
  have HR := Lib.hid (h.start (.cells #[.string g.gc, .int .i64 g.Y, .int .i64 g.M, .int .i64 g.N, g.x0, g.x1, g.x2, g.x3, g.x4, g.x5, g.x6, g.x7, g.x8, g.x9, g.x10, g.x11, g.x12, g.x13, g.x14, g.x15, g.x16] 29))
  have H := Lib.hid h
  clear h
  have hB0 := (Below.refl w.heap.size w).alloc (Nat.le_refl _) (.cells #[.string g.gc, .int .i64 g.Y, .int .i64 g.M, .int .i64 g.N, g.x0, g.x1, g.x2, g.x3, g.x4, g.x5, g.x6, g.x7, g.x8, g.x9, g.x10, g.x11, g.x12, g.x13, g.x14, g.x15, g.x16] 29)
  have hG := heap_alloc_new w (.cells #[.string g.gc, .int .i64 g.Y, .int .i64 g.M, .int .i64 g.N, g.x0, g.x1, g.x2, g.x3, g.x4, g.x5, g.x6, g.x7, g.x8, g.x9, g.x10, g.x11, g.x12, g.x13, g.x14, g.x15, g.x16] 29)
  by_cases h0 : Rates.errP g rs cur p = 0
  · have hf := (Rates.valid_iff _ _).1 ((Rates.errP_zero g rs cur p).1 h0).1
    have Hs := Lib.hid (fun s => Rates.sorted_days rs hf.2.1 cur (Cal.first g.Y g.M p) (Cal.last g.Y g.M p) s)
    have H0 := Lib.hid h0
    clear hf h0
    go_enter Tryz.func30, Tryz.ntmps30
    go_wp2_with (refine wpList_load_row rfl 29 _ rfl _ rfl _ _ _ _ hG Tryz.underlying29 rfl gsize ?_)
    refine (period_any _ _ _ _ _ rs _ _ hl (by omega) hg hcu hr HR.out).mono ?_
    rw [if_pos H0.out]
    rintro e w4 ⟨rfl, hB⟩
    have hB1 := hB0.trans (hB.mono (by simp))
    have hz1 := hB1.size
    clear hG
    go_wp2_with (fail)
    refine (spots_any _ _ _ _ _ _ _).mono ?_
    rintro e w5 ⟨rfl, rfl⟩
    have hBs := (((((Below.refl w4.heap.size w4).alloc (Nat.le_refl _) (.cells #[.slice A n c] 30)).alloc (by simp) (.cells #[.string cur] 9)).alloc (by simp; omega) (.cells #[.int .i64 (Cal.first g.Y g.M p)] 3)).alloc (by simp; omega) (.cells #[.int .i64 (Cal.last g.Y g.M p)] 3))
    have hR5 := (H.out.below (hB1.trans (hBs.mono hz1)) (Nat.le_refl _)).more (C := ((((w4.alloc (.cells #[.slice A n c] 30)).alloc (.cells #[.string cur] 9)).alloc (.cells #[.int .i64 (Cal.first g.Y g.M p)] 3)).alloc (.cells #[.int .i64 (Cal.last g.Y g.M p)] 3)).heap.size) (by simp; omega)
    have HR5 := Lib.hid hR5
    clear hR5
    go_wp2_with (fail)
    refine (sortedFunc_any _ w4.heap.size A n c rs cur (Cal.first g.Y g.M p) (Cal.last g.Y g.M p) hl hn (by simp) (by simp [go_sem]) (by simp [go_sem]) (by simp [go_sem]) (by simp [go_sem]) HR5.out).mono ?_
    rintro e w6 ⟨hB6, A', c', s, rfl, p1, p2, p3⟩
    have hsd := Hs.out s p1 p2
    subst hsd
    go_wp2
    go_ret2
    exact ⟨hB1.trans ((hBs.mono hz1).trans (hB6.mono (by simp; omega))), .inr ⟨H0.out, A', c', rfl, p3⟩⟩
  · have hn0 : (Rates.errP g rs cur p != 0) = true := by simpa using h0
    have H0 := Lib.hid h0
    clear h0
    go_enter Tryz.func30, Tryz.ntmps30
    go_wp2_with (refine wpList_load_row rfl 29 _ rfl _ rfl _ _ _ _ hG Tryz.underlying29 rfl gsize ?_)
    refine (period_any _ _ _ _ _ rs _ _ hl (by omega) hg hcu hr HR.out).mono ?_
    rw [if_neg H0.out]
    rintro e w4 ⟨rfl, hB⟩
    have hB1 := hB0.trans (hB.mono (by simp))
    go_wp2
    go_ret2
    exact ⟨hB1, .inl ⟨H0.out, rfl⟩⟩

theorem davg_any (g : Grp) (A : Option Addr) (n c : Nat) (rs : List Rt) (cur : ByteArray) (p : Int) (hl : rs.length = n) (hn : n <= 1000) (hg : g.gc.size <= maxLen) (hcu : cur.size <= maxLen) (hr : ∀ r ∈ rs, r.wf) (h : RatesAt w w.heap.size A rs) :
    Calls Tryz.prog 14 #[.agg #[.string g.gc, .int .i64 g.Y, .int .i64 g.M, .int .i64 g.N, g.x0, g.x1, g.x2, g.x3, g.x4, g.x5, g.x6, g.x7, g.x8, g.x9, g.x10, g.x11, g.x12, g.x13, g.x14, g.x15, g.x16], .slice A n c, .string cur, .int .i64 p] w fun e w' => e = .returned (.tuple #[.int .i64 (Rates.avg g rs cur p).1, .int .i64 (Rates.avg g rs cur p).2]) /\ Below w.heap.size w w' := by
  have HR := Lib.hid (h.start (.cells #[.string g.gc, .int .i64 g.Y, .int .i64 g.M, .int .i64 g.N, g.x0, g.x1, g.x2, g.x3, g.x4, g.x5, g.x6, g.x7, g.x8, g.x9, g.x10, g.x11, g.x12, g.x13, g.x14, g.x15, g.x16] 29))
  have H := Lib.hid h
  clear h
  have hB0 := (Below.refl w.heap.size w).alloc (Nat.le_refl _) (.cells #[.string g.gc, .int .i64 g.Y, .int .i64 g.M, .int .i64 g.N, g.x0, g.x1, g.x2, g.x3, g.x4, g.x5, g.x6, g.x7, g.x8, g.x9, g.x10, g.x11, g.x12, g.x13, g.x14, g.x15, g.x16] 29)
  have hG := heap_alloc_new w (.cells #[.string g.gc, .int .i64 g.Y, .int .i64 g.M, .int .i64 g.N, g.x0, g.x1, g.x2, g.x3, g.x4, g.x5, g.x6, g.x7, g.x8, g.x9, g.x10, g.x11, g.x12, g.x13, g.x14, g.x15, g.x16] 29)
  by_cases h0 : Rates.errP g rs cur p = 0
  case neg =>
    have hn0 : (Rates.errP g rs cur p != 0) = true := by simpa using h0
    have E : Hid (Rates.avg g rs cur p = (0, Rates.errP g rs cur p)) := by show _ = _; unfold Rates.avg; rw [if_neg h0]
    have H0 := Lib.hid h0
    clear h0
    go_enter Tryz.func14, Tryz.ntmps14
    go_wp2_with (refine wpList_load_row rfl 29 _ rfl _ rfl _ _ _ _ hG Tryz.underlying29 rfl gsize ?_)
    refine (dDays_any _ _ _ _ _ rs _ _ hl hn hg hcu hr HR.out).mono ?_
    rintro e w4 ⟨hB, ⟨_, rfl⟩ | ⟨hx, _⟩⟩
    · have hB1 := hB0.trans (hB.mono (by simp))
      go_wp2
      go_ret2
      exact ⟨by rw [E.out]; rfl, hB1⟩
    · exact absurd hx H0.out
  case pos =>
    have hv := ((Rates.errP_zero g rs cur p).1 h0).1
    have hbd := Lib.hid (Rates.days_vals g.gc rs hv cur (Cal.first g.Y g.M p) (Cal.last g.Y g.M p))
    have hlen := Rates.daysP_len g rs cur p h0
    have E : Hid (Rates.avg g rs cur p = if (cur.toList == g.gc.toList) = true then ((1000000, 0) : Int × Int) else match Rates.find rs cur 2 p with
      | some v => (v, 0)
      | none => if (Rates.daysP g rs cur p).length = 0 then ((0, 13) : Int × Int) else (Rates.mean (Rates.daysP g rs cur p), 0)) := by show _ = _; unfold Rates.avg; rw [if_pos h0]
    have H0 := Lib.hid h0
    clear h0 hv
    go_enter Tryz.func14, Tryz.ntmps14
    go_wp2_with (refine wpList_load_row rfl 29 _ rfl _ rfl _ _ _ _ hG Tryz.underlying29 rfl gsize ?_)
    refine (dDays_any _ _ _ _ _ rs _ _ hl hn hg hcu hr HR.out).mono ?_
    rintro e w4 ⟨hB, ⟨hx, _⟩ | ⟨_, A', c', rfl, hD⟩⟩
    · exact absurd H0.out hx
    have hB1 := hB0.trans (hB.mono (by simp))
    have hz4 := hB.size
    simp at hz4
    have hG4 := gbox hG hB (by simp)
    have g0 := cell_of_row _ _ 0 _ _ _ hG4
    simp at g0
    have hq4 : w.heap.size < w4.heap.size := by omega
    obtain ⟨l, hle⟩ : ∃ l, Rates.daysP g rs cur p = l := ⟨_, rfl⟩
    have hbd2 : Hid (∀ r ∈ l, 1 <= r.val /\ r.val <= 1000000000000) := by show ∀ r ∈ l, _; rw [<- hle]; exact hbd.out
    rw [hle] at E hD hlen ⊢
    have HD := Lib.hid hD
    clear hG hle hbd hD hG4
    cases h1 : (cur.toList == g.gc.toList) with
    | true =>
      have E2 : Hid (Rates.avg g rs cur p = ((1000000, 0) : Int × Int)) := by show _ = _; rw [E.out, if_pos h1]
      go_wp2
      go_ret2
      exact ⟨by rw [E2.out]; rfl, hB1⟩
    | false =>
      rcases Rates.find_getD (Rates.find rs cur 2 p) with ⟨v, hv⟩ | hv
      · have E2 : Hid (Rates.avg g rs cur p = (v, 0)) := by show _ = _; rw [E.out, if_neg (by rw [h1]; decide), hv]
        have Hv := Lib.hid hv
        clear hv
        go_wp2_with (fail)
        refine (dfind_any _ _ _ _ rs _ _ _ hl hn (H.out.at_ hB1 (Nat.le_refl _))).mono ?_
        rw [Hv.out]
        rintro e w6 ⟨rfl, hB6⟩
        have hB2 := hB1.trans (hB6.mono hB1.size)
        go_wp2
        go_ret2
        exact ⟨by rw [E2.out]; rfl, hB2⟩
      · have E2 : Hid (Rates.avg g rs cur p = if l.length = 0 then ((0, 13) : Int × Int) else (Rates.mean l, 0)) := by show _ = _; rw [E.out, if_neg (by rw [h1]; decide), hv]
        have Hv := Lib.hid hv
        clear hv
        go_wp2_with (fail)
        refine (dfind_any _ _ _ _ rs _ _ _ hl hn (H.out.at_ hB1 (Nat.le_refl _))).mono ?_
        rw [Hv.out]
        rintro e w6 ⟨rfl, hB6⟩
        have hB2 := hB1.trans (hB6.mono hB1.size)
        have HD6 := Lib.hid (HD.out.at_ hB6 (Nat.le_refl _))
        by_cases hz : l.length = 0
        · have E3 : Hid (Rates.avg g rs cur p = (0, 13)) := by show _ = _; rw [E2.out, if_pos hz]
          have hz' : ((l.length : Int) == 0) = true := by rw [hz]; rfl
          clear hz
          go_wp2
          go_ret2
          exact ⟨by rw [E3.out]; rfl, hB2⟩
        · have E3 : Hid (Rates.avg g rs cur p = (Rates.mean l, 0)) := by show _ = _; rw [E2.out, if_neg hz]
          have hz' : ((l.length : Int) == 0) = false := by simp; exact fun e => hz (by rw [e]; rfl)
          have hpos : 1 <= l.length := by omega
          clear hz
          go_wp2
          go_loopw [14, 46] (fun s i wr => ∃ k : Nat, k <= l.length /\ i = .int .i64 k /\ s = .int .i64 (sumV (l.take k)) /\ Below w6.heap.size w6 wr) (fun _ i _ => l.length - (intOf i).toNat)
          case atStart => exact ⟨0, Nat.zero_le _, rfl, rfl, Below.refl _ _⟩
          case round =>
            obtain ⟨k, hk, rfl, rfl, hb⟩ := hrel
            have hsb := sumV_bd (l.take k) (fun r hr => hbd2.out r (List.mem_of_mem_take hr))
            have htk : (l.take k).length = k := by rw [List.length_take]; omega
            rw [htk] at hsb
            clear htk
            by_cases hlt : k < l.length
            · obtain ⟨bb, o, rfl, hbB, c0, c1, c2, c3⟩ := (HD6.out.below hb (Nat.le_refl _)).look hlt
              have hbw : bb < wr.heap.size := Nat.lt_of_lt_of_le hbB hb.size
              have hvb := hbd2.out l[k] (List.getElem_mem hlt)
              have hst := Lib.hid (sumV_take l k hlt)
              have hzr := hb.size
              go_wp2
              go_roundw
              case rel => exact ⟨k + 1, by omega, by go_num, by rw [hst.out], hb.alloc hzr _⟩
              case measure => simp [intOf]; omega
            · obtain rfl : k = l.length := by omega
              rw [List.take_length] at hsb
              have hft : Hid (sumV (l.take l.length) = sumV l) := by show _ = _; rw [List.take_length]
              rw [hft.out]
              have hmn : Hid (Rates.mean l = (2 * sumV l + l.length) / (2 * l.length)) := rfl
              go_wp2
              go_ret2
              exact ⟨by rw [E3.out, hmn.out]; rfl, hB2.trans (hb.mono hB2.size)⟩

end
end Go.Proofs.YtalfikdjclineaaGreatDoor
