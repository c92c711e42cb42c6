/- My texts CheckC, CrossP. -/
import Derived.Test.YtalfikdjclineaaGreatDoorG16
import Derived.Test.YtalfikdjclineaaGreatDoorG17
set_option linter.unusedVariables false
set_option linter.unusedSimpArgs false
set_option maxRecDepth 100000
set_option maxHeartbeats 8000000
namespace Go.Proofs.YtalfikdjclineaaGreatDoor
open Go.RowKit
def Rates.errQ2 (g : ByteArray) (rs : List Rt) (cu cv : ByteArray) (d : Int) : Int := if Rates.valid g rs = true /\ (Rates.isCur cu && Rates.isCur cv) = true then (if Rates.dateB d = true then 0 else 2) else 1
section
variable (w : World)
theorem idxstr2_any (b c : Nat) (s t : ByteArray) (hs : s.size <= maxLen) (ht : t.size <= maxLen) (hb : b < w.heap.size) (hc : w.cell? ⟨b, 0, none⟩ = some (.string s)) (hd : w.cell? ⟨b, 1, none⟩ = some (.string t)) :
    Calls Tryz.prog 64 #[.slice (some ⟨b, 0, none⟩) 2 c, .func (.func 34) #[] #[]] w fun e w' => e = .returned (.int .i64 (if Rates.isCur s = true then (if Rates.isCur t = true then -1 else 1) else 0)) /\ Below w.heap.size w w' := by
  by_cases h : Rates.isCur s = true
  · rw [if_pos h]
    by_cases h' : Rates.isCur t = true
    · rw [if_pos h']
      go_enter Tryz.func64, Tryz.ntmps64
      go_wp2
      go_loopw [8] (fun i wr => ∃ k : Nat, k <= 2 /\ i = .int .i64 k /\ Below w.heap.size w wr) (fun i _ => 2 - (intOf i).toNat)
      case atStart => exact ⟨0, Nat.zero_le _, rfl, Below.refl _ _⟩
      case round =>
        obtain ⟨k, hk, rfl, hb2⟩ := hrel
        rcases (show k = 0 ∨ k = 1 ∨ k = 2 by omega) with rfl | rfl | rfl
        · have hc2 : wr.cell? ⟨b, 0, none⟩ = some (.string s) := (hb2.cell (p := ⟨b, 0, none⟩) hb).trans hc
          clear hc hd
          go_wp2_with (go_at_call 34; refine (notcur_any _ _ hs).mono ?_; rw [h]; rintro e w4 ⟨rfl, hB⟩)
          go_roundw
          case rel => exact ⟨1, by omega, by go_num, hb2.trans (hB.mono hb2.size)⟩
          case measure => simp [intOf]
        · have hc2 : wr.cell? ⟨b, 1, none⟩ = some (.string t) := (hb2.cell (p := ⟨b, 1, none⟩) hb).trans hd
          clear hc hd
          go_wp2_with (go_at_call 34; refine (notcur_any _ _ ht).mono ?_; rw [h']; rintro e w4 ⟨rfl, hB⟩)
          go_roundw
          case rel => exact ⟨2, by omega, by go_num, hb2.trans (hB.mono hb2.size)⟩
          case measure => simp [intOf]
        · go_wp2
          go_ret
          exact ⟨rfl, hb2⟩
    · rw [if_neg h']
      have h'' : Rates.isCur t = false := by simpa using h'
      clear h'
      go_enter Tryz.func64, Tryz.ntmps64
      go_wp2
      go_loopw [8] (fun i wr => ∃ k : Nat, k <= 1 /\ i = .int .i64 k /\ Below w.heap.size w wr) (fun i _ => 1 - (intOf i).toNat)
      case atStart => exact ⟨0, Nat.zero_le _, rfl, Below.refl _ _⟩
      case round =>
        obtain ⟨k, hk, rfl, hb2⟩ := hrel
        rcases (show k = 0 ∨ k = 1 by omega) with rfl | rfl
        · have hc2 : wr.cell? ⟨b, 0, none⟩ = some (.string s) := (hb2.cell (p := ⟨b, 0, none⟩) hb).trans hc
          clear hc hd
          go_wp2_with (go_at_call 34; refine (notcur_any _ _ hs).mono ?_; rw [h]; rintro e w4 ⟨rfl, hB⟩)
          go_roundw
          case rel => exact ⟨1, by omega, by go_num, hb2.trans (hB.mono hb2.size)⟩
          case measure => simp [intOf]
        · have hc2 : wr.cell? ⟨b, 1, none⟩ = some (.string t) := (hb2.cell (p := ⟨b, 1, none⟩) hb).trans hd
          clear hc hd
          go_wp2_with (go_at_call 34; refine (notcur_any _ _ ht).mono ?_; rw [h'']; rintro e w4 ⟨rfl, hB⟩)
          go_ret
          exact ⟨rfl, hb2.trans (hB.mono hb2.size)⟩
  · rw [if_neg h]
    have h' : Rates.isCur s = false := by simpa using h
    clear h
    go_enter Tryz.func64, Tryz.ntmps64
    go_wp2
    go_loopw [8] (fun i wr => i = .int .i64 0 /\ w = wr) (fun i _ => 2 - (intOf i).toNat)
    case atStart => exact ⟨rfl, rfl⟩
    case round =>
      obtain ⟨rfl, rfl⟩ := hrel
      go_wp2_with (go_at_call 34; refine (notcur_any _ _ hs).mono ?_; rw [h']; rintro e w4 ⟨rfl, hB⟩)
      go_ret
      exact ⟨rfl, hB⟩
theorem cntstr2_any (b c : Nat) (s t : ByteArray) (hs : s.size <= maxLen) (ht : t.size <= maxLen) (hb : b < w.heap.size) (hc : w.cell? ⟨b, 0, none⟩ = some (.string s)) (hd : w.cell? ⟨b, 1, none⟩ = some (.string t)) :
    Calls Tryz.prog 33 #[.slice (some ⟨b, 0, none⟩) 2 c, .func (.func 34) #[] #[]] w fun e w' => e = .returned (.bool (!(Rates.isCur s && Rates.isCur t))) /\ Below w.heap.size w w' := by
  have H := idxstr2_any w b c s t hs ht hb hc hd
  obtain ⟨i, hi⟩ : ∃ i : Int, i = (if Rates.isCur s = true then (if Rates.isCur t = true then -1 else 1) else 0) := ⟨_, rfl⟩
  have hi2 : (i = -1 /\ (!(Rates.isCur s && Rates.isCur t)) = false) ∨ (0 <= i /\ (!(Rates.isCur s && Rates.isCur t)) = true) := by
    rw [hi]
    cases Rates.isCur s <;> cases Rates.isCur t <;> simp
  rw [<- hi] at H
  have H' := Lib.hid H
  clear H hi hc hd
  rcases hi2 with ⟨rfl, h⟩ | ⟨h0, h⟩
  all_goals
    rw [h]
    clear h
    go_enter Tryz.func33, Tryz.ntmps33
    go_wp2_with (go_at_call 64; refine H'.out.mono ?_; rintro e w4 ⟨rfl, hB⟩)
    go_ret
    exact ⟨ret_bool (by simp <;> omega), hB⟩
theorem check2_any (g : Grp) (A : Option Addr) (n c c' b : Nat) (rs : List Rt) (cu cv : ByteArray) (d : Int) (hl : rs.length = n) (hn : n <= 100000) (hg : g.gc.size <= maxLen) (hcu : cu.size <= maxLen) (hcv : cv.size <= maxLen) (hr : ∀ r ∈ rs, r.wf) (h : RatesAt w w.heap.size A rs)
    (hb : b < w.heap.size) (hc : w.cell? ⟨b, 0, none⟩ = some (.string cu)) (hd1 : w.cell? ⟨b, 1, none⟩ = some (.string cv)) :
    Calls Tryz.prog 16 #[.agg #[.string g.gc, .int .i64 g.Y, .int .i64 g.M, .int .i64 g.N, g.x0, g.x1, g.x2, g.x3, g.x4, g.x5, g.x6, g.x7, g.x8, g.x9, g.x10, g.x11, g.x12, g.x13, g.x14, g.x15, g.x16], .slice A n c, .int .i64 d, .slice (some ⟨b, 0, none⟩) 2 c'] w fun e w' => e = .returned (.int .i64 (Rates.errQ2 g.gc rs cu cv d)) /\ Below w.heap.size w w' := by
  unfold Rates.errQ2
  have hc2 := fun W (hW : Below w.heap.size w W) => And.intro ((hW.cell (p := ⟨b, 0, none⟩) hb).trans hc) ((hW.cell (p := ⟨b, 1, none⟩) hb).trans hd1)
  have Hc2 := Lib.hid hc2
  clear hc2 hc hd1
  have H := Lib.hid h
  clear h
  have hR := (H.out.below ((Below.refl w.heap.size w).alloc (Nat.le_refl _) (.cells #[.string g.gc, .int .i64 g.Y, .int .i64 g.M, .int .i64 g.N, g.x0, g.x1, g.x2, g.x3, g.x4, g.x5, g.x6, g.x7, g.x8, g.x9, g.x10, g.x11, g.x12, g.x13, g.x14, g.x15, g.x16] 29)) (Nat.le_refl _)).more (C := (w.alloc (.cells #[.string g.gc, .int .i64 g.Y, .int .i64 g.M, .int .i64 g.N, g.x0, g.x1, g.x2, g.x3, g.x4, g.x5, g.x6, g.x7, g.x8, g.x9, g.x10, g.x11, g.x12, g.x13, g.x14, g.x15, g.x16] 29)).heap.size) (by simp)
  have HR := Lib.hid hR
  clear hR
  by_cases hv : Rates.valid g.gc rs = true
  · by_cases hq : (Rates.isCur cu && Rates.isCur cv) = true
    · have hpos : Rates.valid g.gc rs = true /\ (Rates.isCur cu && Rates.isCur cv) = true := ⟨hv, hq⟩
      rcases (show decide (-25567 <= d /\ d <= 84005) = true ∨ decide (-25567 <= d /\ d <= 84005) = false by cases decide (-25567 <= d /\ d <= 84005) <;> simp) with hd | hd
      all_goals
        have hd2 : Rates.dateB d = _ := hd
        rw [if_pos hpos, hd2]
        clear hpos hd2
        go_enter Tryz.func16, Tryz.ntmps16
        go_wp2_with (fail)
        refine (dvalidr_any _ _ _ _ rs _ hl hn hg hr HR.out).mono ?_
        rw [hv]
        rintro e w4 ⟨rfl, hB⟩
        have hB1 := ((Below.refl w.heap.size w).alloc (Nat.le_refl _) _).trans (hB.mono (by simp))
        have hz1 := hB1.size
        go_wp2_with (fail)
        refine (cntstr2_any _ _ _ _ _ hcu hcv (by omega) (Hc2.out _ hB1).1 (Hc2.out _ hB1).2).mono ?_
        rw [hq]
        rintro e w5 ⟨rfl, hB5⟩
        have hB2 := hB1.trans (hB5.mono hz1)
        go_wp2_with (go_at_call 36; refine (dvalid_any _ _).mono ?_; rw [hd]; rintro e w6 ⟨rfl, rfl⟩)
        go_ret
        exact ⟨rfl, hB2⟩
    · have hq' : (Rates.isCur cu && Rates.isCur cv) = false := by cases h : (Rates.isCur cu && Rates.isCur cv) with | true => exact absurd h hq | false => rfl
      rw [if_neg (fun hh => hq hh.2)]
      clear hq
      go_enter Tryz.func16, Tryz.ntmps16
      go_wp2_with (fail)
      refine (dvalidr_any _ _ _ _ rs _ hl hn hg hr HR.out).mono ?_
      rw [hv]
      rintro e w4 ⟨rfl, hB⟩
      have hB1 := ((Below.refl w.heap.size w).alloc (Nat.le_refl _) _).trans (hB.mono (by simp))
      have hz1 := hB1.size
      go_wp2_with (fail)
      refine (cntstr2_any _ _ _ _ _ hcu hcv (by omega) (Hc2.out _ hB1).1 (Hc2.out _ hB1).2).mono ?_
      rw [hq']
      rintro e w5 ⟨rfl, hB5⟩
      have hB2 := hB1.trans (hB5.mono hz1)
      go_wp2
      go_ret
      exact ⟨rfl, hB2⟩
  · have hv' : Rates.valid g.gc rs = false := by simpa using hv
    rw [if_neg (fun hh => hv hh.1)]
    clear hv
    go_enter Tryz.func16, Tryz.ntmps16
    go_wp2_with (fail)
    refine (dvalidr_any _ _ _ _ rs _ hl hn hg hr HR.out).mono ?_
    rw [hv']
    rintro e w4 ⟨rfl, hB⟩
    have hB1 := ((Below.refl w.heap.size w).alloc (Nat.le_refl _) _).trans (hB.mono (by simp))
    go_wp2
    go_ret
    exact ⟨rfl, hB1⟩

end
theorem Rates.whichR_val (g : ByteArray) (rs : List Rt) (cur : ByteArray) (d : Int) (h : (Rates.whichR g rs cur d).2 = 0) : 1 <= (Rates.whichR g rs cur d).1.val /\ (Rates.whichR g rs cur d).1.val <= 1000000000000 := by
  rcases Rates.whichR_cases g rs cur d with ⟨h1, h2, e⟩ | ⟨h1, _, h2, e⟩ | ⟨h1, _, h2, h3, e⟩ | ⟨h1, _, h2, h3, e⟩
  · rw [e] at h; simp at h
  · rw [e] at h; simp at h
  · rw [e]; simp
  · rw [e] at h ⊢
    have hv : Rates.valid g rs = true := by
      unfold Rates.errR at h1
      split at h1
      · rename_i hh; exact hh.1
      · simp at h1
    rcases Rates.which_spec cur (d - 40) d rs with ⟨hn, _⟩ | ⟨x, hx, _, _, hf⟩
    · have hw : Rates.which rs cur d = none := hn
      rw [hw] at h; simp at h
    · have hw : Rates.which rs cur d = some x := hx
      rw [hw]
      obtain ⟨r, hr, _, hrv⟩ := Rates.find_some rs cur 1 x.when_ x.val hf
      have hp := ((Rates.valid_iff g rs).1 hv).1 r hr
      unfold Rates.proper at hp
      simp only [Bool.and_eq_true, decide_eq_true_eq] at hp
      rw [<- hrv]
      exact hp.1.2
def Rates.crossE (g : ByteArray) (rs : List Rt) (cu cv : ByteArray) (d : Int) : Int :=
  if Rates.errQ2 g rs cu cv d = 0 then (if (Rates.whichR g rs cu d).2 = 0 /\ (Rates.whichR g rs cv d).2 = 0 then 0 else 13) else Rates.errQ2 g rs cu cv d
theorem Rates.crossE_cases (g : ByteArray) (rs : List Rt) (cu cv : ByteArray) (d : Int) :
    (Rates.errQ2 g rs cu cv d = 1 /\ Rates.crossE g rs cu cv d = 1) ∨ (Rates.errQ2 g rs cu cv d = 2 /\ Rates.crossE g rs cu cv d = 2) ∨
    (Rates.errQ2 g rs cu cv d = 0 /\ (Rates.whichR g rs cu d).2 ≠ 0 /\ Rates.crossE g rs cu cv d = 13) ∨
    (Rates.errQ2 g rs cu cv d = 0 /\ (Rates.whichR g rs cu d).2 = 0 /\ (Rates.whichR g rs cv d).2 ≠ 0 /\ Rates.crossE g rs cu cv d = 13) ∨
    (Rates.errQ2 g rs cu cv d = 0 /\ (Rates.whichR g rs cu d).2 = 0 /\ (Rates.whichR g rs cv d).2 = 0 /\ Rates.crossE g rs cu cv d = 0) := by
  unfold Rates.crossE
  by_cases h : Rates.errQ2 g rs cu cv d = 0
  · rw [if_pos h]
    by_cases h1 : (Rates.whichR g rs cu d).2 = 0 <;> by_cases h2 : (Rates.whichR g rs cv d).2 = 0 <;> simp [h, h1, h2]
  · rw [if_neg h]
    unfold Rates.errQ2 at h ⊢
    split
    · split
      · rename_i h1 h2; rw [if_pos h1, if_pos h2] at h; exact absurd rfl h
      · simp
    · simp
theorem Rates.crossR_cases (g : ByteArray) (rs : List Rt) (cu cv : ByteArray) (d : Int) :
    (Rates.errR g rs cv = 1 /\ Rates.crossE g rs cu cv d = 1) ∨
    (Rates.errR g rs cv = 0 /\ (Rates.whichR g rs cu d).2 ≠ 0 /\ Rates.crossE g rs cu cv d = (Rates.whichR g rs cu d).2) ∨
    (Rates.errR g rs cv = 0 /\ (Rates.whichR g rs cu d).2 = 0 /\ (Rates.whichR g rs cv d).2 ≠ 0 /\ Rates.crossE g rs cu cv d = (Rates.whichR g rs cv d).2) ∨
    (Rates.errR g rs cv = 0 /\ (Rates.whichR g rs cu d).2 = 0 /\ (Rates.whichR g rs cv d).2 = 0 /\ Rates.crossE g rs cu cv d = 0) := by
  have hz : ∀ c, ((Rates.whichR g rs c d).2 = 0 ∨ (Rates.whichR g rs c d).2 = 13) ∨ Rates.errQ g rs c d ≠ 0 /\ (Rates.whichR g rs c d).2 = Rates.errQ g rs c d := by
    intro c
    rcases Rates.whichR_cases g rs c d with ⟨h1, h2, e⟩ | ⟨h1, _, h2, e⟩ | ⟨h1, _, h2, h3, e⟩ | ⟨h1, _, h2, h3, e⟩
    · right; rw [e, h2]; simp
    · right; rw [e, h2]; simp
    · left; left; rw [e]
    · left
      rw [e]
      cases Rates.which rs c d <;> simp
  have hq : ∀ c, (Rates.whichR g rs c d).2 = 0 -> Rates.errQ g rs c d = 0 := by
    intro c h
    rcases Rates.whichR_cases g rs c d with ⟨h1, h2, e⟩ | ⟨h1, _, h2, e⟩ | ⟨h1, _, h2, h3, e⟩ | ⟨h1, _, h2, h3, e⟩
    · rw [e] at h; simp at h
    · rw [e] at h; simp at h
    · exact h2
    · exact h2
  have h13 : ∀ c, (Rates.whichR g rs c d).2 = 13 -> Rates.errQ g rs c d = 0 := by
    intro c h
    rcases Rates.whichR_cases g rs c d with ⟨h1, h2, e⟩ | ⟨h1, _, h2, e⟩ | ⟨h1, _, h2, h3, e⟩ | ⟨h1, _, h2, h3, e⟩
    · rw [e] at h; simp at h
    · rw [e] at h; simp at h
    · exact h2
    · exact h2
  have e1 : ∀ c, Rates.errQ g rs c d = if Rates.valid g rs = true /\ Rates.isCur c = true then (if Rates.dateB d = true then 0 else 2) else 1 := fun c => rfl
  have hu := hz cu
  have hv := hz cv
  have hqu := hq cu
  have hqv := hq cv
  have hu13 := h13 cu
  have hv13 := h13 cv
  rw [e1] at hu hqu hu13
  rw [e1] at hv hqv hv13
  obtain ⟨x, hx⟩ : ∃ x, x = (Rates.whichR g rs cu d).2 := ⟨_, rfl⟩
  obtain ⟨y, hy⟩ : ∃ y, y = (Rates.whichR g rs cv d).2 := ⟨_, rfl⟩
  unfold Rates.crossE Rates.errQ2 Rates.errR
  rw [<- hx] at hu hqu hu13 ⊢
  rw [<- hy] at hv hqv hv13 ⊢
  cases h1 : Rates.valid g rs <;> cases h2 : Rates.isCur cu <;> cases h3 : Rates.isCur cv <;> cases h4 : Rates.dateB d <;> simp [h1, h2, h3, h4] at hu hv hqu hqv hu13 hv13 ⊢ <;> (by_cases hx0 : x = 0 <;> by_cases hy0 : y = 0 <;> simp [hx0, hy0] at hu hv hqu hqv hu13 hv13 ⊢ <;> (try omega))
end Go.Proofs.YtalfikdjclineaaGreatDoor
