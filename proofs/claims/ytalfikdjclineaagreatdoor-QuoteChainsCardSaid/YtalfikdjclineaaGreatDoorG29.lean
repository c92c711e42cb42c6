/- My texts RefQuoRem, RefGcd. -/
import Derived.Test.YtalfikdjclineaaGreatDoorG07
import Derived.Test.YtalfikdjclineaaGreatDoorG08
import Derived.Test.YtalfikdjclineaaGreatDoorG28
set_option linter.unusedVariables false
set_option linter.unusedSimpArgs false
set_option maxRecDepth 100000
set_option maxHeartbeats 8000000
namespace Go.Proofs.YtalfikdjclineaaGreatDoor
namespace R1
open Go.RowKit

def RegT (w : World) (X Y : Array Value) (W' : World) : Prop :=
  Below w.heap.size w W' /\ W'.heap[w.heap.size]? = some (.cells X 47 (0, 0)) /\ W'.heap[w.heap.size + 1]? = some (.cells Y 47 (0, 0)) /\
  (∃ cs : Array Value, W'.heap[w.heap.size + 2]? = some (.cells cs 47 (0, 0)) /\ cs.size = 2) /\ ∃ cs : Array Value, W'.heap[w.heap.size + 3]? = some (.cells cs 47 (0, 0)) /\ cs.size = 2
theorem RegT.lt {w W : World} {X Y : Array Value} (h : RegT w X Y W) : w.heap.size + 3 < W.heap.size := by
  obtain ⟨_, _, _, _, cs, h, _⟩ := h
  exact (Array.getElem?_eq_some_iff.1 h).1
theorem RegT.step {w W W' : World} {X Y : Array Value} (h : RegT w X Y W) (hb : Below W.heap.size W W') : RegT w X Y W' := by
  have hlt := h.lt
  obtain ⟨h1, h2, h3, ⟨cs, h4, h5⟩, ds, h6, h7⟩ := h
  exact ⟨h1.trans (hb.mono h1.size), (hb.block _ (by omega)).trans h2, (hb.block _ (by omega)).trans h3, ⟨cs, (hb.block _ (by omega)).trans h4, h5⟩, ds, (hb.block _ hlt).trans h6, h7⟩
theorem RegT.store2 {w W : World} {X Y : Array Value} (h : RegT w X Y W) (cs : Array Value) (hc : cs.size = 2) : RegT w X Y (W.setRow (w.heap.size + 2) cs) := by
  obtain ⟨h1, h2, h3, ⟨ds, h4, h5⟩, es, h6, h7⟩ := h
  exact ⟨below_setRow h1 (by omega) _, (setRow_other _ _ _ _ (by omega)).trans h2, (setRow_other _ _ _ _ (by omega)).trans h3, ⟨cs, setRow_heap _ _ _ _ _ _ h4, hc⟩, es, (setRow_other _ _ _ _ (by omega)).trans h6, h7⟩
theorem RegT.store3 {w W : World} {X Y : Array Value} (h : RegT w X Y W) (cs : Array Value) (hc : cs.size = 2) : RegT w X Y (W.setRow (w.heap.size + 3) cs) := by
  obtain ⟨h1, h2, h3, ⟨ds, h4, h5⟩, es, h6, h7⟩ := h
  exact ⟨below_setRow h1 (by omega) _, (setRow_other _ _ _ _ (by omega)).trans h2, (setRow_other _ _ _ _ (by omega)).trans h3, ⟨ds, (setRow_other _ _ _ _ (by omega)).trans h4, h5⟩, cs, setRow_heap _ _ _ _ _ _ h6, hc⟩
theorem RegT.drew {w W : World} {X Y : Array Value} (h : RegT w X Y W) : RegT w X Y W.drew := ⟨below_drawn h.1 1, h.2⟩
theorem RegT.start (w : World) (X Y : Array Value) : RegT w X Y ((((w.alloc (.cells X 47)).alloc (.cells Y 47)).alloc (.cells #[.bool false, .slice none 0 0] 47)).alloc (.cells #[.bool false, .slice none 0 0] 47)) := by
  obtain ⟨h1, h2, h3, cs, h4, h5⟩ := RegS.start w X Y
  have hlt := (RegS.start w X Y).lt
  refine ⟨h1.alloc h1.size _, (Below.heap_alloc _ _ _ (by omega)).trans h2, (Below.heap_alloc _ _ _ (by omega)).trans h3, ⟨cs, (Below.heap_alloc _ _ _ hlt).trans h4, h5⟩, #[.bool false, .slice none 0 0], ?_, rfl⟩
  have := heap_alloc_new (((w.alloc (.cells X 47)).alloc (.cells Y 47)).alloc (.cells #[.bool false, .slice none 0 0] 47)) (.cells #[.bool false, .slice none 0 0] 47)
  rwa [show (((w.alloc (.cells X 47)).alloc (.cells Y 47)).alloc (.cells #[.bool false, .slice none 0 0] 47)).heap.size = w.heap.size + 3 by simp] at this
section
variable (w : World)
theorem quorem_any (k j : Nat) (u v : Value) (x y : Int) (hk : k <= 400000) (hj : j <= 400000) (hy : y ≠ 0) (hu : PI w w.heap.size k u x) (hv : PI w w.heap.size j v y) :
    Calls Tryz.prog 73 #[u, v] w fun e w' => (∃ q g' A' n' c', e = .returned (.tuple #[q, .agg #[.bool g', .slice A' n' c'], .int .i64 0]) /\ PI w' w'.heap.size k q (Int.tdiv x y)) /\ Below w.heap.size w w' := by
  have hv' := hv
  obtain ⟨g, A, n, c, l, rfl, hl, hn, hc, hL, hN, hx, hA, hsx⟩ := hu.parts
  obtain ⟨h, B, m, d, q, rfl, hq, hm, hd, hQ, hM, hyv, hB, hsy⟩ := hv.parts
  have hm0 : 0 < m := by rcases hsy with ⟨_, _, e⟩ | ⟨e, _⟩ | ⟨e, _⟩; exact absurd e hy; exact e; exact e
  have hvl := Big.val_nonneg (B := 10000) (by omega) hL
  have hvq := Big.val_nonneg (B := 10000) (by omega) hQ
  have hvq0 : 0 < Big.val 10000 q := by
    rcases Int.lt_or_eq_of_le hvq with h | h
    · exact h
    · exfalso; apply hy; rw [hyv, <- h]; simp [Big.sgn]
  have hsg : (sg y == 0) = false := by simp [sg_pos.2.2]; exact hy
  have hS0 := RegT.start w #[.bool g, .slice A n c] #[.bool h, .slice B m d]
  obtain ⟨W1, hW1⟩ : ∃ W1, W1 = ((((w.alloc (.cells #[.bool g, .slice A n c] 47)).alloc (.cells #[.bool h, .slice B m d] 47)).alloc (.cells #[.bool false, .slice none 0 0] 47)).alloc (.cells #[.bool false, .slice none 0 0] 47)) := ⟨_, rfl⟩
  rw [<- hW1] at hS0
  have HW := Lib.hid hW1
  have HX := Lib.hid hx
  have HY := Lib.hid hyv
  clear hW1 hx hyv hsx hsy hy
  have hq0 := hS0.lt
  have b0 := cell_of_row _ _ 0 _ _ _ hS0.2.2.1
  have b1 := cell_of_row _ _ 1 _ _ _ hS0.2.2.1
  simp at b0 b1
  go_enter Tryz.func73, Tryz.ntmps73
  go_upto_region 1 with (fail)
  rw [<- HW.out]
  go_wp2_with (fail)
  refine (sign_any W1 j _ y (hv'.at_ hS0.1)).mono ?_
  rintro e W2 ⟨rfl, hB2⟩
  have hS2 := hS0.step hB2
  have hq2 := hS2.lt
  have a1 := cell_of_row _ _ 1 _ _ _ hS2.2.1
  have d1 := cell_of_row _ _ 1 _ _ _ hS2.2.2.1
  simp at a1 d1
  clear b0 b1
  go_wp2_with (fail)
  refine (quo_any W2 A B n m c d l q hl hq (by omega) (by omega) hc hm0 hL hQ hN hM (hA.at_ hS2.1 (Nat.le_refl _)) (hB.at_ hS2.1 (Nat.le_refl _))).mono ?_
  rintro e W3 ⟨hB3, A1, n1, c1, Q, A2, n2, c2, R, rfl, hQl, hRl, hn1, hn2, hc1, hc2, hQL, hRL, hRN, hQR, hR0, hR1, hAQ, hAR, haQ0, _⟩
  have hS3 := hS2.step hB3
  have haQ : Away 0 W2.heap.size A1 Q := .inr fun b o e => .inr (haQ0 b o e)
  have HQl := Lib.hid hQl
  have HRl := Lib.hid hRl
  have Hquo := Lib.hid (quo_signed g h hvq0 hQR hR0 hR1 hvl)
  have hS := hS3.drew
  clear hQl hRl hQR a1 d1
  go_upto_region 4 with (fail)
  refine wp_region_held (S := RegT w #[.bool g, .slice A n c] #[.bool h, .slice B m d]) (by kernel_rfl) ?_
  change wpAnyH _ _ _ _ _ _ _ _ (World.drew _)
  refine wpAnyH_take (i := 0) (v := .pointer (some ⟨w.heap.size, 0, none⟩)) rfl (by kernel_rfl) (by kernel_rfl) (by kernel_rfl) (fun _ _ _ h => h) (.inl ⟨by rfl, fun W' hS' => by go_simp⟩) hS ?_
  try simp only [Act.put, List.setIfInBounds_toArray, List.set_cons_zero, List.set_cons_succ]
  refine wpAnyH_take (i := 1) (v := .bool g) rfl (by kernel_rfl) (by kernel_rfl) (by kernel_rfl) (fun _ _ _ h => h) (.inl ⟨by rfl, fun W' hS' => by have hc := cell_of_row _ _ 0 _ _ _ hS'.2.1; simp at hc; go_simp⟩) hS ?_
  try simp only [Act.put, List.setIfInBounds_toArray, List.set_cons_zero, List.set_cons_succ]
  refine wpAnyH_take (i := 2) (v := .pointer (some ⟨w.heap.size + 1, 0, none⟩)) rfl (by kernel_rfl) (by kernel_rfl) (by kernel_rfl) (fun _ _ _ h => h) (.inl ⟨by rfl, fun W' hS' => by go_simp⟩) hS ?_
  try simp only [Act.put, List.setIfInBounds_toArray, List.set_cons_zero, List.set_cons_succ]
  refine wpAnyH_take (i := 3) (v := .bool h) rfl (by kernel_rfl) (by kernel_rfl) (by kernel_rfl) (fun _ _ _ h => h) (.inl ⟨by rfl, fun W' hS' => by have hc := cell_of_row _ _ 0 _ _ _ hS'.2.2.1; simp at hc; go_simp⟩) hS ?_
  try simp only [Act.put, List.setIfInBounds_toArray, List.set_cons_zero, List.set_cons_succ]
  refine wpAnyH_take (i := 4) (v := .bool (g != h)) rfl (by kernel_rfl) (by kernel_rfl) (by kernel_rfl) (fun _ _ _ h => h) (.inl ⟨by rfl, fun W' hS' => by go_simp; cases g <;> cases h <;> rfl⟩) hS ?_
  try simp only [Act.put, List.setIfInBounds_toArray, List.set_cons_zero, List.set_cons_succ]
  refine wpAnyH_take (i := 5) (v := .slice A1 n1 c1) rfl (by kernel_rfl) (by kernel_rfl) (by kernel_rfl) (fun _ _ _ h => h) (.inl ⟨by rfl, fun W' hS' => by go_simp⟩) hS ?_
  try simp only [Act.put, List.setIfInBounds_toArray, List.set_cons_zero, List.set_cons_succ]
  refine wpAnyH_take (i := 7) (v := .pointer (some ⟨w.heap.size, 0, none⟩)) rfl (by kernel_rfl) (by kernel_rfl) (by kernel_rfl) (fun _ _ _ h => h) (.inl ⟨by rfl, fun W' hS' => by go_simp⟩) hS ?_
  try simp only [Act.put, List.setIfInBounds_toArray, List.set_cons_zero, List.set_cons_succ]
  refine wpAnyH_take (i := 8) (v := .bool g) rfl (by kernel_rfl) (by kernel_rfl) (by kernel_rfl) (fun _ _ _ h => h) (.inl ⟨by rfl, fun W' hS' => by have hc := cell_of_row _ _ 0 _ _ _ hS'.2.1; simp at hc; go_simp⟩) hS ?_
  try simp only [Act.put, List.setIfInBounds_toArray, List.set_cons_zero, List.set_cons_succ]
  refine wpAnyH_take (i := 9) (v := .slice A2 n2 c2) rfl (by kernel_rfl) (by kernel_rfl) (by kernel_rfl) (fun _ _ _ h => h) (.inl ⟨by rfl, fun W' hS' => by go_simp⟩) hS ?_
  try simp only [Act.put, List.setIfInBounds_toArray, List.set_cons_zero, List.set_cons_succ]
  refine wpAnyH_ready (rs := [6]) (by kernel_rfl) (by simp) (AllReadyH.cons rfl (fun K hK => ?_) AllReadyH.nil)
  go_simp
  refine (signed_any W3.drew (g != h) A1 n1 c1 Q HQl.out (by omega) hc1 hAQ).mono ?_
  rintro e W5 ⟨rfl, hB5⟩
  have hS5 := hS.step hB5
  refine hK.out _ _ hS5 (fun _ => ?_)
  clear hK K
  try simp only [Act.put, List.setIfInBounds_toArray, List.set_cons_zero, List.set_cons_succ]
  refine wpAnyH_ready (rs := [10]) (by kernel_rfl) (by simp) (AllReadyH.cons rfl (fun K hK => ?_) AllReadyH.nil)
  go_simp
  refine (signed_any W5 g A2 n2 c2 R HRl.out (by omega) hc2 (hAR.drewn.at_ hB5 (Nat.le_refl _))).mono ?_
  rintro e W6 ⟨rfl, hB6⟩
  have hS6 := hS5.step hB6
  refine hK.out _ _ hS6 (fun _ => ?_)
  clear hK K
  try simp only [Act.put, List.setIfInBounds_toArray, List.set_cons_zero, List.set_cons_succ]
  refine wpAnyH_ready (rs := [11]) (by kernel_rfl) (by simp) (AllReadyH.cons rfl (fun K hK => ?_) AllReadyH.nil)
  rw [if_pos (by rfl)]
  obtain ⟨cs, hcs, hcs2⟩ := hS6.2.2.2.1
  refine wp_store_row 47 _ _ none rfl rfl (w.heap.size + 2) 47 cs #[.bool ((g != h) && decide (0 < (Big.trim Q).length)), .slice A1 (Big.trim Q).length c1] rfl rfl hcs hcs2 intSize (by simp [Value.oneCell']) ?_
  have hR7 := setRow_heap W6 (w.heap.size + 2) cs #[.bool ((g != h) && decide (0 < (Big.trim Q).length)), .slice A1 (Big.trim Q).length c1] _ _ hcs
  have hS7 := hS6.store2 #[.bool ((g != h) && decide (0 < (Big.trim Q).length)), .slice A1 (Big.trim Q).length c1] rfl
  refine hK.out _ _ hS7 (fun _ => ?_)
  clear hK K
  try simp only [Act.put, List.setIfInBounds_toArray, List.set_cons_zero, List.set_cons_succ]
  refine wpAnyH_ready (rs := [12]) (by kernel_rfl) (by simp) (AllReadyH.cons rfl (fun K hK => ?_) AllReadyH.nil)
  rw [if_pos (by rfl)]
  obtain ⟨ds, hds, hds2⟩ := hS7.2.2.2.2
  refine wp_store_row 47 _ _ none rfl rfl (w.heap.size + 3) 47 ds #[.bool (g && decide (0 < (Big.trim R).length)), .slice A2 (Big.trim R).length c2] rfl rfl hds hds2 intSize (by simp [Value.oneCell']) ?_
  have hR8 := setRow_heap (W6.setRow (w.heap.size + 2) #[.bool ((g != h) && decide (0 < (Big.trim Q).length)), .slice A1 (Big.trim Q).length c1]) (w.heap.size + 3) ds #[.bool (g && decide (0 < (Big.trim R).length)), .slice A2 (Big.trim R).length c2] _ _ hds
  have hR8' := (setRow_other (W6.setRow (w.heap.size + 2) #[.bool ((g != h) && decide (0 < (Big.trim Q).length)), .slice A1 (Big.trim Q).length c1]) (w.heap.size + 3) (w.heap.size + 2) #[.bool (g && decide (0 < (Big.trim R).length)), .slice A2 (Big.trim R).length c2] (by omega)).trans hR7
  have hS8 := hS7.store3 #[.bool (g && decide (0 < (Big.trim R).length)), .slice A2 (Big.trim R).length c2] rfl
  refine hK.out _ _ hS8 (fun _ => ?_)
  clear hK K
  try simp only [Act.put, List.setIfInBounds_toArray, List.set_cons_zero, List.set_cons_succ]
  refine wpAnyH_ready (rs := [13]) (by kernel_rfl) (by simp) (AllReadyH.cons rfl (fun K hK => ?_) AllReadyH.nil)
  go_simp
  refine hK.out _ _ hS8 (fun _ => ?_)
  clear hK K
  refine wpAnyH_done (by kernel_rfl) ?_ _
  have hq3 := hS2.lt
  have hA8 := (((hAQ.drewn.at_ hB5 (Nat.le_refl _)).at_ hB6 (Nat.le_refl _)).away (w' := (W6.setRow (w.heap.size + 2) #[.bool ((g != h) && decide (0 < (Big.trim Q).length)), .slice A1 (Big.trim Q).length c1]).setRow (w.heap.size + 3) #[.bool (g && decide (0 < (Big.trim R).length)), .slice A2 (Big.trim R).length c2]) haQ (fun b hb => (setRow_other _ _ _ _ (by omega)).trans (setRow_other _ _ _ _ (by omega))))
  have HP := Lib.hid ((PI.mk (neg := g != h) HQl.out hn1 hc1 hQL hA8).more (C := ((W6.setRow (w.heap.size + 2) #[.bool ((g != h) && decide (0 < (Big.trim Q).length)), .slice A1 (Big.trim Q).length c1]).setRow (w.heap.size + 3) #[.bool (g && decide (0 < (Big.trim R).length)), .slice A2 (Big.trim R).length c2]).heap.size) (j := k) (by simp) (by omega))
  have hload1 := run_loadVar_row (P := Tryz.prog) _ _ _ 47 _ _ _ hR8' Tryz.underlying47 rfl intSize
  have hload2 := run_loadVar_row (P := Tryz.prog) _ _ _ 47 _ _ _ hR8 Tryz.underlying47 rfl intSize
  clear hA8
  go_wp2
  refine bodyPost_ret (v := .tuple #[.agg #[.bool ((g != h) && decide (0 < (Big.trim Q).length)), .slice A1 (Big.trim Q).length c1], .agg #[.bool (g && decide (0 < (Big.trim R).length)), .slice A2 (Big.trim R).length c2], .int .i64 0]) (by simp [results, Tryz.results73, asAddr, hload1, hload2]) rfl ⟨⟨_, _, _, _, _, rfl, ?_⟩, hS8.1⟩
  rw [HX.out, HY.out, <- Hquo.out]
  exact HP.out
end
end R1
end Go.Proofs.YtalfikdjclineaaGreatDoor
namespace Go.Proofs.YtalfikdjclineaaGreatDoor
namespace R1
open Go.RowKit

theorem RegS.drewN {w W : World} {X Y : Array Value} (h : RegS w X Y W) (q : Nat) : RegS w X Y (W.drewN q) := ⟨below_drawn h.1 q, h.2⟩
def GcdRel (w : World) (X Y : Array Value) (k : Nat) (G : Nat) (t : Nat) (s5 s6 : Value) (wr : World) : Prop :=
  ∃ (A : Option Addr) (n c : Nat) (p : List Int) (B : Option Addr) (m d : Nat) (q : List Int), s5 = .slice A n c /\ s6 = .slice B m d /\ p.length = n /\ q.length = m /\ n <= k /\ m <= k /\ n <= c /\ m <= d /\ Big.Lim 10000 p /\ Big.Lim 10000 q /\ Big.Norm p /\ Big.Norm q /\
    LimbsAt .i64 wr wr.heap.size A p /\ LimbsAt .i64 wr wr.heap.size B q /\ Away w.heap.size (w.heap.size + 3) A p /\ Away w.heap.size (w.heap.size + 3) B q /\ Int.gcd (Big.val 10000 p) (Big.val 10000 q) = G /\ RegS w X Y wr /\ t = (Big.val 10000 q).toNat
section
variable (w : World)
theorem gcd_any (k j : Nat) (u v : Value) (x y : Int) (hk : k <= 400000) (hj : j <= 400000) (hu : PI w w.heap.size k u x) (hv : PI w w.heap.size j v y) :
    Calls Tryz.prog 72 #[u, v] w fun e w' => (∃ r, e = .returned r /\ PI w' w'.heap.size (max k j) r (Int.gcd x y)) /\ Below w.heap.size w w' := by
  obtain ⟨g, A, n, c, l, rfl, hl, hn, hc, hL, hN, hx, hA, _⟩ := hu.parts
  obtain ⟨h, B, m, d, q, rfl, hq, hm, hd, hQ, hM, hy, hB, _⟩ := hv.parts
  have hg : Int.gcd x y = Int.gcd (Big.val 10000 l) (Big.val 10000 q) := by
    rw [hx, hy]; cases g <;> cases h <;> simp [Big.sgn]
  have hS0 := RegS.start w #[.bool g, .slice A n c] #[.bool h, .slice B m d]
  obtain ⟨W1, hW1⟩ : ∃ W1, W1 = (((w.alloc (.cells #[.bool g, .slice A n c] 47)).alloc (.cells #[.bool h, .slice B m d] 47)).alloc (.cells #[.bool false, .slice none 0 0] 47)) := ⟨_, rfl⟩
  rw [<- hW1] at hS0
  have HW := Lib.hid hW1
  have Hg := Lib.hid hg
  have hq1 := hS0.lt
  have a1 := cell_of_row _ _ 1 _ _ _ hS0.2.1
  have d1 := cell_of_row _ _ 1 _ _ _ hS0.2.2.1
  simp at a1 d1
  have HAw : Hid (Away w.heap.size (w.heap.size + 3) A l) := by
    show Away _ _ _ _
    rcases hA with h | ⟨b, o, e, hb, _⟩
    · exact .inl h
    · exact .inr fun b' o' e' => by rw [e] at e'; cases e'; exact .inl hb
  have HBw : Hid (Away w.heap.size (w.heap.size + 3) B q) := by
    show Away _ _ _ _
    rcases hB with h | ⟨b, o, e, hb, _⟩
    · exact .inl h
    · exact .inr fun b' o' e' => by rw [e] at e'; cases e'; exact .inl hb
  clear hW1 hg hx hy
  go_enter Tryz.func72, Tryz.ntmps72
  go_upto_region 1 with (fail)
  rw [<- HW.out]
  go_quiet (fail)
  go_wp2
  go_loopg [5, 6] (Big.val 10000 q).toNat (fun t s5 s6 wr => GcdRel w #[.bool g, .slice A n c] #[.bool h, .slice B m d] (max k j) (Int.gcd x y) t s5 s6 wr)
  case atStart => exact ⟨A, n, c, l, B, m, d, q, rfl, rfl, hl, hq, by omega, by omega, hc, hd, hL, hQ, hN, hM, (hA.at_ (hS0.drewN nq).1 (Nat.le_refl _)), (hB.at_ (hS0.drewN nq).1 (Nat.le_refl _)), HAw.out, HBw.out, Hg.out.symm, hS0.drewN _, rfl⟩
  case round =>
    obtain ⟨A', n', c', p', B', m', d', q', rfl, rfl, hl', hq', hn', hm', hc', hd', hL', hQ', hN', hM', hA', hB', hAw', hBw', hG', hS', ht'⟩ := hrel
    have HG := Lib.hid hG'
    have HT := Lib.hid ht'
    clear hG' ht' a1 d1 hA hB
    rcases Nat.eq_zero_or_pos m' with h0 | h0
    · have hq0 : q' = [] := List.length_eq_zero_iff.1 (by omega)
      have hz : Hid (Big.sgn false (Big.val 10000 p') = (Int.gcd x y : Int)) := by
        show _ = _
        rw [<- HG.out, hq0]
        have := Big.val_nonneg (B := 10000) (by omega) hL'
        simp [Big.sgn, Big.val]; omega
      obtain ⟨cs, hcs, hcs2⟩ := hS'.2.2.2
      subst h0
      have hlt := hS'.lt
      clear hq' hq0
      go_wp2_with (fail)
      refine (signed_any wr false A' n' c' p' hl' (by omega) hc' hA').mono ?_
      rintro e w5 ⟨rfl, hB5⟩
      have hS5 := hS'.step hB5
      have hq5 := hB5.size
      obtain ⟨cs5, hcs5, hcs52⟩ := hS5.2.2.2
      obtain ⟨e0, e1, rfl⟩ : ∃ e0 e1, cs5 = #[e0, e1] := by
        obtain ⟨l5⟩ := cs5
        match l5, hcs52 with
        | [a, b], _ => exact ⟨a, b, rfl⟩
      have z0 : w5.cell? ⟨w.heap.size + 1 + 1, 0, none⟩ = some e0 := by rw [cell_of_row w5 (w.heap.size + 1 + 1) _ _ _ _ hcs5]; rfl
      have z1 : w5.cell? ⟨w.heap.size + 1 + 1, 1, none⟩ = some e1 := by rw [cell_of_row w5 (w.heap.size + 1 + 1) _ _ _ _ hcs5]; rfl
      have zf : ∀ j, w5.frozen? ⟨w.heap.size + 1 + 1, j, none⟩ = false := fun j => frozen_of_row w5 (w.heap.size + 1 + 1) _ _ _ hcs5
      have hP := Lib.hid ((PI.mk (neg := false) hl' hn' hc' hL' ((hA'.at_ hB5 (Nat.le_refl _)).away (w' := (w5.setCell ⟨w.heap.size + 1 + 1, 0, none⟩ (.bool (false && decide (0 < (Big.trim p').length)))).setCell ⟨w.heap.size + 1 + 1, 1, none⟩ (.slice A' (Big.trim p').length c')) hAw' (fun b hb => (Below.heap_setCell _ _ _ b (fun e => by simp at e; omega)).trans (Below.heap_setCell _ _ _ b (fun e => by simp at e; omega))))).more (C := ((w5.setCell ⟨w.heap.size + 1 + 1, 0, none⟩ (.bool (false && decide (0 < (Big.trim p').length)))).setCell ⟨w.heap.size + 1 + 1, 1, none⟩ (.slice A' (Big.trim p').length c')).heap.size) (j := max k j) (by simp) (Nat.le_refl _))
      rw [hz.out] at hP
      have hBf := (hS5.1.setCell (p := ⟨w.heap.size + 1 + 1, 0, none⟩) (by simp; omega) (.bool (false && decide (0 < (Big.trim p').length)))).setCell (p := ⟨w.heap.size + 1 + 1, 1, none⟩) (by simp; omega) (.slice A' (Big.trim p').length c')
      simp only [Bool.false_and] at hP hBf ⊢
      clear hcs5 hcs hcs52 hcs2
      have hw5 : w.heap.size + 1 + 1 < w5.heap.size := by omega
      go_wp2
      refine bodyPost_ret (v := .agg #[.bool false, .slice A' (Big.trim p').length c']) (by simp [results, Tryz.results72, go_sem, z0, z1]) rfl ⟨⟨_, rfl, hP.out⟩, hBf⟩
    · have hlt := hS'.lt
      have hkj : max k j <= 400000 := by omega
      have Hm' := Lib.hid hm'
      have Hn' := Lib.hid hn'
      have hn4 : n' <= 400000 := by omega
      have hm4 : m' <= 400000 := by omega
      clear hm' hn'
      go_wp2_with (fail)
      refine (quo_any wr A' B' n' m' c' d' p' q' hl' hq' hn4 hm4 hc' h0 hL' hQ' hN' hM' hA' hB').mono ?_
      rintro e w4 ⟨hB4, A1, n1, c1, Q, A2, n2, c2, R, rfl, hQl, hRl, hn1, hn2, hc1, hc2, hQL, hRL, hRN, hQR, hR0, hR1, hAQ, hAR, hfQ, hfR⟩
      have HRl := Lib.hid hRl
      have HQR := Lib.hid hQR
      clear hQl hRl hQR
      go_wp2
      go_roundg (Big.val 10000 R).toNat
      case measure =>
        rw [HT.out]; omega
      case rel =>
        refine ⟨B', m', d', q', A2, _, c2, R, rfl, rfl, hq', HRl.out, Hm'.out, by have := Hm'.out; omega, hd', by omega, hQ', hRL, hM', hRN, hB'.at_ hB4 (Nat.le_refl _), hAR, hBw', ?_, ?_, hS'.step hB4, rfl⟩
        · rcases hfR with ⟨rfl, rfl⟩ | hf
          · exact hAw'
          · exact .inr fun b o e => .inr (by have := hf b o e; omega)
        · rw [<- HG.out]; exact gcd_step _ _ _ _ HQR.out
end
end R1
end Go.Proofs.YtalfikdjclineaaGreatDoor
