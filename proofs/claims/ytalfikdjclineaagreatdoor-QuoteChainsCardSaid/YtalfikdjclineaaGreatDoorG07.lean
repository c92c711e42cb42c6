/- My texts IntQuo. -/
import Derived.Test.YtalfikdjclineaaGreatDoorG06
set_option linter.unusedVariables false
set_option linter.unusedSimpArgs false
set_option maxRecDepth 100000
set_option maxHeartbeats 8000000
namespace Go.Proofs.YtalfikdjclineaaGreatDoor
open Go.RowKit

def RegT (w : World) (X Y : Array Value) (W' : World) : Prop :=
  Below w.heap.size w W' /\ W'.heap[w.heap.size]? = some (.cells X 39 (0, 0)) /\ W'.heap[w.heap.size + 1]? = some (.cells Y 39 (0, 0)) /\
  (∃ cs : Array Value, W'.heap[w.heap.size + 2]? = some (.cells cs 39 (0, 0)) /\ cs.size = 2) /\ ∃ cs : Array Value, W'.heap[w.heap.size + 3]? = some (.cells cs 39 (0, 0)) /\ cs.size = 2
theorem RegT.lt {w W : World} {X Y : Array Value} (h : RegT w X Y W) : w.heap.size + 3 < W.heap.size := by
  obtain ⟨_, _, _, _, cs, h, _⟩ := h
  exact (Array.getElem?_eq_some_iff.1 h).1
theorem RegT.step {w W W' : World} {X Y : Array Value} (h : RegT w X Y W) (hb : Below W.heap.size W W') : RegT w X Y W' := by
  have hlt := h.lt
  obtain ⟨h1, h2, h3, ⟨cs, h4, h5⟩, ds, h6, h7⟩ := h
  exact ⟨h1.trans (hb.mono h1.size), (hb.block _ (by omega)).trans h2, (hb.block _ (by omega)).trans h3, ⟨cs, (hb.block _ (by omega)).trans h4, h5⟩, ds, (hb.block _ hlt).trans h6, h7⟩
theorem RegT.store2 {w W : World} {X Y : Array Value} (h : RegT w X Y W) (cs : Array Value) (hc : cs.size = 2) : RegT w X Y (W.setRow (w.heap.size + 2) cs) := by
  obtain ⟨h1, h2, h3, ⟨ds, h4, h5⟩, es, h6, h7⟩ := h
  exact ⟨below_setRow h1 (by omega) _, (setRow_other _ _ _ _ (by omega)).trans h2, (setRow_other _ _ _ _ (by omega)).trans h3, ⟨cs, setRow_heap _ _ _ _ _ _ h4, hc⟩, es, (setRow_other _ _ _ _ (by omega)).trans h6, h7⟩
theorem RegT.store3 {w W : World} {X Y : Array Value} (h : RegT w X Y W) (cs : Array Value) (hc : cs.size = 2) : RegT w X Y (W.setRow (w.heap.size + 3) cs) := by
  obtain ⟨h1, h2, h3, ⟨ds, h4, h5⟩, es, h6, h7⟩ := h
  exact ⟨below_setRow h1 (by omega) _, (setRow_other _ _ _ _ (by omega)).trans h2, (setRow_other _ _ _ _ (by omega)).trans h3, ⟨ds, (setRow_other _ _ _ _ (by omega)).trans h4, h5⟩, cs, setRow_heap _ _ _ _ _ _ h6, hc⟩
theorem RegT.drew {w W : World} {X Y : Array Value} (h : RegT w X Y W) : RegT w X Y W.drew := ⟨below_drawn h.1 1, h.2⟩
theorem RegT.start (w : World) (X Y : Array Value) : RegT w X Y ((((w.alloc (.cells X 39)).alloc (.cells Y 39)).alloc (.cells #[.bool false, .slice none 0 0] 39)).alloc (.cells #[.bool false, .slice none 0 0] 39)) := by
  obtain ⟨h1, h2, h3, cs, h4, h5⟩ := RegS.start w X Y
  have hlt := (RegS.start w X Y).lt
  refine ⟨h1.alloc h1.size _, (Below.heap_alloc _ _ _ (by omega)).trans h2, (Below.heap_alloc _ _ _ (by omega)).trans h3, ⟨cs, (Below.heap_alloc _ _ _ hlt).trans h4, h5⟩, #[.bool false, .slice none 0 0], ?_, rfl⟩
  have := heap_alloc_new (((w.alloc (.cells X 39)).alloc (.cells Y 39)).alloc (.cells #[.bool false, .slice none 0 0] 39)) (.cells #[.bool false, .slice none 0 0] 39)
  rwa [show (((w.alloc (.cells X 39)).alloc (.cells Y 39)).alloc (.cells #[.bool false, .slice none 0 0] 39)).heap.size = w.heap.size + 3 by simp] at this
theorem LimbsAt.away {K : IntKind} {w w' : World} {B Bk n : Nat} {A : Option Addr} {l : List Int} (h : LimbsAt K w B A l) (ha : Away Bk n A l) (hg : ∀ b, b < Bk ∨ n <= b -> w'.heap[b]? = w.heap[b]?) : LimbsAt K w' B A l := by
  rcases ha with h0 | ha
  · exact .inl h0
  · exact h.other fun b o e => hg b (ha b o e)
theorem LimbsAt.drewn {K : IntKind} {w : World} {B : Nat} {A : Option Addr} {l : List Int} (h : LimbsAt K w B A l) : LimbsAt K w.drew B A l := h
theorem quo_signed {a b Q R : Int} (g h : Bool) (hb : 0 < b) (e : a = b * Q + R) (h0 : 0 <= R) (h1 : R < b) (ha : 0 <= a) : Big.sgn (g != h) Q = Int.tdiv (Big.sgn g a) (Big.sgn h b) := by
  have hQ : Q = a / b := by
    rw [e, Int.add_comm, Int.add_mul_ediv_left _ _ (by omega), Int.ediv_eq_zero_of_lt h0 h1, Int.zero_add]
  have ht : Int.tdiv a b = a / b := Int.tdiv_eq_ediv_of_nonneg ha
  cases g <;> cases h <;> simp [Big.sgn, Int.neg_tdiv, Int.tdiv_neg, ht, hQ]

section
variable (w : World)
theorem quorem_any (k j : Nat) (u v : Value) (x y : Int) (hk : k <= 1000000) (hj : j <= 1000000) (hy : y ≠ 0) (hs : j <= 1 ∨ x.natAbs < y.natAbs) (hu : PI w w.heap.size k u x) (hv : PI w w.heap.size j v y) :
    Calls Tryz.prog 55 #[u, v] w fun e w' => (∃ q g' A' n' c', e = .returned (.tuple #[q, .agg #[.bool g', .slice A' n' c'], .int .i64 0]) /\ PI w' w'.heap.size k q (Int.tdiv x y)) /\ Below w.heap.size w w' := by
  have hv' := hv
  obtain ⟨g, A, n, c, l, rfl, hl, hn, hc, hL, hN, hx, hA, hsx⟩ := hu.parts
  obtain ⟨h, B, m, d, q, rfl, hq, hm, hd, hQ, hM, hyv, hB, hsy⟩ := hv.parts
  have hm0 : 0 < m := by rcases hsy with ⟨_, _, e⟩ | ⟨e, _⟩ | ⟨e, _⟩; exact absurd e hy; exact e; exact e
  have hvl := Big.val_nonneg (B := 1000000000) (by omega) hL
  have hvq := Big.val_nonneg (B := 1000000000) (by omega) hQ
  have hvq0 : 0 < Big.val 1000000000 q := by
    rcases Int.lt_or_eq_of_le hvq with h | h
    · exact h
    · exfalso; apply hy; rw [hyv, <- h]; simp [Big.sgn]
  have hone : m = 1 ∨ Big.val 1000000000 l < Big.val 1000000000 q := by
    rcases hs with h1 | h1
    · left; omega
    · right; rw [hx, hyv] at h1; cases g <;> cases h <;> simp [Big.sgn] at h1 <;> omega
  have hsg : (sg y == 0) = false := by simp [sg_pos.2.2]; exact hy
  have hS0 := RegT.start w #[.bool g, .slice A n c] #[.bool h, .slice B m d]
  obtain ⟨W1, hW1⟩ : ∃ W1, W1 = ((((w.alloc (.cells #[.bool g, .slice A n c] 39)).alloc (.cells #[.bool h, .slice B m d] 39)).alloc (.cells #[.bool false, .slice none 0 0] 39)).alloc (.cells #[.bool false, .slice none 0 0] 39)) := ⟨_, rfl⟩
  rw [<- hW1] at hS0
  have HW := Lib.hid hW1
  have HX := Lib.hid hx
  have HY := Lib.hid hyv
  clear hW1 hx hyv hsx hsy hy hs
  have hq0 := hS0.lt
  have b0 := cell_of_row _ _ 0 _ _ _ hS0.2.2.1
  have b1 := cell_of_row _ _ 1 _ _ _ hS0.2.2.1
  simp at b0 b1
  go_enter Tryz.func55, Tryz.ntmps55
  go_upto_region 1 with (fail)
  rw [<- HW.out]
  go_wp2_with (fail)
  refine (sign_any W1 j _ y (hv'.at_ hS0.1)).mono ?_
  rintro e W2 ⟨rfl, hB2⟩
  have hS2 := hS0.step hB2
  have hq2 := hS2.lt
  have a1 := cell_of_row _ _ 1 _ _ _ hS2.2.1
  have d1 := cell_of_row _ _ 1 _ _ _ hS2.2.2.1
  simp at a1 d1
  clear b0 b1
  go_wp2_with (fail)
  refine (divide_any W2 A B n m c d l q hl hq (by omega) (by omega) hc hm0 hL hQ hN hM hone (hA.at_ hS2.1 (Nat.le_refl _)) (hB.at_ hS2.1 (Nat.le_refl _))).mono ?_
  rintro e W3 ⟨hB3, A1, n1, c1, Q, A2, n2, c2, R, rfl, hQl, hRl, hn1, hn2, hc1, hc2, hQL, hRL, hQR, hR0, hR1, hAQ, hAR, haQ0, _⟩
  have hS3 := hS2.step hB3
  have haQ : Away 0 W2.heap.size A1 Q := .inr fun b o e => .inr (haQ0 b o e)
  have HQl := Lib.hid hQl
  have HRl := Lib.hid hRl
  have Hquo := Lib.hid (quo_signed g h hvq0 hQR hR0 hR1 hvl)
  have hS := hS3.drew
  clear hQl hRl hQR a1 d1
  go_upto_region 4 with (fail)
  refine wp_region_held (S := RegT w #[.bool g, .slice A n c] #[.bool h, .slice B m d]) (by kernel_rfl) ?_
  change wpAnyH _ _ _ _ _ _ _ _ (World.drew _)
  refine wpAnyH_take (i := 0) (v := .pointer (some ⟨w.heap.size, 0, none⟩)) rfl (by kernel_rfl) (by kernel_rfl) (by kernel_rfl) (fun _ _ _ h => h) (.inl ⟨by rfl, fun W' hS' => by go_simp⟩) hS ?_
  try simp only [Act.put, List.setIfInBounds_toArray, List.set_cons_zero, List.set_cons_succ]
  refine wpAnyH_take (i := 1) (v := .bool g) rfl (by kernel_rfl) (by kernel_rfl) (by kernel_rfl) (fun _ _ _ h => h) (.inl ⟨by rfl, fun W' hS' => by have hc := cell_of_row _ _ 0 _ _ _ hS'.2.1; simp at hc; go_simp⟩) hS ?_
  try simp only [Act.put, List.setIfInBounds_toArray, List.set_cons_zero, List.set_cons_succ]
  refine wpAnyH_take (i := 2) (v := .pointer (some ⟨w.heap.size + 1, 0, none⟩)) rfl (by kernel_rfl) (by kernel_rfl) (by kernel_rfl) (fun _ _ _ h => h) (.inl ⟨by rfl, fun W' hS' => by go_simp⟩) hS ?_
  try simp only [Act.put, List.setIfInBounds_toArray, List.set_cons_zero, List.set_cons_succ]
  refine wpAnyH_take (i := 3) (v := .bool h) rfl (by kernel_rfl) (by kernel_rfl) (by kernel_rfl) (fun _ _ _ h => h) (.inl ⟨by rfl, fun W' hS' => by have hc := cell_of_row _ _ 0 _ _ _ hS'.2.2.1; simp at hc; go_simp⟩) hS ?_
  try simp only [Act.put, List.setIfInBounds_toArray, List.set_cons_zero, List.set_cons_succ]
  refine wpAnyH_take (i := 4) (v := .bool (g != h)) rfl (by kernel_rfl) (by kernel_rfl) (by kernel_rfl) (fun _ _ _ h => h) (.inl ⟨by rfl, fun W' hS' => by go_simp; cases g <;> cases h <;> rfl⟩) hS ?_
  try simp only [Act.put, List.setIfInBounds_toArray, List.set_cons_zero, List.set_cons_succ]
  refine wpAnyH_take (i := 5) (v := .slice A1 n1 c1) rfl (by kernel_rfl) (by kernel_rfl) (by kernel_rfl) (fun _ _ _ h => h) (.inl ⟨by rfl, fun W' hS' => by go_simp⟩) hS ?_
  try simp only [Act.put, List.setIfInBounds_toArray, List.set_cons_zero, List.set_cons_succ]
  refine wpAnyH_take (i := 7) (v := .pointer (some ⟨w.heap.size, 0, none⟩)) rfl (by kernel_rfl) (by kernel_rfl) (by kernel_rfl) (fun _ _ _ h => h) (.inl ⟨by rfl, fun W' hS' => by go_simp⟩) hS ?_
  try simp only [Act.put, List.setIfInBounds_toArray, List.set_cons_zero, List.set_cons_succ]
  refine wpAnyH_take (i := 8) (v := .bool g) rfl (by kernel_rfl) (by kernel_rfl) (by kernel_rfl) (fun _ _ _ h => h) (.inl ⟨by rfl, fun W' hS' => by have hc := cell_of_row _ _ 0 _ _ _ hS'.2.1; simp at hc; go_simp⟩) hS ?_
  try simp only [Act.put, List.setIfInBounds_toArray, List.set_cons_zero, List.set_cons_succ]
  refine wpAnyH_take (i := 9) (v := .slice A2 n2 c2) rfl (by kernel_rfl) (by kernel_rfl) (by kernel_rfl) (fun _ _ _ h => h) (.inl ⟨by rfl, fun W' hS' => by go_simp⟩) hS ?_
  try simp only [Act.put, List.setIfInBounds_toArray, List.set_cons_zero, List.set_cons_succ]
  refine wpAnyH_ready (rs := [6]) (by kernel_rfl) (by simp) (AllReadyH.cons rfl (fun K hK => ?_) AllReadyH.nil)
  go_simp
  refine (signed_any W3.drew (g != h) A1 n1 c1 Q HQl.out (by omega) hc1 hAQ).mono ?_
  rintro e W5 ⟨rfl, hB5⟩
  have hS5 := hS.step hB5
  refine hK.out _ _ hS5 (fun _ => ?_)
  clear hK K
  try simp only [Act.put, List.setIfInBounds_toArray, List.set_cons_zero, List.set_cons_succ]
  refine wpAnyH_ready (rs := [10]) (by kernel_rfl) (by simp) (AllReadyH.cons rfl (fun K hK => ?_) AllReadyH.nil)
  go_simp
  refine (signed_any W5 g A2 n2 c2 R HRl.out (by omega) hc2 (hAR.drewn.at_ hB5 (Nat.le_refl _))).mono ?_
  rintro e W6 ⟨rfl, hB6⟩
  have hS6 := hS5.step hB6
  refine hK.out _ _ hS6 (fun _ => ?_)
  clear hK K
  try simp only [Act.put, List.setIfInBounds_toArray, List.set_cons_zero, List.set_cons_succ]
  refine wpAnyH_ready (rs := [11]) (by kernel_rfl) (by simp) (AllReadyH.cons rfl (fun K hK => ?_) AllReadyH.nil)
  rw [if_pos (by rfl)]
  obtain ⟨cs, hcs, hcs2⟩ := hS6.2.2.2.1
  refine wp_store_row 39 _ _ none rfl rfl (w.heap.size + 2) 39 cs #[.bool ((g != h) && decide (0 < (Big.trim Q).length)), .slice A1 (Big.trim Q).length c1] rfl rfl hcs hcs2 intSize (by simp [Value.oneCell']) ?_
  have hR7 := setRow_heap W6 (w.heap.size + 2) cs #[.bool ((g != h) && decide (0 < (Big.trim Q).length)), .slice A1 (Big.trim Q).length c1] _ _ hcs
  have hS7 := hS6.store2 #[.bool ((g != h) && decide (0 < (Big.trim Q).length)), .slice A1 (Big.trim Q).length c1] rfl
  refine hK.out _ _ hS7 (fun _ => ?_)
  clear hK K
  try simp only [Act.put, List.setIfInBounds_toArray, List.set_cons_zero, List.set_cons_succ]
  refine wpAnyH_ready (rs := [12]) (by kernel_rfl) (by simp) (AllReadyH.cons rfl (fun K hK => ?_) AllReadyH.nil)
  rw [if_pos (by rfl)]
  obtain ⟨ds, hds, hds2⟩ := hS7.2.2.2.2
  refine wp_store_row 39 _ _ none rfl rfl (w.heap.size + 3) 39 ds #[.bool (g && decide (0 < (Big.trim R).length)), .slice A2 (Big.trim R).length c2] rfl rfl hds hds2 intSize (by simp [Value.oneCell']) ?_
  have hR8 := setRow_heap (W6.setRow (w.heap.size + 2) #[.bool ((g != h) && decide (0 < (Big.trim Q).length)), .slice A1 (Big.trim Q).length c1]) (w.heap.size + 3) ds #[.bool (g && decide (0 < (Big.trim R).length)), .slice A2 (Big.trim R).length c2] _ _ hds
  have hR8' := (setRow_other (W6.setRow (w.heap.size + 2) #[.bool ((g != h) && decide (0 < (Big.trim Q).length)), .slice A1 (Big.trim Q).length c1]) (w.heap.size + 3) (w.heap.size + 2) #[.bool (g && decide (0 < (Big.trim R).length)), .slice A2 (Big.trim R).length c2] (by omega)).trans hR7
  have hS8 := hS7.store3 #[.bool (g && decide (0 < (Big.trim R).length)), .slice A2 (Big.trim R).length c2] rfl
  refine hK.out _ _ hS8 (fun _ => ?_)
  clear hK K
  try simp only [Act.put, List.setIfInBounds_toArray, List.set_cons_zero, List.set_cons_succ]
  refine wpAnyH_ready (rs := [13]) (by kernel_rfl) (by simp) (AllReadyH.cons rfl (fun K hK => ?_) AllReadyH.nil)
  go_simp
  refine hK.out _ _ hS8 (fun _ => ?_)
  clear hK K
  refine wpAnyH_done (by kernel_rfl) ?_ _
  have hq3 := hS2.lt
  have hA8 := (((hAQ.drewn.at_ hB5 (Nat.le_refl _)).at_ hB6 (Nat.le_refl _)).away (w' := (W6.setRow (w.heap.size + 2) #[.bool ((g != h) && decide (0 < (Big.trim Q).length)), .slice A1 (Big.trim Q).length c1]).setRow (w.heap.size + 3) #[.bool (g && decide (0 < (Big.trim R).length)), .slice A2 (Big.trim R).length c2]) haQ (fun b hb => (setRow_other _ _ _ _ (by omega)).trans (setRow_other _ _ _ _ (by omega))))
  have HP := Lib.hid ((PI.mk (neg := g != h) HQl.out hn1 hc1 hQL hA8).more (C := ((W6.setRow (w.heap.size + 2) #[.bool ((g != h) && decide (0 < (Big.trim Q).length)), .slice A1 (Big.trim Q).length c1]).setRow (w.heap.size + 3) #[.bool (g && decide (0 < (Big.trim R).length)), .slice A2 (Big.trim R).length c2]).heap.size) (j := k) (by simp) (by omega))
  have hload1 := run_loadVar_row (P := Tryz.prog) _ _ _ 39 _ _ _ hR8' Tryz.underlying39 rfl intSize
  have hload2 := run_loadVar_row (P := Tryz.prog) _ _ _ 39 _ _ _ hR8 Tryz.underlying39 rfl intSize
  clear hA8
  go_wp2
  refine bodyPost_ret (v := .tuple #[.agg #[.bool ((g != h) && decide (0 < (Big.trim Q).length)), .slice A1 (Big.trim Q).length c1], .agg #[.bool (g && decide (0 < (Big.trim R).length)), .slice A2 (Big.trim R).length c2], .int .i64 0]) (by simp [results, Tryz.results55, asAddr, hload1, hload2]) rfl ⟨⟨_, _, _, _, _, rfl, ?_⟩, hS8.1⟩
  rw [HX.out, HY.out, <- Hquo.out]
  exact HP.out

theorem quoremg_any (k j : Nat) (u v : Value) (x y : Int) (hk : k <= 900000) (hj : j <= 900000) (hy : y ≠ 0) (hu : PI w w.heap.size k u x) (hv : PI w w.heap.size j v y) :
    Calls Tryz.prog 55 #[u, v] w fun e w' => (∃ q g' A' n' c', e = .returned (.tuple #[q, .agg #[.bool g', .slice A' n' c'], .int .i64 0]) /\ PI w' w'.heap.size k q (Int.tdiv x y)) /\ Below w.heap.size w w' := by
  have hv' := hv
  obtain ⟨g, A, n, c, l, rfl, hl, hn, hc, hL, hN, hx, hA, hsx⟩ := hu.parts
  obtain ⟨h, B, m, d, q, rfl, hq, hm, hd, hQ, hM, hyv, hB, hsy⟩ := hv.parts
  have hm0 : 0 < m := by rcases hsy with ⟨_, _, e⟩ | ⟨e, _⟩ | ⟨e, _⟩; exact absurd e hy; exact e; exact e
  have hvl := Big.val_nonneg (B := 1000000000) (by omega) hL
  have hvq := Big.val_nonneg (B := 1000000000) (by omega) hQ
  have hvq0 : 0 < Big.val 1000000000 q := by
    rcases Int.lt_or_eq_of_le hvq with h | h
    · exact h
    · exfalso; apply hy; rw [hyv, <- h]; simp [Big.sgn]
  have hsg : (sg y == 0) = false := by simp [sg_pos.2.2]; exact hy
  have hS0 := RegT.start w #[.bool g, .slice A n c] #[.bool h, .slice B m d]
  obtain ⟨W1, hW1⟩ : ∃ W1, W1 = ((((w.alloc (.cells #[.bool g, .slice A n c] 39)).alloc (.cells #[.bool h, .slice B m d] 39)).alloc (.cells #[.bool false, .slice none 0 0] 39)).alloc (.cells #[.bool false, .slice none 0 0] 39)) := ⟨_, rfl⟩
  rw [<- hW1] at hS0
  have HW := Lib.hid hW1
  have HX := Lib.hid hx
  have HY := Lib.hid hyv
  clear hW1 hx hyv hsx hsy hy
  have hq0 := hS0.lt
  have b0 := cell_of_row _ _ 0 _ _ _ hS0.2.2.1
  have b1 := cell_of_row _ _ 1 _ _ _ hS0.2.2.1
  simp at b0 b1
  go_enter Tryz.func55, Tryz.ntmps55
  go_upto_region 1 with (fail)
  rw [<- HW.out]
  go_wp2_with (fail)
  refine (sign_any W1 j _ y (hv'.at_ hS0.1)).mono ?_
  rintro e W2 ⟨rfl, hB2⟩
  have hS2 := hS0.step hB2
  have hq2 := hS2.lt
  have a1 := cell_of_row _ _ 1 _ _ _ hS2.2.1
  have d1 := cell_of_row _ _ 1 _ _ _ hS2.2.2.1
  simp at a1 d1
  clear b0 b1
  go_wp2_with (fail)
  refine (divideg_any W2 A B n m c d l q hl hq (by omega) (by omega) hc hm0 hL hQ hN hM (hA.at_ hS2.1 (Nat.le_refl _)) (hB.at_ hS2.1 (Nat.le_refl _))).mono ?_
  rintro e W3 ⟨hB3, A1, n1, c1, Q, A2, n2, c2, R, rfl, hQl, hRl, hn1, hn2, hc1, hc2, hQL, hRL, hQR, hR0, hR1, hAQ, hAR, haQ0, _⟩
  have hS3 := hS2.step hB3
  have haQ : Away 0 W2.heap.size A1 Q := .inr fun b o e => .inr (haQ0 b o e)
  have HQl := Lib.hid hQl
  have HRl := Lib.hid hRl
  have Hquo := Lib.hid (quo_signed g h hvq0 hQR hR0 hR1 hvl)
  have hS := hS3.drew
  clear hQl hRl hQR a1 d1
  go_upto_region 4 with (fail)
  refine wp_region_held (S := RegT w #[.bool g, .slice A n c] #[.bool h, .slice B m d]) (by kernel_rfl) ?_
  change wpAnyH _ _ _ _ _ _ _ _ (World.drew _)
  refine wpAnyH_take (i := 0) (v := .pointer (some ⟨w.heap.size, 0, none⟩)) rfl (by kernel_rfl) (by kernel_rfl) (by kernel_rfl) (fun _ _ _ h => h) (.inl ⟨by rfl, fun W' hS' => by go_simp⟩) hS ?_
  try simp only [Act.put, List.setIfInBounds_toArray, List.set_cons_zero, List.set_cons_succ]
  refine wpAnyH_take (i := 1) (v := .bool g) rfl (by kernel_rfl) (by kernel_rfl) (by kernel_rfl) (fun _ _ _ h => h) (.inl ⟨by rfl, fun W' hS' => by have hc := cell_of_row _ _ 0 _ _ _ hS'.2.1; simp at hc; go_simp⟩) hS ?_
  try simp only [Act.put, List.setIfInBounds_toArray, List.set_cons_zero, List.set_cons_succ]
  refine wpAnyH_take (i := 2) (v := .pointer (some ⟨w.heap.size + 1, 0, none⟩)) rfl (by kernel_rfl) (by kernel_rfl) (by kernel_rfl) (fun _ _ _ h => h) (.inl ⟨by rfl, fun W' hS' => by go_simp⟩) hS ?_
  try simp only [Act.put, List.setIfInBounds_toArray, List.set_cons_zero, List.set_cons_succ]
  refine wpAnyH_take (i := 3) (v := .bool h) rfl (by kernel_rfl) (by kernel_rfl) (by kernel_rfl) (fun _ _ _ h => h) (.inl ⟨by rfl, fun W' hS' => by have hc := cell_of_row _ _ 0 _ _ _ hS'.2.2.1; simp at hc; go_simp⟩) hS ?_
  try simp only [Act.put, List.setIfInBounds_toArray, List.set_cons_zero, List.set_cons_succ]
  refine wpAnyH_take (i := 4) (v := .bool (g != h)) rfl (by kernel_rfl) (by kernel_rfl) (by kernel_rfl) (fun _ _ _ h => h) (.inl ⟨by rfl, fun W' hS' => by go_simp; cases g <;> cases h <;> rfl⟩) hS ?_
  try simp only [Act.put, List.setIfInBounds_toArray, List.set_cons_zero, List.set_cons_succ]
  refine wpAnyH_take (i := 5) (v := .slice A1 n1 c1) rfl (by kernel_rfl) (by kernel_rfl) (by kernel_rfl) (fun _ _ _ h => h) (.inl ⟨by rfl, fun W' hS' => by go_simp⟩) hS ?_
  try simp only [Act.put, List.setIfInBounds_toArray, List.set_cons_zero, List.set_cons_succ]
  refine wpAnyH_take (i := 7) (v := .pointer (some ⟨w.heap.size, 0, none⟩)) rfl (by kernel_rfl) (by kernel_rfl) (by kernel_rfl) (fun _ _ _ h => h) (.inl ⟨by rfl, fun W' hS' => by go_simp⟩) hS ?_
  try simp only [Act.put, List.setIfInBounds_toArray, List.set_cons_zero, List.set_cons_succ]
  refine wpAnyH_take (i := 8) (v := .bool g) rfl (by kernel_rfl) (by kernel_rfl) (by kernel_rfl) (fun _ _ _ h => h) (.inl ⟨by rfl, fun W' hS' => by have hc := cell_of_row _ _ 0 _ _ _ hS'.2.1; simp at hc; go_simp⟩) hS ?_
  try simp only [Act.put, List.setIfInBounds_toArray, List.set_cons_zero, List.set_cons_succ]
  refine wpAnyH_take (i := 9) (v := .slice A2 n2 c2) rfl (by kernel_rfl) (by kernel_rfl) (by kernel_rfl) (fun _ _ _ h => h) (.inl ⟨by rfl, fun W' hS' => by go_simp⟩) hS ?_
  try simp only [Act.put, List.setIfInBounds_toArray, List.set_cons_zero, List.set_cons_succ]
  refine wpAnyH_ready (rs := [6]) (by kernel_rfl) (by simp) (AllReadyH.cons rfl (fun K hK => ?_) AllReadyH.nil)
  go_simp
  refine (signed_any W3.drew (g != h) A1 n1 c1 Q HQl.out (by omega) hc1 hAQ).mono ?_
  rintro e W5 ⟨rfl, hB5⟩
  have hS5 := hS.step hB5
  refine hK.out _ _ hS5 (fun _ => ?_)
  clear hK K
  try simp only [Act.put, List.setIfInBounds_toArray, List.set_cons_zero, List.set_cons_succ]
  refine wpAnyH_ready (rs := [10]) (by kernel_rfl) (by simp) (AllReadyH.cons rfl (fun K hK => ?_) AllReadyH.nil)
  go_simp
  refine (signed_any W5 g A2 n2 c2 R HRl.out (by omega) hc2 (hAR.drewn.at_ hB5 (Nat.le_refl _))).mono ?_
  rintro e W6 ⟨rfl, hB6⟩
  have hS6 := hS5.step hB6
  refine hK.out _ _ hS6 (fun _ => ?_)
  clear hK K
  try simp only [Act.put, List.setIfInBounds_toArray, List.set_cons_zero, List.set_cons_succ]
  refine wpAnyH_ready (rs := [11]) (by kernel_rfl) (by simp) (AllReadyH.cons rfl (fun K hK => ?_) AllReadyH.nil)
  rw [if_pos (by rfl)]
  obtain ⟨cs, hcs, hcs2⟩ := hS6.2.2.2.1
  refine wp_store_row 39 _ _ none rfl rfl (w.heap.size + 2) 39 cs #[.bool ((g != h) && decide (0 < (Big.trim Q).length)), .slice A1 (Big.trim Q).length c1] rfl rfl hcs hcs2 intSize (by simp [Value.oneCell']) ?_
  have hR7 := setRow_heap W6 (w.heap.size + 2) cs #[.bool ((g != h) && decide (0 < (Big.trim Q).length)), .slice A1 (Big.trim Q).length c1] _ _ hcs
  have hS7 := hS6.store2 #[.bool ((g != h) && decide (0 < (Big.trim Q).length)), .slice A1 (Big.trim Q).length c1] rfl
  refine hK.out _ _ hS7 (fun _ => ?_)
  clear hK K
  try simp only [Act.put, List.setIfInBounds_toArray, List.set_cons_zero, List.set_cons_succ]
  refine wpAnyH_ready (rs := [12]) (by kernel_rfl) (by simp) (AllReadyH.cons rfl (fun K hK => ?_) AllReadyH.nil)
  rw [if_pos (by rfl)]
  obtain ⟨ds, hds, hds2⟩ := hS7.2.2.2.2
  refine wp_store_row 39 _ _ none rfl rfl (w.heap.size + 3) 39 ds #[.bool (g && decide (0 < (Big.trim R).length)), .slice A2 (Big.trim R).length c2] rfl rfl hds hds2 intSize (by simp [Value.oneCell']) ?_
  have hR8 := setRow_heap (W6.setRow (w.heap.size + 2) #[.bool ((g != h) && decide (0 < (Big.trim Q).length)), .slice A1 (Big.trim Q).length c1]) (w.heap.size + 3) ds #[.bool (g && decide (0 < (Big.trim R).length)), .slice A2 (Big.trim R).length c2] _ _ hds
  have hR8' := (setRow_other (W6.setRow (w.heap.size + 2) #[.bool ((g != h) && decide (0 < (Big.trim Q).length)), .slice A1 (Big.trim Q).length c1]) (w.heap.size + 3) (w.heap.size + 2) #[.bool (g && decide (0 < (Big.trim R).length)), .slice A2 (Big.trim R).length c2] (by omega)).trans hR7
  have hS8 := hS7.store3 #[.bool (g && decide (0 < (Big.trim R).length)), .slice A2 (Big.trim R).length c2] rfl
  refine hK.out _ _ hS8 (fun _ => ?_)
  clear hK K
  try simp only [Act.put, List.setIfInBounds_toArray, List.set_cons_zero, List.set_cons_succ]
  refine wpAnyH_ready (rs := [13]) (by kernel_rfl) (by simp) (AllReadyH.cons rfl (fun K hK => ?_) AllReadyH.nil)
  go_simp
  refine hK.out _ _ hS8 (fun _ => ?_)
  clear hK K
  refine wpAnyH_done (by kernel_rfl) ?_ _
  have hq3 := hS2.lt
  have hA8 := (((hAQ.drewn.at_ hB5 (Nat.le_refl _)).at_ hB6 (Nat.le_refl _)).away (w' := (W6.setRow (w.heap.size + 2) #[.bool ((g != h) && decide (0 < (Big.trim Q).length)), .slice A1 (Big.trim Q).length c1]).setRow (w.heap.size + 3) #[.bool (g && decide (0 < (Big.trim R).length)), .slice A2 (Big.trim R).length c2]) haQ (fun b hb => (setRow_other _ _ _ _ (by omega)).trans (setRow_other _ _ _ _ (by omega))))
  have HP := Lib.hid ((PI.mk (neg := g != h) HQl.out hn1 hc1 hQL hA8).more (C := ((W6.setRow (w.heap.size + 2) #[.bool ((g != h) && decide (0 < (Big.trim Q).length)), .slice A1 (Big.trim Q).length c1]).setRow (w.heap.size + 3) #[.bool (g && decide (0 < (Big.trim R).length)), .slice A2 (Big.trim R).length c2]).heap.size) (j := k) (by simp) (by omega))
  have hload1 := run_loadVar_row (P := Tryz.prog) _ _ _ 39 _ _ _ hR8' Tryz.underlying39 rfl intSize
  have hload2 := run_loadVar_row (P := Tryz.prog) _ _ _ 39 _ _ _ hR8 Tryz.underlying39 rfl intSize
  clear hA8
  go_wp2
  refine bodyPost_ret (v := .tuple #[.agg #[.bool ((g != h) && decide (0 < (Big.trim Q).length)), .slice A1 (Big.trim Q).length c1], .agg #[.bool (g && decide (0 < (Big.trim R).length)), .slice A2 (Big.trim R).length c2], .int .i64 0]) (by simp [results, Tryz.results55, asAddr, hload1, hload2]) rfl ⟨⟨_, _, _, _, _, rfl, ?_⟩, hS8.1⟩
  rw [HX.out, HY.out, <- Hquo.out]
  exact HP.out
end
end Go.Proofs.YtalfikdjclineaaGreatDoor
