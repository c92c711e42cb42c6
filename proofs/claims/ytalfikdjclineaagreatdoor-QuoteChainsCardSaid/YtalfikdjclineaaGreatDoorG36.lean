/- My texts PartsZD, TextQD. -/
import Derived.Test.YtalfikdjclineaaGreatDoorG12
import Derived.Test.YtalfikdjclineaaGreatDoorG35
set_option linter.unusedVariables false
set_option linter.unusedSimpArgs false
set_option maxRecDepth 100000
set_option maxHeartbeats 8000000
namespace Go.Proofs.YtalfikdjclineaaGreatDoor
open Go.RowKit
theorem zero_pi (W : World) (B k : Nat) : PI W B k (.agg #[.bool false, .slice none 0 0]) 0 :=
  ⟨false, none, 0, 0, [], rfl, rfl, Nat.zero_le _, Nat.le_refl _, Big.Lim.nil, Big.Norm.nil, fun h => (by cases h), rfl, .inl rfl⟩
theorem no_intz : ∀ (j : Nat) (n : Int), (#[.bool false, .slice none 0 0] : Array Value)[j]? ≠ some (.int .u32 n) := by
  intro j n
  match j with
  | 0 => simp
  | 1 => simp
  | j + 2 => simp
section
variable (w : World)
theorem partsz_any : Calls Tryz.prog 21 #[.agg #[.bool false, .slice none 0 0, .bool false, .slice none 0 0]] w (PartsPost 1 3 0 1 w) := by
  have hS0 := RegP.start w #[.bool false, .slice none 0 0, .bool false, .slice none 0 0]
  obtain ⟨W1, hW1⟩ : ∃ W1, W1 = (((w.alloc (.cells #[.bool false, .slice none 0 0, .bool false, .slice none 0 0] 41)).alloc (.cells #[.bool false, .slice none 0 0] 39)).alloc (.cells #[.bool false, .slice none 0 0] 39)) := ⟨_, rfl⟩
  have hb1 : W1.heap[w.heap.size + 1]? = some (.cells #[.bool false, .slice none 0 0] 39 (0, 0)) := by
    rw [hW1, Below.heap_alloc _ _ _ (by simp)]
    have := heap_alloc_new (w.alloc (.cells #[.bool false, .slice none 0 0, .bool false, .slice none 0 0] 41)) (.cells #[.bool false, .slice none 0 0] 39)
    rwa [show (w.alloc (.cells #[.bool false, .slice none 0 0, .bool false, .slice none 0 0] 41)).heap.size = w.heap.size + 1 by simp] at this
  have hb2 : W1.heap[w.heap.size + 2]? = some (.cells #[.bool false, .slice none 0 0] 39 (0, 0)) := by
    rw [hW1]
    have := heap_alloc_new ((w.alloc (.cells #[.bool false, .slice none 0 0, .bool false, .slice none 0 0] 41)).alloc (.cells #[.bool false, .slice none 0 0] 39)) (.cells #[.bool false, .slice none 0 0] 39)
    rwa [show ((w.alloc (.cells #[.bool false, .slice none 0 0, .bool false, .slice none 0 0] 41)).alloc (.cells #[.bool false, .slice none 0 0] 39)).heap.size = w.heap.size + 2 by simp] at this
  rw [<- hW1] at hS0
  have HW := Lib.hid hW1
  have hlt0 := hS0.lt
  have Hb1 := Lib.hid hb1
  have Hb2 := Lib.hid hb2
  have x2 := cell_of_row _ _ 2 _ _ _ hS0.2.1
  have x3 := cell_of_row _ _ 3 _ _ _ hS0.2.1
  simp at x2 x3
  clear hW1 hb1 hb2
  go_enter Tryz.func21, Tryz.ntmps21
  go_upto_region 1 with (fail)
  rw [<- HW.out]
  go_wp2_with (fail)
  refine (sign_any W1 1 _ 0 (zero_pi _ _ _)).mono ?_
  rw [show sg 0 = 0 from rfl]
  rintro e W2 ⟨rfl, hB2⟩
  have hS2 := hS0.step hB2
  have hS := hS2.drew
  have hc1 : W2.drew.heap[w.heap.size + 1]? = _ := (hB2.block _ (by omega)).trans Hb1.out
  have hc2 : W2.drew.heap[w.heap.size + 2]? = _ := (hB2.block _ (by omega)).trans Hb2.out
  have Hc1 := Lib.hid hc1
  have Hc2 := Lib.hid hc2
  clear x2 x3 hc1 hc2
  go_upto_region 2 with (fail)
  refine wp_region_held (S := RegP w #[.bool false, .slice none 0 0, .bool false, .slice none 0 0]) (by kernel_rfl) ?_
  change wpAnyH _ _ _ _ _ _ _ _ (World.drew _)
  obtain ⟨WC, hWd⟩ : ∃ W, W = W2.drew := ⟨_, rfl⟩
  rw [<- hWd] at hS Hc1 Hc2 ⊢
  clear hWd
  refine wpAnyH_take (i := 0) (v := .pointer (some ⟨w.heap.size, 0, none⟩)) rfl (by kernel_rfl) (by kernel_rfl) (by kernel_rfl) (fun _ _ _ h => h) (.inl ⟨by rfl, fun W' hS' => by go_simp⟩) hS ?_
  try simp only [Act.put, z]
  refine wpAnyH_take (i := 1) (v := .agg #[.bool false, .slice none 0 0]) rfl (by kernel_rfl) (by kernel_rfl) (by kernel_rfl) (fun _ _ _ h => h) (yieldsIf_load_mid (by rfl) 39 _ rfl w.heap.size 0 rfl [.bool false, .slice none 0 0] _ (fun W' hS' => (range4 hS'.2.1).1) Tryz.underlying39 rfl intSize) hS ?_
  try simp only [Act.put, z]
  refine wpAnyH_ready (rs := [2]) (by kernel_rfl) (by simp) (AllReadyH.cons rfl (fun K hK => ?_) AllReadyH.nil)
  go_simp
  refine (of_int WC 1 (by omega) (by omega)).mono ?_
  rintro e W3 ⟨⟨r, rfl, hr⟩, hB3⟩
  obtain ⟨g5, A5, n5, c5, rfl⟩ := hr.open
  have hS3 := hS.step hB3
  have hlt3 := hS.lt
  have hd1 := (hB3.block _ (by omega)).trans Hc1.out
  have hd2 := (hB3.block _ (by omega)).trans Hc2.out
  refine hK.out _ _ hS3 (fun _ => ?_)
  clear hK K
  try simp only [Act.put, z]
  refine wpAnyH_ready (rs := [3]) (by kernel_rfl) (by simp) (AllReadyH.cons rfl (fun K hK => ?_) AllReadyH.nil)
  rw [if_pos (by rfl)]
  refine wp_store_row 39 _ _ none rfl rfl (w.heap.size + 1) 39 _ #[.bool false, .slice none 0 0] rfl rfl hd1 rfl intSize (by simp [Value.oneCell']) ?_
  have hR1 := setRow_heap W3 (w.heap.size + 1) _ #[.bool false, .slice none 0 0] _ _ hd1
  have hS4 := hS3.store1 #[.bool false, .slice none 0 0] rfl
  have hr4 := (hr.other (w' := W3.setRow (w.heap.size + 1) #[.bool false, .slice none 0 0]) hd1 no_intz (fun c hc => setRow_other _ _ _ _ hc))
  have hd4 := (setRow_other W3 (w.heap.size + 1) (w.heap.size + 2) #[.bool false, .slice none 0 0] (by omega)).trans hd2
  refine hK.out _ _ hS4 (fun _ => ?_)
  clear hK K
  try simp only [Act.put, z]
  refine wpAnyH_ready (rs := [4]) (by kernel_rfl) (by simp) (AllReadyH.cons rfl (fun K hK => ?_) AllReadyH.nil)
  rw [if_pos (by rfl)]
  refine wp_store_row 39 _ _ none rfl rfl (w.heap.size + 2) 39 _ #[.bool g5, .slice A5 n5 c5] rfl rfl hd4 rfl intSize (by simp [Value.oneCell']) ?_
  obtain ⟨W4, hW4⟩ : ∃ W4, W4 = W3.setRow (w.heap.size + 1) #[.bool false, .slice none 0 0] := ⟨_, rfl⟩
  have hz4 : W4.heap.size = W3.heap.size := by rw [hW4]; simp
  rw [<- hW4] at hR1 hS4 hr4 hd4 ⊢
  have hR2 := setRow_heap W4 (w.heap.size + 2) _ #[.bool g5, .slice A5 n5 c5] _ _ hd4
  have hR1' := (setRow_other W4 (w.heap.size + 2) (w.heap.size + 1) #[.bool g5, .slice A5 n5 c5] (by omega)).trans hR1
  have hS5 := hS4.store2 #[.bool g5, .slice A5 n5 c5] rfl
  have hr5 := (hr4.other (w' := W4.setRow (w.heap.size + 2) #[.bool g5, .slice A5 n5 c5]) hd4 no_intz (fun c hc => setRow_other _ _ _ _ hc)).more (C := (W4.setRow (w.heap.size + 2) #[.bool g5, .slice A5 n5 c5]).heap.size) (by simp [hz4]) (Nat.le_refl _)
  refine hK.out _ _ hS5 (fun _ => ?_)
  clear hK K
  try simp only [Act.put, z]
  refine wpAnyH_done (by kernel_rfl) ?_ _
  try simp only [Act.put, z]
  have hload1 := run_loadVar_row (P := Tryz.prog) _ _ _ 39 _ _ _ hR1' Tryz.underlying39 rfl intSize
  have hload2 := run_loadVar_row (P := Tryz.prog) _ _ _ 39 _ _ _ hR2 Tryz.underlying39 rfl intSize
  go_wp2
  exact bodyPost_ret (v := .tuple #[.agg #[.bool false, .slice none 0 0], .agg #[.bool g5, .slice A5 n5 c5]]) (by simp [results, Tryz.results21, asAddr, Act.put, hload1, hload2]) rfl ⟨⟨false, none, 0, 0, g5, A5, n5, c5, rfl, zero_pi _ _ _, hr5⟩, hS5.1⟩
end
theorem tab_up {B C : Nat} {w : World} (h : Tab B w) (hC : B <= C) : Tab C w := fun w' hb => h w' (hb.mono hC)
theorem PI.text_len {w : World} {B k : Nat} {v : Value} {z : Int} (h : PI w B k v z) (hz0 : 0 <= z) : (Lib.decDigits z.toNat).length <= 9 * k + 1 := by
  obtain ⟨neg, A, n, c, l, rfl, hl, hn, hc, hL, hN, hz, hA, hs⟩ := h.parts
  have hng : neg = false := by rcases hs with ⟨_, e, _⟩ | ⟨_, e, _⟩ | ⟨_, _, e⟩; exact e; exact e; omega
  subst hng
  rcases Nat.eq_zero_or_pos l.length with h0 | h0
  · have hl0 : l = [] := List.length_eq_zero_iff.1 h0
    rw [hl0] at hz
    have : z = 0 := by simpa [Big.sgn, Big.val] using hz
    rw [this, show (0 : Int).toNat = 0 from rfl, Dec.digits_small (by omega)]
    simp
  · have h1 := Dec.text_val (k := 9) (B := 1000000000) (by decide) hL hN h0
    have h2 : z = Big.val 1000000000 l := hz
    rw [h2, <- h1]
    have h3 := Dec.text_len 9 (l.map Int.toNat) (fun a ha => by
      rw [List.mem_map] at ha
      obtain ⟨b, hb, rfl⟩ := ha
      have := hL b hb
      omega) (by omega)
    rw [List.length_map] at h3
    omega
section
variable (w : World)
theorem textqp_any (k j : Nat) (g1 : Bool) (A1 : Option Addr) (n1 c1 : Nat) (g2 : Bool) (A2 : Option Addr) (n2 c2 : Nat) (N D : Int) (hk : k <= 900) (hj : j <= 900) (hN : 0 <= N) (hD : 0 < D)
    (h : ∀ W, Below w.heap.size w W -> Calls Tryz.prog 21 #[.agg #[.bool g1, .slice A1 n1 c1, .bool g2, .slice A2 n2 c2]] W (PartsPost k j N D W)) (hT : Tab w.heap.size w) :
    Calls Tryz.prog 9 #[.agg #[.bool g1, .slice A1 n1 c1, .bool g2, .slice A2 n2 c2]] w fun e w' => e = .returned (.string ⟨(Dec.frac N.toNat D.toNat).toArray⟩) /\ Below w.heap.size w w' := by
  obtain ⟨w1, hw1⟩ : ∃ W, W = w.alloc (.cells #[.bool g1, .slice A1 n1 c1, .bool g2, .slice A2 n2 c2] 41) := ⟨_, rfl⟩
  have hB1 : Below w.heap.size w w1 := by rw [hw1]; exact (Below.refl _ _).alloc (Nat.le_refl _) _
  have hb1 : w1.heap[w.heap.size]? = some (.cells #[.bool g1, .slice A1 n1 c1, .bool g2, .slice A2 n2 c2] 41 (0, 0)) := by rw [hw1]; exact heap_alloc_new w _
  have HW1 := Lib.hid hw1
  have s1 := some_lt hb1
  have HR := Lib.hid (h w1 hB1)
  have x0 := cell_of_row _ _ 0 _ _ _ hb1
  have x1 := cell_of_row _ _ 1 _ _ _ hb1
  have x2 := cell_of_row _ _ 2 _ _ _ hb1
  have x3 := cell_of_row _ _ 3 _ _ _ hb1
  simp at x0 x1 x2 x3
  have HT1 := Lib.hid (hT.on hB1 : Tab w.heap.size w1)
  clear hT
  clear hw1 hb1 h
  go_enter Tryz.func9, Tryz.ntmps9
  go_upto_region 1 with (fail)
  rw [<- HW1.out]
  go_wp2_with (fail)
  refine HR.out.mono ?_
  rintro e W2 ⟨⟨a1, B1, m1, d1, a2, B2, m2, d2, rfl, hp1, hp2⟩, hB2⟩
  obtain ⟨hBa, hra1, hra2, hza⟩ := rows2 W2 #[.bool a1, .slice B1 m1 d1] #[.bool a2, .slice B2 m2 d2] 39
  obtain ⟨W3, hW3⟩ : ∃ W, W = ((W2.alloc (.cells #[.bool a1, .slice B1 m1 d1] 39)).alloc (.cells #[.bool a2, .slice B2 m2 d2] 39)) := ⟨_, rfl⟩
  rw [<- hW3] at hBa hra1 hra2 hza
  have HW3 := Lib.hid hW3
  have hB03 := (hB1.trans (hB2.mono hB1.size)).trans (hBa.mono (Nat.le_trans hB1.size hB2.size))
  have HB03 := Lib.hid hB03
  have Hra1 := Lib.hid hra1
  have Hra2 := Lib.hid hra2
  have q1 := some_lt hra1
  have q2 := some_lt hra2
  have Hp1 := Lib.hid (hp1.at_ hBa)
  have Hp2 := Lib.hid (hp2.at_ hBa)
  have Hl1 := Lib.hid (hp1.text_len hN)
  have Hl2 := Lib.hid (hp2.text_len (Int.le_of_lt hD))
  have HT3 := Lib.hid (HT1.out.on ((hB2.mono hB1.size).trans (hBa.mono (Nat.le_trans hB1.size hB2.size))) : Tab w.heap.size W3)
  clear hW3 hBa hra1 hra2 hza hp1 hp2 hB03 x0 x1 x2 x3 hB2 HR
  go_upto_region 2 with (fail)
  rw [<- HW3.out]
  by_cases hd1 : D = 1
  · skip
    have hcm : (cm D 1 == 0) = true := by rw [hd1]; rfl
    have Hcm := Lib.hid hcm
    have HD1 : Hid (Dec.frac N.toNat D.toNat = Lib.decDigits N.toNat) := Lib.hid (by unfold Dec.frac; rw [if_pos (by omega)])
    clear hcm hd1
    have hS : Below W3.heap.size W3 W3.drew := below_drawn (Below.refl _ _) 1
    refine wp_region_held (S := Below W3.heap.size W3) (by kernel_rfl) ?_
    change wpAnyH _ _ _ _ _ _ _ _ (World.drew W3)
    obtain ⟨WC0, hWd⟩ : ∃ W, W = W3.drew := ⟨_, rfl⟩
    rw [<- hWd] at hS ⊢
    clear hWd
    refine wpAnyH_take (i := 0) (v := .agg #[.bool a2, .slice B2 m2 d2]) rfl (by kernel_rfl) (by kernel_rfl) (by kernel_rfl) (fun _ _ _ h => h) (yieldsIf_load_mid (by rfl) 39 _ rfl (W2.heap.size + 1) 0 rfl [.bool a2, .slice B2 m2 d2] _ (fun W' hS' => range2 ((hS'.block _ q2).trans Hra2.out)) Tryz.underlying39 rfl intSize) hS ?_
    try simp only [Act.put, z]
    refine wpAnyH_ready (rs := [1]) (by kernel_rfl) (by simp) (AllReadyH.cons rfl (fun K hK => ?_) AllReadyH.nil)
    go_simp
    refine (of_int WC0 1 (by omega) (by omega)).mono ?_
    rintro e WC1 ⟨⟨r1, rfl, hr1⟩, hBc⟩
    have hV1 := hS.trans (hBc.mono hS.size)
    obtain ⟨h1, C1, f1, e1, rfl⟩ := hr1.open
    refine hK.out _ _ hV1 (fun _ => ?_)
    clear hK K
    try simp only [Act.put, z]
    refine wpAnyH_ready (rs := [2]) (by kernel_rfl) (by simp) (AllReadyH.cons rfl (fun K hK => ?_) AllReadyH.nil)
    go_simp
    refine (cmp_int WC1 j 3 _ _ D 1 (by omega) (by omega) (Hp2.out.at_ hV1) hr1).mono ?_
    rintro e WC2 ⟨rfl, hBc2⟩
    have hV2 := hV1.trans (hBc2.mono hV1.size)
    refine hK.out _ _ hV2 (fun _ => ?_)
    clear hK K
    try simp only [Act.put, z]
    refine wpAnyH_ready (rs := [3]) (by kernel_rfl) (by simp) (AllReadyH.cons rfl (fun K hK => ?_) AllReadyH.nil)
    go_simp
    rw [Hcm.out]
    refine hK.out _ _ hV2 (fun _ => ?_)
    clear hK K
    try simp only [Act.put, z]
    refine wpAnyH_done (by kernel_rfl) ?_ _
    try simp only [Act.put, z]
    have hBw := HB03.out.trans (hV2.mono HB03.out.size)
    have hn1 := (hV2.block _ q1).trans Hra1.out
    have y0 := cell_of_row _ _ 0 _ _ _ hn1
    have y1 := cell_of_row _ _ 1 _ _ _ hn1
    simp at y0 y1
    have o1 := some_lt hn1
    have HBw := Lib.hid hBw
    have HP := Lib.hid (Hp1.out.at_ hV2)
    have HT4 := Lib.hid (tab_up (HT3.out.on (hV2.mono HB03.out.size)) HBw.out.size)
    clear hn1 hBw hS hV1 hV2 hBc hBc2 hr1
    go_wp2_with (fail)
    refine (textd_any WC2 k _ N (by omega) hN HP.out HT4.out).mono ?_
    rintro e WC3 ⟨rfl, hBd⟩
    go_wp2
    go_ret
    exact ⟨by rw [HD1.out]; rfl, HBw.out.trans (hBd.mono HBw.out.size)⟩
  · skip
    have hcm : (cm D 1 == 0) = false := by unfold cm; simp; split <;> (try split) <;> omega
    have Hcm := Lib.hid hcm
    have HD1 : Hid (Dec.frac N.toNat D.toNat = Lib.decDigits N.toNat ++ 47 :: Lib.decDigits D.toNat) := Lib.hid (by unfold Dec.frac; rw [if_neg (by omega)])
    clear hcm hd1
    have hS : Below W3.heap.size W3 W3.drew := below_drawn (Below.refl _ _) 1
    refine wp_region_held (S := Below W3.heap.size W3) (by kernel_rfl) ?_
    change wpAnyH _ _ _ _ _ _ _ _ (World.drew W3)
    obtain ⟨WC0, hWd⟩ : ∃ W, W = W3.drew := ⟨_, rfl⟩
    rw [<- hWd] at hS ⊢
    clear hWd
    refine wpAnyH_take (i := 0) (v := .agg #[.bool a2, .slice B2 m2 d2]) rfl (by kernel_rfl) (by kernel_rfl) (by kernel_rfl) (fun _ _ _ h => h) (yieldsIf_load_mid (by rfl) 39 _ rfl (W2.heap.size + 1) 0 rfl [.bool a2, .slice B2 m2 d2] _ (fun W' hS' => range2 ((hS'.block _ q2).trans Hra2.out)) Tryz.underlying39 rfl intSize) hS ?_
    try simp only [Act.put, z]
    refine wpAnyH_ready (rs := [1]) (by kernel_rfl) (by simp) (AllReadyH.cons rfl (fun K hK => ?_) AllReadyH.nil)
    go_simp
    refine (of_int WC0 1 (by omega) (by omega)).mono ?_
    rintro e WC1 ⟨⟨r1, rfl, hr1⟩, hBc⟩
    have hV1 := hS.trans (hBc.mono hS.size)
    obtain ⟨h1, C1, f1, e1, rfl⟩ := hr1.open
    refine hK.out _ _ hV1 (fun _ => ?_)
    clear hK K
    try simp only [Act.put, z]
    refine wpAnyH_ready (rs := [2]) (by kernel_rfl) (by simp) (AllReadyH.cons rfl (fun K hK => ?_) AllReadyH.nil)
    go_simp
    refine (cmp_int WC1 j 3 _ _ D 1 (by omega) (by omega) (Hp2.out.at_ hV1) hr1).mono ?_
    rintro e WC2 ⟨rfl, hBc2⟩
    have hV2 := hV1.trans (hBc2.mono hV1.size)
    refine hK.out _ _ hV2 (fun _ => ?_)
    clear hK K
    try simp only [Act.put, z]
    refine wpAnyH_ready (rs := [3]) (by kernel_rfl) (by simp) (AllReadyH.cons rfl (fun K hK => ?_) AllReadyH.nil)
    go_simp
    rw [Hcm.out]
    refine hK.out _ _ hV2 (fun _ => ?_)
    clear hK K
    try simp only [Act.put, z]
    refine wpAnyH_done (by kernel_rfl) ?_ _
    try simp only [Act.put, z]
    have hBw := HB03.out.trans (hV2.mono HB03.out.size)
    clear hS hV1 hBc hBc2 hr1
    have hn1 := (hV2.block _ q1).trans Hra1.out
    have hn2 := (hV2.block _ q2).trans Hra2.out
    have Hn1 := Lib.hid hn1
    have Hn2 := Lib.hid hn2
    have o1 := some_lt hn1
    have o2 := some_lt hn2
    have HPa := Lib.hid (Hp1.out.at_ hV2)
    have HPb := Lib.hid (Hp2.out.at_ hV2)
    have HB := Lib.hid (hBw)
    have HT4 := Lib.hid (HT3.out.on (hV2.mono HB03.out.size) : Tab w.heap.size WC2)
    obtain ⟨ns, hns⟩ : ∃ ns, ns = Lib.decDigits N.toNat := ⟨_, rfl⟩
    obtain ⟨ds, hds⟩ : ∃ ds, ds = Lib.decDigits D.toNat := ⟨_, rfl⟩
    have Hns := Lib.hid hns
    have Hds := Lib.hid hds
    have hl1 := Hl1.out
    have hl2 := Hl2.out
    rw [<- hns] at hl1
    rw [<- hds] at hl2
    have hz1 : ¬ 9223372036854775807 < ns.length + 1 := by omega
    have hz2 : ¬ 9223372036854775807 < ns.length + 1 + ds.length := by omega
    have hz3 : ¬ 9223372036854775807 < (ns ++ [47]).length + ds.length := by rw [List.length_append]; exact hz2
    clear hn1 hn2 hns hds hl1 hl2
    go_upto_region 4 with (fail)
    have hS : Below WC2.heap.size WC2 WC2.drew := below_drawn (Below.refl _ _) 1
    refine wp_region_held (S := Below WC2.heap.size WC2) (by kernel_rfl) ?_
    change wpAnyH _ _ _ _ _ _ _ _ (World.drew WC2)
    obtain ⟨WE0, hWd⟩ : ∃ W, W = WC2.drew := ⟨_, rfl⟩
    rw [<- hWd] at hS ⊢
    clear hWd
    refine wpAnyH_take (i := 0) (v := .agg #[.bool a1, .slice B1 m1 d1]) rfl (by kernel_rfl) (by kernel_rfl) (by kernel_rfl) (fun _ _ _ h => h) (yieldsIf_load_mid (by rfl) 39 _ rfl W2.heap.size 0 rfl [.bool a1, .slice B1 m1 d1] _ (fun W' hS' => range2 ((hS'.block _ o1).trans Hn1.out)) Tryz.underlying39 rfl intSize) hS ?_
    try simp only [Act.put, z]
    refine wpAnyH_take (i := 3) (v := .agg #[.bool a2, .slice B2 m2 d2]) rfl (by kernel_rfl) (by kernel_rfl) (by kernel_rfl) (fun _ _ _ h => h) (yieldsIf_load_mid (by rfl) 39 _ rfl (W2.heap.size + 1) 0 rfl [.bool a2, .slice B2 m2 d2] _ (fun W' hS' => range2 ((hS'.block _ o2).trans Hn2.out)) Tryz.underlying39 rfl intSize) hS ?_
    try simp only [Act.put, z]
    refine wpAnyH_ready (rs := [1]) (by kernel_rfl) (by simp) (AllReadyH.cons rfl (fun K hK => ?_) AllReadyH.nil)
    go_simp
    refine (textd_any WE0 k _ N (by omega) hN (HPa.out.at_ hS) (tab_up (HT4.out.on (hS.mono HB.out.size)) (Nat.le_trans HB.out.size hS.size))).mono ?_
    rintro e WE1 ⟨rfl, hBe⟩
    rw [<- Hns.out]
    have hS1 := hS.trans (hBe.mono hS.size)
    refine hK.out _ _ hS1 (fun _ => ?_)
    clear hK K
    try simp only [Act.put, z]
    refine wpAnyH_take (i := 2) (v := .string ⟨(ns ++ [47]).toArray⟩) rfl (by kernel_rfl) (by kernel_rfl) (by kernel_rfl) (fun _ _ _ h => h) (.inl ⟨by rfl, fun W' hS' => by (go_simp; first | done | (rw [if_neg hz1]; simp [str_app]) | (simp [str_app]))⟩) hS1 ?_
    try simp only [Act.put, z]
    refine wpAnyH_ready (rs := [4]) (by kernel_rfl) (by simp) (AllReadyH.cons rfl (fun K hK => ?_) AllReadyH.nil)
    go_simp
    refine (textd_any WE1 j _ D (by omega) (Int.le_of_lt hD) (HPb.out.at_ hS1) (tab_up (HT4.out.on (hS1.mono HB.out.size)) (Nat.le_trans HB.out.size hS1.size))).mono ?_
    rintro e WE2 ⟨rfl, hBe2⟩
    rw [<- Hds.out]
    have hS2 := hS1.trans (hBe2.mono hS1.size)
    refine hK.out _ _ hS2 (fun _ => ?_)
    clear hK K
    try simp only [Act.put, z]
    refine wpAnyH_take (i := 5) (v := .string ⟨(ns ++ 47 :: ds).toArray⟩) rfl (by kernel_rfl) (by kernel_rfl) (by kernel_rfl) (fun _ _ _ h => h) (.inl ⟨by rfl, fun W' hS' => by (go_simp; first | done | (rw [if_neg hz3]; simp [str_app]) | (simp [str_app]))⟩) hS2 ?_
    try simp only [Act.put, z]
    refine wpAnyH_ready (rs := [6]) (by kernel_rfl) (by simp) (AllReadyH.cons rfl (fun K hK => ?_) AllReadyH.nil)
    go_simp
    refine hK.out _ _ hS2 (fun _ => ?_)
    clear hK K
    try simp only [Act.put, z]
    refine wpAnyH_done (by kernel_rfl) ?_ _
    try simp only [Act.put, z]
    go_wp2
    go_ret
    exact ⟨by rw [HD1.out, Hns.out, Hds.out]; rfl, HB.out.trans (hS2.mono HB.out.size)⟩
theorem textq_any (k j : Nat) (v : Value) (N D : Int) (hk : k <= 900) (hj : j <= 900) (hN : 0 <= N) (hD : 0 < D) (h : RI w w.heap.size k j v N D) (hT : Tab w.heap.size w) :
    Calls Tryz.prog 9 #[v] w fun e w' => e = .returned (.string ⟨(Dec.frac N.toNat D.toNat).toArray⟩) /\ Below w.heap.size w w' := by
  obtain ⟨g1, A1, n1, c1, g2, A2, n2, c2, rfl⟩ := h.open
  exact textqp_any w k j g1 A1 n1 c1 g2 A2 n2 c2 N D hk hj hN hD (fun W hW => parts_any W k j _ N D (by omega) (h.at_ hW)) hT
theorem textz_any (hT : Tab w.heap.size w) : Calls Tryz.prog 9 #[.agg #[.bool false, .slice none 0 0, .bool false, .slice none 0 0]] w fun e w' => e = .returned (.string ⟨(Dec.frac 0 1).toArray⟩) /\ Below w.heap.size w w' :=
  textqp_any w 1 3 false none 0 0 false none 0 0 0 1 (by omega) (by omega) (by omega) (by omega) (fun W _ => partsz_any W) hT
end
end Go.Proofs.YtalfikdjclineaaGreatDoor
