/- My texts RefSums. -/
import Derived.Test.YtccapfbblnnfjaaGreatG28
import Derived.Test.YtccapfbblnnfjaaGreatG29
import Derived.Test.YtccapfbblnnfjaaGreatG31
set_option linter.unusedVariables false
set_option linter.unusedSimpArgs false
set_option maxRecDepth 100000
set_option maxHeartbeats 8000000
namespace Go.Proofs.YtccapfbblnnfjaaGreat
open Go.RowKit
theorem Gr.sumOf_small {P : Int -> Bool} {l : List Itm} {n : Nat} (hl : l.length = n) (hn : n <= 1000) (hx : ∀ x ∈ l, x.small) : -1000000000000000 <= Gr.sumOf P l /\ Gr.sumOf P l <= 1000000000000000 := by
 have := Gr.sumOf_bd P l hx
 omega
theorem Gr.sumOf_take_small {P : Int -> Bool} {l : List Itm} {n : Nat} (k : Nat) (hl : l.length = n) (hn : n <= 1000) (hx : ∀ x ∈ l, x.small) : -1000000000000000 <= Gr.sumOf P (l.take k) /\ Gr.sumOf P (l.take k) <= 1000000000000000 :=
 Gr.sumOf_small rfl (by rw [List.length_take]; omega) fun x h => hx x (List.mem_of_mem_take h)
section
variable (w : World)
namespace R1
def rd (n N D : Int) : Int := Big.sgn (decide (Int.tdiv (n * N) (Int.gcd (n * N) (1 * D)) < 0)) (Int.tdiv (2 * ((Int.tdiv (n * N) (Int.gcd (n * N) (1 * D))).natAbs : Int) + Int.tdiv (1 * D) (Int.gcd (n * N) (1 * D))) (2 * Int.tdiv (1 * D) (Int.gcd (n * N) (1 * D))))
theorem red_pos (a : Int) {D : Int} (hD : 0 < D) : 0 < Int.tdiv D (Int.gcd a D) := by
 obtain ⟨q, hq⟩ := Int.gcd_dvd_right a D
 have h0 : (0 : Int) <= (Int.gcd a D : Int) := Int.natCast_nonneg _
 obtain ⟨G, hG⟩ : ∃ G, G = (Int.gcd a D : Int) := ⟨_, rfl⟩
 rw [<- hG] at hq h0 ⊢
 have hG0 : G ≠ 0 := by intro e; subst e; rw [Int.zero_mul] at hq; omega
 rw [hq, Int.mul_tdiv_cancel_left _ hG0]
 rw [hq] at hD
 exact Int.pos_of_mul_pos_right hD (by omega)
theorem round_any (k j : Nat) (v : Value) (n N D : Int) (hk : k <= 1000) (hj : j <= 1000) (hD : 0 < D) (hn0 : -1000000000000000 <= n) (hn1 : n <= 1000000000000000) (h1 : -10000000000000000 < rd n N D) (h2 : rd n N D < 10000000000000000) (h : RI w w.heap.size k j v N D) :
  Calls Tryz.prog 53 #[.int .i64 n, v] w fun e w' => e = .returned (.tuple #[.int .i64 (rd n N D), .bool true]) /\ Below w.heap.size w w' := by
 obtain ⟨g1, A1, n1, c1, g2, A2, n2, c2, rfl⟩ := h.open
 obtain ⟨W1, hW1, hB0, hb0, hz⟩ := nw1 w #[.bool g1, .slice A1 n1 c1, .bool g2, .slice A2 n2 c2] 59
 have HW := Lib.hid hW1
 have H := Lib.hid (h.at_ hB0)
 have s1 : w.heap.size < W1.heap.size := by omega
 have hS : Below W1.heap.size W1 W1.drew := below_drawn (Below.refl _ _) 1
 have hr := Lib.hid (range_row (cs := [.bool g1, .slice A1 n1 c1, .bool g2, .slice A2 n2 c2]) hb0)
 have HD := Lib.hid hD
 have HZ1 := Lib.hid h1
 have HZ2 := Lib.hid h2
 clear hW1 hz hb0 hD h1 h2 h
 go_enter Tryz.func53, Tryz.ntmps53
 go_upto_region 1 with (fail)
 rw [<- HW.out]
 refine wp_region_held (S := Below W1.heap.size W1) (by kernel_rfl) ?_
 change wpAnyH _ _ _ _ _ _ _ _ (World.drew _)
 obtain ⟨W0, hWd⟩ : ∃ W0, W0 = W1.drew := ⟨_, rfl⟩
 rw [<- hWd] at hS ⊢
 clear hWd
 refine tk (i := 0) (v := .int .i64 n) rfl (by kernel_rfl) (fun _ _ _ h => h) (.inl ⟨by rfl, fun W' hS' => by go_simp⟩) hS ?_
 try simp only [z]
 refine tk (i := 2) (v := .agg #[.bool g1, .slice A1 n1 c1, .bool g2, .slice A2 n2 c2]) rfl (by kernel_rfl) (fun _ _ _ h => h) (yieldsIf_load_mid (by rfl) 59 _ rfl w.heap.size 0 rfl [.bool g1, .slice A1 n1 c1, .bool g2, .slice A2 n2 c2] _ (fun W' hS' => range_below hr.out hS' s1) Tryz.underlying59 rfl ratSize) hS ?_
 try simp only [z]
 refine wpAnyH_ready (rs := [1]) (by kernel_rfl) (by simp) (AllReadyH.cons rfl (fun K hK => ?_) AllReadyH.nil)
 go_simp
 refine (ratint_any W0 n (by omega) (by omega)).mono ?_
 rintro e Wa ⟨⟨ra, rfl, hra⟩, hBa⟩
 have hSa : Below W1.heap.size W1 Wa := hS.trans (hBa.mono hS.size)
 refine hK.out _ _ hSa (fun _ => ?_)
 clear hK K
 try simp only [z]
 refine wpAnyH_ready (rs := [3]) (by kernel_rfl) (by simp) (AllReadyH.cons rfl (fun K hK => ?_) AllReadyH.nil)
 go_simp
 refine (mul_rat Wa 5 5 k j _ _ n 1 N D (by omega) (by omega) (by omega) HD.out hra ((H.out.at_ hS).at_ hBa)).mono ?_
 rintro e Wb ⟨⟨rb, rfl, hrb⟩, hBb⟩
 have hSb : Below W1.heap.size W1 Wb := hSa.trans (hBb.mono hSa.size)
 refine hK.out _ _ hSb (fun _ => ?_)
 clear hK K
 try simp only [z]
 refine wpAnyH_ready (rs := [4]) (by kernel_rfl) (by simp) (AllReadyH.cons rfl (fun K hK => ?_) AllReadyH.nil)
 go_simp
 refine (round_rat Wb (5 + k) (5 + j) _ _ _ (by omega) (by omega) (red_pos (n * N) (by rw [Int.one_mul]; exact HD.out)) hrb).mono ?_
 rintro e Wc ⟨⟨rc, rfl, hrc⟩, hBc⟩
 have hSc : Below W1.heap.size W1 Wc := hSb.trans (hBc.mono hSb.size)
 rw [show Big.sgn _ _ = rd n N D from rfl] at hrc
 refine hK.out _ _ hSc (fun _ => ?_)
 clear hK K
 try simp only [z]
 refine wpAnyH_ready (rs := [5]) (by kernel_rfl) (by simp) (AllReadyH.cons rfl (fun K hK => ?_) AllReadyH.nil)
 go_simp
 refine (small_any Wc _ _ (rd n N D) HZ1.out HZ2.out hrc).mono ?_
 rintro e Wd ⟨rfl, hBd⟩
 have hSd : Below W1.heap.size W1 Wd := hSc.trans (hBd.mono hSc.size)
 refine hK.out _ _ hSd (fun _ => ?_)
 clear hK K
 try simp only [z]
 refine tk (i := 6) (v := .int .i64 (rd n N D)) rfl (by kernel_rfl) (fun _ _ _ h => h) (.inl ⟨by rfl, fun W' hS' => by go_simp⟩) hSd ?_
 try simp only [z]
 refine tk (i := 7) (v := .bool true) rfl (by kernel_rfl) (fun _ _ _ h => h) (.inl ⟨by rfl, fun W' hS' => by go_simp⟩) hSd ?_
 try simp only [z]
 refine tk (i := 8) (v := .int .i64 (rd n N D)) rfl (by kernel_rfl) (fun _ _ _ h => h) (.inl ⟨by rfl, fun W' hS' => by go_simp⟩) hSd ?_
 try simp only [z]
 refine tk (i := 9) (v := .bool true) rfl (by kernel_rfl) (fun _ _ _ h => h) (.inl ⟨by rfl, fun W' hS' => by go_simp⟩) hSd ?_
 try simp only [z]
 refine wpAnyH_done (by kernel_rfl) ?_ _
 try simp only [z]
 go_wp2
 go_ret2
 exact ⟨rfl, hB0.trans (hSd.mono hB0.size)⟩
end R1
end
end Go.Proofs.YtccapfbblnnfjaaGreat
