/- My texts PostE, PostM, AsP, PostO. -/
import Derived.Test.YtccapfbblnnfjaaGreatG07
import Derived.Test.YtccapfbblnnfjaaGreatG18
import Derived.Test.YtccapfbblnnfjaaGreatG33
import Derived.Test.YtccapfbblnnfjaaGreatG40
import Derived.Test.YtccapfbblnnfjaaGreatG45
set_option linter.unusedVariables false
set_option linter.unusedSimpArgs false
set_option maxRecDepth 100000
set_option maxHeartbeats 8000000
namespace Go.Proofs.YtccapfbblnnfjaaGreat
open Go.RowKit
theorem postSize : (Tryz.prog.info? 49).map (·.size) = some 5 := by kernel_rfl
theorem index4 (i : Int) (hi : i = 0 ∨ i = 1 ∨ i = 2 ∨ i = 3) (W : World) : (Instr.index 151 (.agg #[.int .i64 0, .int .i64 0, .int .i64 0, .int .i64 0]) (.int .i64 i)).run Tryz.prog W = .ok (.int .i64 0) W := by
 rcases hi with rfl | rfl | rfl | rfl <;> kernel_rfl
section
variable (w : World)
theorem order_same (x : Int) : Calls Tryz.prog 92 #[.int .i64 x, .int .i64 x] w fun e w' => e = .returned (.int .i64 0) /\ w' = w := by
 go_enter Tryz.func92, Tryz.ntmps92
 go_wp2
 go_ret
 exact ⟨rfl, rfl⟩
theorem compare_same (k x o r : Int) (A A' : Option Addr) (n c n' c' : Nat) :
  Calls Tryz.prog 56 #[.agg #[.int .i64 k, .int .i64 x, .int .i64 o, .int .i64 r, .slice A n c], .agg #[.int .i64 k, .int .i64 x, .int .i64 o, .int .i64 r, .slice A' n' c']] w fun e w' => e = .returned (.int .i64 0) /\ Below w.heap.size w w' := by
 obtain ⟨W1, hW1, hB0, hb0, hb1, hz⟩ := nw2 w #[.int .i64 k, .int .i64 x, .int .i64 o, .int .i64 r, .slice A n c] #[.int .i64 k, .int .i64 x, .int .i64 o, .int .i64 r, .slice A' n' c'] 49 49
 have HW := Lib.hid hW1
 have x0 := fun j => cell_of_row _ _ j _ _ _ hb0
 have x1 := fun j => cell_of_row _ _ j _ _ _ hb1
 have a0 := x0 0
 have a1 := x0 1
 have a2 := x0 2
 have a3 := x0 3
 have b0 := x1 0
 have b1 := x1 1
 have b2 := x1 2
 have b3 := x1 3
 simp at a0 a1 a2 a3 b0 b1 b2 b3
 have HB0 := Lib.hid hB0
 have s1 : w.heap.size < W1.heap.size := by omega
 have s2 : w.heap.size + 1 < W1.heap.size := by omega
 clear hW1 hz hb0 hb1 x0 x1 hB0
 go_enter Tryz.func56, Tryz.ntmps56
 go_upto_region 1 with (fail)
 rw [<- HW.out]
 go_quiet ((go_at_call 92; exact Calls.quiet_of_same (order_same _ _)))
 go_wp2
 have i0 := index4 0 (by omega)
 have i1 := index4 1 (by omega)
 have i2 := index4 2 (by omega)
 have i3 := index4 3 (by omega)
 refine wp_loop_rounds 5 ?_
 rw [rounds_succ]
 go_wp2
 rw [rounds_succ]
 go_wp2
 rw [rounds_succ]
 go_wp2
 rw [rounds_succ]
 go_wp2
 rw [rounds_succ]
 go_wp2
 go_ret
 exact ⟨rfl, below_drawn HB0.out _⟩
theorem equal_same (k x o r : Int) (A A' : Option Addr) (n c c' : Nat) (l : List Prt) (hl : l.length = n) (hn : n <= 100000) (h : PrtsAt w w.heap.size A l) (h' : PrtsAt w w.heap.size A' l) :
  Calls Tryz.prog 21 #[.agg #[.int .i64 k, .int .i64 x, .int .i64 o, .int .i64 r, .slice A n c], .agg #[.int .i64 k, .int .i64 x, .int .i64 o, .int .i64 r, .slice A' n c']] w fun e w' => e = .returned (.bool true) /\ Below w.heap.size w w' := by
 obtain ⟨W1, hW1, hB0, hb0, hb1, hz⟩ := nw2 w #[.int .i64 k, .int .i64 x, .int .i64 o, .int .i64 r, .slice A n c] #[.int .i64 k, .int .i64 x, .int .i64 o, .int .i64 r, .slice A' n c'] 49 49
 have HW := Lib.hid hW1
 have Hb0 := Lib.hid hb0
 have Hb1 := Lib.hid hb1
 have hr0 := Lib.hid (range_row (cs := [.int .i64 k, .int .i64 x, .int .i64 o, .int .i64 r, .slice A n c]) hb0)
 have hr1 := Lib.hid (range_row (cs := [.int .i64 k, .int .i64 x, .int .i64 o, .int .i64 r, .slice A' n c']) hb1)
 have Hl := Lib.hid hl
 have H := Lib.hid h
 have H' := Lib.hid h'
 have s1 : w.heap.size < W1.heap.size := by omega
 have s2 : w.heap.size + 1 < W1.heap.size := by omega
 clear hW1 hz hb0 hb1 hl h h'
 go_enter Tryz.func21, Tryz.ntmps21
 go_upto_region 1 with (fail)
 rw [<- HW.out]
 go_wp2_with (first | (refine wpList_load_mid rfl 49 (.tmp 2) rfl w.heap.size 0 rfl [.int .i64 k, .int .i64 x, .int .i64 o, .int .i64 r, .slice A n c] _ hr0.out Tryz.underlying49 rfl postSize ?_) | (refine wpList_load_mid rfl 49 (.tmp 3) rfl (w.heap.size + 1) 0 rfl [.int .i64 k, .int .i64 x, .int .i64 o, .int .i64 r, .slice A' n c'] _ hr1.out Tryz.underlying49 rfl postSize ?_))
 refine (compare_same W1 k x o r A A' n c n c').mono ?_
 rintro e W2 ⟨rfl, hB2⟩
 have hB02 := hB0.trans (hB2.mono hB0.size)
 have hc0 := gbox Hb0.out hB2 s1
 have hc1 := gbox Hb1.out hB2 s2
 have a4 := cell_of_row _ _ 4 _ _ _ hc0
 have b4 := cell_of_row _ _ 4 _ _ _ hc1
 simp at a4 b4
 have HA := Lib.hid (RowsAt.below H.out hB02 (Nat.le_refl _))
 have HA' := Lib.hid (RowsAt.below H'.out hB02 (Nat.le_refl _))
 have t1 := some_lt hc0
 have t2 := some_lt hc1
 have hq := hB02.size
 clear hc0 hc1 hr0 hr1
 go_wp2
 go_loopw [5] (fun i wr => ∃ (j q : Nat), j <= n /\ i = .int .i64 j /\ wr = W2.drewN q) (fun i _ => n - (intOf i).toNat)
 case atStart => exact ⟨0, 0, Nat.zero_le _, rfl, rfl⟩
 case round =>
  obtain ⟨j, q, hj, rfl, rfl⟩ := hrel
  by_cases hlt : j < n
  ·have hjl : j < l.length := by have := Hl.out; omega
   obtain ⟨b, o1, hAe, hbB, c0, c1⟩ := PrtsAt.two HA.out hjl
   obtain ⟨b', o2, hAe', hbB', d0, d1⟩ := PrtsAt.two HA'.out hjl
   subst hAe hAe'
   obtain ⟨u, hu⟩ : ∃ u, u = l[j].acct := ⟨_, rfl⟩
   obtain ⟨m, hm⟩ : ∃ m, m = l[j].amt := ⟨_, rfl⟩
   rw [<- hu] at c0 d0
   rw [<- hm] at c1 d1
   have hbw : b < W2.heap.size := by omega
   have hbw' : b' < W2.heap.size := by omega
   clear hu hm
   go_wp2
   go_quiet (fail)
   go_wp2
   go_roundw
   case rel => exact ⟨j + 1, _, by omega, by go_num, rfl⟩
   case measure => simp [intOf]; omega
  ·obtain rfl : j = n := by omega
   go_wp2
   go_ret
   exact ⟨rfl, below_drawn hB02 _⟩
theorem sameparts_any (A A' : Option Addr) (n c c' : Nat) (l : List Prt) (hl : l.length = n) (hn : n <= 100000) (h : PrtsAt w w.heap.size A l) (h' : PrtsAt w w.heap.size A' l) :
  Calls Tryz.prog 41 #[.slice A n c, .slice A' n c'] w fun e w' => e = .returned (.bool true) /\ Below w.heap.size w w' := by
 have He := Lib.hid (equal_same w 0 0 0 0 A A' n c c' l hl hn h h')
 clear hl h h'
 go_enter Tryz.func41, Tryz.ntmps41
 go_wp2_with (fail)
 refine He.out.mono ?_
 rintro e W2 ⟨rfl, hB2⟩
 go_wp2
 go_ret
 exact ⟨rfl, hB2⟩
end
def PostingPost (kd x : Int) (r : List Prt × Int) (w : World) (e : Ending) (w' : World) : Prop :=
 Below w.heap.size w w' /\ ((r.2 ≠ 0 ∨ r.1 = []) /\ e = .returned (.tuple #[.agg #[.int .i64 0, .int .i64 0, .int .i64 0, .int .i64 0, .slice none 0 0], .int .i64 r.2]) ∨
  (r.2 = 0 /\ r.1 ≠ [] /\ ∃ A c, Fresh w.heap.size A /\ e = .returned (.tuple #[.agg #[.int .i64 kd, .int .i64 x, .int .i64 (-1), .int .i64 0, .slice A r.1.length c], .int .i64 0]) /\ PrtsAt w' w'.heap.size A r.1))
theorem postOne (k x o r : Int) (A : Option Addr) (n c : Nat) : (#[.int .i64 k, .int .i64 x, .int .i64 o, .int .i64 r, .slice A n c] : Array Value).all (·.oneCell') = true := by simp [Value.oneCell']
section
variable (w : World)
theorem made_any (kd x : Int) (A : Option Addr) (n c : Nat) (l : List Prt) (hl : l.length = n) (hn : n <= 100) (hs : ∀ x ∈ l, -10000000000000000 <= x.amt /\ x.amt <= 10000000000000000) (h : PrtsAt w w.heap.size A l) :
  Calls Tryz.prog 55 #[.int .i64 kd, .int .i64 x, .slice A n c] w (PostingPost kd x (Po.clean l) w) := by
 obtain ⟨W1, hW1, hB0, hb0, hz⟩ := nw1 w #[.int .i64 0, .int .i64 0, .int .i64 0, .int .i64 0, .slice none 0 0] 49
 have HW := Lib.hid hW1
 have Hb0 := Lib.hid hb0
 have s1 : w.heap.size < W1.heap.size := by omega
 have Hc := Lib.hid (cleanr_any W1 A n c l hl hn hs (RowsAt.at_ h hB0))
 clear hW1 hz hb0 hl hn hs h
 go_enter Tryz.func55, Tryz.ntmps55
 go_upto_region 1 with (fail)
 rw [<- HW.out]
 go_wp2_with (fail)
 refine Hc.out.mono ?_
 rintro e W2 ⟨hB2, A2, c2, hfr, rfl, hA2⟩
 have Hfr := Lib.hid hfr
 obtain ⟨ps, hps⟩ : ∃ ps, ps = (Po.clean l).1 := ⟨_, rfl⟩
 obtain ⟨er, her⟩ : ∃ er, er = (Po.clean l).2 := ⟨_, rfl⟩
 rw [<- hps] at hA2
 rw [<- hps, <- her]
 have Hps := Lib.hid hps
 have Her := Lib.hid her
 have HA2 := Lib.hid hA2
 have hB02 := hB0.trans (hB2.mono hB0.size)
 have hd2 := Lib.hid (gbox Hb0.out hB2 s1)
 have Hz := Lib.hid (postOne 0 0 0 0 none 0 0)
 have hR := setRow_heap W2 w.heap.size _ #[.int .i64 0, .int .i64 0, .int .i64 0, .int .i64 0, .slice none 0 0] _ _ hd2.out
 have hload := Lib.hid (run_loadVar_row (P := Tryz.prog) _ _ _ 49 _ _ _ hR Tryz.underlying49 rfl postSize)
 have hBF := Lib.hid (below_setRow hB02 (Nat.le_refl _) #[.int .i64 0, .int .i64 0, .int .i64 0, .int .i64 0, .slice none 0 0])
 have hR2 := setRow_heap W2 w.heap.size _ #[.int .i64 kd, .int .i64 x, .int .i64 (-1), .int .i64 0, .slice A2 ps.length c2] _ _ hd2.out
 have hload2 := Lib.hid (run_loadVar_row (P := Tryz.prog) _ _ _ 49 _ _ _ hR2 Tryz.underlying49 rfl postSize)
 have hBF2 := Lib.hid (below_setRow hB02 (Nat.le_refl _) #[.int .i64 kd, .int .i64 x, .int .i64 (-1), .int .i64 0, .slice A2 ps.length c2])
 clear hA2 hps her hR hR2 hB2 hfr
 by_cases h1 : er = 0
 case neg =>
  have h1b : (er != 0) = true := by simp [h1]
  have H1 := Lib.hid h1
  clear h1
  go_wp2_with (refine wpList_store_row rfl 49 (.tmp 6) (.tmp 22) none rfl rfl w.heap.size 49 _ #[.int .i64 0, .int .i64 0, .int .i64 0, .int .i64 0, .slice none 0 0] rfl rfl hd2.out rfl postSize Hz.out ?_)
  exact bodyPost_ret (v := .tuple #[.agg #[.int .i64 0, .int .i64 0, .int .i64 0, .int .i64 0, .slice none 0 0], .int .i64 er]) (by simp [results, Tryz.results55, asAddr, Act.put, hload.out]) rfl ⟨hBF.out, .inl ⟨.inl (by rw [<- Her.out]; exact H1.out), by rw [<- Her.out]⟩⟩
 have h1b : (er != 0) = false := by simp [h1]
 have H1 := Lib.hid h1
 clear h1
 by_cases h2 : ps.length = 0
 case pos =>
  have H2 : Hid (ps = []) := Lib.hid (List.length_eq_zero_iff.1 h2)
  go_wp2_with (refine wpList_store_row rfl 49 (.tmp 6) (.tmp 22) none rfl rfl w.heap.size 49 _ #[.int .i64 0, .int .i64 0, .int .i64 0, .int .i64 0, .slice none 0 0] rfl rfl hd2.out rfl postSize Hz.out ?_)
  exact bodyPost_ret (v := .tuple #[.agg #[.int .i64 0, .int .i64 0, .int .i64 0, .int .i64 0, .slice none 0 0], .int .i64 er]) (by simp [results, Tryz.results55, asAddr, Act.put, hload.out]) rfl ⟨hBF.out, .inl ⟨.inr (by rw [<- Hps.out]; exact H2.out), by rw [<- Her.out]⟩⟩
 have H2 := Lib.hid h2
 have Ho := Lib.hid (postOne kd x (-1) 0 A2 ps.length c2)
 go_wp2_with (refine wpList_store_row rfl 49 (.tmp 6) (.tmp 27) none rfl rfl w.heap.size 49 _ #[.int .i64 kd, .int .i64 x, .int .i64 (-1), .int .i64 0, .slice A2 ps.length c2] rfl rfl hd2.out rfl postSize Ho.out ?_)
 refine bodyPost_ret (v := .tuple #[.agg #[.int .i64 kd, .int .i64 x, .int .i64 (-1), .int .i64 0, .slice A2 ps.length c2], .int .i64 0]) (by simp [results, Tryz.results55, asAddr, Act.put, hload2.out]) rfl ⟨hBF2.out, .inr ⟨by rw [<- Her.out]; exact H1.out, by rw [<- Hps.out]; exact fun h => H2.out (by rw [h]; rfl), A2, c2, (fun ad h => Nat.le_trans (by omega) (Hfr.out ad h)), by rw [<- Hps.out], ?_⟩⟩
 rw [<- Hps.out]
 exact RowsAt.other_row HA2.out Hfr.out s1 _
end
namespace Gr
end Gr
theorem RowsAt.triple {w : World} {b : Nat} {x y z : Prt} {t : TypeId} {fr : Nat × Nat} (h : w.heap[b]? = some (.cells #[.int .i64 x.acct, .int .i64 x.amt, .int .i64 y.acct, .int .i64 y.amt, .int .i64 z.acct, .int .i64 z.amt] t fr)) : PrtsAt w w.heap.size (some ⟨b, 0, none⟩) [x, y, z] :=
 rows_flat (f := Prt.cells) (l := [x, y, z]) h (some_lt h) (by simp [Prt.cells])
section
variable (w : World)
end
namespace Po
def none_ (r : List Prt × Int) : Prop := r.2 ≠ 0 ∨ r.1 = []
instance (r : List Prt × Int) : Decidable (none_ r) := by unfold none_; exact inferInstance
def pk (v : Int) (r : List Prt × Int) : Int := if none_ r then 0 else v
def pl (r : List Prt × Int) : List Prt := if none_ r then [] else r.1
theorem pl_length (r : List Prt × Int) : (pl r).length <= r.1.length := by unfold pl; split <;> simp
theorem pk_yes {v : Int} {r : List Prt × Int} (h : none_ r) : pk v r = 0 := if_pos h
theorem pk_no {v : Int} {r : List Prt × Int} (h : ¬ none_ r) : pk v r = v := if_neg h
theorem pl_yes {r : List Prt × Int} (h : none_ r) : pl r = [] := if_pos h
theorem pl_no {r : List Prt × Int} (h : ¬ none_ r) : pl r = r.1 := if_neg h
end Po
theorem PostingPost.one {kd x : Int} {r : List Prt × Int} {w w' : World} {e : Ending} (h : PostingPost kd x r w e w') :
  Below w.heap.size w w' /\ ∃ A c, Fresh w.heap.size A /\ e = .returned (.tuple #[.agg #[.int .i64 (Po.pk kd r), .int .i64 (Po.pk x r), .int .i64 (Po.pk (-1) r), .int .i64 0, .slice A (Po.pl r).length c], .int .i64 r.2]) /\ PrtsAt w' w'.heap.size A (Po.pl r) := by
 obtain ⟨hb, ⟨h1, rfl⟩ | ⟨h1, h2, A, c, hf, rfl, hA⟩⟩ := h
 ·refine ⟨hb, none, 0, (fun _ h => by cases h), ?_, ?_⟩
  ·rw [Po.pk_yes h1, Po.pk_yes h1, Po.pk_yes h1, Po.pl_yes h1]; rfl
  ·rw [Po.pl_yes h1]; exact .inl rfl
 ·have hn : ¬ Po.none_ r := fun h => by rcases h with h | h <;> contradiction
  refine ⟨hb, A, c, hf, ?_, ?_⟩
  ·rw [Po.pk_no hn, Po.pk_no hn, Po.pk_no hn, Po.pl_no hn, h1]
  ·rw [Po.pl_no hn]; exact hA
theorem RowsAt.stored {α : Type} {f : α -> List Value} {sz : Nat} {w : World} {A : Option Addr} {l : List α} (h : RowsAt f sz w w.heap.size A l) {b : Nat} (hne : l ≠ [] -> ∀ ad, A = some ad -> ad.block ≠ b) (cs : Array Value) : RowsAt f sz (w.setRow b cs) (w.setRow b cs).heap.size A l := by
 rcases h with h | ⟨b', o, e, hl, hc⟩
 ·exact .inl h
 ·by_cases h0 : l = []
  ·exact .inl h0
  ·have hn : b' ≠ b := hne h0 _ e
   exact .inr ⟨b', o, e, by simpa using hl, fun k hk j v hv => (World.cell?_of_block (w := w) (setRow_other w b b' cs hn)).trans (hc k hk j v hv)⟩
end Go.Proofs.YtccapfbblnnfjaaGreat
