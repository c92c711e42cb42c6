/- My texts Reg, RefCmp, RefSmall, RefNew. -/
import Derived.Test.YtalfikdjclineaaGreatDoorG30
import Derived.Test.YtalfikdjclineaaGreatDoorG12
set_option linter.unusedVariables false
set_option linter.unusedSimpArgs false
set_option maxRecDepth 100000
set_option maxHeartbeats 8000000
namespace Go.Proofs.YtalfikdjclineaaGreatDoor
open Go.RowKit

def Reg (w : World) (L : List (Nat × Array Value × TypeId)) (W : World) : Prop :=
  Below w.heap.size w W /\ ∀ x ∈ L, W.heap[x.1]? = some (.cells x.2.1 x.2.2 (0, 0))
theorem Reg.get {w W : World} {L : List (Nat × Array Value × TypeId)} (h : Reg w L W) {b : Nat} {X : Array Value} {t : TypeId} (hm : (b, X, t) ∈ L) : W.heap[b]? = some (.cells X t (0, 0)) := h.2 _ hm
theorem Reg.step {w W W' : World} {L : List (Nat × Array Value × TypeId)} (h : Reg w L W) (hb : Below W.heap.size W W') : Reg w L W' :=
  ⟨h.1.trans (hb.mono h.1.size), fun x hx => (hb.block _ (some_lt (h.2 x hx))).trans (h.2 x hx)⟩
theorem Reg.drew {w W : World} {L : List (Nat × Array Value × TypeId)} (h : Reg w L W) : Reg w L W.drew := ⟨below_drawn h.1 1, h.2⟩
theorem Reg.store {w W : World} {L : List (Nat × Array Value × TypeId)} (h : Reg w L W) (d : Nat) (hd : w.heap.size <= d) (hne : ∀ x ∈ L, x.1 ≠ d) (cs : Array Value) : Reg w L (W.setRow d cs) :=
  ⟨below_setRow h.1 hd _, fun x hx => (setRow_other _ _ _ _ (hne x hx)).trans (h.2 x hx)⟩
theorem Reg.lt {w W : World} {L : List (Nat × Array Value × TypeId)} (h : Reg w L W) {b : Nat} {X : Array Value} {t : TypeId} (hm : (b, X, t) ∈ L) : b < W.heap.size := some_lt (h.2 _ hm)
theorem row_new (w : World) (X : Array Value) (t : TypeId) : Below w.heap.size w (w.alloc (.cells X t)) /\ (w.alloc (.cells X t)).heap[w.heap.size]? = some (.cells X t (0, 0)) /\ (w.alloc (.cells X t)).heap.size = w.heap.size + 1 :=
  ⟨(Below.refl _ _).alloc (Nat.le_refl _) _, heap_alloc_new w _, by simp⟩
theorem row_new2 (w : World) (X Y : Array Value) (t s : TypeId) : Below w.heap.size w ((w.alloc (.cells X t)).alloc (.cells Y s)) /\ ((w.alloc (.cells X t)).alloc (.cells Y s)).heap[w.heap.size]? = some (.cells X t (0, 0)) /\ ((w.alloc (.cells X t)).alloc (.cells Y s)).heap[w.heap.size + 1]? = some (.cells Y s (0, 0)) /\ ((w.alloc (.cells X t)).alloc (.cells Y s)).heap.size = w.heap.size + 2 := by
  refine ⟨((Below.refl _ _).alloc (Nat.le_refl _) _).alloc (by simp) _, ?_, ?_, by simp⟩
  · rw [Below.heap_alloc _ _ _ (by simp)]; exact heap_alloc_new w _
  · have := heap_alloc_new (w.alloc (.cells X t)) (.cells Y s)
    rwa [show (w.alloc (.cells X t)).heap.size = w.heap.size + 1 by simp] at this
theorem row_new3 (w : World) (X Y Z : Array Value) (t s r : TypeId) : Below w.heap.size w (((w.alloc (.cells X t)).alloc (.cells Y s)).alloc (.cells Z r)) /\ (((w.alloc (.cells X t)).alloc (.cells Y s)).alloc (.cells Z r)).heap[w.heap.size]? = some (.cells X t (0, 0)) /\ (((w.alloc (.cells X t)).alloc (.cells Y s)).alloc (.cells Z r)).heap[w.heap.size + 1]? = some (.cells Y s (0, 0)) /\ (((w.alloc (.cells X t)).alloc (.cells Y s)).alloc (.cells Z r)).heap[w.heap.size + 2]? = some (.cells Z r (0, 0)) /\ (((w.alloc (.cells X t)).alloc (.cells Y s)).alloc (.cells Z r)).heap.size = w.heap.size + 3 := by
  obtain ⟨h1, h2, h3, h4⟩ := row_new2 w X Y t s
  obtain ⟨g1, g2, g3⟩ := row_new ((w.alloc (.cells X t)).alloc (.cells Y s)) Z r
  rw [h4] at g2 g3
  exact ⟨h1.trans (g1.mono h1.size), (g1.block _ (by omega)).trans h2, (g1.block _ (by omega)).trans h3, g2, g3⟩
theorem nw1 (w : World) (X : Array Value) (t : TypeId) : ∃ W, W = w.alloc (.cells X t) /\ Below w.heap.size w W /\ W.heap[w.heap.size]? = some (.cells X t (0, 0)) /\ W.heap.size = w.heap.size + 1 := ⟨_, rfl, row_new w X t⟩
theorem nw2 (w : World) (X Y : Array Value) (t s : TypeId) : ∃ W, W = (w.alloc (.cells X t)).alloc (.cells Y s) /\ Below w.heap.size w W /\ W.heap[w.heap.size]? = some (.cells X t (0, 0)) /\ W.heap[w.heap.size + 1]? = some (.cells Y s (0, 0)) /\ W.heap.size = w.heap.size + 2 := ⟨_, rfl, row_new2 w X Y t s⟩
theorem row_new4 (w : World) (X Y Z U : Array Value) (t s r q : TypeId) : Below w.heap.size w ((((w.alloc (.cells X t)).alloc (.cells Y s)).alloc (.cells Z r)).alloc (.cells U q)) /\ ((((w.alloc (.cells X t)).alloc (.cells Y s)).alloc (.cells Z r)).alloc (.cells U q)).heap[w.heap.size]? = some (.cells X t (0, 0)) /\ ((((w.alloc (.cells X t)).alloc (.cells Y s)).alloc (.cells Z r)).alloc (.cells U q)).heap[w.heap.size + 1]? = some (.cells Y s (0, 0)) /\ ((((w.alloc (.cells X t)).alloc (.cells Y s)).alloc (.cells Z r)).alloc (.cells U q)).heap[w.heap.size + 2]? = some (.cells Z r (0, 0)) /\ ((((w.alloc (.cells X t)).alloc (.cells Y s)).alloc (.cells Z r)).alloc (.cells U q)).heap[w.heap.size + 3]? = some (.cells U q (0, 0)) /\ ((((w.alloc (.cells X t)).alloc (.cells Y s)).alloc (.cells Z r)).alloc (.cells U q)).heap.size = w.heap.size + 4 := by
  obtain ⟨h1, h2, h3, h4, h5⟩ := row_new3 w X Y Z t s r
  obtain ⟨g1, g2, g3⟩ := row_new (((w.alloc (.cells X t)).alloc (.cells Y s)).alloc (.cells Z r)) U q
  rw [h5] at g2 g3
  exact ⟨h1.trans (g1.mono h1.size), (g1.block _ (by omega)).trans h2, (g1.block _ (by omega)).trans h3, (g1.block _ (by omega)).trans h4, g2, g3⟩
def Mk (W0 W : World) (b : Bool) (v : Value) (p : Nat) (X : Array Value) (T : TypeId) : Prop :=
  b = true -> v = .pointer (some ⟨p, 0, none⟩) /\ W0.heap.size <= p /\ W.heap[p]? = some (.cells X T (0, 0))
theorem Mk.step {W0 W W' : World} {b : Bool} {v : Value} {p : Nat} {X : Array Value} {T : TypeId} (h : Mk W0 W b v p X T) (hB : Below W.heap.size W W') : Mk W0 W' b v p X T :=
  fun hb => ⟨(h hb).1, (h hb).2.1, gbox (h hb).2.2 hB (some_lt (h hb).2.2)⟩
theorem ropt {P : Program} {ops : Array Oper} {Q : Exit -> Act -> World -> Prop} {md : Region.Mode} {S : World -> Prop} {fuel : Nat} {listed : Array Bool} {a : Act} {w : World} {b : Bool} {i : Nat} {rs : List Nat}
    (h : b = false -> AllReadyH P md ops Q S fuel listed a w [i]) (hs : AllReadyH P md ops Q S fuel listed a w rs) : AllReadyH P md ops Q S fuel listed a w (cond b [] [i] ++ rs) := by
  cases b
  · intro j hj
    rcases List.mem_cons.1 hj with rfl | hj
    · exact h rfl _ (List.mem_cons_self ..)
    · exact hs j hj
  · exact hs
end Go.Proofs.YtalfikdjclineaaGreatDoor
namespace Go.Proofs.YtalfikdjclineaaGreatDoor
namespace R1
open Go.RowKit
theorem PI.open {w : World} {B k : Nat} {u : Value} {z : Int} (h : PI w B k u z) : ∃ (g : Bool) (A : Option Addr) (n c : Nat), u = .agg #[.bool g, .slice A n c] := by
  obtain ⟨g, A, n, c, l, e, _⟩ := h
  exact ⟨g, A, n, c, e⟩
theorem PI.other {w w' : World} {B k b : Nat} {v : Value} {z : Int} {cs : Array Value} {t : TypeId} {fr : Nat × Nat} (h : PI w B k v z) (hb : w.heap[b]? = some (.cells cs t fr)) (hcs : ∀ (j : Nat) (n : Int), cs[j]? ≠ some (.int .i64 n)) (hw : ∀ c, c ≠ b -> w'.heap[c]? = w.heap[c]?) : PI w' B k v z := by
  obtain ⟨g, A, n, c, l, h1, h2, h3, h4, h5, h6, h7, h8, h9⟩ := h
  refine ⟨g, A, n, c, l, h1, h2, h3, h4, h5, h6, h7, h8, ?_⟩
  rcases h9 with h | ⟨d, o, e, hl, hc⟩
  · exact .inl h
  · rcases Nat.eq_zero_or_pos l.length with h0 | h0
    · exact .inl (List.length_eq_zero_iff.1 h0)
    · have hne : d ≠ b := by
        rintro rfl
        have := hc.1 0 h0
        rw [cell_of_row _ _ _ _ _ _ hb] at this
        exact hcs _ _ this
      exact .inr ⟨d, o, e, hl, fun j hj => (World.cell?_of_block (w := w) (hw d hne)).trans (hc.1 j hj), hc.2.of_block (hw d hne)⟩
theorem PI.drw {W : World} {k : Nat} {v : Value} {z : Int} (h : PI W W.heap.size k v z) : PI W.drew W.drew.heap.size k v z := h.at_ (below_drawn (Below.refl _ _) 1)
theorem no_int2 (g : Bool) (A : Option Addr) (n c : Nat) : ∀ (j : Nat) (z : Int), (#[.bool g, .slice A n c] : Array Value)[j]? ≠ some (.int .i64 z) := by
  intro j z
  match j with
  | 0 => simp
  | 1 => simp
  | j + 2 => simp
section
variable (w : World)
end
end R1
end Go.Proofs.YtalfikdjclineaaGreatDoor
namespace Go.Proofs.YtalfikdjclineaaGreatDoor
namespace R1
open Go.RowKit
section
variable (w : World)
end
end R1
end Go.Proofs.YtalfikdjclineaaGreatDoor
namespace Go.Proofs.YtalfikdjclineaaGreatDoor
namespace R1
open Go.RowKit
def RI (w : World) (B k j : Nat) (v : Value) (N D : Int) : Prop :=
  ∃ (g1 : Bool) (A1 : Option Addr) (n1 c1 : Nat) (g2 : Bool) (A2 : Option Addr) (n2 c2 : Nat), v = .agg #[.bool g1, .slice A1 n1 c1, .bool g2, .slice A2 n2 c2] /\
    PI w B k (.agg #[.bool g1, .slice A1 n1 c1]) N /\ PI w B j (.agg #[.bool g2, .slice A2 n2 c2]) D
theorem RI.at_ {w w' : World} {k j : Nat} {v : Value} {N D : Int} (h : RI w w.heap.size k j v N D) (hb : Below w.heap.size w w') : RI w' w'.heap.size k j v N D := by
  obtain ⟨g1, A1, n1, c1, g2, A2, n2, c2, e, h1, h2⟩ := h
  exact ⟨g1, A1, n1, c1, g2, A2, n2, c2, e, h1.at_ hb, h2.at_ hb⟩
theorem RI.open {w : World} {B k j : Nat} {v : Value} {N D : Int} (h : RI w B k j v N D) : ∃ (g1 : Bool) (A1 : Option Addr) (n1 c1 : Nat) (g2 : Bool) (A2 : Option Addr) (n2 c2 : Nat), v = .agg #[.bool g1, .slice A1 n1 c1, .bool g2, .slice A2 n2 c2] := by
  obtain ⟨g1, A1, n1, c1, g2, A2, n2, c2, e, _⟩ := h
  exact ⟨g1, A1, n1, c1, g2, A2, n2, c2, e⟩
theorem RI.other {w w' : World} {B k j b : Nat} {v : Value} {N D : Int} {cs : Array Value} {t : TypeId} {fr : Nat × Nat} (h : RI w B k j v N D) (hb : w.heap[b]? = some (.cells cs t fr)) (hcs : ∀ (j : Nat) (n : Int), cs[j]? ≠ some (.int .i64 n)) (hw : ∀ c, c ≠ b -> w'.heap[c]? = w.heap[c]?) : RI w' B k j v N D := by
  obtain ⟨g1, A1, n1, c1, g2, A2, n2, c2, e, h1, h2⟩ := h
  exact ⟨g1, A1, n1, c1, g2, A2, n2, c2, e, h1.other hb hcs hw, h2.other hb hcs hw⟩
theorem RI.more {w : World} {B C k j k' j' : Nat} {v : Value} {N D : Int} (h : RI w B k j v N D) (hC : B <= C) (hk : k <= k') (hj : j <= j') : RI w C k' j' v N D := by
  obtain ⟨g1, A1, n1, c1, g2, A2, n2, c2, e, h1, h2⟩ := h
  exact ⟨g1, A1, n1, c1, g2, A2, n2, c2, e, h1.more hC hk, h2.more hC hj⟩
theorem no_int4 (g1 : Bool) (A1 : Option Addr) (n1 c1 : Nat) (g2 : Bool) (A2 : Option Addr) (n2 c2 : Nat) : ∀ (j : Nat) (z : Int), (#[.bool g1, .slice A1 n1 c1, .bool g2, .slice A2 n2 c2] : Array Value)[j]? ≠ some (.int .i64 z) := by
  intro j z
  match j with
  | 0 => simp
  | 1 => simp
  | 2 => simp
  | 3 => simp
  | j + 4 => simp
theorem ratSize : (Tryz.prog.info? 49).map (·.size) = some 4 := by kernel_rfl
theorem one2 (g : Bool) (A : Option Addr) (n c : Nat) : (#[.bool g, .slice A n c] : Array Value).all (·.oneCell') = true := by simp [Value.oneCell']
theorem one4 (g : Bool) (A : Option Addr) (n c : Nat) (g' : Bool) (A' : Option Addr) (n' c' : Nat) : (#[.bool g, .slice A n c, .bool g', .slice A' n' c'] : Array Value).all (·.oneCell') = true := by simp [Value.oneCell']
section
variable (w : World)
theorem new_any (k j : Nat) (u v : Value) (N D : Int) (hk : k <= 400000) (hj : j <= 400000) (hD : 0 < D) (hu : PI w w.heap.size k u N) (hv : PI w w.heap.size j v D) :
    Calls Tryz.prog 41 #[u, v] w fun e w' => (∃ r, e = .returned (.tuple #[r, .int .i64 0]) /\ RI w' w'.heap.size k j r (Int.tdiv N (Int.gcd N D)) (Int.tdiv D (Int.gcd N D))) /\ Below w.heap.size w w' := by
  obtain ⟨g1, A1, n1, c1, rfl⟩ := hu.open
  obtain ⟨g2, A2, n2, c2, rfl⟩ := hv.open
  obtain ⟨hB0, hb0, hb1, hb2, hz⟩ := row_new3 w #[.bool g1, .slice A1 n1 c1] #[.bool g2, .slice A2 n2 c2] #[.bool false, .slice none 0 0, .bool false, .slice none 0 0] 47 47 49
  obtain ⟨W1, hW1⟩ : ∃ W1, W1 = (((w.alloc (.cells #[.bool g1, .slice A1 n1 c1] 47)).alloc (.cells #[.bool g2, .slice A2 n2 c2] 47)).alloc (.cells #[.bool false, .slice none 0 0, .bool false, .slice none 0 0] 49)) := ⟨_, rfl⟩
  rw [<- hW1] at hB0 hb0 hb1 hb2 hz
  have HW := Lib.hid hW1
  have hsg : (sg D == 0) = false := by simp [sg_pos.2.2]; omega
  have hsn : decide (sg D < 0) = false := by rw [sg_pos.1.2 hD]; rfl
  have Hg0 : Hid ((Int.gcd N D : Int) ≠ 0) := by
    show _ ≠ _
    have : 0 < Int.gcd N D := Int.gcd_pos_of_ne_zero_right _ (by omega)
    omega
  have hU := hu.at_ hB0
  have hV := hv.at_ hB0
  have y0 := cell_of_row _ _ 0 _ _ _ hb1
  have y1 := cell_of_row _ _ 1 _ _ _ hb1
  simp at y0 y1
  have s1 : w.heap.size + 1 < W1.heap.size := by omega
  have hS0 : Reg w [(w.heap.size, #[.bool g1, .slice A1 n1 c1], 47), (w.heap.size + 1, #[.bool g2, .slice A2 n2 c2], 47), (w.heap.size + 2, #[.bool false, .slice none 0 0, .bool false, .slice none 0 0], 49)] W1 := ⟨hB0, by simp [hb0, hb1, hb2]⟩
  clear hW1 hz hb0 hb1 hb2
  go_enter Tryz.func41, Tryz.ntmps41
  go_upto_region 1 with (fail)
  rw [<- HW.out]
  go_wp2_with (fail)
  refine (sign_any W1 j _ D hV).mono ?_
  rintro e W2 ⟨rfl, hB2⟩
  have hS2 := hS0.step hB2
  have hU2 := hU.at_ hB2
  have hV2 := hV.at_ hB2
  have h1 := hS2.get (.tail _ (.head _))
  clear y0 y1
  have y0 := cell_of_row _ _ 0 _ _ _ h1
  have y1 := cell_of_row _ _ 1 _ _ _ h1
  simp at y0 y1
  have s2 : w.heap.size + 1 < W2.heap.size := hS2.lt (.tail _ (.head _))
  clear h1
  go_wp2_with (fail)
  refine (sign_any W2 j _ D hV2).mono ?_
  rintro e W3 ⟨rfl, hB3⟩
  have hS3 := hS2.step hB3
  have hU3 := hU2.at_ hB3
  have hV3 := hV2.at_ hB3
  have h0 := hS3.get (.head _)
  have h1 := hS3.get (.tail _ (.head _))
  clear y0 y1
  have x0 := cell_of_row _ _ 0 _ _ _ h0
  have x1 := cell_of_row _ _ 1 _ _ _ h0
  have y0 := cell_of_row _ _ 0 _ _ _ h1
  have y1 := cell_of_row _ _ 1 _ _ _ h1
  simp at x0 x1 y0 y1
  have s3 : w.heap.size + 1 < W3.heap.size := hS3.lt (.tail _ (.head _))
  have s3' : w.heap.size < W3.heap.size := by omega
  clear h0 h1
  go_wp2_with (fail)
  refine (gcd_any W3 k j _ _ N D hk hj hU3 hV3).mono ?_
  rintro e W4 ⟨⟨r4, rfl, hr4⟩, hB4⟩
  obtain ⟨g4, A4, n4, c4, rfl⟩ := hr4.open
  have hS4 := hS3.step hB4
  have hU4 := hU3.at_ hB4
  have hV4 := hV3.at_ hB4
  obtain ⟨hBa, hra, hza⟩ := row_new W4 #[.bool g4, .slice A4 n4 c4] 47
  obtain ⟨W5, hW5⟩ : ∃ W5, W5 = (W4.alloc (.cells #[.bool g4, .slice A4 n4 c4] 47)) := ⟨_, rfl⟩
  rw [<- hW5] at hBa hra hza
  have HW5 := Lib.hid hW5
  have hS5 := hS4.step hBa
  have hU5 := hU4.at_ hBa
  have hV5 := hV4.at_ hBa
  have hG5 := hr4.at_ hBa
  have h0 := hS5.get (.head _)
  clear x0 x1 y0 y1 hW5
  have x0 := cell_of_row _ _ 0 _ _ _ h0
  have x1 := cell_of_row _ _ 1 _ _ _ h0
  have y0 := cell_of_row _ _ 0 _ _ _ hra
  have y1 := cell_of_row _ _ 1 _ _ _ hra
  simp at x0 x1 y0 y1
  have q4 : w.heap.size + 2 < W4.heap.size := hS4.lt (.tail _ (.tail _ (.head _)))
  have s5 : w.heap.size < W5.heap.size := by omega
  have s5' : W4.heap.size < W5.heap.size := by omega
  have Hra := Lib.hid hra
  have Hza := Lib.hid hza
  clear h0 hra hza
  go_upto_region 6 with (fail)
  rw [<- HW5.out]
  go_wp2_with (fail)
  refine (quorem_any W5 k (max k j) _ _ N (Int.gcd N D) hk (by omega) Hg0.out hU5 hG5).mono ?_
  rintro e W6 ⟨⟨r6, g, A, n, c, rfl, hr6⟩, hB6⟩
  obtain ⟨g6, A6, n6, c6, rfl⟩ := hr6.open
  have hS6 := hS5.step hB6
  have hV6 := hV5.at_ hB6
  have hG6 := hG5.at_ hB6
  have hra6 := gbox Hra.out hB6 s5'
  have H60 := Lib.hid (hS6.get (.head _))
  have H61 := Lib.hid (hS6.get (.tail _ (.head _)))
  have H62 := Lib.hid (hS6.get (.tail _ (.tail _ (.head _))))
  have Ho6 := Lib.hid (one2 g6 A6 n6 c6)
  have hq6 := hB6.size
  obtain ⟨W7, hW7⟩ : ∃ W7, W7 = W6.setRow w.heap.size #[.bool g6, .slice A6 n6 c6] := ⟨_, rfl⟩
  have h70 := setRow_heap W6 w.heap.size _ #[.bool g6, .slice A6 n6 c6] _ _ H60.out
  have h71 := (setRow_other W6 w.heap.size (w.heap.size + 1) #[.bool g6, .slice A6 n6 c6] (by omega)).trans H61.out
  have h72 := (setRow_other W6 w.heap.size (w.heap.size + 2) #[.bool g6, .slice A6 n6 c6] (by omega)).trans H62.out
  have h74 := (setRow_other W6 w.heap.size W4.heap.size #[.bool g6, .slice A6 n6 c6] (by omega)).trans hra6
  have hV7 := (hV6.other (w' := W6.setRow w.heap.size #[.bool g6, .slice A6 n6 c6]) H60.out (no_int2 _ _ _ _) (fun c hc => setRow_other _ _ _ _ hc)).more (C := (W6.setRow w.heap.size #[.bool g6, .slice A6 n6 c6]).heap.size) (by simp) (Nat.le_refl _)
  have hG7 := (hG6.other (w' := W6.setRow w.heap.size #[.bool g6, .slice A6 n6 c6]) H60.out (no_int2 _ _ _ _) (fun c hc => setRow_other _ _ _ _ hc)).more (C := (W6.setRow w.heap.size #[.bool g6, .slice A6 n6 c6]).heap.size) (by simp) (Nat.le_refl _)
  have hr7 := (hr6.other (w' := W6.setRow w.heap.size #[.bool g6, .slice A6 n6 c6]) H60.out (no_int2 _ _ _ _) (fun c hc => setRow_other _ _ _ _ hc)).more (C := (W6.setRow w.heap.size #[.bool g6, .slice A6 n6 c6]).heap.size) (by simp) (Nat.le_refl _)
  have hB7 := below_setRow hS6.1 (Nat.le_refl _) #[.bool g6, .slice A6 n6 c6]
  have hz7 : W7.heap.size = W6.heap.size := by rw [hW7]; simp
  rw [<- hW7] at h70 h71 h72 h74 hV7 hG7 hr7 hB7
  have HW7 := Lib.hid hW7
  clear x0 x1 y0 y1 hW7 hra6
  have x0 := cell_of_row _ _ 0 _ _ _ h71
  have x1 := cell_of_row _ _ 1 _ _ _ h71
  have y0 := cell_of_row _ _ 0 _ _ _ h74
  have y1 := cell_of_row _ _ 1 _ _ _ h74
  simp at x0 x1 y0 y1
  have s7 : w.heap.size + 1 < W7.heap.size := by omega
  have s7' : W4.heap.size < W7.heap.size := by omega
  have H70 := Lib.hid h70
  have H71 := Lib.hid h71
  have H72 := Lib.hid h72
  clear h70 h71 h72 h74
  go_upto_region 7 with (refine wpList_store_row rfl 47 (.tmp 2) (.tmp 25) none rfl rfl w.heap.size 47 _ #[.bool g6, .slice A6 n6 c6] rfl rfl H60.out rfl intSize Ho6.out ?_)
  rw [<- HW7.out]
  go_wp2_with (fail)
  refine (quorem_any W7 j (max k j) _ _ D (Int.gcd N D) hj (by omega) Hg0.out hV7 hG7).mono ?_
  rintro e W8 ⟨⟨r8, g', A', n', c', rfl, hr8⟩, hB8⟩
  obtain ⟨g8, A8, n8, c8, rfl⟩ := hr8.open
  have hr9 := hr7.at_ hB8
  have h80 := gbox H70.out hB8 (by omega)
  have H81 := Lib.hid (gbox H71.out hB8 (by omega))
  have h82 := gbox H72.out hB8 (by omega)
  have Ho8 := Lib.hid (one2 g8 A8 n8 c8)
  have hBw8 := hB7.trans (hB8.mono hB7.size)
  have hq8 := hB8.size
  obtain ⟨W9, hW9⟩ : ∃ W9, W9 = W8.setRow (w.heap.size + 1) #[.bool g8, .slice A8 n8 c8] := ⟨_, rfl⟩
  have h91 := setRow_heap W8 (w.heap.size + 1) _ #[.bool g8, .slice A8 n8 c8] _ _ H81.out
  have h90 := (setRow_other W8 (w.heap.size + 1) w.heap.size #[.bool g8, .slice A8 n8 c8] (by omega)).trans h80
  have h92 := (setRow_other W8 (w.heap.size + 1) (w.heap.size + 2) #[.bool g8, .slice A8 n8 c8] (by omega)).trans h82
  have hN9 := (hr9.other (w' := W8.setRow (w.heap.size + 1) #[.bool g8, .slice A8 n8 c8]) H81.out (no_int2 _ _ _ _) (fun c hc => setRow_other _ _ _ _ hc)).more (C := (W8.setRow (w.heap.size + 1) #[.bool g8, .slice A8 n8 c8]).heap.size) (by simp) (Nat.le_refl _)
  have hD9 := (hr8.other (w' := W8.setRow (w.heap.size + 1) #[.bool g8, .slice A8 n8 c8]) H81.out (no_int2 _ _ _ _) (fun c hc => setRow_other _ _ _ _ hc)).more (C := (W8.setRow (w.heap.size + 1) #[.bool g8, .slice A8 n8 c8]).heap.size) (by simp) (Nat.le_refl _)
  have hB9 := below_setRow hBw8 (show w.heap.size <= w.heap.size + 1 by omega) #[.bool g8, .slice A8 n8 c8]
  have hz9 : W9.heap.size = W8.heap.size := by rw [hW9]; simp
  rw [<- hW9] at h90 h91 h92 hN9 hD9 hB9
  have HW9 := Lib.hid hW9
  clear x0 x1 y0 y1 hW9 h80 h82
  have x0 := cell_of_row _ _ 0 _ _ _ h90
  have x1 := cell_of_row _ _ 1 _ _ _ h90
  have y0 := cell_of_row _ _ 0 _ _ _ h91
  have y1 := cell_of_row _ _ 1 _ _ _ h91
  simp at x0 x1 y0 y1
  have s9 : w.heap.size + 1 < W9.heap.size := by omega
  have s9' : w.heap.size < W9.heap.size := by omega
  have H92 := Lib.hid h92
  have Ho9 := Lib.hid (one4 g6 A6 n6 c6 g8 A8 n8 c8)
  have hR := setRow_heap W9 (w.heap.size + 2) _ #[.bool g6, .slice A6 n6 c6, .bool g8, .slice A8 n8 c8] _ _ h92
  have hload := Lib.hid (run_loadVar_row (P := Tryz.prog) _ _ _ 49 _ _ _ hR Tryz.underlying49 rfl ratSize)
  have hP9 : RI W9 W9.heap.size k j (.agg #[.bool g6, .slice A6 n6 c6, .bool g8, .slice A8 n8 c8]) (Int.tdiv N (Int.gcd N D)) (Int.tdiv D (Int.gcd N D)) := ⟨_, _, _, _, _, _, _, _, rfl, hN9, hD9⟩
  have hPF := Lib.hid ((hP9.other (w' := W9.setRow (w.heap.size + 2) #[.bool g6, .slice A6 n6 c6, .bool g8, .slice A8 n8 c8]) h92 (no_int4 _ _ _ _ _ _ _ _) (fun c hc => setRow_other _ _ _ _ hc)).more (C := (W9.setRow (w.heap.size + 2) #[.bool g6, .slice A6 n6 c6, .bool g8, .slice A8 n8 c8]).heap.size) (by simp) (Nat.le_refl _) (Nat.le_refl _))
  have hBF := Lib.hid (below_setRow hB9 (show w.heap.size <= w.heap.size + 2 by omega) #[.bool g6, .slice A6 n6 c6, .bool g8, .slice A8 n8 c8])
  clear h90 h91 h92 hR
  go_upto_region 8 with (refine wpList_store_row rfl 47 (.tmp 3) (.tmp 32) none rfl rfl (w.heap.size + 1) 47 _ #[.bool g8, .slice A8 n8 c8] rfl rfl H81.out rfl intSize Ho8.out ?_)
  rw [<- HW9.out]
  go_wp2_with (refine wpList_store_row rfl 49 (.tmp 4) (.tmp 37) none rfl rfl (w.heap.size + 2) 49 _ #[.bool g6, .slice A6 n6 c6, .bool g8, .slice A8 n8 c8] rfl rfl H92.out rfl ratSize Ho9.out ?_)
  exact bodyPost_ret (v := .tuple #[.agg #[.bool g6, .slice A6 n6 c6, .bool g8, .slice A8 n8 c8], .int .i64 0]) (by simp [results, Tryz.results41, asAddr, Act.put, hload.out]) rfl ⟨⟨_, rfl, hPF.out⟩, hBF.out⟩
end
end R1
end Go.Proofs.YtalfikdjclineaaGreatDoor
