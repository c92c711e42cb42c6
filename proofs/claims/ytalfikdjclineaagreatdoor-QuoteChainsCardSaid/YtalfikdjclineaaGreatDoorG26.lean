/- My texts RefMem, RefAdd. -/
import Derived.Test.YtalfikdjclineaaGreatDoorG02
set_option linter.unusedVariables false
set_option linter.unusedSimpArgs false
set_option maxRecDepth 100000
set_option maxHeartbeats 8000000
namespace Go.Proofs.YtalfikdjclineaaGreatDoor
namespace R1
open Go.RowKit

def PI (w : World) (B : Nat) (k : Nat) (v : Value) (z : Int) : Prop :=
  ∃ (neg : Bool) (A : Option Addr) (n c : Nat) (l : List Int), v = .agg #[.bool neg, .slice A n c] /\ l.length = n /\ n <= k /\ n <= c /\ Big.Lim 10000 l /\ Big.Norm l /\ (neg = true -> 0 < n) /\ z = Big.sgn neg (Big.val 10000 l) /\ LimbsAt .i64 w B A l

section
variable (w : World)
theorem trim_any (A : Option Addr) (n c : Nat) (l : List Int) (hl : l.length = n) (hn : n <= 1000000) (hc : n <= c) (h : LimbsAt .i64 w w.heap.size A l) :
    Calls Tryz.prog 92 #[.slice A n c] w fun e w' => e = .returned (.slice A (Big.trim l).length c) /\ w = w' := by
  subst hl
  go_enter Tryz.func92, Tryz.ntmps92
  go_wp2
  go_loop [0] (fun v => ∃ k : Nat, k <= l.length /\ v = .slice A k c /\ Big.trim (l.take k) = Big.trim l) (fun v => match v with | .slice _ n _ => n | _ => 0)
  case atStart => exact ⟨l.length, Nat.le_refl _, rfl, by rw [List.take_length]⟩
  case round =>
    obtain ⟨k, hk, rfl, ht⟩ := hrel
    have Ht := Lib.hid ht
    clear ht
    match k, hk with
    | 0, _ =>
      have h0 : Hid ((Big.trim l).length = 0) := by show _ = _; rw [<- Ht.out]; rfl
      go_wp2
      go_ret
      exact ⟨by rw [h0.out]; rfl, rfl⟩
    | k + 1, hk =>
      obtain ⟨b, o, rfl, hb, hcell⟩ := h.look (show k < l.length by omega)
      by_cases h0 : l[k] = 0
      · have hb0 : (l[k] == 0) = true := by simp [h0]
        have Hs : Hid (Big.trim (l.take k) = Big.trim l) := by show _ = _; rw [<- Big.trim_take (show k < l.length by omega) h0]; exact Ht.out
        clear h0
        go_wp2
        go_round
        case rel => exact ⟨k, by omega, by go_num, Hs.out⟩
        case measure => simp
      · have hb0 : (l[k] == 0) = false := by simp [h0]
        have Hs : Hid ((Big.trim l).length = k + 1) := by
          show _ = _
          rw [<- Ht.out, Big.trim_take_stop (show k < l.length by omega) h0, List.length_take]; omega
        clear h0
        go_wp2
        go_ret
        exact ⟨by rw [Hs.out]; rfl, rfl⟩

theorem signed_any (neg : Bool) (A : Option Addr) (n c : Nat) (l : List Int) (hl : l.length = n) (hn : n <= 1000000) (hc : n <= c) (h : LimbsAt .i64 w w.heap.size A l) :
    Calls Tryz.prog 74 #[.bool neg, .slice A n c] w fun e w' => e = .returned (.agg #[.bool (neg && decide (0 < (Big.trim l).length)), .slice A (Big.trim l).length c]) /\ Below w.heap.size w w' := by
  have H := Lib.hid (h.start (.cells #[.bool false, .slice none 0 0] 47))
  have hB0 := (Below.refl w.heap.size w).alloc (Nat.le_refl _) (.cells #[.bool false, .slice none 0 0] 47)
  clear h
  cases neg
  all_goals
    go_enter Tryz.func74, Tryz.ntmps74
    go_wp2_with (go_at_call 92; refine (trim_any _ A n c l hl hn hc H.out).mono ?_; rintro e w1 ⟨rfl, rfl⟩)
  · refine bodyPost_ret (v := .agg #[.bool false, .slice A (Big.trim l).length c]) (by simp [results, Tryz.results74, go_sem]) rfl ⟨rfl, (Below.refl _ _).alloc (Nat.le_refl _) _⟩
  · refine bodyPost_ret (v := .agg #[.bool (decide (0 < (Big.trim l).length)), .slice A (Big.trim l).length c]) (by simp [results, Tryz.results74, go_sem]) rfl ⟨by rw [Bool.true_and], (Below.refl _ _).alloc (Nat.le_refl _) _⟩
theorem PI.mk {w : World} {B k : Nat} {neg : Bool} {A : Option Addr} {n c : Nat} {l : List Int} (hl : l.length = n) (hn : n <= k) (hc : n <= c) (hL : Big.Lim 10000 l) (h : LimbsAt .i64 w B A l) :
    PI w B k (.agg #[.bool (neg && decide (0 < (Big.trim l).length)), .slice A (Big.trim l).length c]) (Big.sgn neg (Big.val 10000 l)) := by
  obtain ⟨h1, h2, h3, h4⟩ := Big.trim_spec 10000 l
  refine ⟨_, A, _, c, Big.trim l, rfl, rfl, by omega, by omega, Big.trim_lim hL, h2, ?_, ?_, by rw [h4]; exact h.take _⟩
  · intro hp
    simp only [Bool.and_eq_true, decide_eq_true_eq] at hp
    exact hp.2
  · rw [h1]
    cases neg with
    | false => rfl
    | true =>
      by_cases h0 : 0 < (Big.trim l).length
      · simp [h0]
      · have hv : Big.val 10000 l = 0 := by rw [<- h1, List.length_eq_zero_iff.1 (show (Big.trim l).length = 0 by omega)]; rfl
        rw [hv]; simp [Big.sgn]
theorem PI.below {w w' : World} {B C k : Nat} {v : Value} {z : Int} (h : PI w B k v z) (hb : Below C w w') (hC : B <= C) : PI w' B k v z := by
  obtain ⟨neg, A, n, c, l, h1, h2, h3, h4, h5, h6, h7, h8, h9⟩ := h
  exact ⟨neg, A, n, c, l, h1, h2, h3, h4, h5, h6, h7, h8, h9.below hb hC⟩
theorem PI.more {w : World} {B C k j : Nat} {v : Value} {z : Int} (h : PI w B k v z) (hC : B <= C) (hk : k <= j) : PI w C j v z := by
  obtain ⟨neg, A, n, c, l, h1, h2, h3, h4, h5, h6, h7, h8, h9⟩ := h
  exact ⟨neg, A, n, c, l, h1, h2, by omega, h4, h5, h6, h7, h8, h9.more hC⟩
theorem PI.at_ {w w' : World} {k : Nat} {v : Value} {z : Int} (h : PI w w.heap.size k v z) (hb : Below w.heap.size w w') : PI w' w'.heap.size k v z :=
  (h.below hb (Nat.le_refl _)).more hb.size (Nat.le_refl _)
theorem PI.tight {w : World} {B k j : Nat} {v : Value} {z : Int} (h : PI w B k v z) (h1 : -10000 ^ j < z) (h2 : z < 10000 ^ j) : PI w B j v z := by
  obtain ⟨neg, A, n, c, l, e1, e2, e3, e4, e5, e6, e7, e8, e9⟩ := h
  refine ⟨neg, A, n, c, l, e1, e2, ?_, e4, e5, e6, e7, e8, e9⟩
  rw [<- e2]
  refine Big.length_le (by omega) e5 e6 j ?_
  have := Big.val_nonneg (by omega) e5
  cases neg with
  | false => simp [Big.sgn] at e8; omega
  | true => simp [Big.sgn] at e8; omega

theorem PI.parts {w : World} {B k : Nat} {v : Value} {z : Int} (h : PI w B k v z) : ∃ (neg : Bool) (A : Option Addr) (n c : Nat) (l : List Int), v = .agg #[.bool neg, .slice A n c] /\ l.length = n /\ n <= k /\ n <= c /\ Big.Lim 10000 l /\ Big.Norm l /\ z = Big.sgn neg (Big.val 10000 l) /\ LimbsAt .i64 w B A l /\
    ((n = 0 /\ neg = false /\ z = 0) ∨ (0 < n /\ neg = false /\ 0 < z) ∨ (0 < n /\ neg = true /\ z < 0)) := by
  obtain ⟨neg, A, n, c, l, h1, h2, h3, h4, h5, h6, h7, h8, h9⟩ := h
  refine ⟨neg, A, n, c, l, h1, h2, h3, h4, h5, h6, h8, h9, ?_⟩
  have hv := Big.val_nonneg (by omega) h5
  have hz := Big.val_zero (by omega) h5 h6
  rcases Nat.eq_zero_or_pos n with h0 | h0
  · left
    have hl0 : l = [] := List.length_eq_zero_iff.1 (by omega)
    have hng : neg = false := by
      cases hn : neg with
      | false => rfl
      | true => have := h7 hn; omega
    subst hng hl0
    exact ⟨h0, rfl, by rw [h8]; rfl⟩
  · have hne : Big.val 10000 l ≠ 0 := fun e => by have := hz.1 e; subst this; simp at h2; omega
    cases neg with
    | false => right; left; exact ⟨h0, rfl, by rw [h8]; simp [Big.sgn]; omega⟩
    | true => right; right; exact ⟨h0, rfl, by rw [h8]; simp [Big.sgn]; omega⟩

theorem sign_any (k : Nat) (v : Value) (z : Int) (h : PI w w.heap.size k v z) :
    Calls Tryz.prog 50 #[v] w fun e w' => e = .returned (.int .i64 (sg z)) /\ Below w.heap.size w w' := by
  obtain ⟨neg, A, n, c, l, rfl, hl, hn, hc, _, _, _, _, hs⟩ := h.parts
  rcases hs with ⟨h0, rfl, hz⟩ | ⟨h0, rfl, hz⟩ | ⟨h0, rfl, hz⟩
  · have E : Hid (sg z = 0) := by show _ = _; simp [sg, hz]
    subst h0
    clear hz hl
    go_enter Tryz.func50, Tryz.ntmps50
    go_wp2
    go_ret
    exact ⟨by rw [E.out]; rfl, (Below.refl _ _).alloc (Nat.le_refl _) _⟩
  · have E : Hid (sg z = 1) := by show _ = _; unfold sg; rw [if_neg (by omega), if_neg (by omega)]
    have hb : ((n : Int) == 0) = false := by simp; omega
    clear hz hl
    go_enter Tryz.func50, Tryz.ntmps50
    go_wp2
    go_ret
    exact ⟨by rw [E.out]; rfl, (Below.refl _ _).alloc (Nat.le_refl _) _⟩
  · have E : Hid (sg z = -1) := by show _ = _; unfold sg; rw [if_neg (by omega), if_pos (by omega)]
    have hb : ((n : Int) == 0) = false := by simp; omega
    clear hz hl
    go_enter Tryz.func50, Tryz.ntmps50
    go_wp2
    go_ret
    exact ⟨by rw [E.out]; rfl, (Below.refl _ _).alloc (Nat.le_refl _) _⟩

theorem neg_any (k : Nat) (v : Value) (z : Int) (hk : k <= 1000000) (h : PI w w.heap.size k v z) :
    Calls Tryz.prog 71 #[v] w fun e w' => (∃ u, e = .returned u /\ PI w' w'.heap.size k u (-z)) /\ Below w.heap.size w w' := by
  obtain ⟨neg, A, n, c, l, rfl, hl, hn, hc, hL, hN, hz, hA, _⟩ := h.parts
  have E : Hid (-z = Big.sgn (!neg) (Big.val 10000 l)) := by show _ = _; rw [hz]; cases neg <;> simp [Big.sgn]
  have H := Lib.hid ((hA.start (.cells #[.bool neg, .slice A n c] 47)).start (.cells #[.bool false, .slice none 0 0] 47))
  have hB0 := ((Below.refl w.heap.size w).alloc (Nat.le_refl _) (.cells #[.bool neg, .slice A n c] 47)).alloc (by simp) (.cells #[.bool false, .slice none 0 0] 47)
  have hZ := heap_alloc_new (w.alloc (.cells #[.bool neg, .slice A n c] 47)) (.cells #[.bool false, .slice none 0 0] 47)
  rw [show (w.alloc (.cells #[.bool neg, .slice A n c] 47)).heap.size = w.heap.size + 1 by simp] at hZ
  have hP := Lib.hid (PI.mk (neg := !neg) hl hn hc hL hA)
  clear hz hA h
  go_enter Tryz.func71, Tryz.ntmps71
  go_wp2_with (fail)
  refine (signed_any _ (!neg) A n c l hl (by omega) hc H.out).mono ?_
  rintro e w1 ⟨rfl, hB⟩
  have hq := hB.size
  simp at hq
  have hB1 := hB0.trans (hB.mono (by simp; omega))
  have hZ1 := (hB.block _ (by simp)).trans hZ
  have z0 := cell_of_row _ _ 0 _ _ _ hZ1
  have z1 := cell_of_row _ _ 1 _ _ _ hZ1
  have zf := fun j => frozen_of_row _ _ j _ _ hZ1
  simp at z0 z1
  clear hZ hZ1
  go_wp2
  have hBf := (hB1.setCell (p := ⟨w.heap.size + 1, 0, none⟩) (by simp) (.bool (!neg && decide (0 < (Big.trim l).length)))).setCell (p := ⟨w.heap.size + 1, 1, none⟩) (by simp) (.slice A (Big.trim l).length c)
  refine bodyPost_ret (v := .agg #[.bool (!neg && decide (0 < (Big.trim l).length)), .slice A (Big.trim l).length c]) (by simp [results, Tryz.results71, go_sem, z0, z1]) rfl ⟨⟨_, rfl, ?_⟩, hBf⟩
  rw [E.out]
  exact hP.out.at_ hBf

theorem compare_any (A B : Option Addr) (n m c d : Nat) (l q : List Int) (hl : l.length = n) (hq : q.length = m) (hn : n <= 1000000) (hm : m <= 1000000) (hL : Big.Lim 10000 l) (hQ : Big.Lim 10000 q) (hNl : Big.Norm l) (hNq : Big.Norm q)
    (hA : LimbsAt .i64 w w.heap.size A l) (hB : LimbsAt .i64 w w.heap.size B q) :
    Calls Tryz.prog 108 #[.slice A n c, .slice B m d] w fun e w' => e = .returned (.int .i64 (cm (Big.val 10000 l) (Big.val 10000 q))) /\ Below w.heap.size w w' := by
  subst hl hq
  rcases Nat.lt_trichotomy l.length q.length with hlt | heq | hlt
  · have E : Hid (cm (Big.val 10000 l) (Big.val 10000 q) = -1) := by
      show _ = _; unfold cm; rw [if_pos (Big.longer_lt (by omega) hL hQ hNq hlt)]
    go_enter Tryz.func108, Tryz.ntmps108
    go_wp2
    go_ret
    exact ⟨by rw [E.out]; rfl, Below.refl _ _⟩
  · go_enter Tryz.func108, Tryz.ntmps108
    go_wp2
    go_loopw [5] (fun i wr => ∃ k : Nat, k <= l.length /\ i = .int .i64 ((k : Int) - 1) /\ l.drop k = q.drop k /\ Below w.heap.size w wr) (fun i _ => (intOf i + 1).toNat)
    case atStart => exact ⟨l.length, Nat.le_refl _, by first | rfl | (rw [heq]), by rw [List.drop_of_length_le (Nat.le_refl _), List.drop_of_length_le (by omega)], Below.refl _ _⟩
    case round =>
      obtain ⟨k, hk, rfl, he, hb⟩ := hrel
      have He := Lib.hid he
      clear he
      match k, hk with
      | 0, _ =>
        have E : Hid (cm (Big.val 10000 l) (Big.val 10000 q) = 0) := by
          show _ = _
          have h0 := He.out
          simp only [List.drop_zero] at h0
          rw [h0]; simp [cm]
        go_wp2
        go_ret
        exact ⟨by rw [E.out]; rfl, hb⟩
      | k + 1, hk =>
        rw [show ((k + 1 : Nat) : Int) - 1 = (k : Int) by omega]
        have hkl : k < l.length := by omega
        have hkq : k < q.length := by omega
        obtain ⟨b1, o1, rfl, hb1, x1⟩ := (hA.below hb (Nat.le_refl _)).look hkl
        obtain ⟨b2, o2, rfl, hb2, x2⟩ := (hB.below hb (Nat.le_refl _)).look hkq
        have i0 : (0 : Int) <= (k : Int) := by omega
        have i1 : (k : Int) < (l.length : Int) := by omega
        have i2 : (k : Int) < (q.length : Int) := by omega
        rcases Int.lt_trichotomy l[k] q[k] with hc | hc | hc
        · have E : Hid (cm (Big.val 10000 l) (Big.val 10000 q) = -1) := by
            show _ = _; unfold cm; rw [if_pos (Big.top_lt (by omega) hL hQ heq k hkl He.out hc)]
          go_wp2_with (go_quiet (fail))
          go_ret
          exact ⟨by rw [E.out]; rfl, below_drawn hb _⟩
        · have hle1 : l[k] <= q[k] := by omega
          have hle2 : q[k] <= l[k] := by omega
          have Hs : Hid (l.drop k = q.drop k) := by
            show _ = _
            rw [List.drop_eq_getElem_cons hkl, List.drop_eq_getElem_cons hkq, He.out, hc]
          clear hc
          go_wp2_with (go_quiet (fail))
          go_roundw
          case rel => exact ⟨k, by omega, by go_num, Hs.out, below_drawn hb _⟩
          case measure => simp [intOf]
        · have E : Hid (cm (Big.val 10000 l) (Big.val 10000 q) = 1) := by
            have h1 := Big.top_lt (by omega) hQ hL heq.symm k hkq He.out.symm hc
            show _ = _; unfold cm; rw [if_neg (by omega), if_pos h1]
          go_wp2_with (go_quiet (fail))
          go_ret
          exact ⟨by rw [E.out]; rfl, below_drawn (below_drawn hb _) _⟩
  · have E : Hid (cm (Big.val 10000 l) (Big.val 10000 q) = 1) := by
      show _ = _; unfold cm
      have := Big.longer_lt (by omega) hQ hL hNl hlt
      rw [if_neg (by omega), if_pos (by omega)]
    go_enter Tryz.func108, Tryz.ntmps108
    go_wp2
    go_ret
    exact ⟨by rw [E.out]; rfl, Below.refl _ _⟩

end
end R1
end Go.Proofs.YtalfikdjclineaaGreatDoor
namespace Go.Proofs.YtalfikdjclineaaGreatDoor
namespace R1
open Go.RowKit

def LimbPost (k : Nat) (V : Int) (w : World) (e : Ending) (w' : World) : Prop :=
  Below w.heap.size w w' /\ ∃ (A : Option Addr) (n c : Nat) (r : List Int), e = .returned (.slice A n c) /\ r.length = n /\ n <= k /\ n <= c /\ Big.Lim 10000 r /\ Big.val 10000 r = V /\ LimbsAt .i64 w' w'.heap.size A r /\ ∀ b o, A = some ⟨b, o, none⟩ -> w.heap.size <= b
def NormPost (k : Nat) (V : Int) (w : World) (e : Ending) (w' : World) : Prop :=
  Below w.heap.size w w' /\ ∃ (A : Option Addr) (n c : Nat) (r : List Int), e = .returned (.slice A n c) /\ r.length = n /\ n <= k /\ n <= c /\ Big.Lim 10000 r /\ Big.Norm r /\ Big.val 10000 r = V /\ LimbsAt .i64 w' w'.heap.size A r /\ ∀ b o, A = some ⟨b, o, none⟩ -> w.heap.size <= b
theorem NormPost.limb {k : Nat} {V : Int} {w : World} {e : Ending} {w' : World} (h : NormPost k V w e w') : LimbPost k V w e w' := by
  obtain ⟨hb, A, n, c, r, h1, h2, h3, h4, h5, _, h6, h7, h8⟩ := h
  exact ⟨hb, A, n, c, r, h1, h2, h3, h4, h5, h6, h7, h8⟩
theorem iinfo : (Tryz.prog.info? 3).map (fun i => (i.zero, i.size, i.bytes)) = some (some (.int .i64 0), 1, 8) := by kernel_rfl
theorem isize : (Tryz.prog.info? 3).map (·.size) = some 1 := by kernel_rfl
theorem take_all {l : List Int} {k : Nat} (h : l.length <= k) : Big.val 10000 (l.take (k + 1)) = Big.val 10000 (l.take k) + 10000 ^ k * 0 := by
  rw [List.take_of_length_le h, List.take_of_length_le (by omega), Int.mul_zero, Int.add_zero]
theorem own_end {w wr : World} {base : Nat} {v : Value} {k : Nat} {P : List Int} (h : wr.ownsRow base 3 1 v k (P.map (Value.int .i64))) (hP : P.length = k) : ∃ A c, v = .slice A k c /\ k <= c /\ LimbsAt .i64 wr wr.heap.size A P /\ ∀ b o, A = some ⟨b, o, none⟩ -> base <= b := by
  obtain ⟨A, c, rfl, hc, hl⟩ := limbs_own h hP.symm
  exact ⟨A, c, rfl, hc, hl, fun b o e => own_base h b (by rw [e]; rfl)⟩
section
variable (w : World)
theorem minus_n (A B : Option Addr) (n m c d : Nat) (p q : List Int) (hl : p.length = n) (hq : q.length = m) (hge : m <= n) (hn : n <= 1000000) (hm : m <= 1000000) (hL : Big.Lim 10000 p) (hQ : Big.Lim 10000 q) (hle : Big.val 10000 q <= Big.val 10000 p)
    (hA : LimbsAt .i64 w w.heap.size A p) (hB : LimbsAt .i64 w w.heap.size B q) :
    Calls Tryz.prog 110 #[.slice A n c, .slice B m d] w (NormPost n (Big.val 10000 p - Big.val 10000 q) w) := by
  subst hl hq
  obtain ⟨i0, hi, hz0, hz1, hz2⟩ := info_parts iinfo
  have HL := Lib.hid hL
  have HQ := Lib.hid hQ
  have Hle := Lib.hid hle
  clear hle hL hQ
  go_enter Tryz.func110, Tryz.ntmps110
  go_wp2
  go_loopw [5, 6, 7] (fun v cr i wr => ∃ (k : Nat) (P : List Int) (bw : Int), i = .int .i64 k /\ cr = .int .i64 bw /\ 0 <= bw /\ bw <= 1 /\ k <= p.length /\ P.length = k /\ Big.Lim 10000 P /\
    Big.val 10000 P - 10000 ^ k * bw = Big.val 10000 (p.take k) - Big.val 10000 (q.take k) /\ wr.ownsRow w.heap.size 3 1 v k (P.map (Value.int .i64)) /\ Below w.heap.size w wr) (fun _ _ i _ => p.length - (intOf i).toNat)
  case atStart => exact ⟨0, [], 0, rfl, rfl, by omega, by omega, Nat.zero_le _, rfl, Big.Lim.nil, by simp [Big.val], World.ownsRow_nil _ _ _ _, Below.refl _ _⟩
  case round =>
    obtain ⟨k, P, bw, rfl, rfl, hc0, hc1, hkM, hPl, hPL, hv, hown, hb⟩ := hrel
    have HPl := Lib.hid hPl
    have HPL := Lib.hid hPL
    have Hv := Lib.hid hv
    have hwb := hb.size
    clear hPl hPL hv
    by_cases hkp : k < p.length
    · obtain ⟨b1, o1, rfl, hb1, x1⟩ := (hA.below hb (Nat.le_refl _)).look hkp
      have hx0 := (HL.out.get k hkp).1
      have hx1 := (HL.out.get k hkp).2
      have hbw1 : b1 < wr.heap.size := by omega
      by_cases hkq : k < q.length
      · obtain ⟨b2, o2, rfl, hb2, x2⟩ := (hB.below hb (Nat.le_refl _)).look hkq
        have hy0 := (HQ.out.get k hkq).1
        have hy1 := (HQ.out.get k hkq).2
        have hbw2 : b2 < wr.heap.size := by omega
        by_cases hlo : p[k] - bw - q[k] < 0
        · have Hnew := Lib.hid (one_cell (heap_alloc_new wr (.cells #[.int .i64 (p[k] - bw - q[k] + 10000)] 3)))
          have Hown := Lib.hid (hown.alloc (.cells #[.int .i64 (p[k] - bw - q[k] + 10000)] 3))
          have Hone : Hid (∀ u ∈ ([Value.int .i64 (p[k] - bw - q[k] + 10000)] : List Value), u.oneCell' = true) := by show ∀ u ∈ _, _; simp [Value.oneCell']
          go_wp2_with (at_builtin; refine wpList_append_own _ rfl _ _ 45 rfl w.heap.size 3 i0 (.int .i64 0) 1 8 Tryz.underlying45 hi hz0 hz1 hz2 rfl (by decide) _ _ _ rfl Hown.out ⟨wr.heap.size, 0, none⟩ 1 1 [.int .i64 (p[k] - bw - q[k] + 10000)] rfl rfl Hnew.out Hone.out (by unfold maxLen; omega) (by omega) (by simp; omega) ?_)
          intro v' w9 hown' hgrow _
          have hb9 := (hb.alloc hb.size (.cells #[.int .i64 (p[k] - bw - q[k] + 10000)] 3)).grown hgrow (by simp; omega) (fun q hq => by have := own_base hown q hq; omega)
          go_wp2
          go_roundw
          case rel =>
            refine ⟨k + 1, P ++ [(p[k] - bw - q[k] + 10000)], 1, by go_num, rfl, by omega, by omega, by omega, by have := HPl.out; simp; omega, Big.Lim.append.2 ⟨HPL.out, fun a ha => ?_⟩, sub_step (x := p[k]) (y := q[k]) (bw := bw) (dg := (p[k] - bw - q[k] + 10000)) (bw' := 1) Hv.out HPl.out (by omega) (Big.val_take_succ _ _ _ hkp) (Big.val_take_succ _ _ _ hkq), by rw [List.map_append]; exact hown', hb9⟩
            rw [List.mem_singleton] at ha; subst ha; omega
          case measure => simp [intOf]; omega
        · have Hnew := Lib.hid (one_cell (heap_alloc_new wr (.cells #[.int .i64 (p[k] - bw - q[k])] 3)))
          have Hown := Lib.hid (hown.alloc (.cells #[.int .i64 (p[k] - bw - q[k])] 3))
          have Hone : Hid (∀ u ∈ ([Value.int .i64 (p[k] - bw - q[k])] : List Value), u.oneCell' = true) := by show ∀ u ∈ _, _; simp [Value.oneCell']
          go_wp2_with (at_builtin; refine wpList_append_own _ rfl _ _ 45 rfl w.heap.size 3 i0 (.int .i64 0) 1 8 Tryz.underlying45 hi hz0 hz1 hz2 rfl (by decide) _ _ _ rfl Hown.out ⟨wr.heap.size, 0, none⟩ 1 1 [.int .i64 (p[k] - bw - q[k])] rfl rfl Hnew.out Hone.out (by unfold maxLen; omega) (by omega) (by simp; omega) ?_)
          intro v' w9 hown' hgrow _
          have hb9 := (hb.alloc hb.size (.cells #[.int .i64 (p[k] - bw - q[k])] 3)).grown hgrow (by simp; omega) (fun q hq => by have := own_base hown q hq; omega)
          go_wp2
          go_roundw
          case rel =>
            refine ⟨k + 1, P ++ [(p[k] - bw - q[k])], 0, by go_num, rfl, by omega, by omega, by omega, by have := HPl.out; simp; omega, Big.Lim.append.2 ⟨HPL.out, fun a ha => ?_⟩, sub_step (x := p[k]) (y := q[k]) (bw := bw) (dg := (p[k] - bw - q[k])) (bw' := 0) Hv.out HPl.out (by omega) (Big.val_take_succ _ _ _ hkp) (Big.val_take_succ _ _ _ hkq), by rw [List.map_append]; exact hown', hb9⟩
            rw [List.mem_singleton] at ha; subst ha; omega
          case measure => simp [intOf]; omega
      · by_cases hlo : p[k] - bw < 0
        · have Hnew := Lib.hid (one_cell (heap_alloc_new wr (.cells #[.int .i64 (p[k] - bw + 10000)] 3)))
          have Hown := Lib.hid (hown.alloc (.cells #[.int .i64 (p[k] - bw + 10000)] 3))
          have Hone : Hid (∀ u ∈ ([Value.int .i64 (p[k] - bw + 10000)] : List Value), u.oneCell' = true) := by show ∀ u ∈ _, _; simp [Value.oneCell']
          go_wp2_with (at_builtin; refine wpList_append_own _ rfl _ _ 45 rfl w.heap.size 3 i0 (.int .i64 0) 1 8 Tryz.underlying45 hi hz0 hz1 hz2 rfl (by decide) _ _ _ rfl Hown.out ⟨wr.heap.size, 0, none⟩ 1 1 [.int .i64 (p[k] - bw + 10000)] rfl rfl Hnew.out Hone.out (by unfold maxLen; omega) (by omega) (by simp; omega) ?_)
          intro v' w9 hown' hgrow _
          have hb9 := (hb.alloc hb.size (.cells #[.int .i64 (p[k] - bw + 10000)] 3)).grown hgrow (by simp; omega) (fun q hq => by have := own_base hown q hq; omega)
          go_wp2
          go_roundw
          case rel =>
            refine ⟨k + 1, P ++ [(p[k] - bw + 10000)], 1, by go_num, rfl, by omega, by omega, by omega, by have := HPl.out; simp; omega, Big.Lim.append.2 ⟨HPL.out, fun a ha => ?_⟩, sub_step (x := p[k]) (y := 0) (bw := bw) (dg := (p[k] - bw + 10000)) (bw' := 1) Hv.out HPl.out (by omega) (Big.val_take_succ _ _ _ hkp) (take_all (by omega)), by rw [List.map_append]; exact hown', hb9⟩
            rw [List.mem_singleton] at ha; subst ha; omega
          case measure => simp [intOf]; omega
        · have Hnew := Lib.hid (one_cell (heap_alloc_new wr (.cells #[.int .i64 (p[k] - bw)] 3)))
          have Hown := Lib.hid (hown.alloc (.cells #[.int .i64 (p[k] - bw)] 3))
          have Hone : Hid (∀ u ∈ ([Value.int .i64 (p[k] - bw)] : List Value), u.oneCell' = true) := by show ∀ u ∈ _, _; simp [Value.oneCell']
          go_wp2_with (at_builtin; refine wpList_append_own _ rfl _ _ 45 rfl w.heap.size 3 i0 (.int .i64 0) 1 8 Tryz.underlying45 hi hz0 hz1 hz2 rfl (by decide) _ _ _ rfl Hown.out ⟨wr.heap.size, 0, none⟩ 1 1 [.int .i64 (p[k] - bw)] rfl rfl Hnew.out Hone.out (by unfold maxLen; omega) (by omega) (by simp; omega) ?_)
          intro v' w9 hown' hgrow _
          have hb9 := (hb.alloc hb.size (.cells #[.int .i64 (p[k] - bw)] 3)).grown hgrow (by simp; omega) (fun q hq => by have := own_base hown q hq; omega)
          go_wp2
          go_roundw
          case rel =>
            refine ⟨k + 1, P ++ [(p[k] - bw)], 0, by go_num, rfl, by omega, by omega, by omega, by have := HPl.out; simp; omega, Big.Lim.append.2 ⟨HPL.out, fun a ha => ?_⟩, sub_step (x := p[k]) (y := 0) (bw := bw) (dg := (p[k] - bw)) (bw' := 0) Hv.out HPl.out (by omega) (Big.val_take_succ _ _ _ hkp) (take_all (by omega)), by rw [List.map_append]; exact hown', hb9⟩
            rw [List.mem_singleton] at ha; subst ha; omega
          case measure => simp [intOf]; omega
    · obtain rfl : k = p.length := by omega
      obtain ⟨A', c', rfl, hc', hlim, hbs⟩ := own_end (w := w) hown HPl.out
      have Hval : Hid (Big.val 10000 P = Big.val 10000 p - Big.val 10000 q) := by
        show _ = _
        have h1 := Hv.out
        rw [List.take_of_length_le (Nat.le_refl _), List.take_of_length_le hge] at h1
        have h2 := Big.val_lt (B := 10000) (by omega) HPL.out
        have h3 := Big.val_nonneg (B := 10000) (by omega) HPL.out
        rw [HPl.out] at h2
        have h4 := Hle.out
        have h5 : bw = 0 ∨ bw = 1 := by omega
        rcases h5 with rfl | rfl
        · omega
        · omega
      obtain ⟨t1, t2, t3, t4⟩ := Big.trim_spec 10000 P
      have Hlim := Lib.hid hlim
      have Hbs := Lib.hid hbs
      have T1 := Lib.hid t1
      have T4 := Lib.hid t4
      clear hlim hbs hown t1 t4
      go_wp2_with (fail)
      refine (trim_any wr A' p.length c' P HPl.out (by omega) hc' Hlim.out).mono ?_
      rintro e w5 ⟨rfl, rfl⟩
      go_wp2
      go_ret
      have hpl := HPl.out
      exact ⟨hb, A', _, c', Big.trim P, rfl, rfl, by omega, by omega, Big.trim_lim HPL.out, t2, by rw [T1.out]; exact Hval.out, by rw [T4.out]; exact Hlim.out.take _, Hbs.out⟩
theorem minus_any (A B : Option Addr) (n m c d : Nat) (p q : List Int) (hl : p.length = n) (hq : q.length = m) (hge : m <= n) (hn : n <= 1000000) (hm : m <= 1000000) (hL : Big.Lim 10000 p) (hQ : Big.Lim 10000 q) (hle : Big.val 10000 q <= Big.val 10000 p)
    (hA : LimbsAt .i64 w w.heap.size A p) (hB : LimbsAt .i64 w w.heap.size B q) :
    Calls Tryz.prog 110 #[.slice A n c, .slice B m d] w (LimbPost n (Big.val 10000 p - Big.val 10000 q) w) :=
  (minus_n w A B n m c d p q hl hq hge hn hm hL hQ hle hA hB).mono fun _ _ h => h.limb
end
end R1
end Go.Proofs.YtalfikdjclineaaGreatDoor
