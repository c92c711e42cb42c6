/- My texts RefMul, RefOps. -/
import Derived.IntWalk
import Derived.Test.YtalfikdjclineaaGreatDoorG03
import Derived.Test.YtalfikdjclineaaGreatDoorG26
set_option linter.unusedVariables false
set_option linter.unusedSimpArgs false
set_option maxRecDepth 100000
set_option maxHeartbeats 8000000
namespace Go.Proofs.YtalfikdjclineaaGreatDoor
namespace R1
open Go.RowKit

section
variable (w : World)
theorem times_n (A B : Option Addr) (n m c d : Nat) (p q : List Int) (hl : p.length = n) (hq : q.length = m) (hn : n <= 500000) (hm : m <= 500000) (hL : Big.Lim 10000 p) (hQ : Big.Lim 10000 q)
    (hA : LimbsAt .i64 w w.heap.size A p) (hB : LimbsAt .i64 w w.heap.size B q) :
    Calls Tryz.prog 109 #[.slice A n c, .slice B m d] w (NormPost (n + m) (Big.val 10000 p * Big.val 10000 q) w) := by
  subst hl hq
  obtain ⟨i0, hi, hz0, hz1, hz2⟩ := info_parts iinfo
  have Hn1 : Hid (((p.length : Int) + (q.length : Int)) = ((p.length + q.length : Nat) : Int)) := by show _ = _; omega
  have Hnp : p.length + q.length <= p.length + q.length := Nat.le_refl _
  have Hb2 : p.length + q.length <= 10000000 := by omega
  go_enter Tryz.func109, Tryz.ntmps109
  go_upto_region 2 with (refine wpList_make_arr rfl _ _ 45 rfl .i64 3 i0 8 Tryz.underlying45 hi hz0 hz1 hz2 _ _ _ _ (p.length + q.length) (p.length + q.length) rfl rfl Hn1.out Hn1.out Hnp (by decide) Hb2 ?_; intro w1 hw1)
  have hB1 : Below w.heap.size w w1 := by rw [hw1.out]; exact (Below.refl _ _).alloc (Nat.le_refl _) _
  have hArr : Arr .i64 3 w1 w.heap.size (List.replicate (p.length + q.length) 0) := by
    unfold Arr; rw [hw1.out]; exact heap_alloc_new w _
  have HL := Lib.hid hL
  have HQ := Lib.hid hQ
  clear hw1 hL hQ Hn1
  go_wp2
  go_loopw [6] (fun ix wr => ∃ (i : Nat) (F : List Int), i <= p.length /\ ix = .int .i64 i /\ F.length = p.length + q.length /\ Big.Lim 10000 F /\ Big.val 10000 F = Big.val 10000 (p.take i) * Big.val 10000 q /\
    (∀ t (h : t < F.length), i + q.length <= t -> F[t] = 0) /\ Arr .i64 3 wr w.heap.size F /\ Below w.heap.size w wr) (fun ix _ => p.length - (intOf ix).toNat)
  case atStart => exact ⟨0, _, Nat.zero_le _, rfl, by simp, Big.Lim.zeros (by omega) _, by simp [Big.val_zeros, Big.val], fun t h _ => by simp, hArr, hB1⟩
  case round =>
    obtain ⟨i, F, hi', rfl, hFl, hFL, hv, hz, ha, hb⟩ := hrel
    have HFl := Lib.hid hFl
    have HFL := Lib.hid hFL
    have Hv := Lib.hid hv
    have Hz := Lib.hid hz
    have Ha := Lib.hid ha
    have hgr : w.heap.size < wr.heap.size := ha.lt
    clear hFl hFL hv hz ha hArr
    by_cases hlt : i < p.length
    · obtain ⟨b1, o1, rfl, hb1, hx⟩ := (hA.below hb (Nat.le_refl _)).look hlt
      have hxl := HL.out.get i hlt
      have hx0 := hxl.1
      have hx1 := hxl.2
      have hbwr : b1 < wr.heap.size := by omega
      clear hxl
      obtain ⟨wo, rfl⟩ : ∃ wo : World, wo = wr := ⟨_, rfl⟩
      have hin : i + q.length < p.length + q.length := by omega
      clear hx
      go_wp2
      go_loopw [7, 8] (fun cr ij wr => ∃ (j : Nat) (G : List Int) (cy : Int), j <= q.length /\ ij = .int .i64 j /\ cr = .int .i64 cy /\ 0 <= cy /\ cy < 10000 /\ G.length = p.length + q.length /\ Big.Lim 10000 G /\
        Big.val 10000 G + 10000 ^ (i + j) * cy = Big.val 10000 (p.take i) * Big.val 10000 q + 10000 ^ i * (p[i] * Big.val 10000 (q.take j)) /\
        (∀ t (h : t < G.length), i + q.length <= t -> G[t] = 0) /\ Arr .i64 3 wr w.heap.size G /\ Below w.heap.size w wr) (fun _ ij _ => q.length - (intOf ij).toNat)
      case atStart => exact ⟨0, F, 0, Nat.zero_le _, rfl, rfl, by omega, by omega, HFl.out, HFL.out, by simp [Big.val, Hv.out], Hz.out, Ha.out, hb⟩
      case round =>
        obtain ⟨j, G, cy, hj, rfl, rfl, hc0, hc1, hGl, hGL, hGv, hGz, hGa, hGb⟩ := hrel
        have HGl := Lib.hid hGl
        have HGL := Lib.hid hGL
        have HGv := Lib.hid hGv
        have HGz := Lib.hid hGz
        have HGa := Lib.hid hGa
        have hgr2 : w.heap.size < wr.heap.size := hGa.lt
        clear hGl hGL hGv hGz hGa hgr
        by_cases hjm : j < q.length
        · obtain ⟨b2, o2, rfl, hb2, hy⟩ := (hB.below hGb (Nat.le_refl _)).look hjm
          obtain ⟨b3, o3, h3, hb3, hx⟩ := (hA.below hGb (Nat.le_refl _)).look hlt
          cases h3
          have hyl := HQ.out.get j hjm
          have hy0 := hyl.1
          have hy1 := hyl.2
          have hb2w : b2 < wr.heap.size := by omega
          have hb1w : b1 < wr.heap.size := by omega
          have hGt : i + j < G.length := by have := HGl.out; omega
          have hcell := HGa.out.cell hGt
          have hfz := HGa.out.free (i + j)
          have hgl := HGL.out.get (i + j) hGt
          have hg0 := hgl.1
          have hg1 := hgl.2
          have hxy0 : 0 <= p[i] * q[j] := Int.mul_nonneg hx0 hy0
          have hxy1 : p[i] * q[j] <= 9999 * 9999 := Int.mul_le_mul (by omega) (by omega) hy0 (by omega)
          have hij : i + j < p.length + q.length := by omega
          have e1 : (0 : Int) <= (i : Int) + (j : Int) := by omega
          have e2 : (i : Int) + (j : Int) < ((p.length + q.length : Nat) : Int) := by omega
          have e3 : (0 : Int) <= (i : Int) := by omega
          have e4 : (i : Int) < (p.length : Int) := by omega
          have e5 : (0 : Int) <= (j : Int) := by omega
          have e6 : (j : Int) < (q.length : Int) := by omega
          have hn9 : 0 <= G[i + j] + p[i] * q[j] + cy := by omega
          have s1 : ((i : Int) + (j : Int)).toNat = i + j := by omega
          have s2 : IntKind.i64.wrap ((i : Int) + (j : Int)) = (i : Int) + (j : Int) := IntWalk.i64_in _ (by omega)
          have s3 : IntKind.i64.wrap (p[i] * q[j]) = p[i] * q[j] := IntWalk.i64_in _ (by omega)
          have s4 : IntKind.i64.wrap (G[i + j] + p[i] * q[j]) = G[i + j] + p[i] * q[j] := IntWalk.i64_in _ (by omega)
          have s5 : IntKind.i64.wrap (G[i + j] + p[i] * q[j] + cy) = G[i + j] + p[i] * q[j] + cy := IntWalk.i64_in _ (by omega)
          clear hyl hgl
          go_wp2_with (go_quiet (fail))
          go_wp2
          go_roundw
          case rel =>
            refine ⟨j + 1, G.set (i + j) ((G[i + j] + p[i] * q[j] + cy) % 10000), (G[i + j] + p[i] * q[j] + cy) / 10000, by omega, by go_num, rfl, by omega, by omega, by rw [List.length_set]; exact HGl.out, lim_set HGL.out (by omega) (by omega), ?_, ?_, (HGa.out.drewN _).set (i + j) _, (below_drawn hGb _).setCell (Nat.le_refl _) _⟩
            · have h1 := mul_step (s := G[i + j] + p[i] * q[j] + cy) (x := p[i]) (y := q[j]) hGt HGv.out (by omega)
              rw [Big.val_take_succ _ _ _ hjm, mul_w]; exact h1
            · intro t ht htl
              rw [List.getElem_set_ne (by omega)]; exact HGz.out t (by simpa using ht) htl
          case measure => simp [intOf]; omega
        · obtain rfl : j = q.length := by omega
          have hV : Hid (Big.val 10000 G + 10000 ^ (i + q.length) * cy = Big.val 10000 (p.take (i + 1)) * Big.val 10000 q) := by
            show _ = _
            rw [HGv.out, List.take_length, Big.val_take_succ _ _ _ hlt, Int.add_mul, Int.mul_assoc]
          have hGt : i + q.length < G.length := by have := HGl.out; omega
          have hG0 := HGz.out (i + q.length) hGt (Nat.le_refl _)
          have hcell := HGa.out.cell hGt
          rw [hG0] at hcell
          have HG0 := Lib.hid hG0
          have hfz := HGa.out.free (i + q.length)
          clear HGv hG0
          go_wp2
          go_roundw
          case rel =>
            refine ⟨i + 1, G.set (i + q.length) cy, by omega, by go_num, by rw [List.length_set]; exact HGl.out, lim_set HGL.out (by omega) (by omega), ?_, ?_, HGa.out.set (i + q.length) _, hGb.setCell (Nat.le_refl _) _⟩
            · rw [val_set _ _ _ _ hGt, HG0.out, Int.sub_zero]; exact hV.out
            · intro t ht htl
              rw [List.getElem_set_ne (by omega)]; exact HGz.out t (by simpa using ht) (by omega)
          case measure => simp [intOf]; omega
    · obtain rfl : i = p.length := by omega
      have hEnd : Hid (Big.val 10000 F = Big.val 10000 p * Big.val 10000 q) := by show _ = _; have := Hv.out; rwa [List.take_length] at this
      have Hlim := Lib.hid (Ha.out.limbs hgr)
      obtain ⟨t1, t2, t3, t4⟩ := Big.trim_spec 10000 F
      have T1 := Lib.hid t1
      have T4 := Lib.hid t4
      clear Hv t1 t4
      go_wp2_with (fail)
      refine (trim_any wr (some ⟨w.heap.size, 0, none⟩) (p.length + q.length) (p.length + q.length) F HFl.out (by omega) (Nat.le_refl _) Hlim.out).mono ?_
      rintro e w5 ⟨rfl, rfl⟩
      go_wp2
      go_ret
      have hfl := HFl.out
      exact ⟨hb, _, _, p.length + q.length, Big.trim F, rfl, rfl, by omega, by omega, Big.trim_lim HFL.out, t2, by rw [T1.out]; exact hEnd.out, by rw [T4.out]; exact Hlim.out.take _, fun b o h => by cases h; exact Nat.le_refl _⟩
theorem times_any (A B : Option Addr) (n m c d : Nat) (p q : List Int) (hl : p.length = n) (hq : q.length = m) (hn : n <= 500000) (hm : m <= 500000) (hL : Big.Lim 10000 p) (hQ : Big.Lim 10000 q)
    (hA : LimbsAt .i64 w w.heap.size A p) (hB : LimbsAt .i64 w w.heap.size B q) :
    Calls Tryz.prog 109 #[.slice A n c, .slice B m d] w (LimbPost (n + m) (Big.val 10000 p * Big.val 10000 q) w) :=
  (times_n w A B n m c d p q hl hq hn hm hL hQ hA hB).mono fun _ _ h => h.limb
end
end R1
end Go.Proofs.YtalfikdjclineaaGreatDoor
namespace Go.Proofs.YtalfikdjclineaaGreatDoor
namespace R1
open Go.RowKit
theorem intSize : (Tryz.prog.info? 47).map (·.size) = some 2 := by kernel_rfl

def RegS (w : World) (X Y : Array Value) (W' : World) : Prop :=
  Below w.heap.size w W' /\ W'.heap[w.heap.size]? = some (.cells X 47 (0, 0)) /\ W'.heap[w.heap.size + 1]? = some (.cells Y 47 (0, 0)) /\ ∃ cs : Array Value, W'.heap[w.heap.size + 2]? = some (.cells cs 47 (0, 0)) /\ cs.size = 2
theorem RegS.lt {w W : World} {X Y : Array Value} (h : RegS w X Y W) : w.heap.size + 2 < W.heap.size := by
  obtain ⟨_, _, _, cs, h, _⟩ := h
  exact (Array.getElem?_eq_some_iff.1 h).1
theorem RegS.step {w W W' : World} {X Y : Array Value} (h : RegS w X Y W) (hb : Below W.heap.size W W') : RegS w X Y W' := by
  have hlt := h.lt
  obtain ⟨h1, h2, h3, cs, h4, h5⟩ := h
  exact ⟨h1.trans (hb.mono h1.size), (hb.block _ (by omega)).trans h2, (hb.block _ (by omega)).trans h3, cs, (hb.block _ hlt).trans h4, h5⟩
theorem RegS.store {w W : World} {X Y : Array Value} (h : RegS w X Y W) (cs : Array Value) (hc : cs.size = 2) : RegS w X Y (W.setRow (w.heap.size + 2) cs) := by
  obtain ⟨h1, h2, h3, ds, h4, h5⟩ := h
  exact ⟨below_setRow h1 (by omega) _, (setRow_other _ _ _ _ (by omega)).trans h2, (setRow_other _ _ _ _ (by omega)).trans h3, cs, setRow_heap _ _ _ _ _ _ h4, hc⟩
theorem RegS.start (w : World) (X Y : Array Value) : RegS w X Y (((w.alloc (.cells X 47)).alloc (.cells Y 47)).alloc (.cells #[.bool false, .slice none 0 0] 47)) := by
  refine ⟨(((Below.refl _ _).alloc (Nat.le_refl _) _).alloc (by simp) _).alloc (by simp; omega) _, ?_, ?_, #[.bool false, .slice none 0 0], ?_, rfl⟩
  · rw [Below.heap_alloc _ _ _ (by simp; omega), Below.heap_alloc _ _ _ (by simp)]; exact heap_alloc_new w _
  · rw [Below.heap_alloc _ _ _ (by simp)]
    have := heap_alloc_new (w.alloc (.cells X 47)) (.cells Y 47)
    rwa [show (w.alloc (.cells X 47)).heap.size = w.heap.size + 1 by simp] at this
  · have := heap_alloc_new ((w.alloc (.cells X 47)).alloc (.cells Y 47)) (.cells #[.bool false, .slice none 0 0] 47)
    rwa [show ((w.alloc (.cells X 47)).alloc (.cells Y 47)).heap.size = w.heap.size + 2 by simp] at this

theorem RegS.drew {w W : World} {X Y : Array Value} (h : RegS w X Y W) : RegS w X Y W.drew := ⟨below_drawn h.1 1, h.2⟩

section
variable (w : World)
end
end R1
end Go.Proofs.YtalfikdjclineaaGreatDoor
