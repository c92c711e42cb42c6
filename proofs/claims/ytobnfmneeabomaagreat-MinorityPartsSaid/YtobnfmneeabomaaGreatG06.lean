/- My texts IntMul, RefMul. -/
import Derived.IntWalk
import Derived.Test.YtobnfmneeabomaaGreatG05
set_option linter.unusedVariables false
set_option linter.unusedSimpArgs false
set_option maxRecDepth 100000
set_option maxHeartbeats 8000000
namespace Go.Proofs.YtobnfmneeabomaaGreat
open Go.RowKit

theorem val_set (B : Int) : ∀ (F : List Int) (t : Nat) (x : Int) (h : t < F.length), Big.val B (F.set t x) = Big.val B F + B ^ t * (x - F[t])
 | a :: F, 0, x, _ => by simp [Big.val]; omega
 | a :: F, t + 1, x, h => by
  have ih := val_set B F t x (by simpa using h)
  rw [List.set_cons_succ, Big.val_cons, ih, Big.val_cons, List.getElem_cons_succ, Int.pow_succ, Int.mul_add, Int.mul_comm (B ^ t) B, Int.mul_assoc]
  omega
theorem lim_set {B : Int} {F : List Int} (h : Big.Lim B F) {t : Nat} {x : Int} (h0 : 0 <= x) (h1 : x < B) : Big.Lim B (F.set t x) := by
 intro a ha
 rcases List.mem_or_eq_of_mem_set ha with ha | rfl
 ·exact h a ha
 ·exact ⟨h0, h1⟩
theorem mul_step {B : Int} {F : List Int} {t : Nat} {V x y cy s : Int} {W : Int} (ht : t < F.length) (h : Big.val B F + B ^ t * cy = V + W) (hs : s = x * y + F[t] + cy) :
  Big.val B (F.set t (s % B)) + B ^ (t + 1) * (s / B) = V + (W + B ^ t * (x * y)) := by
 rw [val_set B F t _ ht, Int.pow_succ, Int.mul_assoc]
 have h1 : B ^ t * (s % B) + B ^ t * (B * (s / B)) = B ^ t * s := by rw [<- Int.mul_add, Int.emod_add_mul_ediv]
 have h2 : B ^ t * s = B ^ t * (x * y) + B ^ t * F[t] + B ^ t * cy := by rw [hs, Int.mul_add, Int.mul_add]
 have h3 : B ^ t * (s % B - F[t]) = B ^ t * (s % B) - B ^ t * F[t] := Int.mul_sub _ _ _
 omega

theorem mul_w (B x v y : Int) (i j : Nat) : B ^ i * (x * (v + B ^ j * y)) = B ^ i * (x * v) + B ^ (i + j) * (x * y) := by
 rw [Int.pow_add, Int.mul_add, Int.mul_add, Int.mul_left_comm x (B ^ j) y, Int.mul_assoc]

section
variable (w : World)
theorem times_any (A B : Option Addr) (n m c d : Nat) (p q : List Int) (hl : p.length = n) (hq : q.length = m) (hn : n <= 1000000) (hm : m <= 1000000) (hL : Big.Lim 1000000000 p) (hQ : Big.Lim 1000000000 q)
  (hA : LimbsAt .u32 w w.heap.size A p) (hB : LimbsAt .u32 w w.heap.size B q) :
  Calls Tryz.prog 87 #[.slice A n c, .slice B m d] w (LimbPost (n + m) (Big.val 1000000000 p * Big.val 1000000000 q) w) := by
 subst hl hq
 obtain ⟨i0, hi, hz0, hz1, hz2⟩ := info_parts uinfo
 have Hn1 : Hid (((p.length : Int) + (q.length : Int)) = ((p.length + q.length : Nat) : Int)) := by show _ = _; omega
 have Hnp : p.length + q.length <= p.length + q.length := Nat.le_refl _
 have Hb2 : p.length + q.length <= 10000000 := by omega
 go_enter Tryz.func87, Tryz.ntmps87
 go_upto_region 2 with (refine wpList_make_arr rfl _ _ 86 rfl .u32 149 i0 4 Tryz.underlying86 hi hz0 hz1 hz2 _ _ _ _ (p.length + q.length) (p.length + q.length) rfl rfl Hn1.out Hn1.out Hnp (by decide) Hb2 ?_; intro w1 hw1)
 have hB1 : Below w.heap.size w w1 := by rw [hw1.out]; exact (Below.refl _ _).alloc (Nat.le_refl _) _
 have hArr : Arr .u32 149 w1 w.heap.size (List.replicate (p.length + q.length) 0) := by
  unfold Arr; rw [hw1.out]; exact heap_alloc_new w _
 have HL := Lib.hid hL
 have HQ := Lib.hid hQ
 clear hw1 hL hQ Hn1
 go_wp2
 go_loopw [22] (fun ix wr => ∃ (i : Nat) (F : List Int), i <= p.length /\ ix = .int .i64 i /\ F.length = p.length + q.length /\ Big.Lim 1000000000 F /\ Big.val 1000000000 F = Big.val 1000000000 (p.take i) * Big.val 1000000000 q /\
  (∀ t (h : t < F.length), i + q.length <= t -> F[t] = 0) /\ Arr .u32 149 wr w.heap.size F /\ Below w.heap.size w wr) (fun ix _ => p.length - (intOf ix).toNat)
 case atStart => exact ⟨0, _, Nat.zero_le _, rfl, by simp, Big.Lim.zeros (by omega) _, by simp [Big.val_zeros, Big.val], fun t h _ => by simp, hArr, hB1⟩
 case round =>
  obtain ⟨i, F, hi', rfl, hFl, hFL, hv, hz, ha, hb⟩ := hrel
  have HFl := Lib.hid hFl
  have HFL := Lib.hid hFL
  have Hv := Lib.hid hv
  have Hz := Lib.hid hz
  have Ha := Lib.hid ha
  have hgr : w.heap.size < wr.heap.size := ha.lt
  clear hFl hFL hv hz ha hArr
  by_cases hlt : i < p.length
  ·obtain ⟨b1, o1, rfl, hb1, hx⟩ := (hA.below hb (Nat.le_refl _)).look hlt
   have hxl := HL.out.get i hlt
   have hx0 := hxl.1
   have hx1 := hxl.2
   have hbwr : b1 < wr.heap.size := by omega
   clear hxl
   obtain ⟨wo, rfl⟩ : ∃ wo : World, wo = wr := ⟨_, rfl⟩
   have hin : i + q.length < p.length + q.length := by omega
   go_wp2
   go_loopw [8, 29] (fun cr ij wr => ∃ (j : Nat) (G : List Int) (cy : Int), j <= q.length /\ ij = .int .i64 j /\ cr = .int .u64 cy /\ 0 <= cy /\ cy < 1000000000 /\ G.length = p.length + q.length /\ Big.Lim 1000000000 G /\
    Big.val 1000000000 G + 1000000000 ^ (i + j) * cy = Big.val 1000000000 (p.take i) * Big.val 1000000000 q + 1000000000 ^ i * (p[i] * Big.val 1000000000 (q.take j)) /\
    (∀ t (h : t < G.length), i + q.length <= t -> G[t] = 0) /\ Arr .u32 149 wr w.heap.size G /\ Below w.heap.size w wr) (fun _ ij _ => q.length - (intOf ij).toNat)
   case atStart => exact ⟨0, F, 0, Nat.zero_le _, rfl, rfl, by omega, by omega, HFl.out, HFL.out, by simp [Big.val, Hv.out], Hz.out, Ha.out, hb⟩
   case round =>
    obtain ⟨j, G, cy, hj, rfl, rfl, hc0, hc1, hGl, hGL, hGv, hGz, hGa, hGb⟩ := hrel
    have HGl := Lib.hid hGl
    have HGL := Lib.hid hGL
    have HGv := Lib.hid hGv
    have HGz := Lib.hid hGz
    have HGa := Lib.hid hGa
    have hgr2 : w.heap.size < wr.heap.size := hGa.lt
    clear hGl hGL hGv hGz hGa hgr
    by_cases hjm : j < q.length
    ·obtain ⟨b2, o2, rfl, hb2, hy⟩ := (hB.below hGb (Nat.le_refl _)).look hjm
     have hyl := HQ.out.get j hjm
     have hy0 := hyl.1
     have hy1 := hyl.2
     have hb2w : b2 < wr.heap.size := by omega
     have hGt : i + j < G.length := by have := HGl.out; omega
     have hcell := HGa.out.cell hGt
     have hfz := HGa.out.free (i + j)
     have hgl := HGL.out.get (i + j) hGt
     have hg0 := hgl.1
     have hg1 := hgl.2
     have hxy0 : 0 <= p[i] * q[j] := Int.mul_nonneg hx0 hy0
     have hxy1 : p[i] * q[j] <= 999999999 * 999999999 := Int.mul_le_mul (by omega) (by omega) hy0 (by omega)
     have hij : i + j < p.length + q.length := by omega
     clear hyl hgl
     go_wp2
     go_roundw
     case rel =>
      refine ⟨j + 1, G.set (i + j) ((p[i] * q[j] + G[i + j] + cy) % 1000000000), (p[i] * q[j] + G[i + j] + cy) / 1000000000, by omega, by go_num, rfl, by omega, by omega, by rw [List.length_set]; exact HGl.out, lim_set HGL.out (by omega) (by omega), ?_, ?_, HGa.out.set (i + j) _, hGb.setCell (Nat.le_refl _) _⟩
      ·have h1 := mul_step (x := p[i]) (y := q[j]) hGt HGv.out rfl
       rw [Big.val_take_succ _ _ _ hjm, mul_w]; exact h1
      ·intro t ht htl
       rw [List.getElem_set_ne (by omega)]; exact HGz.out t (by simpa using ht) htl
     case measure => simp [intOf]; omega
    ·obtain rfl : j = q.length := by omega
     have hV : Hid (Big.val 1000000000 G + 1000000000 ^ (i + q.length) * cy = Big.val 1000000000 (p.take (i + 1)) * Big.val 1000000000 q) := by
      show _ = _
      rw [HGv.out, List.take_length, Big.val_take_succ _ _ _ hlt, Int.add_mul, Int.mul_assoc]
     clear HGv
     go_wp2
     obtain ⟨wi, rfl⟩ : ∃ wi : World, wi = wr := ⟨_, rfl⟩
     go_loopw [8, 12] (fun cr ik wr => ∃ (t : Nat) (E : List Int) (cz : Int), i + q.length <= t /\ t <= i + q.length + 1 /\ ik = .int .i64 t /\ cr = .int .u64 cz /\ 0 <= cz /\ cz < 1000000000 /\ (cz = 0 ∨ t = i + q.length) /\ E.length = p.length + q.length /\ Big.Lim 1000000000 E /\
      Big.val 1000000000 E + 1000000000 ^ (i + q.length) * cz = Big.val 1000000000 (p.take (i + 1)) * Big.val 1000000000 q /\
      (∀ s (h : s < E.length), t <= s -> E[s] = 0) /\ Arr .u32 149 wr w.heap.size E /\ Below w.heap.size w wr) (fun cr _ _ => (intOf cr).toNat)
     case atStart => exact ⟨i + q.length, G, cy, Nat.le_refl _, by omega, by go_num, rfl, hc0, hc1, .inr rfl, HGl.out, HGL.out, hV.out, HGz.out, HGa.out, hGb⟩
     case round =>
      obtain ⟨t, E, cz, ht0, ht1, rfl, rfl, hz0', hz1', hor, hEl, hEL, hEv, hEz, hEa, hEb⟩ := hrel
      have HEl := Lib.hid hEl
      have HEL := Lib.hid hEL
      have HEv := Lib.hid hEv
      have HEz := Lib.hid hEz
      have HEa := Lib.hid hEa
      have Hor := Lib.hid hor
      have hgr3 : w.heap.size < wr.heap.size := hEa.lt
      clear hEl hEL hEv hEz hEa hor hgr2
      by_cases hcz : 0 < cz
      ·have htl : t < E.length := by have := HEl.out; have := Hor.out; omega
       have hE0 := HEz.out t htl (Nat.le_refl _)
       have hcell := HEa.out.cell htl
       rw [hE0] at hcell
       have hfz := HEa.out.free t
       have htn : t < p.length + q.length := by have := HEl.out; omega
       have Htt : Hid (t = i + q.length) := by show _ = _; have := Hor.out; omega
       have HE0 := Lib.hid hE0
       clear hE0
       go_wp2
       go_roundw
       case rel =>
        have hc1' : cz % 1000000000 = cz := Int.emod_eq_of_lt (by omega) hz1'
        have hc2' : cz / 1000000000 = 0 := Int.ediv_eq_zero_of_lt (by omega) hz1'
        refine ⟨t + 1, E.set t (cz % 1000000000), cz / 1000000000, by omega, by have := Htt.out; omega, by go_num, rfl, by omega, by omega, .inl hc2', by rw [List.length_set]; exact HEl.out, lim_set HEL.out (by omega) (by omega), ?_, ?_, HEa.out.set t _, hEb.setCell (Nat.le_refl _) _⟩
        ·rw [hc1', hc2', val_set _ _ _ _ htl, HE0.out, Int.sub_zero, Int.mul_zero, Int.add_zero]
         have := HEv.out
         rw [<- Htt.out] at this; exact this
        ·intro s hs hts
         rw [List.getElem_set_ne (by omega)]; exact HEz.out s (by simpa using hs) (by omega)
       case measure => simp [intOf]; omega
      ·obtain rfl : cz = 0 := by omega
       go_wp2
       go_roundw
       case rel => exact ⟨i + 1, E, by omega, by go_num, HEl.out, HEL.out, by have := HEv.out; rwa [Int.mul_zero, Int.add_zero] at this, fun s hs hts => HEz.out s hs (by omega), HEa.out, hEb⟩
       case measure => simp [intOf]; omega
  ·obtain rfl : i = p.length := by omega
   have hEnd : Hid (Big.val 1000000000 F = Big.val 1000000000 p * Big.val 1000000000 q) := by show _ = _; have := Hv.out; rwa [List.take_length] at this
   have Hlim := Lib.hid (Ha.out.limbs hgr)
   clear Hv
   go_wp2
   go_ret
   exact ⟨hb, _, p.length + q.length, p.length + q.length, F, rfl, HFl.out, Nat.le_refl _, Nat.le_refl _, HFL.out, hEnd.out, Hlim.out, fun b o h => by cases h; exact Nat.le_refl _⟩
end
end Go.Proofs.YtobnfmneeabomaaGreat
namespace Go.Proofs.YtobnfmneeabomaaGreat
namespace R1
open Go.RowKit

section
variable (w : World)
theorem times_n (A B : Option Addr) (n m c d : Nat) (p q : List Int) (hl : p.length = n) (hq : q.length = m) (hn : n <= 500000) (hm : m <= 500000) (hL : Big.Lim 10000 p) (hQ : Big.Lim 10000 q)
  (hA : LimbsAt .i64 w w.heap.size A p) (hB : LimbsAt .i64 w w.heap.size B q) :
  Calls Tryz.prog 92 #[.slice A n c, .slice B m d] w (NormPost (n + m) (Big.val 10000 p * Big.val 10000 q) w) := by
 subst hl hq
 obtain ⟨i0, hi, hz0, hz1, hz2⟩ := info_parts iinfo
 have Hn1 : Hid (((p.length : Int) + (q.length : Int)) = ((p.length + q.length : Nat) : Int)) := by show _ = _; omega
 have Hnp : p.length + q.length <= p.length + q.length := Nat.le_refl _
 have Hb2 : p.length + q.length <= 10000000 := by omega
 go_enter Tryz.func92, Tryz.ntmps92
 go_upto_region 2 with (refine wpList_make_arr rfl _ _ 70 rfl .i64 3 i0 8 Tryz.underlying70 hi hz0 hz1 hz2 _ _ _ _ (p.length + q.length) (p.length + q.length) rfl rfl Hn1.out Hn1.out Hnp (by decide) Hb2 ?_; intro w1 hw1)
 have hB1 : Below w.heap.size w w1 := by rw [hw1.out]; exact (Below.refl _ _).alloc (Nat.le_refl _) _
 have hArr : Arr .i64 3 w1 w.heap.size (List.replicate (p.length + q.length) 0) := by
  unfold Arr; rw [hw1.out]; exact heap_alloc_new w _
 have HL := Lib.hid hL
 have HQ := Lib.hid hQ
 clear hw1 hL hQ Hn1
 go_wp2
 go_loopw [6] (fun ix wr => ∃ (i : Nat) (F : List Int), i <= p.length /\ ix = .int .i64 i /\ F.length = p.length + q.length /\ Big.Lim 10000 F /\ Big.val 10000 F = Big.val 10000 (p.take i) * Big.val 10000 q /\
  (∀ t (h : t < F.length), i + q.length <= t -> F[t] = 0) /\ Arr .i64 3 wr w.heap.size F /\ Below w.heap.size w wr) (fun ix _ => p.length - (intOf ix).toNat)
 case atStart => exact ⟨0, _, Nat.zero_le _, rfl, by simp, Big.Lim.zeros (by omega) _, by simp [Big.val_zeros, Big.val], fun t h _ => by simp, hArr, hB1⟩
 case round =>
  obtain ⟨i, F, hi', rfl, hFl, hFL, hv, hz, ha, hb⟩ := hrel
  have HFl := Lib.hid hFl
  have HFL := Lib.hid hFL
  have Hv := Lib.hid hv
  have Hz := Lib.hid hz
  have Ha := Lib.hid ha
  have hgr : w.heap.size < wr.heap.size := ha.lt
  clear hFl hFL hv hz ha hArr
  by_cases hlt : i < p.length
  ·obtain ⟨b1, o1, rfl, hb1, hx⟩ := (hA.below hb (Nat.le_refl _)).look hlt
   have hxl := HL.out.get i hlt
   have hx0 := hxl.1
   have hx1 := hxl.2
   have hbwr : b1 < wr.heap.size := by omega
   clear hxl
   obtain ⟨wo, rfl⟩ : ∃ wo : World, wo = wr := ⟨_, rfl⟩
   have hin : i + q.length < p.length + q.length := by omega
   clear hx
   go_wp2
   go_loopw [7, 8] (fun cr ij wr => ∃ (j : Nat) (G : List Int) (cy : Int), j <= q.length /\ ij = .int .i64 j /\ cr = .int .i64 cy /\ 0 <= cy /\ cy < 10000 /\ G.length = p.length + q.length /\ Big.Lim 10000 G /\
    Big.val 10000 G + 10000 ^ (i + j) * cy = Big.val 10000 (p.take i) * Big.val 10000 q + 10000 ^ i * (p[i] * Big.val 10000 (q.take j)) /\
    (∀ t (h : t < G.length), i + q.length <= t -> G[t] = 0) /\ Arr .i64 3 wr w.heap.size G /\ Below w.heap.size w wr) (fun _ ij _ => q.length - (intOf ij).toNat)
   case atStart => exact ⟨0, F, 0, Nat.zero_le _, rfl, rfl, by omega, by omega, HFl.out, HFL.out, by simp [Big.val, Hv.out], Hz.out, Ha.out, hb⟩
   case round =>
    obtain ⟨j, G, cy, hj, rfl, rfl, hc0, hc1, hGl, hGL, hGv, hGz, hGa, hGb⟩ := hrel
    have HGl := Lib.hid hGl
    have HGL := Lib.hid hGL
    have HGv := Lib.hid hGv
    have HGz := Lib.hid hGz
    have HGa := Lib.hid hGa
    have hgr2 : w.heap.size < wr.heap.size := hGa.lt
    clear hGl hGL hGv hGz hGa hgr
    by_cases hjm : j < q.length
    ·obtain ⟨b2, o2, rfl, hb2, hy⟩ := (hB.below hGb (Nat.le_refl _)).look hjm
     obtain ⟨b3, o3, h3, hb3, hx⟩ := (hA.below hGb (Nat.le_refl _)).look hlt
     cases h3
     have hyl := HQ.out.get j hjm
     have hy0 := hyl.1
     have hy1 := hyl.2
     have hb2w : b2 < wr.heap.size := by omega
     have hb1w : b1 < wr.heap.size := by omega
     have hGt : i + j < G.length := by have := HGl.out; omega
     have hcell := HGa.out.cell hGt
     have hfz := HGa.out.free (i + j)
     have hgl := HGL.out.get (i + j) hGt
     have hg0 := hgl.1
     have hg1 := hgl.2
     have hxy0 : 0 <= p[i] * q[j] := Int.mul_nonneg hx0 hy0
     have hxy1 : p[i] * q[j] <= 9999 * 9999 := Int.mul_le_mul (by omega) (by omega) hy0 (by omega)
     have hij : i + j < p.length + q.length := by omega
     have e1 : (0 : Int) <= (i : Int) + (j : Int) := by omega
     have e2 : (i : Int) + (j : Int) < ((p.length + q.length : Nat) : Int) := by omega
     have e3 : (0 : Int) <= (i : Int) := by omega
     have e4 : (i : Int) < (p.length : Int) := by omega
     have e5 : (0 : Int) <= (j : Int) := by omega
     have e6 : (j : Int) < (q.length : Int) := by omega
     have hn9 : 0 <= G[i + j] + p[i] * q[j] + cy := by omega
     have s1 : ((i : Int) + (j : Int)).toNat = i + j := by omega
     have s2 : IntKind.i64.wrap ((i : Int) + (j : Int)) = (i : Int) + (j : Int) := IntWalk.i64_in _ (by omega)
     have s3 : IntKind.i64.wrap (p[i] * q[j]) = p[i] * q[j] := IntWalk.i64_in _ (by omega)
     have s4 : IntKind.i64.wrap (G[i + j] + p[i] * q[j]) = G[i + j] + p[i] * q[j] := IntWalk.i64_in _ (by omega)
     have s5 : IntKind.i64.wrap (G[i + j] + p[i] * q[j] + cy) = G[i + j] + p[i] * q[j] + cy := IntWalk.i64_in _ (by omega)
     clear hyl hgl
     go_wp2_with (go_quiet (fail))
     go_wp2
     go_roundw
     case rel =>
      refine ⟨j + 1, G.set (i + j) ((G[i + j] + p[i] * q[j] + cy) % 10000), (G[i + j] + p[i] * q[j] + cy) / 10000, by omega, by go_num, rfl, by omega, by omega, by rw [List.length_set]; exact HGl.out, lim_set HGL.out (by omega) (by omega), ?_, ?_, (HGa.out.drewN _).set (i + j) _, (below_drawn hGb _).setCell (Nat.le_refl _) _⟩
      ·have h1 := mul_step (s := G[i + j] + p[i] * q[j] + cy) (x := p[i]) (y := q[j]) hGt HGv.out (by omega)
       rw [Big.val_take_succ _ _ _ hjm, mul_w]; exact h1
      ·intro t ht htl
       rw [List.getElem_set_ne (by omega)]; exact HGz.out t (by simpa using ht) htl
     case measure => simp [intOf]; omega
    ·obtain rfl : j = q.length := by omega
     have hV : Hid (Big.val 10000 G + 10000 ^ (i + q.length) * cy = Big.val 10000 (p.take (i + 1)) * Big.val 10000 q) := by
      show _ = _
      rw [HGv.out, List.take_length, Big.val_take_succ _ _ _ hlt, Int.add_mul, Int.mul_assoc]
     have hGt : i + q.length < G.length := by have := HGl.out; omega
     have hG0 := HGz.out (i + q.length) hGt (Nat.le_refl _)
     have hcell := HGa.out.cell hGt
     rw [hG0] at hcell
     have HG0 := Lib.hid hG0
     have hfz := HGa.out.free (i + q.length)
     clear HGv hG0
     go_wp2
     go_roundw
     case rel =>
      refine ⟨i + 1, G.set (i + q.length) cy, by omega, by go_num, by rw [List.length_set]; exact HGl.out, lim_set HGL.out (by omega) (by omega), ?_, ?_, HGa.out.set (i + q.length) _, hGb.setCell (Nat.le_refl _) _⟩
      ·rw [val_set _ _ _ _ hGt, HG0.out, Int.sub_zero]; exact hV.out
      ·intro t ht htl
       rw [List.getElem_set_ne (by omega)]; exact HGz.out t (by simpa using ht) (by omega)
     case measure => simp [intOf]; omega
  ·obtain rfl : i = p.length := by omega
   have hEnd : Hid (Big.val 10000 F = Big.val 10000 p * Big.val 10000 q) := by show _ = _; have := Hv.out; rwa [List.take_length] at this
   have Hlim := Lib.hid (Ha.out.limbs hgr)
   obtain ⟨t1, t2, t3, t4⟩ := Big.trim_spec 10000 F
   have T1 := Lib.hid t1
   have T4 := Lib.hid t4
   clear Hv t1 t4
   go_wp2_with (fail)
   refine (trim_any wr (some ⟨w.heap.size, 0, none⟩) (p.length + q.length) (p.length + q.length) F HFl.out (by omega) (Nat.le_refl _) Hlim.out).mono ?_
   rintro e w5 ⟨rfl, rfl⟩
   go_wp2
   go_ret
   have hfl := HFl.out
   exact ⟨hb, _, _, p.length + q.length, Big.trim F, rfl, rfl, by omega, by omega, Big.trim_lim HFL.out, t2, by rw [T1.out]; exact hEnd.out, by rw [T4.out]; exact Hlim.out.take _, fun b o h => by cases h; exact Nat.le_refl _⟩
theorem times_any (A B : Option Addr) (n m c d : Nat) (p q : List Int) (hl : p.length = n) (hq : q.length = m) (hn : n <= 500000) (hm : m <= 500000) (hL : Big.Lim 10000 p) (hQ : Big.Lim 10000 q)
  (hA : LimbsAt .i64 w w.heap.size A p) (hB : LimbsAt .i64 w w.heap.size B q) :
  Calls Tryz.prog 92 #[.slice A n c, .slice B m d] w (LimbPost (n + m) (Big.val 10000 p * Big.val 10000 q) w) :=
 (times_n w A B n m c d p q hl hq hn hm hL hQ hA hB).mono fun _ _ h => h.limb
end
end R1
end Go.Proofs.YtobnfmneeabomaaGreat
