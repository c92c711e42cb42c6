/- My texts IntSub, RefAdd. -/
import Derived.Test.YtobnfmneeabomaaGreatG03
import Derived.Test.YtobnfmneeabomaaGreatG04
set_option linter.unusedVariables false
set_option linter.unusedSimpArgs false
set_option maxRecDepth 100000
set_option maxHeartbeats 8000000
namespace Go.Proofs.YtobnfmneeabomaaGreat
open Go.RowKit

theorem sub_step {B : Int} {P p q : List Int} {k : Nat} {x y bw dg bw' : Int} (h : Big.val B P - B ^ k * bw = Big.val B (p.take k) - Big.val B (q.take k)) (hP : P.length = k) (hd : dg - B * bw' = x - (bw + y))
  (hx : Big.val B (p.take (k + 1)) = Big.val B (p.take k) + B ^ k * x) (hy : Big.val B (q.take (k + 1)) = Big.val B (q.take k) + B ^ k * y) :
  Big.val B (P ++ [dg]) - B ^ (k + 1) * bw' = Big.val B (p.take (k + 1)) - Big.val B (q.take (k + 1)) := by
 rw [Big.val_snoc, hP, hx, hy, Int.pow_succ, Int.mul_assoc]
 have h1 : B ^ k * dg - B ^ k * (B * bw') = B ^ k * x - B ^ k * (bw + y) := by rw [<- Int.mul_sub, hd, Int.mul_sub]
 have h2 : B ^ k * (bw + y) = B ^ k * bw + B ^ k * y := Int.mul_add _ _ _
 omega

section
variable (w : World)
theorem plus_any (A B : Option Addr) (n m c d : Nat) (p q : List Int) (hl : p.length = n) (hq : q.length = m) (hn : n <= 1000000) (hm : m <= 1000000) (hL : Big.Lim 1000000000 p) (hQ : Big.Lim 1000000000 q)
  (hA : LimbsAt .u32 w w.heap.size A p) (hB : LimbsAt .u32 w w.heap.size B q) :
  Calls Tryz.prog 85 #[.slice A n c, .slice B m d] w (LimbPost (max n m + 1) (Big.val 1000000000 p + Big.val 1000000000 q) w) := by
 rcases Nat.lt_or_ge n m with h | h
 ·have := plus_lt w B A m n d c q p hq hl h hm hn hQ hL hB hA
  rw [Nat.max_eq_right (Nat.le_of_lt h), Int.add_comm]; exact this
 ·have := plus_ge w A B n m c d p q hl hq h hn hm hL hQ hA hB
  rw [Nat.max_eq_left h]; exact this

theorem minus_any (A B : Option Addr) (n m c d : Nat) (p q : List Int) (hl : p.length = n) (hq : q.length = m) (hge : m <= n) (hn : n <= 1000000) (hm : m <= 1000000) (hL : Big.Lim 1000000000 p) (hQ : Big.Lim 1000000000 q) (hle : Big.val 1000000000 q <= Big.val 1000000000 p)
  (hA : LimbsAt .u32 w w.heap.size A p) (hB : LimbsAt .u32 w w.heap.size B q) :
  Calls Tryz.prog 86 #[.slice A n c, .slice B m d] w (LimbPost n (Big.val 1000000000 p - Big.val 1000000000 q) w) := by
 subst hl hq
 obtain ⟨i0, hi, hz0, hz1, hz2⟩ := info_parts uinfo
 have Hlen : Hid ((p.map (Value.int .u32)).length = Nat.min p.length p.length) := by show _ = _; simp
 have Hfit : Hid (0 + (p.map (Value.int .u32)).length <= ((List.replicate p.length (0 : Int)).map (Value.int .u32)).length) := by show _ <= _; simp
 have Hnp : p.length <= p.length := Nat.le_refl _
 have Hb2 : p.length <= 10000000 := by omega
 go_enter Tryz.func86, Tryz.ntmps86
 go_upto_region 2 with (refine wpList_make_arr rfl _ _ 86 rfl .u32 149 i0 4 Tryz.underlying86 hi hz0 hz1 hz2 _ _ _ _ p.length p.length rfl rfl rfl rfl Hnp (by decide) Hb2 ?_; intro w1 hw1)
 have hB1 : Below w.heap.size w w1 := by rw [hw1.out]; exact (Below.refl _ _).alloc (Nat.le_refl _) _
 have hG1 := Lib.hid (show w1.heap[w.heap.size]? = some (.cells ((List.replicate p.length (0 : Int)).map (Value.int .u32)).toArray 149 (0, 0)) by rw [hw1.out]; exact heap_alloc_new w _)
 have HA1 := Lib.hid (hA.at_ hB1 (Nat.le_refl _))
 clear hw1
 go_upto_region 3 with (refine wpList_copy_splice rfl (.tmp 12) (.tmp 13) 86 86 rfl 149 Tryz.underlying86 usize (some ⟨w.heap.size, 0, none⟩) A p.length p.length p.length c rfl rfl w.heap.size 0 _ 149 hG1.out (p.map (Value.int .u32)) Hlen.out (HA1.out.copied _) Hfit.out (map_one p) w.heap.size w hB1 (Nat.le_refl _) ?_; intro w2 hsp hB2)
 have hArr : Arr .u32 149 w2 w.heap.size p := by
  unfold Arr
  rw [hsp.out]
  congr 3
  rw [splice]
  simp
 clear hsp hG1 HA1 Hlen Hfit
 have HL := Lib.hid hL
 have HQ := Lib.hid hQ
 have Hle := Lib.hid hle
 clear hL hQ hle
 go_wp2
 go_loopw [6, 17] (fun cr i wr => ∃ (k : Nat) (P : List Int) (bw : Int), k <= p.length /\ i = .int .i64 k /\ cr = .int .u32 bw /\ (bw = 0 ∨ bw = 1) /\ P.length = k /\ Big.Lim 1000000000 P /\
  Big.val 1000000000 P - 1000000000 ^ k * bw = Big.val 1000000000 (p.take k) - Big.val 1000000000 (q.take k) /\ Arr .u32 149 wr w.heap.size (P ++ p.drop k) /\ Below w.heap.size w wr) (fun _ i _ => p.length - (intOf i).toNat)
 case atStart => exact ⟨0, [], 0, Nat.zero_le _, rfl, rfl, .inl rfl, rfl, Big.Lim.nil, by simp [Big.val], by simpa using hArr, hB2⟩
 case round =>
  obtain ⟨k, P, bw, hk, rfl, rfl, hbw, hPl, hPL, hv, ha, hb⟩ := hrel
  have Hbw := Lib.hid hbw
  have hbw0 : 0 <= bw := by omega
  have hbw1 : bw <= 1 := by omega
  have HPl := Lib.hid hPl
  have HPL := Lib.hid hPL
  have Hv := Lib.hid hv
  have hgr : w.heap.size < wr.heap.size := ha.lt
  clear hbw hPl hPL hv hArr
  by_cases hlt : k < p.length
  ·have hFl : k < (P ++ p.drop k).length := by have := HPl.out; simp; omega
   have hFk : (P ++ p.drop k)[k] = p[k] := by
    have := HPl.out
    rw [List.getElem_append_right (by omega)]
    simp [this]
   have hc := ha.cell hFl
   rw [hFk] at hc
   have hfz := ha.free k
   have hx := HL.out.get k hlt
   have hx0 := hx.1
   have hx1 := hx.2
   have Ha := Lib.hid ha
   have hset : ∀ y : Int, Hid ((P ++ p.drop k).set k y = (P ++ [y]) ++ p.drop (k + 1)) := fun y => by
    show _ = _
    have := HPl.out
    rw [List.set_append_right _ _ (by omega), this, Nat.sub_self, List.drop_eq_getElem_cons hlt, List.set_cons_zero]
    simp only [List.append_assoc, List.cons_append, List.nil_append]
   have hset2 : ∀ x y : Int, Hid (((P ++ p.drop k).set k x).set k y = (P ++ [y]) ++ p.drop (k + 1)) := fun x y => by
    show _ = _; rw [List.set_set]; exact (hset y).out
   clear hx hFl hFk ha
   by_cases hkm : k < q.length
   ·obtain ⟨b, o, rfl, hbB, hy⟩ := (hB.below hb (Nat.le_refl _)).look hkm
    have hyl := HQ.out.get k hkm
    have hy0 := hyl.1
    have hy1 := hyl.2
    have hbwr : b < wr.heap.size := by omega
    clear hyl
    by_cases hlo : p[k] < bw + q[k]
    ·go_wp2
     go_roundw
     case rel =>
      refine ⟨k + 1, P ++ [p[k] + 1000000000 - (bw + q[k])], 1, by omega, by go_num, rfl, by omega, by simp [HPl.out], Big.Lim.append.2 ⟨HPL.out, fun a ha => ?_⟩, sub_step (x := p[k]) (y := q[k]) (bw := bw) (dg := p[k] + 1000000000 - (bw + q[k])) (bw' := 1) Hv.out HPl.out (by omega) (Big.val_take_succ _ _ _ hlt) (Big.val_take_succ _ _ _ hkm), ?_, (hb.setCell (Nat.le_refl _) _).setCell (Nat.le_refl _) _⟩
      ·rw [List.mem_singleton] at ha; subst ha; omega
      ·have := (Ha.out.set k (p[k] + 1000000000)).set k (p[k] + 1000000000 - (bw + q[k]))
       rwa [(hset2 _ _).out] at this
     case measure => simp [intOf]; omega
    ·go_wp2
     go_roundw
     case rel =>
      refine ⟨k + 1, P ++ [p[k] - (bw + q[k])], 0, by omega, by go_num, rfl, by omega, by simp [HPl.out], Big.Lim.append.2 ⟨HPL.out, fun a ha => ?_⟩, sub_step (x := p[k]) (y := q[k]) (bw := bw) (dg := p[k] - (bw + q[k])) (bw' := 0) Hv.out HPl.out (by omega) (Big.val_take_succ _ _ _ hlt) (Big.val_take_succ _ _ _ hkm), ?_, hb.setCell (Nat.le_refl _) _⟩
      ·rw [List.mem_singleton] at ha; subst ha; omega
      ·have := Ha.out.set k (p[k] - (bw + q[k]))
       rwa [(hset _).out] at this
     case measure => simp [intOf]; omega
   ·have htq : Hid (q.take k = q) := by show _ = _; exact List.take_of_length_le (by omega)
    have htq1 : Hid (q.take (k + 1) = q) := by show _ = _; exact List.take_of_length_le (by omega)
    by_cases hlo : p[k] < bw
    ·go_wp2
     go_roundw
     case rel =>
      refine ⟨k + 1, P ++ [p[k] + 1000000000 - bw], 1, by omega, by go_num, rfl, by omega, by simp [HPl.out], Big.Lim.append.2 ⟨HPL.out, fun a ha => ?_⟩, sub_step (x := p[k]) (y := 0) (bw := bw) (dg := p[k] + 1000000000 - bw) (bw' := 1) Hv.out HPl.out (by omega) (Big.val_take_succ _ _ _ hlt) (by rw [htq.out, htq1.out, Int.mul_zero, Int.add_zero]), ?_, (hb.setCell (Nat.le_refl _) _).setCell (Nat.le_refl _) _⟩
      ·rw [List.mem_singleton] at ha; subst ha; omega
      ·have := (Ha.out.set k (p[k] + 1000000000)).set k (p[k] + 1000000000 - bw)
       rwa [(hset2 _ _).out] at this
     case measure => simp [intOf]; omega
    ·go_wp2
     go_roundw
     case rel =>
      refine ⟨k + 1, P ++ [p[k] - bw], 0, by omega, by go_num, rfl, by omega, by simp [HPl.out], Big.Lim.append.2 ⟨HPL.out, fun a ha => ?_⟩, sub_step (x := p[k]) (y := 0) (bw := bw) (dg := p[k] - bw) (bw' := 0) Hv.out HPl.out (by omega) (Big.val_take_succ _ _ _ hlt) (by rw [htq.out, htq1.out, Int.mul_zero, Int.add_zero]), ?_, hb.setCell (Nat.le_refl _) _⟩
      ·rw [List.mem_singleton] at ha; subst ha; omega
      ·have := Ha.out.set k (p[k] - bw)
       rwa [(hset _).out] at this
     case measure => simp [intOf]; omega
  ·obtain rfl : k = p.length := by omega
   have hpl := HPl.out
   have hv := Hv.out
   rw [List.take_length, List.take_of_length_le (show q.length <= p.length by omega)] at hv
   rw [List.drop_length, List.append_nil] at ha
   have h0 : bw = 0 := by
    rcases Hbw.out with h | h
    ·exact h
    ·exfalso
     subst h
     have h1 := Big.val_lt (B := 1000000000) (by omega) HPL.out
     rw [hpl] at h1
     have h2 := Hle.out
     rw [Int.mul_one] at hv
     omega
   subst h0
   have Hend : Hid (Big.val 1000000000 P = Big.val 1000000000 p - Big.val 1000000000 q) := by show _ = _; rw [Int.mul_zero, Int.sub_zero] at hv; exact hv
   have Hlim := Lib.hid (ha.limbs hgr)
   clear hv ha hpl Hv
   go_wp2
   go_ret
   have hpl := HPl.out
   exact ⟨hb, _, p.length, p.length, P, rfl, hpl, Nat.le_refl _, Nat.le_refl _, HPL.out, Hend.out, Hlim.out, fun b o h => by cases h; exact Nat.le_refl _⟩
end
end Go.Proofs.YtobnfmneeabomaaGreat
namespace Go.Proofs.YtobnfmneeabomaaGreat
namespace R1
open Go.RowKit

def LimbPost (k : Nat) (V : Int) (w : World) (e : Ending) (w' : World) : Prop :=
 Below w.heap.size w w' /\ ∃ (A : Option Addr) (n c : Nat) (r : List Int), e = .returned (.slice A n c) /\ r.length = n /\ n <= k /\ n <= c /\ Big.Lim 10000 r /\ Big.val 10000 r = V /\ LimbsAt .i64 w' w'.heap.size A r /\ ∀ b o, A = some ⟨b, o, none⟩ -> w.heap.size <= b
def NormPost (k : Nat) (V : Int) (w : World) (e : Ending) (w' : World) : Prop :=
 Below w.heap.size w w' /\ ∃ (A : Option Addr) (n c : Nat) (r : List Int), e = .returned (.slice A n c) /\ r.length = n /\ n <= k /\ n <= c /\ Big.Lim 10000 r /\ Big.Norm r /\ Big.val 10000 r = V /\ LimbsAt .i64 w' w'.heap.size A r /\ ∀ b o, A = some ⟨b, o, none⟩ -> w.heap.size <= b
theorem NormPost.limb {k : Nat} {V : Int} {w : World} {e : Ending} {w' : World} (h : NormPost k V w e w') : LimbPost k V w e w' := by
 obtain ⟨hb, A, n, c, r, h1, h2, h3, h4, h5, _, h6, h7, h8⟩ := h
 exact ⟨hb, A, n, c, r, h1, h2, h3, h4, h5, h6, h7, h8⟩
theorem iinfo : (Tryz.prog.info? 3).map (fun i => (i.zero, i.size, i.bytes)) = some (some (.int .i64 0), 1, 8) := by kernel_rfl
theorem take_all {l : List Int} {k : Nat} (h : l.length <= k) : Big.val 10000 (l.take (k + 1)) = Big.val 10000 (l.take k) + 10000 ^ k * 0 := by
 rw [List.take_of_length_le h, List.take_of_length_le (by omega), Int.mul_zero, Int.add_zero]
theorem own_end {w wr : World} {base : Nat} {v : Value} {k : Nat} {P : List Int} (h : wr.ownsRow base 3 1 v k (P.map (Value.int .i64))) (hP : P.length = k) : ∃ A c, v = .slice A k c /\ k <= c /\ LimbsAt .i64 wr wr.heap.size A P /\ ∀ b o, A = some ⟨b, o, none⟩ -> base <= b := by
 obtain ⟨A, c, rfl, hc, hl⟩ := limbs_own h hP.symm
 exact ⟨A, c, rfl, hc, hl, fun b o e => own_base h b (by rw [e]; rfl)⟩
section
variable (w : World)
theorem minus_n (A B : Option Addr) (n m c d : Nat) (p q : List Int) (hl : p.length = n) (hq : q.length = m) (hge : m <= n) (hn : n <= 1000000) (hm : m <= 1000000) (hL : Big.Lim 10000 p) (hQ : Big.Lim 10000 q) (hle : Big.val 10000 q <= Big.val 10000 p)
  (hA : LimbsAt .i64 w w.heap.size A p) (hB : LimbsAt .i64 w w.heap.size B q) :
  Calls Tryz.prog 93 #[.slice A n c, .slice B m d] w (NormPost n (Big.val 10000 p - Big.val 10000 q) w) := by
 subst hl hq
 obtain ⟨i0, hi, hz0, hz1, hz2⟩ := info_parts iinfo
 have HL := Lib.hid hL
 have HQ := Lib.hid hQ
 have Hle := Lib.hid hle
 clear hle hL hQ
 go_enter Tryz.func93, Tryz.ntmps93
 go_wp2
 go_loopw [5, 6, 7] (fun v cr i wr => ∃ (k : Nat) (P : List Int) (bw : Int), i = .int .i64 k /\ cr = .int .i64 bw /\ 0 <= bw /\ bw <= 1 /\ k <= p.length /\ P.length = k /\ Big.Lim 10000 P /\
  Big.val 10000 P - 10000 ^ k * bw = Big.val 10000 (p.take k) - Big.val 10000 (q.take k) /\ wr.ownsRow w.heap.size 3 1 v k (P.map (Value.int .i64)) /\ Below w.heap.size w wr) (fun _ _ i _ => p.length - (intOf i).toNat)
 case atStart => exact ⟨0, [], 0, rfl, rfl, by omega, by omega, Nat.zero_le _, rfl, Big.Lim.nil, by simp [Big.val], World.ownsRow_nil _ _ _ _, Below.refl _ _⟩
 case round =>
  obtain ⟨k, P, bw, rfl, rfl, hc0, hc1, hkM, hPl, hPL, hv, hown, hb⟩ := hrel
  have HPl := Lib.hid hPl
  have HPL := Lib.hid hPL
  have Hv := Lib.hid hv
  have hwb := hb.size
  clear hPl hPL hv
  by_cases hkp : k < p.length
  ·obtain ⟨b1, o1, rfl, hb1, x1⟩ := (hA.below hb (Nat.le_refl _)).look hkp
   have hx0 := (HL.out.get k hkp).1
   have hx1 := (HL.out.get k hkp).2
   have hbw1 : b1 < wr.heap.size := by omega
   by_cases hkq : k < q.length
   ·obtain ⟨b2, o2, rfl, hb2, x2⟩ := (hB.below hb (Nat.le_refl _)).look hkq
    have hy0 := (HQ.out.get k hkq).1
    have hy1 := (HQ.out.get k hkq).2
    have hbw2 : b2 < wr.heap.size := by omega
    by_cases hlo : p[k] - bw - q[k] < 0
    ·have Hnew := Lib.hid (one_cell (heap_alloc_new wr (.cells #[.int .i64 (p[k] - bw - q[k] + 10000)] 3)))
     have Hown := Lib.hid (hown.alloc (.cells #[.int .i64 (p[k] - bw - q[k] + 10000)] 3))
     have Hone : Hid (∀ u ∈ ([Value.int .i64 (p[k] - bw - q[k] + 10000)] : List Value), u.oneCell' = true) := by show ∀ u ∈ _, _; simp [Value.oneCell']
     go_wp2_with (at_builtin; refine wpList_append_own _ rfl _ _ 70 rfl w.heap.size 3 i0 (.int .i64 0) 1 8 Tryz.underlying70 hi hz0 hz1 hz2 rfl (by decide) _ _ _ rfl Hown.out ⟨wr.heap.size, 0, none⟩ 1 1 [.int .i64 (p[k] - bw - q[k] + 10000)] rfl rfl Hnew.out Hone.out (by unfold maxLen; omega) (by omega) (by simp; omega) ?_)
     intro v' w9 hown' hgrow _
     have hb9 := (hb.alloc hb.size (.cells #[.int .i64 (p[k] - bw - q[k] + 10000)] 3)).grown hgrow (by simp; omega) (fun q hq => by have := own_base hown q hq; omega)
     go_wp2
     go_roundw
     case rel =>
      refine ⟨k + 1, P ++ [(p[k] - bw - q[k] + 10000)], 1, by go_num, rfl, by omega, by omega, by omega, by have := HPl.out; simp; omega, Big.Lim.append.2 ⟨HPL.out, fun a ha => ?_⟩, sub_step (x := p[k]) (y := q[k]) (bw := bw) (dg := (p[k] - bw - q[k] + 10000)) (bw' := 1) Hv.out HPl.out (by omega) (Big.val_take_succ _ _ _ hkp) (Big.val_take_succ _ _ _ hkq), by rw [List.map_append]; exact hown', hb9⟩
      rw [List.mem_singleton] at ha; subst ha; omega
     case measure => simp [intOf]; omega
    ·have Hnew := Lib.hid (one_cell (heap_alloc_new wr (.cells #[.int .i64 (p[k] - bw - q[k])] 3)))
     have Hown := Lib.hid (hown.alloc (.cells #[.int .i64 (p[k] - bw - q[k])] 3))
     have Hone : Hid (∀ u ∈ ([Value.int .i64 (p[k] - bw - q[k])] : List Value), u.oneCell' = true) := by show ∀ u ∈ _, _; simp [Value.oneCell']
     go_wp2_with (at_builtin; refine wpList_append_own _ rfl _ _ 70 rfl w.heap.size 3 i0 (.int .i64 0) 1 8 Tryz.underlying70 hi hz0 hz1 hz2 rfl (by decide) _ _ _ rfl Hown.out ⟨wr.heap.size, 0, none⟩ 1 1 [.int .i64 (p[k] - bw - q[k])] rfl rfl Hnew.out Hone.out (by unfold maxLen; omega) (by omega) (by simp; omega) ?_)
     intro v' w9 hown' hgrow _
     have hb9 := (hb.alloc hb.size (.cells #[.int .i64 (p[k] - bw - q[k])] 3)).grown hgrow (by simp; omega) (fun q hq => by have := own_base hown q hq; omega)
     go_wp2
     go_roundw
     case rel =>
      refine ⟨k + 1, P ++ [(p[k] - bw - q[k])], 0, by go_num, rfl, by omega, by omega, by omega, by have := HPl.out; simp; omega, Big.Lim.append.2 ⟨HPL.out, fun a ha => ?_⟩, sub_step (x := p[k]) (y := q[k]) (bw := bw) (dg := (p[k] - bw - q[k])) (bw' := 0) Hv.out HPl.out (by omega) (Big.val_take_succ _ _ _ hkp) (Big.val_take_succ _ _ _ hkq), by rw [List.map_append]; exact hown', hb9⟩
      rw [List.mem_singleton] at ha; subst ha; omega
     case measure => simp [intOf]; omega
   ·by_cases hlo : p[k] - bw < 0
    ·have Hnew := Lib.hid (one_cell (heap_alloc_new wr (.cells #[.int .i64 (p[k] - bw + 10000)] 3)))
     have Hown := Lib.hid (hown.alloc (.cells #[.int .i64 (p[k] - bw + 10000)] 3))
     have Hone : Hid (∀ u ∈ ([Value.int .i64 (p[k] - bw + 10000)] : List Value), u.oneCell' = true) := by show ∀ u ∈ _, _; simp [Value.oneCell']
     go_wp2_with (at_builtin; refine wpList_append_own _ rfl _ _ 70 rfl w.heap.size 3 i0 (.int .i64 0) 1 8 Tryz.underlying70 hi hz0 hz1 hz2 rfl (by decide) _ _ _ rfl Hown.out ⟨wr.heap.size, 0, none⟩ 1 1 [.int .i64 (p[k] - bw + 10000)] rfl rfl Hnew.out Hone.out (by unfold maxLen; omega) (by omega) (by simp; omega) ?_)
     intro v' w9 hown' hgrow _
     have hb9 := (hb.alloc hb.size (.cells #[.int .i64 (p[k] - bw + 10000)] 3)).grown hgrow (by simp; omega) (fun q hq => by have := own_base hown q hq; omega)
     go_wp2
     go_roundw
     case rel =>
      refine ⟨k + 1, P ++ [(p[k] - bw + 10000)], 1, by go_num, rfl, by omega, by omega, by omega, by have := HPl.out; simp; omega, Big.Lim.append.2 ⟨HPL.out, fun a ha => ?_⟩, sub_step (x := p[k]) (y := 0) (bw := bw) (dg := (p[k] - bw + 10000)) (bw' := 1) Hv.out HPl.out (by omega) (Big.val_take_succ _ _ _ hkp) (take_all (by omega)), by rw [List.map_append]; exact hown', hb9⟩
      rw [List.mem_singleton] at ha; subst ha; omega
     case measure => simp [intOf]; omega
    ·have Hnew := Lib.hid (one_cell (heap_alloc_new wr (.cells #[.int .i64 (p[k] - bw)] 3)))
     have Hown := Lib.hid (hown.alloc (.cells #[.int .i64 (p[k] - bw)] 3))
     have Hone : Hid (∀ u ∈ ([Value.int .i64 (p[k] - bw)] : List Value), u.oneCell' = true) := by show ∀ u ∈ _, _; simp [Value.oneCell']
     go_wp2_with (at_builtin; refine wpList_append_own _ rfl _ _ 70 rfl w.heap.size 3 i0 (.int .i64 0) 1 8 Tryz.underlying70 hi hz0 hz1 hz2 rfl (by decide) _ _ _ rfl Hown.out ⟨wr.heap.size, 0, none⟩ 1 1 [.int .i64 (p[k] - bw)] rfl rfl Hnew.out Hone.out (by unfold maxLen; omega) (by omega) (by simp; omega) ?_)
     intro v' w9 hown' hgrow _
     have hb9 := (hb.alloc hb.size (.cells #[.int .i64 (p[k] - bw)] 3)).grown hgrow (by simp; omega) (fun q hq => by have := own_base hown q hq; omega)
     go_wp2
     go_roundw
     case rel =>
      refine ⟨k + 1, P ++ [(p[k] - bw)], 0, by go_num, rfl, by omega, by omega, by omega, by have := HPl.out; simp; omega, Big.Lim.append.2 ⟨HPL.out, fun a ha => ?_⟩, sub_step (x := p[k]) (y := 0) (bw := bw) (dg := (p[k] - bw)) (bw' := 0) Hv.out HPl.out (by omega) (Big.val_take_succ _ _ _ hkp) (take_all (by omega)), by rw [List.map_append]; exact hown', hb9⟩
      rw [List.mem_singleton] at ha; subst ha; omega
     case measure => simp [intOf]; omega
  ·obtain rfl : k = p.length := by omega
   obtain ⟨A', c', rfl, hc', hlim, hbs⟩ := own_end (w := w) hown HPl.out
   have Hval : Hid (Big.val 10000 P = Big.val 10000 p - Big.val 10000 q) := by
    show _ = _
    have h1 := Hv.out
    rw [List.take_of_length_le (Nat.le_refl _), List.take_of_length_le hge] at h1
    have h2 := Big.val_lt (B := 10000) (by omega) HPL.out
    have h3 := Big.val_nonneg (B := 10000) (by omega) HPL.out
    rw [HPl.out] at h2
    have h4 := Hle.out
    have h5 : bw = 0 ∨ bw = 1 := by omega
    rcases h5 with rfl | rfl
    ·omega
    ·omega
   obtain ⟨t1, t2, t3, t4⟩ := Big.trim_spec 10000 P
   have Hlim := Lib.hid hlim
   have Hbs := Lib.hid hbs
   have T1 := Lib.hid t1
   have T4 := Lib.hid t4
   clear hlim hbs hown t1 t4
   go_wp2_with (fail)
   refine (trim_any wr A' p.length c' P HPl.out (by omega) hc' Hlim.out).mono ?_
   rintro e w5 ⟨rfl, rfl⟩
   go_wp2
   go_ret
   have hpl := HPl.out
   exact ⟨hb, A', _, c', Big.trim P, rfl, rfl, by omega, by omega, Big.trim_lim HPL.out, t2, by rw [T1.out]; exact Hval.out, by rw [T4.out]; exact Hlim.out.take _, Hbs.out⟩
theorem minus_any (A B : Option Addr) (n m c d : Nat) (p q : List Int) (hl : p.length = n) (hq : q.length = m) (hge : m <= n) (hn : n <= 1000000) (hm : m <= 1000000) (hL : Big.Lim 10000 p) (hQ : Big.Lim 10000 q) (hle : Big.val 10000 q <= Big.val 10000 p)
  (hA : LimbsAt .i64 w w.heap.size A p) (hB : LimbsAt .i64 w w.heap.size B q) :
  Calls Tryz.prog 93 #[.slice A n c, .slice B m d] w (LimbPost n (Big.val 10000 p - Big.val 10000 q) w) :=
 (minus_n w A B n m c d p q hl hq hge hn hm hL hQ hle hA hB).mono fun _ _ h => h.limb
end
end R1
end Go.Proofs.YtobnfmneeabomaaGreat
