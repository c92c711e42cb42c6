/- My texts SmpC. -/
import Derived.Test.YtobnfmneeabomaaGreatG40
import Derived.Test.YtobnfmneeabomaaGreatG18
import Derived.Test.YtobnfmneeabomaaGreatG22
set_option linter.unusedVariables false
set_option linter.unusedSimpArgs false
set_option maxRecDepth 100000
set_option maxHeartbeats 8000000
namespace Go.Proofs.YtobnfmneeabomaaGreat
open Go.RowKit
theorem allocs_spec : ∀ (objs : List Obj) (w : World), Below w.heap.size w (objs.foldl World.alloc w) /\ (objs.foldl World.alloc w).heap.size = w.heap.size + objs.length /\ ∀ (i : Nat) (o : Obj), objs[i]? = some o -> (objs.foldl World.alloc w).heap[w.heap.size + i]? = some o
 | [], w => ⟨Below.refl _ _, rfl, fun i o h => by simp at h⟩
 | x :: objs, w => by
  obtain ⟨h1, h2, h3⟩ := allocs_spec objs (w.alloc x)
  have hs : (w.alloc x).heap.size = w.heap.size + 1 := by simp
  rw [hs] at h1 h2 h3
  refine ⟨((Below.refl w.heap.size w).alloc (Nat.le_refl _) x).trans (h1.mono (by omega)), by rw [List.foldl_cons, h2, List.length_cons]; omega, fun i o h => ?_⟩
  match i with
  | 0 =>
   rw [List.foldl_cons, Nat.add_zero, h1.block w.heap.size (by omega)]
   have := heap_alloc_new w x
   simp at h
   rw [this, h]
  | i + 1 =>
   rw [List.foldl_cons, show w.heap.size + (i + 1) = w.heap.size + 1 + i by omega]
   exact h3 i o (by simpa using h)
structure RowV where
 kind : Int
 basis : Int
 cb : Nat
 codes : List Int
def RowV.cells (r : RowV) : List Value := [.int .i64 r.kind, .int .i64 r.basis, .slice (some ⟨r.cb, 0, none⟩) r.codes.length r.codes.length]
abbrev intsCells (x : Int) : List Value := [.int .i64 x]
namespace Smp
def rows (B : Nat) : List RowV := [⟨1, 1, B, [1000, 1010, 1100, 1200]⟩, ⟨1, 3, B + 1, [1300, 1500, 1600, 1700]⟩, ⟨2, 1, B + 2, [2000, 2100]⟩, ⟨3, 3, B + 3, [3000, 3100, 3200, 3300, 3400, 3500]⟩, ⟨4, 2, B + 4, [4000, 4100, 4500, 4600, 4700]⟩, ⟨5, 2, B + 5, [5000, 5100, 5500, 5600, 5700]⟩]
def par (c : Int) : Int := if c = 1010 then 1000 else if c = 1100 then 1000 else if c = 1200 then 1000 else if c = 2100 then c - 100 else if c = 4100 then c - 100 else 0
def acc (r : RowV) (c : Int) : Acc := ⟨c, r.kind, r.basis, par c⟩
def part (o : Option RowV) (k : Nat) : List Acc := match o with
 | some r => (r.codes.take k).map (acc r)
 | none => []
def upTo (l : List RowV) (i k : Nat) : List Acc := (l.take i).flatMap (fun r => r.codes.map (acc r)) ++ part l[i]? k
def chart : List Acc := (rows 0).flatMap (fun r => r.codes.map (acc r))
theorem upTo_next {l : List RowV} {i k : Nat} (hi : i < l.length) (hk : k < l[i].codes.length) : upTo l i (k + 1) = upTo l i k ++ [acc l[i] l[i].codes[k]] := by
 unfold upTo part
 rw [List.getElem?_eq_getElem hi]
 simp only []
 rw [List.take_succ_eq_append_getElem hk, List.map_append, List.append_assoc]
 rfl
theorem upTo_row {l : List RowV} {i : Nat} (hi : i < l.length) : upTo l i l[i].codes.length = upTo l (i + 1) 0 := by
 unfold upTo part
 rw [List.getElem?_eq_getElem hi, List.take_succ_eq_append_getElem hi, List.flatMap_append]
 simp only [List.take_length, List.flatMap_cons, List.flatMap_nil, List.append_nil]
 cases l[i + 1]? <;> simp
end Smp
def accRow (l : List Acc) : List Value := l.flatMap Acc.cells
theorem accRow_snoc (l : List Acc) (x : Acc) : accRow (l ++ [x]) = accRow l ++ x.cells := by simp [accRow]
theorem accInfo : (Tryz.prog.info? 111).map (fun i => (i.zero, i.size, i.bytes)) = some (some (.agg #[.int .i64 0, .int .i64 0, .int .i64 0, .int .i64 0]), 4, 32) := by kernel_rfl
theorem accSize' : (Tryz.prog.info? 111).map (·.size) = some 4 := by kernel_rfl
def SampleChartPost (w : World) (e : Ending) (w' : World) : Prop := Below w.heap.size w w' /\ ∃ A c, e = .returned (.slice A 26 c) /\ Fresh w.heap.size A /\ AccsAt w' w'.heap.size A Smp.chart
section
variable (w : World)
theorem schart_any : Calls Tryz.prog 18 #[] w (SampleChartPost w) := by
 obtain ⟨i0, hi0, hz0, hz1, hz2⟩ := info_parts accInfo
 obtain ⟨hB1, hz, hblk⟩ := allocs_spec [(.cells #[.int .i64 1000, .int .i64 1010, .int .i64 1100, .int .i64 1200] 3), (.cells #[.int .i64 1300, .int .i64 1500, .int .i64 1600, .int .i64 1700] 3), (.cells #[.int .i64 2000, .int .i64 2100] 3), (.cells #[.int .i64 3000, .int .i64 3100, .int .i64 3200, .int .i64 3300, .int .i64 3400, .int .i64 3500] 3), (.cells #[.int .i64 4000, .int .i64 4100, .int .i64 4500, .int .i64 4600, .int .i64 4700] 3), (.cells #[.int .i64 5000, .int .i64 5100, .int .i64 5500, .int .i64 5600, .int .i64 5700] 3), (.cells #[.int .i64 1, .int .i64 1, .slice (some ⟨w.heap.size, 0, none⟩) 4 4, .int .i64 1, .int .i64 3, .slice (some ⟨w.heap.size + 1, 0, none⟩) 4 4, .int .i64 2, .int .i64 1, .slice (some ⟨w.heap.size + 2, 0, none⟩) 2 2, .int .i64 3, .int .i64 3, .slice (some ⟨w.heap.size + 3, 0, none⟩) 6 6, .int .i64 4, .int .i64 2, .slice (some ⟨w.heap.size + 4, 0, none⟩) 5 5, .int .i64 5, .int .i64 2, .slice (some ⟨w.heap.size + 5, 0, none⟩) 5 5] 108)] w
 change Below w.heap.size w (((((((w.alloc (.cells #[.int .i64 1000, .int .i64 1010, .int .i64 1100, .int .i64 1200] 3)).alloc (.cells #[.int .i64 1300, .int .i64 1500, .int .i64 1600, .int .i64 1700] 3)).alloc (.cells #[.int .i64 2000, .int .i64 2100] 3)).alloc (.cells #[.int .i64 3000, .int .i64 3100, .int .i64 3200, .int .i64 3300, .int .i64 3400, .int .i64 3500] 3)).alloc (.cells #[.int .i64 4000, .int .i64 4100, .int .i64 4500, .int .i64 4600, .int .i64 4700] 3)).alloc (.cells #[.int .i64 5000, .int .i64 5100, .int .i64 5500, .int .i64 5600, .int .i64 5700] 3)).alloc (.cells #[.int .i64 1, .int .i64 1, .slice (some ⟨w.heap.size, 0, none⟩) 4 4, .int .i64 1, .int .i64 3, .slice (some ⟨w.heap.size + 1, 0, none⟩) 4 4, .int .i64 2, .int .i64 1, .slice (some ⟨w.heap.size + 2, 0, none⟩) 2 2, .int .i64 3, .int .i64 3, .slice (some ⟨w.heap.size + 3, 0, none⟩) 6 6, .int .i64 4, .int .i64 2, .slice (some ⟨w.heap.size + 4, 0, none⟩) 5 5, .int .i64 5, .int .i64 2, .slice (some ⟨w.heap.size + 5, 0, none⟩) 5 5] 108)) at hB1
 change (((((((w.alloc (.cells #[.int .i64 1000, .int .i64 1010, .int .i64 1100, .int .i64 1200] 3)).alloc (.cells #[.int .i64 1300, .int .i64 1500, .int .i64 1600, .int .i64 1700] 3)).alloc (.cells #[.int .i64 2000, .int .i64 2100] 3)).alloc (.cells #[.int .i64 3000, .int .i64 3100, .int .i64 3200, .int .i64 3300, .int .i64 3400, .int .i64 3500] 3)).alloc (.cells #[.int .i64 4000, .int .i64 4100, .int .i64 4500, .int .i64 4600, .int .i64 4700] 3)).alloc (.cells #[.int .i64 5000, .int .i64 5100, .int .i64 5500, .int .i64 5600, .int .i64 5700] 3)).alloc (.cells #[.int .i64 1, .int .i64 1, .slice (some ⟨w.heap.size, 0, none⟩) 4 4, .int .i64 1, .int .i64 3, .slice (some ⟨w.heap.size + 1, 0, none⟩) 4 4, .int .i64 2, .int .i64 1, .slice (some ⟨w.heap.size + 2, 0, none⟩) 2 2, .int .i64 3, .int .i64 3, .slice (some ⟨w.heap.size + 3, 0, none⟩) 6 6, .int .i64 4, .int .i64 2, .slice (some ⟨w.heap.size + 4, 0, none⟩) 5 5, .int .i64 5, .int .i64 2, .slice (some ⟨w.heap.size + 5, 0, none⟩) 5 5] 108)).heap.size = w.heap.size + 7 at hz
 change ∀ (i : Nat) (o : Obj), _ -> (((((((w.alloc (.cells #[.int .i64 1000, .int .i64 1010, .int .i64 1100, .int .i64 1200] 3)).alloc (.cells #[.int .i64 1300, .int .i64 1500, .int .i64 1600, .int .i64 1700] 3)).alloc (.cells #[.int .i64 2000, .int .i64 2100] 3)).alloc (.cells #[.int .i64 3000, .int .i64 3100, .int .i64 3200, .int .i64 3300, .int .i64 3400, .int .i64 3500] 3)).alloc (.cells #[.int .i64 4000, .int .i64 4100, .int .i64 4500, .int .i64 4600, .int .i64 4700] 3)).alloc (.cells #[.int .i64 5000, .int .i64 5100, .int .i64 5500, .int .i64 5600, .int .i64 5700] 3)).alloc (.cells #[.int .i64 1, .int .i64 1, .slice (some ⟨w.heap.size, 0, none⟩) 4 4, .int .i64 1, .int .i64 3, .slice (some ⟨w.heap.size + 1, 0, none⟩) 4 4, .int .i64 2, .int .i64 1, .slice (some ⟨w.heap.size + 2, 0, none⟩) 2 2, .int .i64 3, .int .i64 3, .slice (some ⟨w.heap.size + 3, 0, none⟩) 6 6, .int .i64 4, .int .i64 2, .slice (some ⟨w.heap.size + 4, 0, none⟩) 5 5, .int .i64 5, .int .i64 2, .slice (some ⟨w.heap.size + 5, 0, none⟩) 5 5] 108)).heap[w.heap.size + i]? = some o at hblk
 obtain ⟨W1, hW1⟩ : ∃ W1, W1 = (((((((w.alloc (.cells #[.int .i64 1000, .int .i64 1010, .int .i64 1100, .int .i64 1200] 3)).alloc (.cells #[.int .i64 1300, .int .i64 1500, .int .i64 1600, .int .i64 1700] 3)).alloc (.cells #[.int .i64 2000, .int .i64 2100] 3)).alloc (.cells #[.int .i64 3000, .int .i64 3100, .int .i64 3200, .int .i64 3300, .int .i64 3400, .int .i64 3500] 3)).alloc (.cells #[.int .i64 4000, .int .i64 4100, .int .i64 4500, .int .i64 4600, .int .i64 4700] 3)).alloc (.cells #[.int .i64 5000, .int .i64 5100, .int .i64 5500, .int .i64 5600, .int .i64 5700] 3)).alloc (.cells #[.int .i64 1, .int .i64 1, .slice (some ⟨w.heap.size, 0, none⟩) 4 4, .int .i64 1, .int .i64 3, .slice (some ⟨w.heap.size + 1, 0, none⟩) 4 4, .int .i64 2, .int .i64 1, .slice (some ⟨w.heap.size + 2, 0, none⟩) 2 2, .int .i64 3, .int .i64 3, .slice (some ⟨w.heap.size + 3, 0, none⟩) 6 6, .int .i64 4, .int .i64 2, .slice (some ⟨w.heap.size + 4, 0, none⟩) 5 5, .int .i64 5, .int .i64 2, .slice (some ⟨w.heap.size + 5, 0, none⟩) 5 5] 108)) := ⟨_, rfl⟩
 rw [<- hW1] at hB1 hz hblk
 have HW1 := Lib.hid hW1
 obtain ⟨l, hl⟩ : ∃ l, l = Smp.rows w.heap.size := ⟨_, rfl⟩
 have hrows : RowsAt RowV.cells 3 W1 W1.heap.size (some ⟨w.heap.size + 6, 0, none⟩) l := by
  have := hblk 6 _ rfl
  rw [hl]
  exact rows_flat (f := RowV.cells) (l := Smp.rows w.heap.size) this (by omega) (fun _ _ => rfl)
 have hcodes : ∀ r ∈ l, RowsAt intsCells 1 W1 W1.heap.size (some ⟨r.cb, 0, none⟩) r.codes := by
  intro r hr
  rw [hl] at hr
  simp only [Smp.rows, List.mem_cons, List.not_mem_nil, or_false] at hr
  rcases hr with rfl | rfl | rfl | rfl | rfl | rfl
  ·exact rows_flat (f := intsCells) (l := [1000, 1010, 1100, 1200]) (hblk 0 _ rfl) (by show w.heap.size + 0 < _; omega) (fun _ _ => rfl)
  ·exact rows_flat (f := intsCells) (l := [1300, 1500, 1600, 1700]) (hblk 1 _ rfl) (by show w.heap.size + 1 < _; omega) (fun _ _ => rfl)
  ·exact rows_flat (f := intsCells) (l := [2000, 2100]) (hblk 2 _ rfl) (by show w.heap.size + 2 < _; omega) (fun _ _ => rfl)
  ·exact rows_flat (f := intsCells) (l := [3000, 3100, 3200, 3300, 3400, 3500]) (hblk 3 _ rfl) (by show w.heap.size + 3 < _; omega) (fun _ _ => rfl)
  ·exact rows_flat (f := intsCells) (l := [4000, 4100, 4500, 4600, 4700]) (hblk 4 _ rfl) (by show w.heap.size + 4 < _; omega) (fun _ _ => rfl)
  ·exact rows_flat (f := intsCells) (l := [5000, 5100, 5500, 5600, 5700]) (hblk 5 _ rfl) (by show w.heap.size + 5 < _; omega) (fun _ _ => rfl)
 have hlen : l.length = 6 := by rw [hl]; rfl
 have hsh : ∀ r ∈ l, r.codes.length <= 6 := by
  intro r hr
  rw [hl] at hr
  simp only [Smp.rows, List.mem_cons, List.not_mem_nil, or_false] at hr
  rcases hr with rfl | rfl | rfl | rfl | rfl | rfl <;> simp
 have Hall : Hid (Smp.upTo l 6 0 = Smp.chart) := by show _ = _; rw [hl]; rfl
 have Hrows := Lib.hid hrows
 have Hcodes := Lib.hid hcodes
 have Hlen := Lib.hid hlen
 have Hsh := Lib.hid hsh
 have H0 : Hid (Smp.upTo l 0 0 = []) := by show _ = _; rw [hl]; rfl
 clear hW1 hblk hl hrows hcodes hlen hsh
 go_enter Tryz.func18, Tryz.ntmps18
 go_upto_region 2 with (fail)
 rw [<- HW1.out]
 go_wp2
 go_loopw [2, 3] (fun v s wr => ∃ i : Nat, i <= 6 /\ s = .int .i64 i /\ (Smp.upTo l i 0).length <= 6 * i /\ wr.ownsRow W1.heap.size 111 4 v (Smp.upTo l i 0).length (accRow (Smp.upTo l i 0)) /\ Below W1.heap.size W1 wr) (fun _ s _ => 6 - (intOf s).toNat)
 case atStart => exact ⟨0, by omega, rfl, by rw [H0.out]; simp, by rw [H0.out]; exact World.ownsRow_nil _ _ _ _, Below.refl _ _⟩
 case round =>
  obtain ⟨i, hi, rfl, hlb, hown, hb⟩ := hrel
  have Hown := Lib.hid hown
  have Hlb := Lib.hid hlb
  clear hown hlb
  by_cases hlt : i < 6
  case neg =>
   obtain rfl : i = 6 := by omega
   go_wp2
   go_ret
   have ho := Hown.out
   rw [Hall.out] at ho
   obtain ⟨A', c', rfl, hA⟩ := own_flat (f := Acc.cells) (by decide) (fun _ => rfl) ho rfl
   exact ⟨hB1.trans (hb.mono hB1.size), A', c', rfl, (fun ad h => Nat.le_trans (by omega) (own_fresh ho ad h)), hA⟩
  have hi0' : (0 : Int) <= (i : Int) := by omega
  have hi1' : (i : Int) < 6 := by omega
  have hil : i < l.length := by have := Hlen.out; omega
  obtain ⟨r, hr⟩ : ∃ r, r = l[i] := ⟨_, rfl⟩
  have Hr := Lib.hid hr
  have hrm : r ∈ l := by rw [hr]; exact List.getElem_mem hil
  have hr6 := Hsh.out r hrm
  have Hcd := Lib.hid (Hcodes.out r hrm)
  obtain ⟨b0, o0, e0, hb0, hrr⟩ := RowsAt.look Hrows.out hil
  rw [<- hr] at hrr
  have hrb : b0 = w.heap.size + 6 /\ o0 = 0 := by
   injection e0 with e0
   injection e0 with q1 q2 q3
   exact ⟨q1.symm, q2.symm⟩
  obtain ⟨rfl, rfl⟩ := hrb
  have HR := Lib.hid hrr
  have hrbw : w.heap.size + 6 < W1.heap.size := by omega
  clear hr hrm hrr e0
  go_wp2
  go_loopw [2, 4] (fun v s wq => ∃ k : Nat, k <= r.codes.length /\ s = .int .i64 k /\ (Smp.upTo l i k).length <= 6 * i + k /\ wq.ownsRow W1.heap.size 111 4 v (Smp.upTo l i k).length (accRow (Smp.upTo l i k)) /\ Below W1.heap.size W1 wq) (fun _ s _ => r.codes.length - (intOf s).toNat)
  case atStart => exact ⟨0, Nat.zero_le _, rfl, by have := Hlb.out; omega, Hown.out, hb⟩
  case round =>
   obtain ⟨k, hk, rfl, hlb2, hown2, hb2⟩ := hrel
   have Hown2 := Lib.hid hown2
   have Hlb2 := Lib.hid hlb2
   have hq2 := hb2.size
   have hrow := range_below HR.out hb2 hrbw
   have c0 := hrow 0 _ rfl
   have c1 := hrow 1 _ rfl
   have c2 := hrow 2 _ rfl
   simp at c0 c1 c2
   have sb : w.heap.size + 6 < wr.heap.size := by omega
   clear hown2 hlb2 hrow
   by_cases hlt2 : k < r.codes.length
   case neg =>
    obtain rfl : k = r.codes.length := by omega
    have Hn : Hid (Smp.upTo l i r.codes.length = Smp.upTo l (i + 1) 0) := by show _ = _; rw [Hr.out]; exact Smp.upTo_row hil
    go_wp2
    go_roundw
    case rel => exact ⟨i + 1, by omega, by go_num, by rw [<- Hn.out]; have := Hlb2.out; omega, by rw [<- Hn.out]; exact Hown2.out, hb2⟩
    case measure => simp [intOf]; omega
   obtain ⟨bc, oc, ec, hbc, hcc⟩ := RowsAt.look Hcd.out hlt2
   have hbc2 : bc = r.cb /\ oc = 0 := by
    injection ec with ec
    injection ec with q1 q2 q3
    exact ⟨q1.symm, q2.symm⟩
   obtain ⟨rfl, rfl⟩ := hbc2
   obtain ⟨a, ha⟩ : ∃ a, a = r.codes[k] := ⟨_, rfl⟩
   rw [<- ha] at hcc
   have hcb := range_below hcc hb2 hbc
   have c3 := hcb 0 _ rfl
   simp at c3
   have Hst : Hid (Smp.upTo l i (k + 1) = Smp.upTo l i k ++ [⟨a, r.kind, r.basis, Smp.par a⟩]) := by
    show _ = _
    have hkl : k < l[i].codes.length := by rw [<- Hr.out]; exact hlt2
    rw [Smp.upTo_next hil hkl]
    simp only [<- Hr.out, <- ha]
    rfl
   have sc : r.cb < wr.heap.size := by omega
   have C0 := Lib.hid c0
   have C1 := Lib.hid c1
   have C2 := Lib.hid c2
   have C3 := Lib.hid c3
   have hk0' : (0 : Int) <= (k : Int) := by omega
   have hk1' : (k : Int) < (r.codes.length : Int) := by omega
   clear hcc hcb ec ha c3
   go_upto_region 9 with (fail)
   clear c0 c1 c2
   have hS : Below wr.heap.size wr wr.drew := below_drawn (Below.refl _ _) 1
   refine wp_region_held (S := Below wr.heap.size wr) (by kernel_rfl) ?_
   change wpAnyH _ _ _ _ _ _ _ _ (World.drew _)
   obtain ⟨W0, hWd⟩ : ∃ W0, W0 = wr.drew := ⟨_, rfl⟩
   rw [<- hWd] at hS ⊢
   clear hWd
   refine tk (i := 0) (v := .slice (some ⟨w.heap.size + 6, 0, none⟩) 6 6) rfl (by kernel_rfl) (fun _ _ _ h => h) (.inl ⟨by rfl, fun W' hS' => by go_simp⟩) hS ?_
   try simp only [z]
   refine tk (i := 1) (v := .int .i64 i) rfl (by kernel_rfl) (fun _ _ _ h => h) (.inl ⟨by rfl, fun W' hS' => by go_simp⟩) hS ?_
   try simp only [z]
   refine tk (i := 2) (v := .pointer (some ⟨w.heap.size + 6, i * 3, none⟩)) rfl (by kernel_rfl) (fun _ _ _ h => h) (.inl ⟨by rfl, fun W' hS' => by go_simp⟩) hS ?_
   try simp only [z]
   refine tk (i := 3) (v := .pointer (some ⟨w.heap.size + 6, i * 3 + 2, none⟩)) rfl (by kernel_rfl) (fun _ _ _ h => h) (.inl ⟨by rfl, fun W' hS' => by go_simp⟩) hS ?_
   try simp only [z]
   refine tk (i := 4) (v := .slice (some ⟨r.cb, 0, none⟩) r.codes.length r.codes.length) rfl (by kernel_rfl) (fun _ _ _ h => h) (.inl ⟨by rfl, fun W' hS' => by have hc := (hS'.cell (p := ⟨w.heap.size + 6, i * 3 + 2, none⟩) sb).trans C2.out; go_simp⟩) hS ?_
   try simp only [z]
   refine tk (i := 5) (v := .int .i64 k) rfl (by kernel_rfl) (fun _ _ _ h => h) (.inl ⟨by rfl, fun W' hS' => by go_simp⟩) hS ?_
   try simp only [z]
   refine tk (i := 6) (v := .pointer (some ⟨r.cb, k, none⟩)) rfl (by kernel_rfl) (fun _ _ _ h => h) (.inl ⟨by rfl, fun W' hS' => by go_simp⟩) hS ?_
   try simp only [z]
   refine tk (i := 7) (v := .int .i64 a) rfl (by kernel_rfl) (fun _ _ _ h => h) (.inl ⟨by rfl, fun W' hS' => by have hc := (hS'.cell (p := ⟨r.cb, k, none⟩) sc).trans C3.out; go_simp⟩) hS ?_
   try simp only [z]
   refine tk (i := 8) (v := .slice (some ⟨w.heap.size + 6, 0, none⟩) 6 6) rfl (by kernel_rfl) (fun _ _ _ h => h) (.inl ⟨by rfl, fun W' hS' => by go_simp⟩) hS ?_
   try simp only [z]
   refine tk (i := 9) (v := .int .i64 i) rfl (by kernel_rfl) (fun _ _ _ h => h) (.inl ⟨by rfl, fun W' hS' => by go_simp⟩) hS ?_
   try simp only [z]
   refine tk (i := 10) (v := .pointer (some ⟨w.heap.size + 6, i * 3, none⟩)) rfl (by kernel_rfl) (fun _ _ _ h => h) (.inl ⟨by rfl, fun W' hS' => by go_simp⟩) hS ?_
   try simp only [z]
   refine tk (i := 11) (v := .pointer (some ⟨w.heap.size + 6, i * 3, none⟩)) rfl (by kernel_rfl) (fun _ _ _ h => h) (.inl ⟨by rfl, fun W' hS' => by go_simp⟩) hS ?_
   try simp only [z]
   refine tk (i := 12) (v := .int .i64 r.kind) rfl (by kernel_rfl) (fun _ _ _ h => h) (.inl ⟨by rfl, fun W' hS' => by have hc := (hS'.cell (p := ⟨w.heap.size + 6, i * 3, none⟩) sb).trans C0.out; go_simp⟩) hS ?_
   try simp only [z]
   refine tk (i := 13) (v := .slice (some ⟨w.heap.size + 6, 0, none⟩) 6 6) rfl (by kernel_rfl) (fun _ _ _ h => h) (.inl ⟨by rfl, fun W' hS' => by go_simp⟩) hS ?_
   try simp only [z]
   refine tk (i := 14) (v := .int .i64 i) rfl (by kernel_rfl) (fun _ _ _ h => h) (.inl ⟨by rfl, fun W' hS' => by go_simp⟩) hS ?_
   try simp only [z]
   refine tk (i := 15) (v := .pointer (some ⟨w.heap.size + 6, i * 3, none⟩)) rfl (by kernel_rfl) (fun _ _ _ h => h) (.inl ⟨by rfl, fun W' hS' => by go_simp⟩) hS ?_
   try simp only [z]
   refine tk (i := 16) (v := .pointer (some ⟨w.heap.size + 6, i * 3 + 1, none⟩)) rfl (by kernel_rfl) (fun _ _ _ h => h) (.inl ⟨by rfl, fun W' hS' => by go_simp⟩) hS ?_
   try simp only [z]
   refine tk (i := 17) (v := .int .i64 r.basis) rfl (by kernel_rfl) (fun _ _ _ h => h) (.inl ⟨by rfl, fun W' hS' => by have hc := (hS'.cell (p := ⟨w.heap.size + 6, i * 3 + 1, none⟩) sb).trans C1.out; go_simp⟩) hS ?_
   try simp only [z]
   refine tk (i := 18) (v := .agg #[.int .i64 a, .int .i64 r.kind, .int .i64 r.basis, .int .i64 0]) rfl (by kernel_rfl) (fun _ _ _ h => h) (.inl ⟨by rfl, fun W' hS' => by go_simp⟩) hS ?_
   try simp only [z]
   refine wpAnyH_ready (rs := [19]) (by kernel_rfl) (by simp) (AllReadyH.cons rfl (fun K hK => ?_) AllReadyH.nil)
   obtain ⟨hBa, hrw, _⟩ := row_new W0 #[.int .i64 0, .int .i64 0, .int .i64 0, .int .i64 0] 111
   go_simp
   obtain ⟨W2, hWn⟩ : ∃ W2, W2 = W0.alloc (.cells #[.int .i64 0, .int .i64 0, .int .i64 0, .int .i64 0] 111) := ⟨_, rfl⟩
   rw [<- hWn] at hBa hrw ⊢
   clear hWn
   have hS2 := hS.trans (hBa.mono hS.size)
   refine hK.out _ _ hS2 (fun _ => ?_)
   clear hK K
   try simp only [z]
   refine wpAnyH_ready (rs := [20]) (by kernel_rfl) (by simp) (AllReadyH.cons rfl (fun K hK => ?_) AllReadyH.nil)
   rw [if_pos (by rfl)]
   refine wp_store_row 111 _ _ none rfl rfl W0.heap.size 111 _ #[.int .i64 a, .int .i64 r.kind, .int .i64 r.basis, .int .i64 0] rfl rfl hrw rfl accSize' (by simp [Value.oneCell']) ?_
   have hrw3 := setRow_heap W2 W0.heap.size _ #[.int .i64 a, .int .i64 r.kind, .int .i64 r.basis, .int .i64 0] _ _ hrw
   have hS3 := below_setRow hS2 hS.size #[.int .i64 a, .int .i64 r.kind, .int .i64 r.basis, .int .i64 0]
   refine hK.out _ _ hS3 (fun _ => ?_)
   clear hK K
   try simp only [z]
   refine wpAnyH_done (by kernel_rfl) ?_ _
   try simp only [z]
   obtain ⟨p, hp⟩ : ∃ p, p = W0.heap.size := ⟨_, rfl⟩
   have hpr : wr.heap.size <= p := by rw [hp]; exact hS.size
   rw [<- hp] at hrw3 hS3 ⊢
   obtain ⟨W3, hW3⟩ : ∃ W3, W3 = W2.setRow p #[.int .i64 a, .int .i64 r.kind, .int .i64 r.basis, .int .i64 0] := ⟨_, rfl⟩
   rw [<- hW3] at hrw3 hS3 ⊢
   clear hW3 hS2 hS hrw hBa hp C0 C1 C2 C3
   have x0 := cell_of_row _ _ 0 _ _ _ hrw3
   have x1 := cell_of_row _ _ 1 _ _ _ hrw3
   have x2 := cell_of_row _ _ 2 _ _ _ hrw3
   have x3 := cell_of_row _ _ 3 _ _ _ hrw3
   have xf := fun j => frozen_of_row _ _ j _ _ hrw3
   simp at x0 x1 x2 x3
   have hpw := some_lt hrw3
   have Hrw3 := Lib.hid hrw3
   have HS3 := Lib.hid hS3
   have hlb3 := Hlb2.out
   have hln : (Smp.upTo l i k).length + 1 <= 1000 := by omega
   by_cases h1010 : a = 1010
   ·subst h1010
    have hpar : Smp.par 1010 = 1000 := by decide
    have Hst2 : Hid (Smp.upTo l i (k + 1) = Smp.upTo l i k ++ [⟨1010, r.kind, r.basis, 1000⟩]) := by show _ = _; rw [Hst.out, hpar]
    clear hpar
    have hrw4 := heap_setCell_same W3 p 3 _ _ (.int .i64 1000) Hrw3.out
    simp at hrw4
    have hS4 := HS3.out.setCell (p := ⟨p, 3, none⟩) hpr (.int .i64 1000)
    obtain ⟨W4, hW4⟩ : ∃ W4, W4 = W3.setCell ⟨p, 3, none⟩ (.int .i64 1000) := ⟨_, rfl⟩
    rw [<- hW4] at hrw4 hS4
    have HW4 := Lib.hid hW4
    have Hrw4 := Lib.hid hrw4
    have HS4 := Lib.hid hS4
    clear hW4 hrw4 hS4
    go_upto_region 18 with (fail)
    rw [<- HW4.out]
    clear x0 x1 x2 x3 xf
    have hrg := Lib.hid (range_row (cs := [.int .i64 1010, .int .i64 r.kind, .int .i64 r.basis, .int .i64 1000]) Hrw4.out)
    have hpw4 := some_lt Hrw4.out
    have hown4 := (pOwns_below Hown2.out HS4.out).alloc (.cells #[.int .i64 1010, .int .i64 r.kind, .int .i64 r.basis, .int .i64 1000] 111)
    have hnew := cells_new W4 [.int .i64 1010, .int .i64 r.kind, .int .i64 r.basis, .int .i64 1000] 111
    have hone : ∀ u ∈ ([.int .i64 1010, .int .i64 r.kind, .int .i64 r.basis, .int .i64 1000] : List Value), u.oneCell' = true := by simp [Value.oneCell']
    have hq4 : W1.heap.size <= W4.heap.size := by have := HS4.out.size; omega
    have h63 : (Smp.upTo l i k).length + 1 <= maxLen := by unfold maxLen; omega
    have h64 : ((Smp.upTo l i k).length + 1) * 32 <= 140737488355328 := by omega
    have h65 : W1.heap.size <= (W4.alloc (.cells #[.int .i64 1010, .int .i64 r.kind, .int .i64 r.basis, .int .i64 1000] 111)).heap.size := by simp; omega
    go_wp2_with (first | (refine wpList_load_mid rfl 111 (.tmp 5) rfl p 0 rfl [.int .i64 1010, .int .i64 r.kind, .int .i64 r.basis, .int .i64 1000] _ hrg.out Tryz.underlying111 rfl accSize' ?_) | (at_builtin; refine wpList_append_own _ rfl _ _ 31 rfl W1.heap.size 111 i0 (.agg #[.int .i64 0, .int .i64 0, .int .i64 0, .int .i64 0]) 4 32 Tryz.underlying31 hi0 hz0 hz1 hz2 rfl (by decide) _ _ _ rfl hown4 ⟨W4.heap.size, 0, none⟩ 1 1 [.int .i64 1010, .int .i64 r.kind, .int .i64 r.basis, .int .i64 1000] rfl rfl hnew hone h63 h64 h65 ?_))
    intro v' w9 hown' hgrow _
    have hb9 := ((hb2.trans (HS4.out.mono hq2)).alloc hq4 (.cells #[.int .i64 1010, .int .i64 r.kind, .int .i64 r.basis, .int .i64 1000] 111)).grown hgrow h65 (own_base hown4)
    have hlb9 := Hlb2.out
    clear hnew hone hown4
    go_wp2
    go_roundw
    case rel => exact ⟨k + 1, by omega, by go_num, by rw [Hst2.out, List.length_append]; simp; omega, by rw [Hst2.out, accRow_snoc, List.length_append, hz]; exact hown', hb9⟩
    case measure => simp [intOf]; omega
   have g1010 : (a == 1010) = false := by simp [h1010]
   by_cases h1100 : a = 1100
   ·subst h1100
    have hpar : Smp.par 1100 = 1000 := by decide
    have Hst2 : Hid (Smp.upTo l i (k + 1) = Smp.upTo l i k ++ [⟨1100, r.kind, r.basis, 1000⟩]) := by show _ = _; rw [Hst.out, hpar]
    clear hpar
    have hrw4 := heap_setCell_same W3 p 3 _ _ (.int .i64 1000) Hrw3.out
    simp at hrw4
    have hS4 := HS3.out.setCell (p := ⟨p, 3, none⟩) hpr (.int .i64 1000)
    obtain ⟨W4, hW4⟩ : ∃ W4, W4 = W3.setCell ⟨p, 3, none⟩ (.int .i64 1000) := ⟨_, rfl⟩
    rw [<- hW4] at hrw4 hS4
    have HW4 := Lib.hid hW4
    have Hrw4 := Lib.hid hrw4
    have HS4 := Lib.hid hS4
    clear hW4 hrw4 hS4
    go_upto_region 18 with (fail)
    rw [<- HW4.out]
    clear x0 x1 x2 x3 xf
    have hrg := Lib.hid (range_row (cs := [.int .i64 1100, .int .i64 r.kind, .int .i64 r.basis, .int .i64 1000]) Hrw4.out)
    have hpw4 := some_lt Hrw4.out
    have hown4 := (pOwns_below Hown2.out HS4.out).alloc (.cells #[.int .i64 1100, .int .i64 r.kind, .int .i64 r.basis, .int .i64 1000] 111)
    have hnew := cells_new W4 [.int .i64 1100, .int .i64 r.kind, .int .i64 r.basis, .int .i64 1000] 111
    have hone : ∀ u ∈ ([.int .i64 1100, .int .i64 r.kind, .int .i64 r.basis, .int .i64 1000] : List Value), u.oneCell' = true := by simp [Value.oneCell']
    have hq4 : W1.heap.size <= W4.heap.size := by have := HS4.out.size; omega
    have h63 : (Smp.upTo l i k).length + 1 <= maxLen := by unfold maxLen; omega
    have h64 : ((Smp.upTo l i k).length + 1) * 32 <= 140737488355328 := by omega
    have h65 : W1.heap.size <= (W4.alloc (.cells #[.int .i64 1100, .int .i64 r.kind, .int .i64 r.basis, .int .i64 1000] 111)).heap.size := by simp; omega
    go_wp2_with (first | (refine wpList_load_mid rfl 111 (.tmp 5) rfl p 0 rfl [.int .i64 1100, .int .i64 r.kind, .int .i64 r.basis, .int .i64 1000] _ hrg.out Tryz.underlying111 rfl accSize' ?_) | (at_builtin; refine wpList_append_own _ rfl _ _ 31 rfl W1.heap.size 111 i0 (.agg #[.int .i64 0, .int .i64 0, .int .i64 0, .int .i64 0]) 4 32 Tryz.underlying31 hi0 hz0 hz1 hz2 rfl (by decide) _ _ _ rfl hown4 ⟨W4.heap.size, 0, none⟩ 1 1 [.int .i64 1100, .int .i64 r.kind, .int .i64 r.basis, .int .i64 1000] rfl rfl hnew hone h63 h64 h65 ?_))
    intro v' w9 hown' hgrow _
    have hb9 := ((hb2.trans (HS4.out.mono hq2)).alloc hq4 (.cells #[.int .i64 1100, .int .i64 r.kind, .int .i64 r.basis, .int .i64 1000] 111)).grown hgrow h65 (own_base hown4)
    have hlb9 := Hlb2.out
    clear hnew hone hown4
    go_wp2
    go_roundw
    case rel => exact ⟨k + 1, by omega, by go_num, by rw [Hst2.out, List.length_append]; simp; omega, by rw [Hst2.out, accRow_snoc, List.length_append, hz]; exact hown', hb9⟩
    case measure => simp [intOf]; omega
   have g1100 : (a == 1100) = false := by simp [h1100]
   by_cases h1200 : a = 1200
   ·subst h1200
    have hpar : Smp.par 1200 = 1000 := by decide
    have Hst2 : Hid (Smp.upTo l i (k + 1) = Smp.upTo l i k ++ [⟨1200, r.kind, r.basis, 1000⟩]) := by show _ = _; rw [Hst.out, hpar]
    clear hpar
    have hrw4 := heap_setCell_same W3 p 3 _ _ (.int .i64 1000) Hrw3.out
    simp at hrw4
    have hS4 := HS3.out.setCell (p := ⟨p, 3, none⟩) hpr (.int .i64 1000)
    obtain ⟨W4, hW4⟩ : ∃ W4, W4 = W3.setCell ⟨p, 3, none⟩ (.int .i64 1000) := ⟨_, rfl⟩
    rw [<- hW4] at hrw4 hS4
    have HW4 := Lib.hid hW4
    have Hrw4 := Lib.hid hrw4
    have HS4 := Lib.hid hS4
    clear hW4 hrw4 hS4
    go_upto_region 18 with (fail)
    rw [<- HW4.out]
    clear x0 x1 x2 x3 xf
    have hrg := Lib.hid (range_row (cs := [.int .i64 1200, .int .i64 r.kind, .int .i64 r.basis, .int .i64 1000]) Hrw4.out)
    have hpw4 := some_lt Hrw4.out
    have hown4 := (pOwns_below Hown2.out HS4.out).alloc (.cells #[.int .i64 1200, .int .i64 r.kind, .int .i64 r.basis, .int .i64 1000] 111)
    have hnew := cells_new W4 [.int .i64 1200, .int .i64 r.kind, .int .i64 r.basis, .int .i64 1000] 111
    have hone : ∀ u ∈ ([.int .i64 1200, .int .i64 r.kind, .int .i64 r.basis, .int .i64 1000] : List Value), u.oneCell' = true := by simp [Value.oneCell']
    have hq4 : W1.heap.size <= W4.heap.size := by have := HS4.out.size; omega
    have h63 : (Smp.upTo l i k).length + 1 <= maxLen := by unfold maxLen; omega
    have h64 : ((Smp.upTo l i k).length + 1) * 32 <= 140737488355328 := by omega
    have h65 : W1.heap.size <= (W4.alloc (.cells #[.int .i64 1200, .int .i64 r.kind, .int .i64 r.basis, .int .i64 1000] 111)).heap.size := by simp; omega
    go_wp2_with (first | (refine wpList_load_mid rfl 111 (.tmp 5) rfl p 0 rfl [.int .i64 1200, .int .i64 r.kind, .int .i64 r.basis, .int .i64 1000] _ hrg.out Tryz.underlying111 rfl accSize' ?_) | (at_builtin; refine wpList_append_own _ rfl _ _ 31 rfl W1.heap.size 111 i0 (.agg #[.int .i64 0, .int .i64 0, .int .i64 0, .int .i64 0]) 4 32 Tryz.underlying31 hi0 hz0 hz1 hz2 rfl (by decide) _ _ _ rfl hown4 ⟨W4.heap.size, 0, none⟩ 1 1 [.int .i64 1200, .int .i64 r.kind, .int .i64 r.basis, .int .i64 1000] rfl rfl hnew hone h63 h64 h65 ?_))
    intro v' w9 hown' hgrow _
    have hb9 := ((hb2.trans (HS4.out.mono hq2)).alloc hq4 (.cells #[.int .i64 1200, .int .i64 r.kind, .int .i64 r.basis, .int .i64 1000] 111)).grown hgrow h65 (own_base hown4)
    have hlb9 := Hlb2.out
    clear hnew hone hown4
    go_wp2
    go_roundw
    case rel => exact ⟨k + 1, by omega, by go_num, by rw [Hst2.out, List.length_append]; simp; omega, by rw [Hst2.out, accRow_snoc, List.length_append, hz]; exact hown', hb9⟩
    case measure => simp [intOf]; omega
   have g1200 : (a == 1200) = false := by simp [h1200]
   by_cases h2100 : a = 2100
   ·subst h2100
    have hpar : Smp.par 2100 = 2000 := by decide
    have Hst2 : Hid (Smp.upTo l i (k + 1) = Smp.upTo l i k ++ [⟨2100, r.kind, r.basis, 2000⟩]) := by show _ = _; rw [Hst.out, hpar]
    clear hpar
    have hrw4 := heap_setCell_same W3 p 3 _ _ (.int .i64 2000) Hrw3.out
    simp at hrw4
    have hS4 := HS3.out.setCell (p := ⟨p, 3, none⟩) hpr (.int .i64 2000)
    obtain ⟨W4, hW4⟩ : ∃ W4, W4 = W3.setCell ⟨p, 3, none⟩ (.int .i64 2000) := ⟨_, rfl⟩
    rw [<- hW4] at hrw4 hS4
    have HW4 := Lib.hid hW4
    have Hrw4 := Lib.hid hrw4
    have HS4 := Lib.hid hS4
    clear hW4 hrw4 hS4
    go_upto_region 18 with (fail)
    rw [<- HW4.out]
    clear x0 x1 x2 x3 xf
    have hrg := Lib.hid (range_row (cs := [.int .i64 2100, .int .i64 r.kind, .int .i64 r.basis, .int .i64 2000]) Hrw4.out)
    have hpw4 := some_lt Hrw4.out
    have hown4 := (pOwns_below Hown2.out HS4.out).alloc (.cells #[.int .i64 2100, .int .i64 r.kind, .int .i64 r.basis, .int .i64 2000] 111)
    have hnew := cells_new W4 [.int .i64 2100, .int .i64 r.kind, .int .i64 r.basis, .int .i64 2000] 111
    have hone : ∀ u ∈ ([.int .i64 2100, .int .i64 r.kind, .int .i64 r.basis, .int .i64 2000] : List Value), u.oneCell' = true := by simp [Value.oneCell']
    have hq4 : W1.heap.size <= W4.heap.size := by have := HS4.out.size; omega
    have h63 : (Smp.upTo l i k).length + 1 <= maxLen := by unfold maxLen; omega
    have h64 : ((Smp.upTo l i k).length + 1) * 32 <= 140737488355328 := by omega
    have h65 : W1.heap.size <= (W4.alloc (.cells #[.int .i64 2100, .int .i64 r.kind, .int .i64 r.basis, .int .i64 2000] 111)).heap.size := by simp; omega
    go_wp2_with (first | (refine wpList_load_mid rfl 111 (.tmp 5) rfl p 0 rfl [.int .i64 2100, .int .i64 r.kind, .int .i64 r.basis, .int .i64 2000] _ hrg.out Tryz.underlying111 rfl accSize' ?_) | (at_builtin; refine wpList_append_own _ rfl _ _ 31 rfl W1.heap.size 111 i0 (.agg #[.int .i64 0, .int .i64 0, .int .i64 0, .int .i64 0]) 4 32 Tryz.underlying31 hi0 hz0 hz1 hz2 rfl (by decide) _ _ _ rfl hown4 ⟨W4.heap.size, 0, none⟩ 1 1 [.int .i64 2100, .int .i64 r.kind, .int .i64 r.basis, .int .i64 2000] rfl rfl hnew hone h63 h64 h65 ?_))
    intro v' w9 hown' hgrow _
    have hb9 := ((hb2.trans (HS4.out.mono hq2)).alloc hq4 (.cells #[.int .i64 2100, .int .i64 r.kind, .int .i64 r.basis, .int .i64 2000] 111)).grown hgrow h65 (own_base hown4)
    have hlb9 := Hlb2.out
    clear hnew hone hown4
    go_wp2
    go_roundw
    case rel => exact ⟨k + 1, by omega, by go_num, by rw [Hst2.out, List.length_append]; simp; omega, by rw [Hst2.out, accRow_snoc, List.length_append, hz]; exact hown', hb9⟩
    case measure => simp [intOf]; omega
   have g2100 : (a == 2100) = false := by simp [h2100]
   by_cases h4100 : a = 4100
   ·subst h4100
    have hpar : Smp.par 4100 = 4000 := by decide
    have Hst2 : Hid (Smp.upTo l i (k + 1) = Smp.upTo l i k ++ [⟨4100, r.kind, r.basis, 4000⟩]) := by show _ = _; rw [Hst.out, hpar]
    clear hpar
    have hrw4 := heap_setCell_same W3 p 3 _ _ (.int .i64 4000) Hrw3.out
    simp at hrw4
    have hS4 := HS3.out.setCell (p := ⟨p, 3, none⟩) hpr (.int .i64 4000)
    obtain ⟨W4, hW4⟩ : ∃ W4, W4 = W3.setCell ⟨p, 3, none⟩ (.int .i64 4000) := ⟨_, rfl⟩
    rw [<- hW4] at hrw4 hS4
    have HW4 := Lib.hid hW4
    have Hrw4 := Lib.hid hrw4
    have HS4 := Lib.hid hS4
    clear hW4 hrw4 hS4
    go_upto_region 18 with (fail)
    rw [<- HW4.out]
    clear x0 x1 x2 x3 xf
    have hrg := Lib.hid (range_row (cs := [.int .i64 4100, .int .i64 r.kind, .int .i64 r.basis, .int .i64 4000]) Hrw4.out)
    have hpw4 := some_lt Hrw4.out
    have hown4 := (pOwns_below Hown2.out HS4.out).alloc (.cells #[.int .i64 4100, .int .i64 r.kind, .int .i64 r.basis, .int .i64 4000] 111)
    have hnew := cells_new W4 [.int .i64 4100, .int .i64 r.kind, .int .i64 r.basis, .int .i64 4000] 111
    have hone : ∀ u ∈ ([.int .i64 4100, .int .i64 r.kind, .int .i64 r.basis, .int .i64 4000] : List Value), u.oneCell' = true := by simp [Value.oneCell']
    have hq4 : W1.heap.size <= W4.heap.size := by have := HS4.out.size; omega
    have h63 : (Smp.upTo l i k).length + 1 <= maxLen := by unfold maxLen; omega
    have h64 : ((Smp.upTo l i k).length + 1) * 32 <= 140737488355328 := by omega
    have h65 : W1.heap.size <= (W4.alloc (.cells #[.int .i64 4100, .int .i64 r.kind, .int .i64 r.basis, .int .i64 4000] 111)).heap.size := by simp; omega
    go_wp2_with (first | (refine wpList_load_mid rfl 111 (.tmp 5) rfl p 0 rfl [.int .i64 4100, .int .i64 r.kind, .int .i64 r.basis, .int .i64 4000] _ hrg.out Tryz.underlying111 rfl accSize' ?_) | (at_builtin; refine wpList_append_own _ rfl _ _ 31 rfl W1.heap.size 111 i0 (.agg #[.int .i64 0, .int .i64 0, .int .i64 0, .int .i64 0]) 4 32 Tryz.underlying31 hi0 hz0 hz1 hz2 rfl (by decide) _ _ _ rfl hown4 ⟨W4.heap.size, 0, none⟩ 1 1 [.int .i64 4100, .int .i64 r.kind, .int .i64 r.basis, .int .i64 4000] rfl rfl hnew hone h63 h64 h65 ?_))
    intro v' w9 hown' hgrow _
    have hb9 := ((hb2.trans (HS4.out.mono hq2)).alloc hq4 (.cells #[.int .i64 4100, .int .i64 r.kind, .int .i64 r.basis, .int .i64 4000] 111)).grown hgrow h65 (own_base hown4)
    have hlb9 := Hlb2.out
    clear hnew hone hown4
    go_wp2
    go_roundw
    case rel => exact ⟨k + 1, by omega, by go_num, by rw [Hst2.out, List.length_append]; simp; omega, by rw [Hst2.out, accRow_snoc, List.length_append, hz]; exact hown', hb9⟩
    case measure => simp [intOf]; omega
   have g4100 : (a == 4100) = false := by simp [h4100]
   have hpar : Smp.par a = 0 := by simp [Smp.par, h1010, h1100, h1200, h2100, h4100]
   have Hst2 : Hid (Smp.upTo l i (k + 1) = Smp.upTo l i k ++ [⟨a, r.kind, r.basis, 0⟩]) := by show _ = _; rw [Hst.out, hpar]
   clear hpar
   have Hrw4 := Hrw3
   have HS4 := HS3
   obtain ⟨W4, hW4⟩ : ∃ W4, W4 = W3 := ⟨_, rfl⟩
   rw [<- hW4] at Hrw4 HS4
   have HW4 := Lib.hid hW4
   clear hW4
   go_upto_region 18 with (fail)
   rw [<- HW4.out]
   clear x0 x1 x2 x3 xf
   have hrg := Lib.hid (range_row (cs := [.int .i64 a, .int .i64 r.kind, .int .i64 r.basis, .int .i64 0]) Hrw4.out)
   have hpw4 := some_lt Hrw4.out
   have hown4 := (pOwns_below Hown2.out HS4.out).alloc (.cells #[.int .i64 a, .int .i64 r.kind, .int .i64 r.basis, .int .i64 0] 111)
   have hnew := cells_new W4 [.int .i64 a, .int .i64 r.kind, .int .i64 r.basis, .int .i64 0] 111
   have hone : ∀ u ∈ ([.int .i64 a, .int .i64 r.kind, .int .i64 r.basis, .int .i64 0] : List Value), u.oneCell' = true := by simp [Value.oneCell']
   have hq4 : W1.heap.size <= W4.heap.size := by have := HS4.out.size; omega
   have h63 : (Smp.upTo l i k).length + 1 <= maxLen := by unfold maxLen; omega
   have h64 : ((Smp.upTo l i k).length + 1) * 32 <= 140737488355328 := by omega
   have h65 : W1.heap.size <= (W4.alloc (.cells #[.int .i64 a, .int .i64 r.kind, .int .i64 r.basis, .int .i64 0] 111)).heap.size := by simp; omega
   go_wp2_with (first | (refine wpList_load_mid rfl 111 (.tmp 5) rfl p 0 rfl [.int .i64 a, .int .i64 r.kind, .int .i64 r.basis, .int .i64 0] _ hrg.out Tryz.underlying111 rfl accSize' ?_) | (at_builtin; refine wpList_append_own _ rfl _ _ 31 rfl W1.heap.size 111 i0 (.agg #[.int .i64 0, .int .i64 0, .int .i64 0, .int .i64 0]) 4 32 Tryz.underlying31 hi0 hz0 hz1 hz2 rfl (by decide) _ _ _ rfl hown4 ⟨W4.heap.size, 0, none⟩ 1 1 [.int .i64 a, .int .i64 r.kind, .int .i64 r.basis, .int .i64 0] rfl rfl hnew hone h63 h64 h65 ?_))
   intro v' w9 hown' hgrow _
   have hb9 := ((hb2.trans (HS4.out.mono hq2)).alloc hq4 (.cells #[.int .i64 a, .int .i64 r.kind, .int .i64 r.basis, .int .i64 0] 111)).grown hgrow h65 (own_base hown4)
   have hlb9 := Hlb2.out
   clear hnew hone hown4
   go_wp2
   go_roundw
   case rel => exact ⟨k + 1, by omega, by go_num, by rw [Hst2.out, List.length_append]; simp; omega, by rw [Hst2.out, accRow_snoc, List.length_append, hz]; exact hown', hb9⟩
   case measure => simp [intOf]; omega
end
end Go.Proofs.YtobnfmneeabomaaGreat
