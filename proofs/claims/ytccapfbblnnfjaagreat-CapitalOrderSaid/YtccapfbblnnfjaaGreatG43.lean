/- My texts SmpE. -/
import Derived.Test.YtccapfbblnnfjaaGreatG20
import Derived.Test.YtccapfbblnnfjaaGreatG41
import Derived.Test.YtccapfbblnnfjaaGreatG42
set_option linter.unusedVariables false
set_option linter.unusedSimpArgs false
set_option maxRecDepth 100000
set_option maxHeartbeats 8000000
namespace Go.Proofs.YtccapfbblnnfjaaGreat
open Go.RowKit
namespace Smp
def tos : List Int := [1010, 1100, 1200, 1300, 1500, 2000, 2100, 3000, 3300, 4000, 4100, 4700, 5000, 5100]
def kinds : List Int := [1, 1, 1, 1, 1, 2, 2, 3, 3, 4, 4, 4, 5, 5]
def echart : List Acc := (List.range 14).map (fun (i : Nat) => ⟨10 * ((i : Int) + 1), kinds.getD i 0, 0, 0⟩)
def elinks : List Lnk := (List.range 14).map (fun (i : Nat) => ⟨10 * ((i : Int) + 1), tos.getD i 0, -25567⟩)
theorem echart_at {i : Nat} (h : i < 14) : echart.take (i + 1) = echart.take i ++ [⟨10 * ((i : Int) + 1), kinds.getD i 0, 0, 0⟩] := by
 have hl : i < echart.length := h
 rw [List.take_succ_eq_append_getElem hl]
 simp [echart]
theorem elinks_at {i : Nat} (h : i < 14) : elinks.take (i + 1) = elinks.take i ++ [⟨10 * ((i : Int) + 1), tos.getD i 0, -25567⟩] := by
 have hl : i < elinks.length := h
 rw [List.take_succ_eq_append_getElem hl]
 simp [elinks]
end Smp
def lnkRow (l : List Lnk) : List Value := l.flatMap Lnk.cells
theorem lnkRow_snoc (l : List Lnk) (x : Lnk) : lnkRow (l ++ [x]) = lnkRow l ++ x.cells := by simp [lnkRow]
theorem lnkInfo : (Tryz.prog.info? 156).map (fun i => (i.zero, i.size, i.bytes)) = some (some (.agg #[.int .i64 0, .int .i64 0, .int .i64 0]), 3, 24) := by kernel_rfl
theorem own_ne_type {W : World} {b1 b2 s1 s2 n1 n2 : Nat} {v1 v2 : Value} {e1 e2 : TypeId} {x1 x2 : List Value} (h1 : W.ownsRow b1 e1 s1 v1 n1 x1) (h2 : W.ownsRow b2 e2 s2 v2 n2 x2) (he : e1 ≠ e2) : v1.ownBlock = none ∨ v1.ownBlock ≠ v2.ownBlock := by
 rcases h1.2 with ⟨rfl, _⟩ | ⟨g, cap, cur, rfl, _, hg, _⟩
 ·exact .inl rfl
 ·rcases h2.2 with ⟨rfl, _⟩ | ⟨g', cap', cur', rfl, _, hg', _⟩
  ·right; simp [Value.ownBlock]
  ·right
   simp only [Value.ownBlock, ne_eq, Option.some.injEq]
   intro e
   subst e
   rw [hg] at hg'
   cases hg'
   exact he rfl
theorem own_one {W : World} {b s n : Nat} {v : Value} {e : TypeId} {x : List Value} (h : W.ownsRow b e s v n x) : ∃ A c, v = .slice A n c := by
 rcases h.2 with ⟨rfl, rfl⟩ | ⟨g, cap, cur, rfl, _⟩
 ·exact ⟨_, _, rfl⟩
 ·exact ⟨_, _, rfl⟩
theorem grown_refl' (w : World) {row : Option Nat} : w.grownBy w row := ⟨rfl, rfl, rfl, Nat.le_refl _, fun _ _ _ => rfl⟩
theorem grown_set {a w : World} {g : Nat} (h : a.grownBy w (some g)) (i : Nat) (u : Value) : a.grownBy (w.setCell ⟨g, i, none⟩ u) (some g) :=
 ⟨h.os, h.tape, h.output, by simpa [World.setCell] using h.size, fun k hk hne => (Below.heap_setCell w ⟨g, i, none⟩ u k (fun e => hne (by rw [e]))).trans (h.block k hk hne)⟩
theorem own_ne_box {W : World} {n s m : Nat} {v : Value} {e : TypeId} {x : List Value} (h : W.ownsRow (n + 4) e s v m x) : v.ownBlock = none ∨ v.ownBlock ≠ some (n + 3) := by
 rcases h.2 with ⟨rfl, _⟩ | ⟨g, cap, cur, rfl, hg, _⟩
 ·exact .inl rfl
 ·right; simp [Value.ownBlock]; omega
def SampleEntPost (name cur : ByteArray) (w : World) (e : Ending) (w' : World) : Prop := Below w.heap.size w w' /\ ∃ A c L d, e = .returned (.agg #[.string name, .string cur, .slice A 14 c, .slice L 14 d, .bool false]) /\ Fresh w.heap.size A /\ Fresh w.heap.size L /\ AccsAt w' w'.heap.size A Smp.echart /\ LnksAt w' w'.heap.size L Smp.elinks
section
variable (w : World)
theorem sent_any (name cur : ByteArray) : Calls Tryz.prog 59 #[.string name, .string cur] w (SampleEntPost name cur w) := by
 obtain ⟨ia, hia, ha0, ha1, ha2⟩ := info_parts accInfo
 obtain ⟨il, hil, hl0, hl1, hl2⟩ := info_parts lnkInfo
 obtain ⟨hB1, hz, hblk⟩ := allocs_spec [(.cells #[.string ⟨#[]⟩, .string ⟨#[]⟩, .slice none 0 0, .slice none 0 0, .bool false] 106), (.cells #[.int .i64 1010, .int .i64 1100, .int .i64 1200, .int .i64 1300, .int .i64 1500, .int .i64 2000, .int .i64 2100, .int .i64 3000, .int .i64 3300, .int .i64 4000, .int .i64 4100, .int .i64 4700, .int .i64 5000, .int .i64 5100] 3), (.cells #[.int .i64 1, .int .i64 1, .int .i64 1, .int .i64 1, .int .i64 1, .int .i64 2, .int .i64 2, .int .i64 3, .int .i64 3, .int .i64 4, .int .i64 4, .int .i64 4, .int .i64 5, .int .i64 5] 3), (.cells #[.string name, .string cur, .slice none 0 0, .slice none 0 0, .bool false] 106)] w
 change Below w.heap.size w ((((w.alloc (.cells #[.string ⟨#[]⟩, .string ⟨#[]⟩, .slice none 0 0, .slice none 0 0, .bool false] 106)).alloc (.cells #[.int .i64 1010, .int .i64 1100, .int .i64 1200, .int .i64 1300, .int .i64 1500, .int .i64 2000, .int .i64 2100, .int .i64 3000, .int .i64 3300, .int .i64 4000, .int .i64 4100, .int .i64 4700, .int .i64 5000, .int .i64 5100] 3)).alloc (.cells #[.int .i64 1, .int .i64 1, .int .i64 1, .int .i64 1, .int .i64 1, .int .i64 2, .int .i64 2, .int .i64 3, .int .i64 3, .int .i64 4, .int .i64 4, .int .i64 4, .int .i64 5, .int .i64 5] 3)).alloc (.cells #[.string name, .string cur, .slice none 0 0, .slice none 0 0, .bool false] 106)) at hB1
 change ((((w.alloc (.cells #[.string ⟨#[]⟩, .string ⟨#[]⟩, .slice none 0 0, .slice none 0 0, .bool false] 106)).alloc (.cells #[.int .i64 1010, .int .i64 1100, .int .i64 1200, .int .i64 1300, .int .i64 1500, .int .i64 2000, .int .i64 2100, .int .i64 3000, .int .i64 3300, .int .i64 4000, .int .i64 4100, .int .i64 4700, .int .i64 5000, .int .i64 5100] 3)).alloc (.cells #[.int .i64 1, .int .i64 1, .int .i64 1, .int .i64 1, .int .i64 1, .int .i64 2, .int .i64 2, .int .i64 3, .int .i64 3, .int .i64 4, .int .i64 4, .int .i64 4, .int .i64 5, .int .i64 5] 3)).alloc (.cells #[.string name, .string cur, .slice none 0 0, .slice none 0 0, .bool false] 106)).heap.size = w.heap.size + 4 at hz
 change ∀ (i : Nat) (o : Obj), _ -> ((((w.alloc (.cells #[.string ⟨#[]⟩, .string ⟨#[]⟩, .slice none 0 0, .slice none 0 0, .bool false] 106)).alloc (.cells #[.int .i64 1010, .int .i64 1100, .int .i64 1200, .int .i64 1300, .int .i64 1500, .int .i64 2000, .int .i64 2100, .int .i64 3000, .int .i64 3300, .int .i64 4000, .int .i64 4100, .int .i64 4700, .int .i64 5000, .int .i64 5100] 3)).alloc (.cells #[.int .i64 1, .int .i64 1, .int .i64 1, .int .i64 1, .int .i64 1, .int .i64 2, .int .i64 2, .int .i64 3, .int .i64 3, .int .i64 4, .int .i64 4, .int .i64 4, .int .i64 5, .int .i64 5] 3)).alloc (.cells #[.string name, .string cur, .slice none 0 0, .slice none 0 0, .bool false] 106)).heap[w.heap.size + i]? = some o at hblk
 obtain ⟨W1, hW1⟩ : ∃ W1, W1 = ((((w.alloc (.cells #[.string ⟨#[]⟩, .string ⟨#[]⟩, .slice none 0 0, .slice none 0 0, .bool false] 106)).alloc (.cells #[.int .i64 1010, .int .i64 1100, .int .i64 1200, .int .i64 1300, .int .i64 1500, .int .i64 2000, .int .i64 2100, .int .i64 3000, .int .i64 3300, .int .i64 4000, .int .i64 4100, .int .i64 4700, .int .i64 5000, .int .i64 5100] 3)).alloc (.cells #[.int .i64 1, .int .i64 1, .int .i64 1, .int .i64 1, .int .i64 1, .int .i64 2, .int .i64 2, .int .i64 3, .int .i64 3, .int .i64 4, .int .i64 4, .int .i64 4, .int .i64 5, .int .i64 5] 3)).alloc (.cells #[.string name, .string cur, .slice none 0 0, .slice none 0 0, .bool false] 106)) := ⟨_, rfl⟩
 rw [<- hW1] at hB1 hz hblk
 have HW1 := Lib.hid hW1
 have Hres := Lib.hid (show W1.heap[w.heap.size]? = some _ from hblk 0 _ rfl)
 have Hto := Lib.hid (hblk 1 _ rfl)
 have Hkd := Lib.hid (hblk 2 _ rfl)
 have Hbox := Lib.hid (hblk 3 _ rfl)
 have Hz := Lib.hid hz
 have HB1 := Lib.hid hB1
 have hkc : ∀ (W : World) (i : Nat), Below (w.heap.size + 3) W1 W -> i < 14 -> W.cell? ⟨w.heap.size + 2, i, none⟩ = some (.int .i64 (Smp.kinds.getD i 0)) := fun W i hW hi => by
  rw [hW.cell (p := ⟨w.heap.size + 2, i, none⟩) (by show w.heap.size + 2 < _; omega), cell_of_row _ _ _ _ _ _ Hkd.out]
  match i, hi with
  | 0, _ => rfl
  | 1, _ => rfl
  | 2, _ => rfl
  | 3, _ => rfl
  | 4, _ => rfl
  | 5, _ => rfl
  | 6, _ => rfl
  | 7, _ => rfl
  | 8, _ => rfl
  | 9, _ => rfl
  | 10, _ => rfl
  | 11, _ => rfl
  | 12, _ => rfl
  | 13, _ => rfl
 have htc : ∀ (W : World) (i : Nat), Below (w.heap.size + 3) W1 W -> i < 14 -> W.cell? ⟨w.heap.size + 1, i, none⟩ = some (.int .i64 (Smp.tos.getD i 0)) := fun W i hW hi => by
  rw [hW.cell (p := ⟨w.heap.size + 1, i, none⟩) (by show w.heap.size + 1 < _; omega), cell_of_row _ _ _ _ _ _ Hto.out]
  match i, hi with
  | 0, _ => rfl
  | 1, _ => rfl
  | 2, _ => rfl
  | 3, _ => rfl
  | 4, _ => rfl
  | 5, _ => rfl
  | 6, _ => rfl
  | 7, _ => rfl
  | 8, _ => rfl
  | 9, _ => rfl
  | 10, _ => rfl
  | 11, _ => rfl
  | 12, _ => rfl
  | 13, _ => rfl
 have Hkc := Lib.hid hkc
 have Htc := Lib.hid htc
 clear hW1 hblk hz hB1 hkc htc
 go_enter Tryz.func59, Tryz.ntmps59
 go_upto_region 4 with (fail)
 rw [<- HW1.out]
 go_wp2
 go_loopw [8] (fun s wr => ∃ (i : Nat) (v1 v2 : Value), i <= 14 /\ s = .int .i64 i /\ wr.heap[w.heap.size + 3]? = some (.cells #[.string name, .string cur, v1, v2, .bool false] 106 (0, 0)) /\
  wr.ownsRow (w.heap.size + 4) 132 4 v1 i (accRow (Smp.echart.take i)) /\ wr.ownsRow (w.heap.size + 4) 156 3 v2 i (lnkRow (Smp.elinks.take i)) /\ Below (w.heap.size + 3) W1 wr) (fun s _ => 14 - (intOf s).toNat)
 case atStart => exact ⟨0, _, _, by omega, rfl, Hbox.out, World.ownsRow_nil _ _ _ _, World.ownsRow_nil _ _ _ _, Below.refl _ _⟩
 case round =>
  obtain ⟨i, v1, v2, hi, rfl, hbx, how1, how2, hb⟩ := hrel
  have Hbx := Lib.hid hbx
  have Hown1 := Lib.hid how1
  have Hown2 := Lib.hid how2
  have hqq := some_lt hbx
  clear hbx how1 how2
  by_cases hlt : i < 14
  case neg =>
   obtain rfl : i = 14 := by omega
   have x2 := Hbx.out
   obtain ⟨A1, c1, rfl⟩ := own_one Hown1.out
   obtain ⟨A2, c2, rfl⟩ := own_one Hown2.out
   have o1 := Hown1.out
   have o2 := Hown2.out
   rw [show Smp.echart.take 14 = Smp.echart from rfl] at o1
   rw [show Smp.elinks.take 14 = Smp.elinks from rfl] at o2
   obtain ⟨A1', c1', e1, r1⟩ := own_flat (f := Acc.cells) (by decide) (fun _ => rfl) o1 rfl
   obtain ⟨A2', c2', e2, r2⟩ := own_flat (f := Lnk.cells) (by decide) (fun _ => rfl) o2 rfl
   cases e1
   cases e2
   have f1 := own_fresh o1
   have f2 := own_fresh o2
   have hrg := Lib.hid (range_row (cs := [.string name, .string cur, .slice A1 14 c1, .slice A2 14 c2, .bool false]) x2)
   have hres := (hb.block w.heap.size (by omega)).trans Hres.out
   have Hr := Lib.hid hres
   have hR := setRow_heap wr w.heap.size _ #[.string name, .string cur, .slice A1 14 c1, .slice A2 14 c2, .bool false] _ _ hres
   have hload := Lib.hid (run_loadVar_row (P := Tryz.prog) _ _ _ 106 _ _ _ hR Tryz.underlying106 rfl entSize)
   have Ho : Hid ((#[.string name, .string cur, .slice A1 14 c1, .slice A2 14 c2, .bool false] : Array Value).all (·.oneCell') = true) := by show _ = true; simp [Value.oneCell']
   have hbw := HB1.out.trans (hb.mono (show w.heap.size <= w.heap.size + 3 by omega))
   have hBF := Lib.hid (below_setRow hbw (Nat.le_refl _) #[.string name, .string cur, .slice A1 14 c1, .slice A2 14 c2, .bool false])
   have R1 := Lib.hid (RowsAt.other_row r1 f1 (show w.heap.size < w.heap.size + 4 by omega) #[.string name, .string cur, .slice A1 14 c1, .slice A2 14 c2, .bool false])
   have R2 := Lib.hid (RowsAt.other_row r2 f2 (show w.heap.size < w.heap.size + 4 by omega) #[.string name, .string cur, .slice A1 14 c1, .slice A2 14 c2, .bool false])
   have F1 := Lib.hid f1
   have F2 := Lib.hid f2
   clear o1 o2 r1 r2 f1 f2 x2 hres hR hbw
   go_wp2_with (first | (refine wpList_load_mid rfl 106 (.tmp 7) rfl (w.heap.size + 3) 0 rfl [.string name, .string cur, .slice A1 14 c1, .slice A2 14 c2, .bool false] _ hrg.out Tryz.underlying106 rfl entSize ?_) | (refine wpList_store_row rfl 106 (.tmp 4) (.tmp 46) none rfl rfl w.heap.size 106 _ #[.string name, .string cur, .slice A1 14 c1, .slice A2 14 c2, .bool false] rfl rfl Hr.out rfl entSize Ho.out ?_))
   exact bodyPost_ret (v := .agg #[.string name, .string cur, .slice A1 14 c1, .slice A2 14 c2, .bool false]) (by simp [results, Tryz.results59, asAddr, Act.put, hload.out]) rfl ⟨hBF.out, A1, c1, A2, c2, rfl, (fun ad h => Nat.le_trans (by omega) (F1.out ad h)), (fun ad h => Nat.le_trans (by omega) (F2.out ad h)), R1.out, R2.out⟩
  have hi0' : (0 : Int) <= (i : Int) := by omega
  have hi1' : (i : Int) < 14 := by omega
  have hw1 : IntKind.i64.wrap ((i : Int) + 1) = (i : Int) + 1 := by rw [IntKind.wrap_i64]; omega
  have hw2 : IntKind.i64.wrap (10 * ((i : Int) + 1)) = 10 * ((i : Int) + 1) := by rw [IntKind.wrap_i64]; omega
  have hw3 : wrap64 ((i : Int) + 1) = (i : Int) + 1 := IntWalk.wrap64_in _ (by omega)
  have hw4 : wrap64 (10 * ((i : Int) + 1)) = 10 * ((i : Int) + 1) := IntWalk.wrap64_in _ (by omega)
  obtain ⟨kd, hkd⟩ : ∃ kd, kd = Smp.kinds.getD i 0 := ⟨_, rfl⟩
  obtain ⟨td, htd⟩ : ∃ td, td = Smp.tos.getD i 0 := ⟨_, rfl⟩
  have hck : ∀ W, Below (w.heap.size + 3) W1 W -> W.cell? ⟨w.heap.size + 2, i, none⟩ = some (.int .i64 kd) := fun W hW => by rw [hkd]; exact Hkc.out W i hW hlt
  have hct : ∀ W, Below (w.heap.size + 3) W1 W -> W.cell? ⟨w.heap.size + 1, i, none⟩ = some (.int .i64 td) := fun W hW => by rw [htd]; exact Htc.out W i hW hlt
  have HEa : Hid (Smp.echart.take (i + 1) = Smp.echart.take i ++ [⟨10 * ((i : Int) + 1), kd, 0, 0⟩]) := by show _ = _; rw [hkd]; exact Smp.echart_at hlt
  have HEl : Hid (Smp.elinks.take (i + 1) = Smp.elinks.take i ++ [⟨10 * ((i : Int) + 1), td, -25567⟩]) := by show _ = _; rw [htd]; exact Smp.elinks_at hlt
  have Hck := Lib.hid hck
  have Hct := Lib.hid hct
  clear hkd htd hck hct
  have hbA := hb
  go_upto_region 7 with (fail)
  have hSA : Below (w.heap.size + 3) W1 wr.drew := below_drawn hbA 1
  have hVA : Below wr.heap.size wr wr.drew := below_drawn (Below.refl _ _) 1
  refine wp_region_held (S := Below (w.heap.size + 3) W1) (by kernel_rfl) ?_
  change wpAnyH _ _ _ _ _ _ _ _ (World.drew wr)
  obtain ⟨W0A, hWd⟩ : ∃ W0, W0 = wr.drew := ⟨_, rfl⟩
  rw [<- hWd] at hSA hVA ⊢
  clear hWd
  refine tk (i := 0) (v := .pointer (some ⟨w.heap.size + 3, 2, none⟩)) rfl (by kernel_rfl) (fun _ _ _ h => h) (.inl ⟨by rfl, fun W' hS' => by go_simp⟩) hSA ?_
  try simp only [z]
  refine tk (i := 2) (v := .int .i64 i) rfl (by kernel_rfl) (fun _ _ _ h => h) (.inl ⟨by rfl, fun W' hS' => by go_simp⟩) hSA ?_
  try simp only [z]
  refine tk (i := 3) (v := .int .i64 ((i : Int) + 1)) rfl (by kernel_rfl) (fun _ _ _ h => h) (.inl ⟨by rfl, fun W' hS' => by go_simp⟩) hSA ?_
  try simp only [z]
  refine tk (i := 4) (v := .int .i64 (10 * ((i : Int) + 1))) rfl (by kernel_rfl) (fun _ _ _ h => h) (.inl ⟨by rfl, fun W' hS' => by go_simp⟩) hSA ?_
  try simp only [z]
  refine tk (i := 5) (v := .slice (some ⟨w.heap.size + 2, 0, none⟩) 14 14) rfl (by kernel_rfl) (fun _ _ _ h => h) (.inl ⟨by rfl, fun W' hS' => by go_simp⟩) hSA ?_
  try simp only [z]
  refine tk (i := 6) (v := .int .i64 i) rfl (by kernel_rfl) (fun _ _ _ h => h) (.inl ⟨by rfl, fun W' hS' => by go_simp⟩) hSA ?_
  try simp only [z]
  refine tk (i := 7) (v := .pointer (some ⟨w.heap.size + 2, i, none⟩)) rfl (by kernel_rfl) (fun _ _ _ h => h) (.inl ⟨by rfl, fun W' hS' => by go_simp⟩) hSA ?_
  try simp only [z]
  refine tk (i := 8) (v := .int .i64 (kd)) rfl (by kernel_rfl) (fun _ _ _ h => h) (.inl ⟨by rfl, fun W' hS' => by have hc := Hck.out W' hS'; go_simp⟩) hSA ?_
  try simp only [z]
  refine tk (i := 9) (v := .agg #[.int .i64 (10 * ((i : Int) + 1)), .int .i64 kd, .int .i64 0, .int .i64 0]) rfl (by kernel_rfl) (fun _ _ _ h => h) (.inl ⟨by rfl, fun W' hS' => by go_simp⟩) hSA ?_
  try simp only [z]
  refine wpAnyH_letters fun md' ops' Q' a' hlm hlo hlq hla => ?_
  have fin : ∀ (W' : World) (p : Nat), Below wr.heap.size wr W' -> Below (w.heap.size + 3) W1 W' -> W'.heap[p]? = some (.cells #[.int .i64 (10 * ((i : Int) + 1)), .int .i64 kd, .int .i64 0, .int .i64 0] 132 (0, 0)) -> wpAnyH Tryz.prog md' ops' Q' (Below (w.heap.size + 3) W1) 3 #[true, true, true, true, true, true, true, true, true, true, true, false, false, false] ((a'.put (some 21) v1).put (some 30) (.slice (some ⟨p, 0, none⟩) 1 1)) W' := by
   intro W' p hV hS hrw
   subst hlm hlo hlq hla
   try simp only [z]
   have how := pOwns_below Hown1.out hV
   have hoo := pOwns_below Hown2.out hV
   have hbx := gbox Hbx.out hV (some_lt Hbx.out)
   have hnew : ∀ j u, ([.int .i64 (10 * ((i : Int) + 1)), .int .i64 kd, .int .i64 0, .int .i64 0] : List Value)[j]? = some u -> W'.cell? ((⟨p, 0, none⟩ : Addr).add j) = some u := fun j u hj => by rw [Addr.add_mid, Nat.zero_add, cell_of_row _ _ _ _ _ _ hrw]; simpa using hj
   have hone : ∀ u ∈ ([.int .i64 (10 * ((i : Int) + 1)), .int .i64 kd, .int .i64 0, .int .i64 0] : List Value), u.oneCell' = true := by simp [Value.oneCell']
   have h65 : w.heap.size + 4 <= W'.heap.size := some_lt hbx
   refine wpAnyH_ready (rs := [11]) (by kernel_rfl) (by simp) (AllReadyH.cons rfl (fun K hK => ?_) AllReadyH.nil)
   refine wp_append_own W' _ _ 24 rfl (w.heap.size + 4) 132 ia (.agg #[.int .i64 0, .int .i64 0, .int .i64 0, .int .i64 0]) 4 32 Tryz.underlying24 hia ha0 ha1 ha2 rfl (by decide) v1 i _ rfl how ⟨p, 0, none⟩ 1 1 [.int .i64 (10 * ((i : Int) + 1)), .int .i64 kd, .int .i64 0, .int .i64 0] rfl rfl hnew hone (by unfold maxLen; omega) (by omega) h65 ?_
   intro v' W4 hown' hgrow _
   have hS4 := hS.grown hgrow (by omega) (fun k hk => Nat.le_trans (by omega) (own_base how k hk))
   have hbx4 := (hgrow.block _ (some_lt hbx) (fun e' => row_not (t := 106) how e'.symm hbx (by decide))).trans hbx
   have hoo4 := hoo.kept hgrow (own_ne_type hoo how (by decide))
   refine hK.out _ _ hS4 (fun _ => ?_)
   clear hK K
   try simp only [z]
   clear hnew hone how hoo hbx hrw
   refine tk (i := 12) (v := .pointer (some ⟨w.heap.size + 3, 2, none⟩)) rfl (by kernel_rfl) (fun _ _ _ h => h) (.inl ⟨by rfl, fun W' hS' => by go_simp⟩) hS4 ?_
   try simp only [z]
   refine wpAnyH_ready (rs := [13]) (by kernel_rfl) (by simp) (AllReadyH.cons rfl (fun K hK => ?_) AllReadyH.nil)
   have xc := cell_of_row _ _ 2 _ _ _ hbx4
   have xf := fun j => frozen_of_row _ _ j _ _ hbx4
   simp at xc
   have xlt := some_lt hbx4
   have hbx5 := heap_setCell_same W4 (w.heap.size + 3) 2 _ _ v' hbx4
   simp at hbx5
   have hS5 := hS4.setCell (p := ⟨w.heap.size + 3, 2, none⟩) (Nat.le_refl _) v'
   have own5 := hown'.kept (row := some (w.heap.size + 3)) (grown_set (grown_refl' W4) 2 v') (own_ne_box hown')
   have oth5 := hoo4.kept (row := some (w.heap.size + 3)) (grown_set (grown_refl' W4) 2 v') (own_ne_box hoo4)
   obtain ⟨Av, cv, rfl⟩ := own_one hown'
   go_simp
   obtain ⟨W5, hW5⟩ : ∃ W5, W5 = W4.setCell ⟨w.heap.size + 3, 2, none⟩ (.slice Av (i + 1) cv) := ⟨_, rfl⟩
   rw [<- hW5] at hbx5 hS5 own5 oth5 ⊢
   clear hW5
   refine hK.out _ _ hS5 (fun _ => ?_)
   clear hK K
   try simp only [z]
   refine wpAnyH_done (by kernel_rfl) ?_ _
   try simp only [z]
   have own6 : W5.ownsRow (w.heap.size + 4) 132 4 (.slice Av (i + 1) cv) (i + 1) (accRow (Smp.echart.take (i + 1))) := by rw [HEa.out, accRow_snoc]; exact own5
   have Hbx5 := Lib.hid hbx5
   have Hown6 := Lib.hid own6
   have Hoth5 := Lib.hid oth5
   clear hbx5 own5 own6 oth5 hown' hgrow hS4 hbx4 hoo4 xc xf xlt
   have hbB := hS5
   have hqB := some_lt Hbx5.out
   go_upto_region 8 with (fail)
   have hSB : Below (w.heap.size + 3) W1 W5.drew := below_drawn hbB 1
   have hVB : Below W5.heap.size W5 W5.drew := below_drawn (Below.refl _ _) 1
   refine wp_region_held (S := Below (w.heap.size + 3) W1) (by kernel_rfl) ?_
   change wpAnyH _ _ _ _ _ _ _ _ (World.drew W5)
   obtain ⟨W0B, hWd⟩ : ∃ W0, W0 = W5.drew := ⟨_, rfl⟩
   rw [<- hWd] at hSB hVB ⊢
   clear hWd
   refine tk (i := 0) (v := .pointer (some ⟨w.heap.size + 3, 3, none⟩)) rfl (by kernel_rfl) (fun _ _ _ h => h) (.inl ⟨by rfl, fun W' hS' => by go_simp⟩) hSB ?_
   try simp only [z]
   refine tk (i := 2) (v := .int .i64 i) rfl (by kernel_rfl) (fun _ _ _ h => h) (.inl ⟨by rfl, fun W' hS' => by go_simp⟩) hSB ?_
   try simp only [z]
   refine tk (i := 3) (v := .int .i64 ((i : Int) + 1)) rfl (by kernel_rfl) (fun _ _ _ h => h) (.inl ⟨by rfl, fun W' hS' => by go_simp⟩) hSB ?_
   try simp only [z]
   refine tk (i := 4) (v := .int .i64 (10 * ((i : Int) + 1))) rfl (by kernel_rfl) (fun _ _ _ h => h) (.inl ⟨by rfl, fun W' hS' => by go_simp⟩) hSB ?_
   try simp only [z]
   refine tk (i := 5) (v := .slice (some ⟨w.heap.size + 1, 0, none⟩) 14 14) rfl (by kernel_rfl) (fun _ _ _ h => h) (.inl ⟨by rfl, fun W' hS' => by go_simp⟩) hSB ?_
   try simp only [z]
   refine tk (i := 6) (v := .int .i64 i) rfl (by kernel_rfl) (fun _ _ _ h => h) (.inl ⟨by rfl, fun W' hS' => by go_simp⟩) hSB ?_
   try simp only [z]
   refine tk (i := 7) (v := .pointer (some ⟨w.heap.size + 1, i, none⟩)) rfl (by kernel_rfl) (fun _ _ _ h => h) (.inl ⟨by rfl, fun W' hS' => by go_simp⟩) hSB ?_
   try simp only [z]
   refine tk (i := 8) (v := .int .i64 (td)) rfl (by kernel_rfl) (fun _ _ _ h => h) (.inl ⟨by rfl, fun W' hS' => by have hc := Hct.out W' hS'; go_simp⟩) hSB ?_
   try simp only [z]
   refine tk (i := 9) (v := .agg #[.int .i64 (10 * ((i : Int) + 1)), .int .i64 td, .int .i64 (-25567)]) rfl (by kernel_rfl) (fun _ _ _ h => h) (.inl ⟨by rfl, fun W' hS' => by go_simp⟩) hSB ?_
   try simp only [z]
   refine wpAnyH_letters fun md' ops' Q' a' hlm hlo hlq hla => ?_
   have fin : ∀ (W' : World) (p : Nat), Below W5.heap.size W5 W' -> Below (w.heap.size + 3) W1 W' -> W'.heap[p]? = some (.cells #[.int .i64 (10 * ((i : Int) + 1)), .int .i64 td, .int .i64 (-25567)] 156 (0, 0)) -> wpAnyH Tryz.prog md' ops' Q' (Below (w.heap.size + 3) W1) 3 #[true, true, true, true, true, true, true, true, true, true, true, false, false, false] ((a'.put (some 34) v2).put (some 43) (.slice (some ⟨p, 0, none⟩) 1 1)) W' := by
    intro W' p hV hS hrw
    subst hlm hlo hlq hla
    try simp only [z]
    have how := pOwns_below Hoth5.out hV
    have hoo := pOwns_below Hown6.out hV
    have hbx := gbox Hbx5.out hV (some_lt Hbx5.out)
    have hnew : ∀ j u, ([.int .i64 (10 * ((i : Int) + 1)), .int .i64 td, .int .i64 (-25567)] : List Value)[j]? = some u -> W'.cell? ((⟨p, 0, none⟩ : Addr).add j) = some u := fun j u hj => by rw [Addr.add_mid, Nat.zero_add, cell_of_row _ _ _ _ _ _ hrw]; simpa using hj
    have hone : ∀ u ∈ ([.int .i64 (10 * ((i : Int) + 1)), .int .i64 td, .int .i64 (-25567)] : List Value), u.oneCell' = true := by simp [Value.oneCell']
    have h65 : w.heap.size + 4 <= W'.heap.size := some_lt hbx
    refine wpAnyH_ready (rs := [11]) (by kernel_rfl) (by simp) (AllReadyH.cons rfl (fun K hK => ?_) AllReadyH.nil)
    refine wp_append_own W' _ _ 104 rfl (w.heap.size + 4) 156 il (.agg #[.int .i64 0, .int .i64 0, .int .i64 0]) 3 24 Tryz.underlying104 hil hl0 hl1 hl2 rfl (by decide) v2 i _ rfl how ⟨p, 0, none⟩ 1 1 [.int .i64 (10 * ((i : Int) + 1)), .int .i64 td, .int .i64 (-25567)] rfl rfl hnew hone (by unfold maxLen; omega) (by omega) h65 ?_
    intro v' W4 hown' hgrow _
    have hS4 := hS.grown hgrow (by omega) (fun k hk => Nat.le_trans (by omega) (own_base how k hk))
    have hbx4 := (hgrow.block _ (some_lt hbx) (fun e' => row_not (t := 106) how e'.symm hbx (by decide))).trans hbx
    have hoo4 := hoo.kept hgrow (own_ne_type hoo how (by decide))
    refine hK.out _ _ hS4 (fun _ => ?_)
    clear hK K
    try simp only [z]
    clear hnew hone how hoo hbx hrw
    refine tk (i := 12) (v := .pointer (some ⟨w.heap.size + 3, 3, none⟩)) rfl (by kernel_rfl) (fun _ _ _ h => h) (.inl ⟨by rfl, fun W' hS' => by go_simp⟩) hS4 ?_
    try simp only [z]
    refine wpAnyH_ready (rs := [13]) (by kernel_rfl) (by simp) (AllReadyH.cons rfl (fun K hK => ?_) AllReadyH.nil)
    have xc := cell_of_row _ _ 3 _ _ _ hbx4
    have xf := fun j => frozen_of_row _ _ j _ _ hbx4
    simp at xc
    have xlt := some_lt hbx4
    have hbx5 := heap_setCell_same W4 (w.heap.size + 3) 3 _ _ v' hbx4
    simp at hbx5
    have hS5 := hS4.setCell (p := ⟨w.heap.size + 3, 3, none⟩) (Nat.le_refl _) v'
    have own5 := hown'.kept (row := some (w.heap.size + 3)) (grown_set (grown_refl' W4) 3 v') (own_ne_box hown')
    have oth5 := hoo4.kept (row := some (w.heap.size + 3)) (grown_set (grown_refl' W4) 3 v') (own_ne_box hoo4)
    obtain ⟨Av, cv, rfl⟩ := own_one hown'
    go_simp
    obtain ⟨W5, hW5⟩ : ∃ W5, W5 = W4.setCell ⟨w.heap.size + 3, 3, none⟩ (.slice Av (i + 1) cv) := ⟨_, rfl⟩
    rw [<- hW5] at hbx5 hS5 own5 oth5 ⊢
    clear hW5
    refine hK.out _ _ hS5 (fun _ => ?_)
    clear hK K
    try simp only [z]
    refine wpAnyH_done (by kernel_rfl) ?_ _
    try simp only [z]
    have own6 : W5.ownsRow (w.heap.size + 4) 156 3 (.slice Av (i + 1) cv) (i + 1) (lnkRow (Smp.elinks.take (i + 1))) := by rw [HEl.out, lnkRow_snoc]; exact own5
    have Hbx5 := Lib.hid hbx5
    have Hown6 := Lib.hid own6
    have Hoth5 := Lib.hid oth5
    clear hbx5 own5 own6 oth5 hown' hgrow hS4 hbx4 hoo4 xc xf xlt
    go_wp2
    go_roundw
    case rel => exact ⟨i + 1, _, _, by omega, by go_num, Hbx5.out, Hoth5.out, Hown6.out, hS5⟩
    case measure => simp [intOf]; omega
   subst hlm hlo hlq hla
   have hbq := gbox Hbx5.out hVB (some_lt Hbx5.out)
   have xq := cell_of_row _ _ 3 _ _ _ hbq
   simp at xq
   have xql := some_lt hbq
   refine wpAnyH_ready (rs := [1, 10]) (by kernel_rfl) (by simp) (AllReadyH.cons rfl (fun K hK => ?_) (AllReadyH.cons rfl (fun K hK => ?_) AllReadyH.nil))
   ·skip
    go_simp
    refine hK.out _ _ hSB (fun _ => ?_)
    clear hK K
    try simp only [z]
    refine wpAnyH_ready (rs := [10]) (by kernel_rfl) (by simp) (AllReadyH.cons rfl (fun K hK => ?_) AllReadyH.nil)
    obtain ⟨hBa, hrw, _⟩ := row_new W0B #[.int .i64 (10 * ((i : Int) + 1)), .int .i64 td, .int .i64 (-25567)] 156
    go_simp
    obtain ⟨W6, hWn⟩ : ∃ W6, W6 = W0B.alloc (.cells #[.int .i64 (10 * ((i : Int) + 1)), .int .i64 td, .int .i64 (-25567)] 156) := ⟨_, rfl⟩
    rw [<- hWn] at hBa hrw ⊢
    clear hWn
    have hV6 := hVB.trans (hBa.mono hVB.size)
    have hS6 := hSB.trans (hBa.mono (by have := hSB.size; omega))
    refine hK.out _ _ hS6 (fun _ => ?_)
    clear hK K
    try simp only [z]
    have hn := fin W6 W0B.heap.size hV6 hS6 hrw
    try simp only [z] at hn
    exact hn
   ·skip
    obtain ⟨hBa, hrw, _⟩ := row_new W0B #[.int .i64 (10 * ((i : Int) + 1)), .int .i64 td, .int .i64 (-25567)] 156
    go_simp
    obtain ⟨W6, hWn⟩ : ∃ W6, W6 = W0B.alloc (.cells #[.int .i64 (10 * ((i : Int) + 1)), .int .i64 td, .int .i64 (-25567)] 156) := ⟨_, rfl⟩
    rw [<- hWn] at hBa hrw ⊢
    clear hWn
    have hV6 := hVB.trans (hBa.mono hVB.size)
    have hS6 := hSB.trans (hBa.mono (by have := hSB.size; omega))
    refine hK.out _ _ hS6 (fun _ => ?_)
    clear hK K
    try simp only [z]
    have hbq6 := gbox hbq hBa (some_lt hbq)
    have xq6 := cell_of_row _ _ 3 _ _ _ hbq6
    simp at xq6
    have xql6 := some_lt hbq6
    refine wpAnyH_ready (rs := [1]) (by kernel_rfl) (by simp) (AllReadyH.cons rfl (fun K hK => ?_) AllReadyH.nil)
    go_simp
    refine hK.out _ _ hS6 (fun _ => ?_)
    clear hK K
    try simp only [z]
    have hn := fin W6 W0B.heap.size hV6 hS6 hrw
    try simp only [z] at hn
    exact hn
  subst hlm hlo hlq hla
  have hbq := gbox Hbx.out hVA (some_lt Hbx.out)
  have xq := cell_of_row _ _ 2 _ _ _ hbq
  simp at xq
  have xql := some_lt hbq
  refine wpAnyH_ready (rs := [1, 10]) (by kernel_rfl) (by simp) (AllReadyH.cons rfl (fun K hK => ?_) (AllReadyH.cons rfl (fun K hK => ?_) AllReadyH.nil))
  ·skip
   go_simp
   refine hK.out _ _ hSA (fun _ => ?_)
   clear hK K
   try simp only [z]
   refine wpAnyH_ready (rs := [10]) (by kernel_rfl) (by simp) (AllReadyH.cons rfl (fun K hK => ?_) AllReadyH.nil)
   obtain ⟨hBa, hrw, _⟩ := row_new W0A #[.int .i64 (10 * ((i : Int) + 1)), .int .i64 kd, .int .i64 0, .int .i64 0] 132
   go_simp
   obtain ⟨W6, hWn⟩ : ∃ W6, W6 = W0A.alloc (.cells #[.int .i64 (10 * ((i : Int) + 1)), .int .i64 kd, .int .i64 0, .int .i64 0] 132) := ⟨_, rfl⟩
   rw [<- hWn] at hBa hrw ⊢
   clear hWn
   have hV6 := hVA.trans (hBa.mono hVA.size)
   have hS6 := hSA.trans (hBa.mono (by have := hSA.size; omega))
   refine hK.out _ _ hS6 (fun _ => ?_)
   clear hK K
   try simp only [z]
   have hn := fin W6 W0A.heap.size hV6 hS6 hrw
   try simp only [z] at hn
   exact hn
  ·skip
   obtain ⟨hBa, hrw, _⟩ := row_new W0A #[.int .i64 (10 * ((i : Int) + 1)), .int .i64 kd, .int .i64 0, .int .i64 0] 132
   go_simp
   obtain ⟨W6, hWn⟩ : ∃ W6, W6 = W0A.alloc (.cells #[.int .i64 (10 * ((i : Int) + 1)), .int .i64 kd, .int .i64 0, .int .i64 0] 132) := ⟨_, rfl⟩
   rw [<- hWn] at hBa hrw ⊢
   clear hWn
   have hV6 := hVA.trans (hBa.mono hVA.size)
   have hS6 := hSA.trans (hBa.mono (by have := hSA.size; omega))
   refine hK.out _ _ hS6 (fun _ => ?_)
   clear hK K
   try simp only [z]
   have hbq6 := gbox hbq hBa (some_lt hbq)
   have xq6 := cell_of_row _ _ 2 _ _ _ hbq6
   simp at xq6
   have xql6 := some_lt hbq6
   refine wpAnyH_ready (rs := [1]) (by kernel_rfl) (by simp) (AllReadyH.cons rfl (fun K hK => ?_) AllReadyH.nil)
   go_simp
   refine hK.out _ _ hS6 (fun _ => ?_)
   clear hK K
   try simp only [z]
   have hn := fin W6 W0A.heap.size hV6 hS6 hrw
   try simp only [z] at hn
   exact hn
end
end Go.Proofs.YtccapfbblnnfjaaGreat
