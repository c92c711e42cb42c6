/- My texts SmpE, SmpG. -/
import Derived.Test.YtobnfmneeabomaaGreatG20
import Derived.Test.YtobnfmneeabomaaGreatG41
import Derived.Test.YtobnfmneeabomaaGreatG28
import Derived.Test.YtobnfmneeabomaaGreatK39
set_option linter.unusedVariables false
set_option linter.unusedSimpArgs false
set_option maxRecDepth 100000
set_option maxHeartbeats 8000000
namespace Go.Proofs.YtobnfmneeabomaaGreat
open Go.RowKit
namespace Smp
def tos : List Int := [1010, 1100, 1200, 1300, 1500, 2000, 2100, 3000, 3300, 4000, 4100, 4700, 5000, 5100]
def kinds : List Int := [1, 1, 1, 1, 1, 2, 2, 3, 3, 4, 4, 4, 5, 5]
def echart : List Acc := (List.range 14).map (fun (i : Nat) => ⟨10 * ((i : Int) + 1), kinds.getD i 0, 0, 0⟩)
def elinks : List Lnk := (List.range 14).map (fun (i : Nat) => ⟨10 * ((i : Int) + 1), tos.getD i 0, -25567⟩)
theorem echart_at {i : Nat} (h : i < 14) : echart.take (i + 1) = echart.take i ++ [⟨10 * ((i : Int) + 1), kinds.getD i 0, 0, 0⟩] := by
 have hl : i < echart.length := h
 rw [List.take_succ_eq_append_getElem hl]
 simp [echart]
theorem elinks_at {i : Nat} (h : i < 14) : elinks.take (i + 1) = elinks.take i ++ [⟨10 * ((i : Int) + 1), tos.getD i 0, -25567⟩] := by
 have hl : i < elinks.length := h
 rw [List.take_succ_eq_append_getElem hl]
 simp [elinks]
end Smp
def lnkRow (l : List Lnk) : List Value := l.flatMap Lnk.cells
theorem lnkRow_snoc (l : List Lnk) (x : Lnk) : lnkRow (l ++ [x]) = lnkRow l ++ x.cells := by simp [lnkRow]
theorem lnkInfo : (Tryz.prog.info? 113).map (fun i => (i.zero, i.size, i.bytes)) = some (some (.agg #[.int .i64 0, .int .i64 0, .int .i64 0]), 3, 24) := by kernel_rfl
theorem own_ne_type {W : World} {b1 b2 s1 s2 n1 n2 : Nat} {v1 v2 : Value} {e1 e2 : TypeId} {x1 x2 : List Value} (h1 : W.ownsRow b1 e1 s1 v1 n1 x1) (h2 : W.ownsRow b2 e2 s2 v2 n2 x2) (he : e1 ≠ e2) : v1.ownBlock = none ∨ v1.ownBlock ≠ v2.ownBlock := by
 rcases h1.2 with ⟨rfl, _⟩ | ⟨g, cap, cur, rfl, _, hg, _⟩
 ·exact .inl rfl
 ·rcases h2.2 with ⟨rfl, _⟩ | ⟨g', cap', cur', rfl, _, hg', _⟩
  ·right; simp [Value.ownBlock]
  ·right
   simp only [Value.ownBlock, ne_eq, Option.some.injEq]
   intro e
   subst e
   rw [hg] at hg'
   cases hg'
   exact he rfl
theorem own_one {W : World} {b s n : Nat} {v : Value} {e : TypeId} {x : List Value} (h : W.ownsRow b e s v n x) : ∃ A c, v = .slice A n c := by
 rcases h.2 with ⟨rfl, rfl⟩ | ⟨g, cap, cur, rfl, _⟩
 ·exact ⟨_, _, rfl⟩
 ·exact ⟨_, _, rfl⟩
theorem grown_refl' (w : World) {row : Option Nat} : w.grownBy w row := ⟨rfl, rfl, rfl, Nat.le_refl _, fun _ _ _ => rfl⟩
theorem grown_set {a w : World} {g : Nat} (h : a.grownBy w (some g)) (i : Nat) (u : Value) : a.grownBy (w.setCell ⟨g, i, none⟩ u) (some g) :=
 ⟨h.os, h.tape, h.output, by simpa [World.setCell] using h.size, fun k hk hne => (Below.heap_setCell w ⟨g, i, none⟩ u k (fun e => hne (by rw [e]))).trans (h.block k hk hne)⟩
theorem own_ne_box {W : World} {n s m : Nat} {v : Value} {e : TypeId} {x : List Value} (h : W.ownsRow (n + 4) e s v m x) : v.ownBlock = none ∨ v.ownBlock ≠ some (n + 3) := by
 rcases h.2 with ⟨rfl, _⟩ | ⟨g, cap, cur, rfl, hg, _⟩
 ·exact .inl rfl
 ·right; simp [Value.ownBlock]; omega
def SampleEntPost (name cur : ByteArray) (w : World) (e : Ending) (w' : World) : Prop := Below w.heap.size w w' /\ ∃ A c L d, e = .returned (.agg #[.string name, .string cur, .slice A 14 c, .slice L 14 d, .bool false]) /\ Fresh w.heap.size A /\ Fresh w.heap.size L /\ AccsAt w' w'.heap.size A Smp.echart /\ LnksAt w' w'.heap.size L Smp.elinks
section
variable (w : World)
theorem sent_any (name cur : ByteArray) : Calls Tryz.prog 20 #[.string name, .string cur] w (SampleEntPost name cur w) := by
 obtain ⟨ia, hia, ha0, ha1, ha2⟩ := info_parts accInfo
 obtain ⟨il, hil, hl0, hl1, hl2⟩ := info_parts lnkInfo
 obtain ⟨hB1, hz, hblk⟩ := allocs_spec [(.cells #[.string ⟨#[]⟩, .string ⟨#[]⟩, .slice none 0 0, .slice none 0 0, .bool false] 83), (.cells #[.int .i64 1010, .int .i64 1100, .int .i64 1200, .int .i64 1300, .int .i64 1500, .int .i64 2000, .int .i64 2100, .int .i64 3000, .int .i64 3300, .int .i64 4000, .int .i64 4100, .int .i64 4700, .int .i64 5000, .int .i64 5100] 3), (.cells #[.int .i64 1, .int .i64 1, .int .i64 1, .int .i64 1, .int .i64 1, .int .i64 2, .int .i64 2, .int .i64 3, .int .i64 3, .int .i64 4, .int .i64 4, .int .i64 4, .int .i64 5, .int .i64 5] 3), (.cells #[.string name, .string cur, .slice none 0 0, .slice none 0 0, .bool false] 83)] w
 change Below w.heap.size w ((((w.alloc (.cells #[.string ⟨#[]⟩, .string ⟨#[]⟩, .slice none 0 0, .slice none 0 0, .bool false] 83)).alloc (.cells #[.int .i64 1010, .int .i64 1100, .int .i64 1200, .int .i64 1300, .int .i64 1500, .int .i64 2000, .int .i64 2100, .int .i64 3000, .int .i64 3300, .int .i64 4000, .int .i64 4100, .int .i64 4700, .int .i64 5000, .int .i64 5100] 3)).alloc (.cells #[.int .i64 1, .int .i64 1, .int .i64 1, .int .i64 1, .int .i64 1, .int .i64 2, .int .i64 2, .int .i64 3, .int .i64 3, .int .i64 4, .int .i64 4, .int .i64 4, .int .i64 5, .int .i64 5] 3)).alloc (.cells #[.string name, .string cur, .slice none 0 0, .slice none 0 0, .bool false] 83)) at hB1
 change ((((w.alloc (.cells #[.string ⟨#[]⟩, .string ⟨#[]⟩, .slice none 0 0, .slice none 0 0, .bool false] 83)).alloc (.cells #[.int .i64 1010, .int .i64 1100, .int .i64 1200, .int .i64 1300, .int .i64 1500, .int .i64 2000, .int .i64 2100, .int .i64 3000, .int .i64 3300, .int .i64 4000, .int .i64 4100, .int .i64 4700, .int .i64 5000, .int .i64 5100] 3)).alloc (.cells #[.int .i64 1, .int .i64 1, .int .i64 1, .int .i64 1, .int .i64 1, .int .i64 2, .int .i64 2, .int .i64 3, .int .i64 3, .int .i64 4, .int .i64 4, .int .i64 4, .int .i64 5, .int .i64 5] 3)).alloc (.cells #[.string name, .string cur, .slice none 0 0, .slice none 0 0, .bool false] 83)).heap.size = w.heap.size + 4 at hz
 change ∀ (i : Nat) (o : Obj), _ -> ((((w.alloc (.cells #[.string ⟨#[]⟩, .string ⟨#[]⟩, .slice none 0 0, .slice none 0 0, .bool false] 83)).alloc (.cells #[.int .i64 1010, .int .i64 1100, .int .i64 1200, .int .i64 1300, .int .i64 1500, .int .i64 2000, .int .i64 2100, .int .i64 3000, .int .i64 3300, .int .i64 4000, .int .i64 4100, .int .i64 4700, .int .i64 5000, .int .i64 5100] 3)).alloc (.cells #[.int .i64 1, .int .i64 1, .int .i64 1, .int .i64 1, .int .i64 1, .int .i64 2, .int .i64 2, .int .i64 3, .int .i64 3, .int .i64 4, .int .i64 4, .int .i64 4, .int .i64 5, .int .i64 5] 3)).alloc (.cells #[.string name, .string cur, .slice none 0 0, .slice none 0 0, .bool false] 83)).heap[w.heap.size + i]? = some o at hblk
 obtain ⟨W1, hW1⟩ : ∃ W1, W1 = ((((w.alloc (.cells #[.string ⟨#[]⟩, .string ⟨#[]⟩, .slice none 0 0, .slice none 0 0, .bool false] 83)).alloc (.cells #[.int .i64 1010, .int .i64 1100, .int .i64 1200, .int .i64 1300, .int .i64 1500, .int .i64 2000, .int .i64 2100, .int .i64 3000, .int .i64 3300, .int .i64 4000, .int .i64 4100, .int .i64 4700, .int .i64 5000, .int .i64 5100] 3)).alloc (.cells #[.int .i64 1, .int .i64 1, .int .i64 1, .int .i64 1, .int .i64 1, .int .i64 2, .int .i64 2, .int .i64 3, .int .i64 3, .int .i64 4, .int .i64 4, .int .i64 4, .int .i64 5, .int .i64 5] 3)).alloc (.cells #[.string name, .string cur, .slice none 0 0, .slice none 0 0, .bool false] 83)) := ⟨_, rfl⟩
 rw [<- hW1] at hB1 hz hblk
 have HW1 := Lib.hid hW1
 have Hres := Lib.hid (show W1.heap[w.heap.size]? = some _ from hblk 0 _ rfl)
 have Hto := Lib.hid (hblk 1 _ rfl)
 have Hkd := Lib.hid (hblk 2 _ rfl)
 have Hbox := Lib.hid (hblk 3 _ rfl)
 have Hz := Lib.hid hz
 have HB1 := Lib.hid hB1
 have hkc : ∀ (W : World) (i : Nat), Below (w.heap.size + 3) W1 W -> i < 14 -> W.cell? ⟨w.heap.size + 2, i, none⟩ = some (.int .i64 (Smp.kinds.getD i 0)) := fun W i hW hi => by
  rw [hW.cell (p := ⟨w.heap.size + 2, i, none⟩) (by show w.heap.size + 2 < _; omega), cell_of_row _ _ _ _ _ _ Hkd.out]
  match i, hi with
  | 0, _ => rfl
  | 1, _ => rfl
  | 2, _ => rfl
  | 3, _ => rfl
  | 4, _ => rfl
  | 5, _ => rfl
  | 6, _ => rfl
  | 7, _ => rfl
  | 8, _ => rfl
  | 9, _ => rfl
  | 10, _ => rfl
  | 11, _ => rfl
  | 12, _ => rfl
  | 13, _ => rfl
 have htc : ∀ (W : World) (i : Nat), Below (w.heap.size + 3) W1 W -> i < 14 -> W.cell? ⟨w.heap.size + 1, i, none⟩ = some (.int .i64 (Smp.tos.getD i 0)) := fun W i hW hi => by
  rw [hW.cell (p := ⟨w.heap.size + 1, i, none⟩) (by show w.heap.size + 1 < _; omega), cell_of_row _ _ _ _ _ _ Hto.out]
  match i, hi with
  | 0, _ => rfl
  | 1, _ => rfl
  | 2, _ => rfl
  | 3, _ => rfl
  | 4, _ => rfl
  | 5, _ => rfl
  | 6, _ => rfl
  | 7, _ => rfl
  | 8, _ => rfl
  | 9, _ => rfl
  | 10, _ => rfl
  | 11, _ => rfl
  | 12, _ => rfl
  | 13, _ => rfl
 have Hkc := Lib.hid hkc
 have Htc := Lib.hid htc
 clear hW1 hblk hz hB1 hkc htc
 go_enter Tryz.func20, Tryz.ntmps20
 go_upto_region 4 with (fail)
 rw [<- HW1.out]
 go_wp2
 go_loopw [8] (fun s wr => ∃ (i : Nat) (v1 v2 : Value), i <= 14 /\ s = .int .i64 i /\ wr.heap[w.heap.size + 3]? = some (.cells #[.string name, .string cur, v1, v2, .bool false] 83 (0, 0)) /\
  wr.ownsRow (w.heap.size + 4) 111 4 v1 i (accRow (Smp.echart.take i)) /\ wr.ownsRow (w.heap.size + 4) 113 3 v2 i (lnkRow (Smp.elinks.take i)) /\ Below (w.heap.size + 3) W1 wr) (fun s _ => 14 - (intOf s).toNat)
 case atStart => exact ⟨0, _, _, by omega, rfl, Hbox.out, World.ownsRow_nil _ _ _ _, World.ownsRow_nil _ _ _ _, Below.refl _ _⟩
 case round =>
  obtain ⟨i, v1, v2, hi, rfl, hbx, how1, how2, hb⟩ := hrel
  have Hbx := Lib.hid hbx
  have Hown1 := Lib.hid how1
  have Hown2 := Lib.hid how2
  have hqq := some_lt hbx
  clear hbx how1 how2
  by_cases hlt : i < 14
  case neg =>
   obtain rfl : i = 14 := by omega
   have x2 := Hbx.out
   obtain ⟨A1, c1, rfl⟩ := own_one Hown1.out
   obtain ⟨A2, c2, rfl⟩ := own_one Hown2.out
   have o1 := Hown1.out
   have o2 := Hown2.out
   rw [show Smp.echart.take 14 = Smp.echart from rfl] at o1
   rw [show Smp.elinks.take 14 = Smp.elinks from rfl] at o2
   obtain ⟨A1', c1', e1, r1⟩ := own_flat (f := Acc.cells) (by decide) (fun _ => rfl) o1 rfl
   obtain ⟨A2', c2', e2, r2⟩ := own_flat (f := Lnk.cells) (by decide) (fun _ => rfl) o2 rfl
   cases e1
   cases e2
   have f1 := own_fresh o1
   have f2 := own_fresh o2
   have hrg := Lib.hid (range_row (cs := [.string name, .string cur, .slice A1 14 c1, .slice A2 14 c2, .bool false]) x2)
   have hres := (hb.block w.heap.size (by omega)).trans Hres.out
   have Hr := Lib.hid hres
   have hR := setRow_heap wr w.heap.size _ #[.string name, .string cur, .slice A1 14 c1, .slice A2 14 c2, .bool false] _ _ hres
   have hload := Lib.hid (run_loadVar_row (P := Tryz.prog) _ _ _ 83 _ _ _ hR Tryz.underlying83 rfl entSize)
   have Ho : Hid ((#[.string name, .string cur, .slice A1 14 c1, .slice A2 14 c2, .bool false] : Array Value).all (·.oneCell') = true) := by show _ = true; simp [Value.oneCell']
   have hbw := HB1.out.trans (hb.mono (show w.heap.size <= w.heap.size + 3 by omega))
   have hBF := Lib.hid (below_setRow hbw (Nat.le_refl _) #[.string name, .string cur, .slice A1 14 c1, .slice A2 14 c2, .bool false])
   have R1 := Lib.hid (RowsAt.other_row r1 f1 (show w.heap.size < w.heap.size + 4 by omega) #[.string name, .string cur, .slice A1 14 c1, .slice A2 14 c2, .bool false])
   have R2 := Lib.hid (RowsAt.other_row r2 f2 (show w.heap.size < w.heap.size + 4 by omega) #[.string name, .string cur, .slice A1 14 c1, .slice A2 14 c2, .bool false])
   have F1 := Lib.hid f1
   have F2 := Lib.hid f2
   clear o1 o2 r1 r2 f1 f2 x2 hres hR hbw
   go_wp2_with (first | (refine wpList_load_mid rfl 83 (.tmp 7) rfl (w.heap.size + 3) 0 rfl [.string name, .string cur, .slice A1 14 c1, .slice A2 14 c2, .bool false] _ hrg.out Tryz.underlying83 rfl entSize ?_) | (refine wpList_store_row rfl 83 (.tmp 4) (.tmp 46) none rfl rfl w.heap.size 83 _ #[.string name, .string cur, .slice A1 14 c1, .slice A2 14 c2, .bool false] rfl rfl Hr.out rfl entSize Ho.out ?_))
   exact bodyPost_ret (v := .agg #[.string name, .string cur, .slice A1 14 c1, .slice A2 14 c2, .bool false]) (by simp [results, Tryz.results20, asAddr, Act.put, hload.out]) rfl ⟨hBF.out, A1, c1, A2, c2, rfl, (fun ad h => Nat.le_trans (by omega) (F1.out ad h)), (fun ad h => Nat.le_trans (by omega) (F2.out ad h)), R1.out, R2.out⟩
  have hi0' : (0 : Int) <= (i : Int) := by omega
  have hi1' : (i : Int) < 14 := by omega
  have hw1 : IntKind.i64.wrap ((i : Int) + 1) = (i : Int) + 1 := by rw [IntKind.wrap_i64]; omega
  have hw2 : IntKind.i64.wrap (10 * ((i : Int) + 1)) = 10 * ((i : Int) + 1) := by rw [IntKind.wrap_i64]; omega
  have hw3 : wrap64 ((i : Int) + 1) = (i : Int) + 1 := IntWalk.wrap64_in _ (by omega)
  have hw4 : wrap64 (10 * ((i : Int) + 1)) = 10 * ((i : Int) + 1) := IntWalk.wrap64_in _ (by omega)
  obtain ⟨kd, hkd⟩ : ∃ kd, kd = Smp.kinds.getD i 0 := ⟨_, rfl⟩
  obtain ⟨td, htd⟩ : ∃ td, td = Smp.tos.getD i 0 := ⟨_, rfl⟩
  have hck : ∀ W, Below (w.heap.size + 3) W1 W -> W.cell? ⟨w.heap.size + 2, i, none⟩ = some (.int .i64 kd) := fun W hW => by rw [hkd]; exact Hkc.out W i hW hlt
  have hct : ∀ W, Below (w.heap.size + 3) W1 W -> W.cell? ⟨w.heap.size + 1, i, none⟩ = some (.int .i64 td) := fun W hW => by rw [htd]; exact Htc.out W i hW hlt
  have HEa : Hid (Smp.echart.take (i + 1) = Smp.echart.take i ++ [⟨10 * ((i : Int) + 1), kd, 0, 0⟩]) := by show _ = _; rw [hkd]; exact Smp.echart_at hlt
  have HEl : Hid (Smp.elinks.take (i + 1) = Smp.elinks.take i ++ [⟨10 * ((i : Int) + 1), td, -25567⟩]) := by show _ = _; rw [htd]; exact Smp.elinks_at hlt
  have Hck := Lib.hid hck
  have Hct := Lib.hid hct
  clear hkd htd hck hct
  have hbA := hb
  go_upto_region 7 with (fail)
  have hSA : Below (w.heap.size + 3) W1 wr.drew := below_drawn hbA 1
  have hVA : Below wr.heap.size wr wr.drew := below_drawn (Below.refl _ _) 1
  refine wp_region_held (S := Below (w.heap.size + 3) W1) (by kernel_rfl) ?_
  change wpAnyH _ _ _ _ _ _ _ _ (World.drew wr)
  obtain ⟨W0A, hWd⟩ : ∃ W0, W0 = wr.drew := ⟨_, rfl⟩
  rw [<- hWd] at hSA hVA ⊢
  clear hWd
  refine tk (i := 0) (v := .pointer (some ⟨w.heap.size + 3, 2, none⟩)) rfl (by kernel_rfl) (fun _ _ _ h => h) (.inl ⟨by rfl, fun W' hS' => by go_simp⟩) hSA ?_
  try simp only [z]
  refine tk (i := 2) (v := .int .i64 i) rfl (by kernel_rfl) (fun _ _ _ h => h) (.inl ⟨by rfl, fun W' hS' => by go_simp⟩) hSA ?_
  try simp only [z]
  refine tk (i := 3) (v := .int .i64 ((i : Int) + 1)) rfl (by kernel_rfl) (fun _ _ _ h => h) (.inl ⟨by rfl, fun W' hS' => by go_simp⟩) hSA ?_
  try simp only [z]
  refine tk (i := 4) (v := .int .i64 (10 * ((i : Int) + 1))) rfl (by kernel_rfl) (fun _ _ _ h => h) (.inl ⟨by rfl, fun W' hS' => by go_simp⟩) hSA ?_
  try simp only [z]
  refine tk (i := 5) (v := .slice (some ⟨w.heap.size + 2, 0, none⟩) 14 14) rfl (by kernel_rfl) (fun _ _ _ h => h) (.inl ⟨by rfl, fun W' hS' => by go_simp⟩) hSA ?_
  try simp only [z]
  refine tk (i := 6) (v := .int .i64 i) rfl (by kernel_rfl) (fun _ _ _ h => h) (.inl ⟨by rfl, fun W' hS' => by go_simp⟩) hSA ?_
  try simp only [z]
  refine tk (i := 7) (v := .pointer (some ⟨w.heap.size + 2, i, none⟩)) rfl (by kernel_rfl) (fun _ _ _ h => h) (.inl ⟨by rfl, fun W' hS' => by go_simp⟩) hSA ?_
  try simp only [z]
  refine tk (i := 8) (v := .int .i64 (kd)) rfl (by kernel_rfl) (fun _ _ _ h => h) (.inl ⟨by rfl, fun W' hS' => by have hc := Hck.out W' hS'; go_simp⟩) hSA ?_
  try simp only [z]
  refine tk (i := 9) (v := .agg #[.int .i64 (10 * ((i : Int) + 1)), .int .i64 kd, .int .i64 0, .int .i64 0]) rfl (by kernel_rfl) (fun _ _ _ h => h) (.inl ⟨by rfl, fun W' hS' => by go_simp⟩) hSA ?_
  try simp only [z]
  refine wpAnyH_letters fun md' ops' Q' a' hlm hlo hlq hla => ?_
  have fin : ∀ (W' : World) (p : Nat), Below wr.heap.size wr W' -> Below (w.heap.size + 3) W1 W' -> W'.heap[p]? = some (.cells #[.int .i64 (10 * ((i : Int) + 1)), .int .i64 kd, .int .i64 0, .int .i64 0] 111 (0, 0)) -> wpAnyH Tryz.prog md' ops' Q' (Below (w.heap.size + 3) W1) 3 #[true, true, true, true, true, true, true, true, true, true, true, false, false, false] ((a'.put (some 21) v1).put (some 30) (.slice (some ⟨p, 0, none⟩) 1 1)) W' := by
   intro W' p hV hS hrw
   subst hlm hlo hlq hla
   try simp only [z]
   have how := pOwns_below Hown1.out hV
   have hoo := pOwns_below Hown2.out hV
   have hbx := gbox Hbx.out hV (some_lt Hbx.out)
   have hnew : ∀ j u, ([.int .i64 (10 * ((i : Int) + 1)), .int .i64 kd, .int .i64 0, .int .i64 0] : List Value)[j]? = some u -> W'.cell? ((⟨p, 0, none⟩ : Addr).add j) = some u := fun j u hj => by rw [Addr.add_mid, Nat.zero_add, cell_of_row _ _ _ _ _ _ hrw]; simpa using hj
   have hone : ∀ u ∈ ([.int .i64 (10 * ((i : Int) + 1)), .int .i64 kd, .int .i64 0, .int .i64 0] : List Value), u.oneCell' = true := by simp [Value.oneCell']
   have h65 : w.heap.size + 4 <= W'.heap.size := some_lt hbx
   refine wpAnyH_ready (rs := [11]) (by kernel_rfl) (by simp) (AllReadyH.cons rfl (fun K hK => ?_) AllReadyH.nil)
   refine wp_append_own W' _ _ 31 rfl (w.heap.size + 4) 111 ia (.agg #[.int .i64 0, .int .i64 0, .int .i64 0, .int .i64 0]) 4 32 Tryz.underlying31 hia ha0 ha1 ha2 rfl (by decide) v1 i _ rfl how ⟨p, 0, none⟩ 1 1 [.int .i64 (10 * ((i : Int) + 1)), .int .i64 kd, .int .i64 0, .int .i64 0] rfl rfl hnew hone (by unfold maxLen; omega) (by omega) h65 ?_
   intro v' W4 hown' hgrow _
   have hS4 := hS.grown hgrow (by omega) (fun k hk => Nat.le_trans (by omega) (own_base how k hk))
   have hbx4 := (hgrow.block _ (some_lt hbx) (fun e' => row_not (t := 83) how e'.symm hbx (by decide))).trans hbx
   have hoo4 := hoo.kept hgrow (own_ne_type hoo how (by decide))
   refine hK.out _ _ hS4 (fun _ => ?_)
   clear hK K
   try simp only [z]
   clear hnew hone how hoo hbx hrw
   refine tk (i := 12) (v := .pointer (some ⟨w.heap.size + 3, 2, none⟩)) rfl (by kernel_rfl) (fun _ _ _ h => h) (.inl ⟨by rfl, fun W' hS' => by go_simp⟩) hS4 ?_
   try simp only [z]
   refine wpAnyH_ready (rs := [13]) (by kernel_rfl) (by simp) (AllReadyH.cons rfl (fun K hK => ?_) AllReadyH.nil)
   have xc := cell_of_row _ _ 2 _ _ _ hbx4
   have xf := fun j => frozen_of_row _ _ j _ _ hbx4
   simp at xc
   have xlt := some_lt hbx4
   have hbx5 := heap_setCell_same W4 (w.heap.size + 3) 2 _ _ v' hbx4
   simp at hbx5
   have hS5 := hS4.setCell (p := ⟨w.heap.size + 3, 2, none⟩) (Nat.le_refl _) v'
   have own5 := hown'.kept (row := some (w.heap.size + 3)) (grown_set (grown_refl' W4) 2 v') (own_ne_box hown')
   have oth5 := hoo4.kept (row := some (w.heap.size + 3)) (grown_set (grown_refl' W4) 2 v') (own_ne_box hoo4)
   obtain ⟨Av, cv, rfl⟩ := own_one hown'
   go_simp
   obtain ⟨W5, hW5⟩ : ∃ W5, W5 = W4.setCell ⟨w.heap.size + 3, 2, none⟩ (.slice Av (i + 1) cv) := ⟨_, rfl⟩
   rw [<- hW5] at hbx5 hS5 own5 oth5 ⊢
   clear hW5
   refine hK.out _ _ hS5 (fun _ => ?_)
   clear hK K
   try simp only [z]
   refine wpAnyH_done (by kernel_rfl) ?_ _
   try simp only [z]
   have own6 : W5.ownsRow (w.heap.size + 4) 111 4 (.slice Av (i + 1) cv) (i + 1) (accRow (Smp.echart.take (i + 1))) := by rw [HEa.out, accRow_snoc]; exact own5
   have Hbx5 := Lib.hid hbx5
   have Hown6 := Lib.hid own6
   have Hoth5 := Lib.hid oth5
   clear hbx5 own5 own6 oth5 hown' hgrow hS4 hbx4 hoo4 xc xf xlt
   have hbB := hS5
   have hqB := some_lt Hbx5.out
   go_upto_region 8 with (fail)
   have hSB : Below (w.heap.size + 3) W1 W5.drew := below_drawn hbB 1
   have hVB : Below W5.heap.size W5 W5.drew := below_drawn (Below.refl _ _) 1
   refine wp_region_held (S := Below (w.heap.size + 3) W1) (by kernel_rfl) ?_
   change wpAnyH _ _ _ _ _ _ _ _ (World.drew W5)
   obtain ⟨W0B, hWd⟩ : ∃ W0, W0 = W5.drew := ⟨_, rfl⟩
   rw [<- hWd] at hSB hVB ⊢
   clear hWd
   refine tk (i := 0) (v := .pointer (some ⟨w.heap.size + 3, 3, none⟩)) rfl (by kernel_rfl) (fun _ _ _ h => h) (.inl ⟨by rfl, fun W' hS' => by go_simp⟩) hSB ?_
   try simp only [z]
   refine tk (i := 2) (v := .int .i64 i) rfl (by kernel_rfl) (fun _ _ _ h => h) (.inl ⟨by rfl, fun W' hS' => by go_simp⟩) hSB ?_
   try simp only [z]
   refine tk (i := 3) (v := .int .i64 ((i : Int) + 1)) rfl (by kernel_rfl) (fun _ _ _ h => h) (.inl ⟨by rfl, fun W' hS' => by go_simp⟩) hSB ?_
   try simp only [z]
   refine tk (i := 4) (v := .int .i64 (10 * ((i : Int) + 1))) rfl (by kernel_rfl) (fun _ _ _ h => h) (.inl ⟨by rfl, fun W' hS' => by go_simp⟩) hSB ?_
   try simp only [z]
   refine tk (i := 5) (v := .slice (some ⟨w.heap.size + 1, 0, none⟩) 14 14) rfl (by kernel_rfl) (fun _ _ _ h => h) (.inl ⟨by rfl, fun W' hS' => by go_simp⟩) hSB ?_
   try simp only [z]
   refine tk (i := 6) (v := .int .i64 i) rfl (by kernel_rfl) (fun _ _ _ h => h) (.inl ⟨by rfl, fun W' hS' => by go_simp⟩) hSB ?_
   try simp only [z]
   refine tk (i := 7) (v := .pointer (some ⟨w.heap.size + 1, i, none⟩)) rfl (by kernel_rfl) (fun _ _ _ h => h) (.inl ⟨by rfl, fun W' hS' => by go_simp⟩) hSB ?_
   try simp only [z]
   refine tk (i := 8) (v := .int .i64 (td)) rfl (by kernel_rfl) (fun _ _ _ h => h) (.inl ⟨by rfl, fun W' hS' => by have hc := Hct.out W' hS'; go_simp⟩) hSB ?_
   try simp only [z]
   refine tk (i := 9) (v := .agg #[.int .i64 (10 * ((i : Int) + 1)), .int .i64 td, .int .i64 (-25567)]) rfl (by kernel_rfl) (fun _ _ _ h => h) (.inl ⟨by rfl, fun W' hS' => by go_simp⟩) hSB ?_
   try simp only [z]
   refine wpAnyH_letters fun md' ops' Q' a' hlm hlo hlq hla => ?_
   have fin : ∀ (W' : World) (p : Nat), Below W5.heap.size W5 W' -> Below (w.heap.size + 3) W1 W' -> W'.heap[p]? = some (.cells #[.int .i64 (10 * ((i : Int) + 1)), .int .i64 td, .int .i64 (-25567)] 113 (0, 0)) -> wpAnyH Tryz.prog md' ops' Q' (Below (w.heap.size + 3) W1) 3 #[true, true, true, true, true, true, true, true, true, true, true, false, false, false] ((a'.put (some 34) v2).put (some 43) (.slice (some ⟨p, 0, none⟩) 1 1)) W' := by
    intro W' p hV hS hrw
    subst hlm hlo hlq hla
    try simp only [z]
    have how := pOwns_below Hoth5.out hV
    have hoo := pOwns_below Hown6.out hV
    have hbx := gbox Hbx5.out hV (some_lt Hbx5.out)
    have hnew : ∀ j u, ([.int .i64 (10 * ((i : Int) + 1)), .int .i64 td, .int .i64 (-25567)] : List Value)[j]? = some u -> W'.cell? ((⟨p, 0, none⟩ : Addr).add j) = some u := fun j u hj => by rw [Addr.add_mid, Nat.zero_add, cell_of_row _ _ _ _ _ _ hrw]; simpa using hj
    have hone : ∀ u ∈ ([.int .i64 (10 * ((i : Int) + 1)), .int .i64 td, .int .i64 (-25567)] : List Value), u.oneCell' = true := by simp [Value.oneCell']
    have h65 : w.heap.size + 4 <= W'.heap.size := some_lt hbx
    refine wpAnyH_ready (rs := [11]) (by kernel_rfl) (by simp) (AllReadyH.cons rfl (fun K hK => ?_) AllReadyH.nil)
    refine wp_append_own W' _ _ 81 rfl (w.heap.size + 4) 113 il (.agg #[.int .i64 0, .int .i64 0, .int .i64 0]) 3 24 Tryz.underlying81 hil hl0 hl1 hl2 rfl (by decide) v2 i _ rfl how ⟨p, 0, none⟩ 1 1 [.int .i64 (10 * ((i : Int) + 1)), .int .i64 td, .int .i64 (-25567)] rfl rfl hnew hone (by unfold maxLen; omega) (by omega) h65 ?_
    intro v' W4 hown' hgrow _
    have hS4 := hS.grown hgrow (by omega) (fun k hk => Nat.le_trans (by omega) (own_base how k hk))
    have hbx4 := (hgrow.block _ (some_lt hbx) (fun e' => row_not (t := 83) how e'.symm hbx (by decide))).trans hbx
    have hoo4 := hoo.kept hgrow (own_ne_type hoo how (by decide))
    refine hK.out _ _ hS4 (fun _ => ?_)
    clear hK K
    try simp only [z]
    clear hnew hone how hoo hbx hrw
    refine tk (i := 12) (v := .pointer (some ⟨w.heap.size + 3, 3, none⟩)) rfl (by kernel_rfl) (fun _ _ _ h => h) (.inl ⟨by rfl, fun W' hS' => by go_simp⟩) hS4 ?_
    try simp only [z]
    refine wpAnyH_ready (rs := [13]) (by kernel_rfl) (by simp) (AllReadyH.cons rfl (fun K hK => ?_) AllReadyH.nil)
    have xc := cell_of_row _ _ 3 _ _ _ hbx4
    have xf := fun j => frozen_of_row _ _ j _ _ hbx4
    simp at xc
    have xlt := some_lt hbx4
    have hbx5 := heap_setCell_same W4 (w.heap.size + 3) 3 _ _ v' hbx4
    simp at hbx5
    have hS5 := hS4.setCell (p := ⟨w.heap.size + 3, 3, none⟩) (Nat.le_refl _) v'
    have own5 := hown'.kept (row := some (w.heap.size + 3)) (grown_set (grown_refl' W4) 3 v') (own_ne_box hown')
    have oth5 := hoo4.kept (row := some (w.heap.size + 3)) (grown_set (grown_refl' W4) 3 v') (own_ne_box hoo4)
    obtain ⟨Av, cv, rfl⟩ := own_one hown'
    go_simp
    obtain ⟨W5, hW5⟩ : ∃ W5, W5 = W4.setCell ⟨w.heap.size + 3, 3, none⟩ (.slice Av (i + 1) cv) := ⟨_, rfl⟩
    rw [<- hW5] at hbx5 hS5 own5 oth5 ⊢
    clear hW5
    refine hK.out _ _ hS5 (fun _ => ?_)
    clear hK K
    try simp only [z]
    refine wpAnyH_done (by kernel_rfl) ?_ _
    try simp only [z]
    have own6 : W5.ownsRow (w.heap.size + 4) 113 3 (.slice Av (i + 1) cv) (i + 1) (lnkRow (Smp.elinks.take (i + 1))) := by rw [HEl.out, lnkRow_snoc]; exact own5
    have Hbx5 := Lib.hid hbx5
    have Hown6 := Lib.hid own6
    have Hoth5 := Lib.hid oth5
    clear hbx5 own5 own6 oth5 hown' hgrow hS4 hbx4 hoo4 xc xf xlt
    go_wp2
    go_roundw
    case rel => exact ⟨i + 1, _, _, by omega, by go_num, Hbx5.out, Hoth5.out, Hown6.out, hS5⟩
    case measure => simp [intOf]; omega
   subst hlm hlo hlq hla
   have hbq := gbox Hbx5.out hVB (some_lt Hbx5.out)
   have xq := cell_of_row _ _ 3 _ _ _ hbq
   simp at xq
   have xql := some_lt hbq
   refine wpAnyH_ready (rs := [1, 10]) (by kernel_rfl) (by simp) (AllReadyH.cons rfl (fun K hK => ?_) (AllReadyH.cons rfl (fun K hK => ?_) AllReadyH.nil))
   ·skip
    go_simp
    refine hK.out _ _ hSB (fun _ => ?_)
    clear hK K
    try simp only [z]
    refine wpAnyH_ready (rs := [10]) (by kernel_rfl) (by simp) (AllReadyH.cons rfl (fun K hK => ?_) AllReadyH.nil)
    obtain ⟨hBa, hrw, _⟩ := row_new W0B #[.int .i64 (10 * ((i : Int) + 1)), .int .i64 td, .int .i64 (-25567)] 113
    go_simp
    obtain ⟨W6, hWn⟩ : ∃ W6, W6 = W0B.alloc (.cells #[.int .i64 (10 * ((i : Int) + 1)), .int .i64 td, .int .i64 (-25567)] 113) := ⟨_, rfl⟩
    rw [<- hWn] at hBa hrw ⊢
    clear hWn
    have hV6 := hVB.trans (hBa.mono hVB.size)
    have hS6 := hSB.trans (hBa.mono (by have := hSB.size; omega))
    refine hK.out _ _ hS6 (fun _ => ?_)
    clear hK K
    try simp only [z]
    have hn := fin W6 W0B.heap.size hV6 hS6 hrw
    try simp only [z] at hn
    exact hn
   ·skip
    obtain ⟨hBa, hrw, _⟩ := row_new W0B #[.int .i64 (10 * ((i : Int) + 1)), .int .i64 td, .int .i64 (-25567)] 113
    go_simp
    obtain ⟨W6, hWn⟩ : ∃ W6, W6 = W0B.alloc (.cells #[.int .i64 (10 * ((i : Int) + 1)), .int .i64 td, .int .i64 (-25567)] 113) := ⟨_, rfl⟩
    rw [<- hWn] at hBa hrw ⊢
    clear hWn
    have hV6 := hVB.trans (hBa.mono hVB.size)
    have hS6 := hSB.trans (hBa.mono (by have := hSB.size; omega))
    refine hK.out _ _ hS6 (fun _ => ?_)
    clear hK K
    try simp only [z]
    have hbq6 := gbox hbq hBa (some_lt hbq)
    have xq6 := cell_of_row _ _ 3 _ _ _ hbq6
    simp at xq6
    have xql6 := some_lt hbq6
    refine wpAnyH_ready (rs := [1]) (by kernel_rfl) (by simp) (AllReadyH.cons rfl (fun K hK => ?_) AllReadyH.nil)
    go_simp
    refine hK.out _ _ hS6 (fun _ => ?_)
    clear hK K
    try simp only [z]
    have hn := fin W6 W0B.heap.size hV6 hS6 hrw
    try simp only [z] at hn
    exact hn
  subst hlm hlo hlq hla
  have hbq := gbox Hbx.out hVA (some_lt Hbx.out)
  have xq := cell_of_row _ _ 2 _ _ _ hbq
  simp at xq
  have xql := some_lt hbq
  refine wpAnyH_ready (rs := [1, 10]) (by kernel_rfl) (by simp) (AllReadyH.cons rfl (fun K hK => ?_) (AllReadyH.cons rfl (fun K hK => ?_) AllReadyH.nil))
  ·skip
   go_simp
   refine hK.out _ _ hSA (fun _ => ?_)
   clear hK K
   try simp only [z]
   refine wpAnyH_ready (rs := [10]) (by kernel_rfl) (by simp) (AllReadyH.cons rfl (fun K hK => ?_) AllReadyH.nil)
   obtain ⟨hBa, hrw, _⟩ := row_new W0A #[.int .i64 (10 * ((i : Int) + 1)), .int .i64 kd, .int .i64 0, .int .i64 0] 111
   go_simp
   obtain ⟨W6, hWn⟩ : ∃ W6, W6 = W0A.alloc (.cells #[.int .i64 (10 * ((i : Int) + 1)), .int .i64 kd, .int .i64 0, .int .i64 0] 111) := ⟨_, rfl⟩
   rw [<- hWn] at hBa hrw ⊢
   clear hWn
   have hV6 := hVA.trans (hBa.mono hVA.size)
   have hS6 := hSA.trans (hBa.mono (by have := hSA.size; omega))
   refine hK.out _ _ hS6 (fun _ => ?_)
   clear hK K
   try simp only [z]
   have hn := fin W6 W0A.heap.size hV6 hS6 hrw
   try simp only [z] at hn
   exact hn
  ·skip
   obtain ⟨hBa, hrw, _⟩ := row_new W0A #[.int .i64 (10 * ((i : Int) + 1)), .int .i64 kd, .int .i64 0, .int .i64 0] 111
   go_simp
   obtain ⟨W6, hWn⟩ : ∃ W6, W6 = W0A.alloc (.cells #[.int .i64 (10 * ((i : Int) + 1)), .int .i64 kd, .int .i64 0, .int .i64 0] 111) := ⟨_, rfl⟩
   rw [<- hWn] at hBa hrw ⊢
   clear hWn
   have hV6 := hVA.trans (hBa.mono hVA.size)
   have hS6 := hSA.trans (hBa.mono (by have := hSA.size; omega))
   refine hK.out _ _ hS6 (fun _ => ?_)
   clear hK K
   try simp only [z]
   have hbq6 := gbox hbq hBa (some_lt hbq)
   have xq6 := cell_of_row _ _ 2 _ _ _ hbq6
   simp at xq6
   have xql6 := some_lt hbq6
   refine wpAnyH_ready (rs := [1]) (by kernel_rfl) (by simp) (AllReadyH.cons rfl (fun K hK => ?_) AllReadyH.nil)
   go_simp
   refine hK.out _ _ hS6 (fun _ => ?_)
   clear hK K
   try simp only [z]
   have hn := fin W6 W0A.heap.size hV6 hS6 hrw
   try simp only [z] at hn
   exact hn
end
structure EntA where
 A : Option Addr
 c : Nat
 L : Option Addr
 d : Nat
namespace Smp
def ent (name cur : ByteArray) (x : EntA) (joint : Bool) : Ent := ⟨name, cur, x.A, 14, x.c, echart, x.L, 14, x.d, elinks, joint⟩
def grp (A : Option Addr) (c : Nat) (eA : Option Addr) (ec : Nat) (x0 x1 x2 x3 : EntA) : Grp :=
 ⟨⟨#[69, 85, 82]⟩, 2026, 1, 36, A, 26, c, chart, 1500, 1600, 1700, 1200, 3100, 3200, 3300, 3400, 3500, 4500, 4600, 4700, 5500, 5600, 5700, eA, 4, ec, [ent ⟨#[112, 97, 114, 101, 110, 116]⟩ ⟨#[69, 85, 82]⟩ x0 false, ent ⟨#[110, 111, 114, 116, 104]⟩ ⟨#[69, 85, 82]⟩ x1 false, ent ⟨#[119, 101, 115, 116]⟩ ⟨#[85, 83, 68]⟩ x2 false, ent ⟨#[106, 111, 105, 110, 116]⟩ ⟨#[85, 83, 68]⟩ x3 true]⟩
theorem chart_wf : ∀ a ∈ chart, a.wf := by
 have : chart.all (fun a => (Lit.int .i64 a.code).wf && (Lit.int .i64 a.kind).wf && (Lit.int .i64 a.basis).wf && (Lit.int .i64 a.parent).wf) = true := by kernel_rfl
 intro a ha
 have := List.all_eq_true.1 this a ha
 simp only [Bool.and_eq_true] at this
 exact ⟨this.1.1.1, this.1.1.2, this.1.2, this.2⟩
theorem echart_wf : ∀ a ∈ echart, a.wf := by
 have : echart.all (fun a => (Lit.int .i64 a.code).wf && (Lit.int .i64 a.kind).wf && (Lit.int .i64 a.basis).wf && (Lit.int .i64 a.parent).wf) = true := by kernel_rfl
 intro a ha
 have := List.all_eq_true.1 this a ha
 simp only [Bool.and_eq_true] at this
 exact ⟨this.1.1.1, this.1.1.2, this.1.2, this.2⟩
theorem elinks_wf : ∀ a ∈ elinks, a.wf := by
 have : elinks.all (fun a => (Lit.int .i64 a.frm).wf && (Lit.int .i64 a.to).wf && (Lit.int .i64 a.since).wf) = true := by kernel_rfl
 intro a ha
 have := List.all_eq_true.1 this a ha
 simp only [Bool.and_eq_true] at this
 exact ⟨this.1.1, this.1.2, this.2⟩
theorem roles_wf {A : Option Addr} {c : Nat} {eA : Option Addr} {ec : Nat} {x0 x1 x2 x3 : EntA} : ∀ r ∈ Gr.roles (grp A c eA ec x0 x1 x2 x3), (Lit.int .i64 r.code).wf = true := by
 have : (Gr.roles (grp A c eA ec x0 x1 x2 x3)).all (fun r => (Lit.int .i64 r.code).wf) = true := by kernel_rfl
 exact List.all_eq_true.1 this
def Is (g : Grp) : Prop := ∃ A c eA ec x0 x1 x2 x3, g = grp A c eA ec x0 x1 x2 x3
end Smp
def SamplePost (w : World) (e : Ending) (w' : World) : Prop := Below w.heap.size w w' /\ ∃ g : Grp, e = .returned (.agg #[.string g.cur, .int .i64 g.Y, .int .i64 g.M, .int .i64 g.N, .slice g.cA g.cn g.cc, .int .i64 g.r0, .int .i64 g.r1, .int .i64 g.r2, .int .i64 g.r3, .int .i64 g.r4, .int .i64 g.r5, .int .i64 g.r6, .int .i64 g.r7, .int .i64 g.r8, .int .i64 g.r9, .int .i64 g.r10, .int .i64 g.r11, .int .i64 g.r12, .int .i64 g.r13, .int .i64 g.r14, .slice g.eA g.en g.ec]) /\ g.At w' w'.heap.size /\ Smp.Is g
theorem RowsAt.set_other {α : Type} {f : α -> List Value} {sz : Nat} {w : World} {A : Option Addr} {l : List α} (h : RowsAt f sz w w.heap.size A l) {b j : Nat} {v : Value} (hne : ∀ ad, A = some ad -> ad.block ≠ b) : RowsAt f sz (w.setCell ⟨b, j, none⟩ v) (w.setCell ⟨b, j, none⟩ v).heap.size A l := by
 rcases h with h | ⟨b', o, e, hl, hc⟩
 ·exact .inl h
 ·have hn : b' ≠ b := hne _ e
  exact .inr ⟨b', o, e, by simpa [World.setCell] using hl, fun k hk i u hu => (World.cell?_of_block (w := w) (heap_setCell_other w _ _ _ hn)).trans (hc k hk i u hu)⟩
theorem RowsAt.lt {α : Type} {f : α -> List Value} {sz : Nat} {w : World} {B : Nat} {A : Option Addr} {l : List α} (h : RowsAt f sz w B A l) (hl : l ≠ []) : ∀ ad, A = some ad -> ad.block < B := by
 intro ad e
 rcases h with h | ⟨b', o, e', hl', _⟩
 ·exact absurd h hl
 ·rw [e'] at e; cases e; exact hl'
section
variable (w : World)
theorem sroles_any : Calls Tryz.prog 19 #[] w fun e w' => e = .returned (.agg #[.int .i64 1500, .int .i64 1600, .int .i64 1700, .int .i64 1200, .int .i64 3100, .int .i64 3200, .int .i64 3300, .int .i64 3400, .int .i64 3500, .int .i64 4500, .int .i64 4600, .int .i64 4700, .int .i64 5500, .int .i64 5600, .int .i64 5700]) /\ Below w.heap.size w w' := by
 obtain ⟨W1, hW1, hB0, hb0, hz⟩ := nw1 w #[.int .i64 0, .int .i64 0, .int .i64 0, .int .i64 0, .int .i64 0, .int .i64 0, .int .i64 0, .int .i64 0, .int .i64 0, .int .i64 0, .int .i64 0, .int .i64 0, .int .i64 0, .int .i64 0, .int .i64 0] 33
 have HW := Lib.hid hW1
 have Hb0 := Lib.hid hb0
 have hR := setRow_heap W1 w.heap.size _ #[.int .i64 1500, .int .i64 1600, .int .i64 1700, .int .i64 1200, .int .i64 3100, .int .i64 3200, .int .i64 3300, .int .i64 3400, .int .i64 3500, .int .i64 4500, .int .i64 4600, .int .i64 4700, .int .i64 5500, .int .i64 5600, .int .i64 5700] _ _ hb0
 have hload := Lib.hid (run_loadVar_row (P := Tryz.prog) _ _ _ 33 _ _ _ hR Tryz.underlying33 rfl rolesSize)
 have hBF := Lib.hid (below_setRow hB0 (Nat.le_refl _) #[.int .i64 1500, .int .i64 1600, .int .i64 1700, .int .i64 1200, .int .i64 3100, .int .i64 3200, .int .i64 3300, .int .i64 3400, .int .i64 3500, .int .i64 4500, .int .i64 4600, .int .i64 4700, .int .i64 5500, .int .i64 5600, .int .i64 5700])
 have Ho : Hid ((#[.int .i64 1500, .int .i64 1600, .int .i64 1700, .int .i64 1200, .int .i64 3100, .int .i64 3200, .int .i64 3300, .int .i64 3400, .int .i64 3500, .int .i64 4500, .int .i64 4600, .int .i64 4700, .int .i64 5500, .int .i64 5600, .int .i64 5700] : Array Value).all (·.oneCell') = true) := by show _ = true; simp [Value.oneCell']
 clear hW1 hz hb0 hR
 go_enter Tryz.func19, Tryz.ntmps19
 go_upto_region 1 with (fail)
 rw [<- HW.out]
 go_wp2_with (refine wpList_store_row rfl 33 (.tmp 0) (.tmp 1) none rfl rfl w.heap.size 33 _ #[.int .i64 1500, .int .i64 1600, .int .i64 1700, .int .i64 1200, .int .i64 3100, .int .i64 3200, .int .i64 3300, .int .i64 3400, .int .i64 3500, .int .i64 4500, .int .i64 4600, .int .i64 4700, .int .i64 5500, .int .i64 5600, .int .i64 5700] rfl rfl Hb0.out rfl rolesSize Ho.out ?_)
 exact bodyPost_ret (v := .agg #[.int .i64 1500, .int .i64 1600, .int .i64 1700, .int .i64 1200, .int .i64 3100, .int .i64 3200, .int .i64 3300, .int .i64 3400, .int .i64 3500, .int .i64 4500, .int .i64 4600, .int .i64 4700, .int .i64 5500, .int .i64 5600, .int .i64 5700]) (by simp [results, Tryz.results19, asAddr, Act.put, hload.out]) rfl ⟨rfl, hBF.out⟩
theorem sample_any : Calls Tryz.prog 7 #[] w (SamplePost w) := by
 obtain ⟨W1, hW1, hB0, hb0, hz⟩ := nw1 w #[.string ⟨#[]⟩, .int .i64 0, .int .i64 0, .int .i64 0, .slice none 0 0, .int .i64 0, .int .i64 0, .int .i64 0, .int .i64 0, .int .i64 0, .int .i64 0, .int .i64 0, .int .i64 0, .int .i64 0, .int .i64 0, .int .i64 0, .int .i64 0, .int .i64 0, .int .i64 0, .int .i64 0, .slice none 0 0] 36
 have HW := Lib.hid hW1
 have Hb0 := Lib.hid hb0
 have s1 : w.heap.size < W1.heap.size := by omega
 clear hW1 hz hb0
 go_enter Tryz.func7, Tryz.ntmps7
 go_upto_region 1 with (fail)
 rw [<- HW.out]
 go_wp2_with (fail)
 refine (schart_any W1).mono ?_
 rintro e W2 ⟨hB2, A, c, rfl, hfA, hA⟩
 have HfA := Lib.hid hfA
 have HA := Lib.hid hA
 clear hfA hA
 go_wp2_with (fail)
 refine (sroles_any W2).mono ?_
 rintro e W3 ⟨rfl, hB3⟩
 have hB03 := (hB0.trans (hB2.mono hB0.size)).trans (hB3.mono (Nat.le_trans hB0.size hB2.size))
 have hb3 := gbox (gbox Hb0.out hB2 s1) hB3 (by have := hB2.size; omega)
 have hA3 := RowsAt.at_ HA.out hB3
 have hAlt := RowsAt.lt HA.out (by decide)
 have HAlt : Hid (∀ ad, A = some ad -> ad.block < W3.heap.size) := Lib.hid (fun ad h => Nat.lt_of_lt_of_le (hAlt ad h) hB3.size)
 have hs23 := hB2.size
 have hs33 := hB3.size
 obtain ⟨W4, hW4, hB4, hb4, hz4⟩ := nw1 W3 #[.string ⟨#[69, 85, 82]⟩, .int .i64 2026, .int .i64 1, .int .i64 36, .slice A 26 c, .int .i64 1500, .int .i64 1600, .int .i64 1700, .int .i64 1200, .int .i64 3100, .int .i64 3200, .int .i64 3300, .int .i64 3400, .int .i64 3500, .int .i64 4500, .int .i64 4600, .int .i64 4700, .int .i64 5500, .int .i64 5600, .int .i64 5700, .slice none 0 0] 36
 have HW4 := Lib.hid hW4
 have Hb4 := Lib.hid hb4
 have hB04 := hB03.trans (hB4.mono hB03.size)
 have Hr4 := Lib.hid (gbox hb3 hB4 (some_lt hb3))
 have HA4 := Lib.hid (RowsAt.at_ hA3 hB4)
 have Hz4 := Lib.hid hz4
 have s4 : W3.heap.size < W4.heap.size := by omega
 have h1c : ∀ v ∈ (#[.string ⟨#[69, 85, 82]⟩, .int .i64 2026, .int .i64 1, .int .i64 36, .slice A 26 c, .int .i64 1500, .int .i64 1600, .int .i64 1700, .int .i64 1200, .int .i64 3100, .int .i64 3200, .int .i64 3300, .int .i64 3400, .int .i64 3500, .int .i64 4500, .int .i64 4600, .int .i64 4700, .int .i64 5500, .int .i64 5600, .int .i64 5700, .slice none 0 0] : Array Value).toList, v.oneCell' = true := by simp [Value.oneCell']
 clear hW4 hz4 hb4 hb3 hA3 hAlt
 go_upto_region 2 with (refine wpList_store_new rfl 36 _ _ rfl 36 _ #[.string ⟨#[69, 85, 82]⟩, .int .i64 2026, .int .i64 1, .int .i64 36, .slice A 26 c, .int .i64 1500, .int .i64 1600, .int .i64 1700, .int .i64 1200, .int .i64 3100, .int .i64 3200, .int .i64 3300, .int .i64 3400, .int .i64 3500, .int .i64 4500, .int .i64 4600, .int .i64 4700, .int .i64 5500, .int .i64 5600, .int .i64 5700, .slice none 0 0] rfl rfl rfl h1c grpSize ?_)
 clear h1c
 rw [<- HW4.out]

 go_wp2_with (fail)
 refine (sent_any W4 ⟨#[112, 97, 114, 101, 110, 116]⟩ ⟨#[69, 85, 82]⟩).mono ?_
 rintro e W5 ⟨hB5, A0, c0, L0, d0, rfl, hfa, hfl, ha, hl⟩
 have Fa0 := Lib.hid (show ∀ ad, A0 = some ad -> W4.heap.size <= ad.block from fun ad h => Nat.le_trans (by omega) (hfa ad h))
 have Fl0 := Lib.hid (show ∀ ad, L0 = some ad -> W4.heap.size <= ad.block from fun ad h => Nat.le_trans (by omega) (hfl ad h))
 have a0_5 := Lib.hid ha
 have l0_5 := Lib.hid hl
 have ta0 := Lib.hid (RowsAt.lt ha (by decide))
 have tl0 := Lib.hid (RowsAt.lt hl (by decide))
 clear hfa hfl ha hl
 have HA5 := Lib.hid (RowsAt.at_ HA4.out hB5)
 have Hb5 := Lib.hid (gbox Hb4.out hB5 (some_lt Hb4.out))
 have Hr5 := Lib.hid (gbox Hr4.out hB5 (some_lt Hr4.out))
 have hB05 := hB04.trans (hB5.mono hB04.size)
 go_wp2_with (fail)
 refine (sent_any W5 ⟨#[110, 111, 114, 116, 104]⟩ ⟨#[69, 85, 82]⟩).mono ?_
 rintro e W6 ⟨hB6, A1, c1, L1, d1, rfl, hfa, hfl, ha, hl⟩
 have Fa1 := Lib.hid (show ∀ ad, A1 = some ad -> W4.heap.size <= ad.block from fun ad h => Nat.le_trans (by have := hB5.size; omega) (hfa ad h))
 have Fl1 := Lib.hid (show ∀ ad, L1 = some ad -> W4.heap.size <= ad.block from fun ad h => Nat.le_trans (by have := hB5.size; omega) (hfl ad h))
 have a1_6 := Lib.hid ha
 have l1_6 := Lib.hid hl
 have ta1 := Lib.hid (RowsAt.lt ha (by decide))
 have tl1 := Lib.hid (RowsAt.lt hl (by decide))
 clear hfa hfl ha hl
 have a0_6 := Lib.hid (RowsAt.at_ a0_5.out hB6)
 have l0_6 := Lib.hid (RowsAt.at_ l0_5.out hB6)
 have HA6 := Lib.hid (RowsAt.at_ HA5.out hB6)
 have Hb6 := Lib.hid (gbox Hb5.out hB6 (some_lt Hb5.out))
 have Hr6 := Lib.hid (gbox Hr5.out hB6 (some_lt Hr5.out))
 have hB06 := hB05.trans (hB6.mono hB05.size)
 go_wp2_with (fail)
 refine (sent_any W6 ⟨#[119, 101, 115, 116]⟩ ⟨#[85, 83, 68]⟩).mono ?_
 rintro e W7 ⟨hB7, A2, c2, L2, d2, rfl, hfa, hfl, ha, hl⟩
 have Fa2 := Lib.hid (show ∀ ad, A2 = some ad -> W4.heap.size <= ad.block from fun ad h => Nat.le_trans (by have := hB5.size; have := hB6.size; omega) (hfa ad h))
 have Fl2 := Lib.hid (show ∀ ad, L2 = some ad -> W4.heap.size <= ad.block from fun ad h => Nat.le_trans (by have := hB5.size; have := hB6.size; omega) (hfl ad h))
 have a2_7 := Lib.hid ha
 have l2_7 := Lib.hid hl
 have ta2 := Lib.hid (RowsAt.lt ha (by decide))
 have tl2 := Lib.hid (RowsAt.lt hl (by decide))
 clear hfa hfl ha hl
 have a0_7 := Lib.hid (RowsAt.at_ a0_6.out hB7)
 have l0_7 := Lib.hid (RowsAt.at_ l0_6.out hB7)
 have a1_7 := Lib.hid (RowsAt.at_ a1_6.out hB7)
 have l1_7 := Lib.hid (RowsAt.at_ l1_6.out hB7)
 have HA7 := Lib.hid (RowsAt.at_ HA6.out hB7)
 have Hb7 := Lib.hid (gbox Hb6.out hB7 (some_lt Hb6.out))
 have Hr7 := Lib.hid (gbox Hr6.out hB7 (some_lt Hr6.out))
 have hB07 := hB06.trans (hB7.mono hB06.size)
 go_wp2_with (fail)
 refine (sent_any W7 ⟨#[106, 111, 105, 110, 116]⟩ ⟨#[85, 83, 68]⟩).mono ?_
 rintro e W8 ⟨hB8, A3, c3, L3, d3, rfl, hfa, hfl, ha, hl⟩
 have Fa3 := Lib.hid (show ∀ ad, A3 = some ad -> W4.heap.size <= ad.block from fun ad h => Nat.le_trans (by have := hB5.size; have := hB6.size; have := hB7.size; omega) (hfa ad h))
 have Fl3 := Lib.hid (show ∀ ad, L3 = some ad -> W4.heap.size <= ad.block from fun ad h => Nat.le_trans (by have := hB5.size; have := hB6.size; have := hB7.size; omega) (hfl ad h))
 have a3_8 := Lib.hid ha
 have l3_8 := Lib.hid hl
 have ta3 := Lib.hid (RowsAt.lt ha (by decide))
 have tl3 := Lib.hid (RowsAt.lt hl (by decide))
 clear hfa hfl ha hl
 have a0_8 := Lib.hid (RowsAt.at_ a0_7.out hB8)
 have l0_8 := Lib.hid (RowsAt.at_ l0_7.out hB8)
 have a1_8 := Lib.hid (RowsAt.at_ a1_7.out hB8)
 have l1_8 := Lib.hid (RowsAt.at_ l1_7.out hB8)
 have a2_8 := Lib.hid (RowsAt.at_ a2_7.out hB8)
 have l2_8 := Lib.hid (RowsAt.at_ l2_7.out hB8)
 have HA8 := Lib.hid (RowsAt.at_ HA7.out hB8)
 have Hb8 := Lib.hid (gbox Hb7.out hB8 (some_lt Hb7.out))
 have Hr8 := Lib.hid (gbox Hr7.out hB8 (some_lt Hr7.out))
 have hB08 := hB07.trans (hB8.mono hB07.size)
 have z5 := hB5.size
 have z6 := hB6.size
 have z7 := hB7.size
 have z8 := hB8.size
 have hpq : W3.heap.size < W8.heap.size := by omega
 have hwp : w.heap.size < W3.heap.size := by have := hB0.size; omega
 have g20 := cell_of_row _ _ 20 _ _ _ Hb8.out
 have gf := fun j => frozen_of_row _ _ j _ _ Hb8.out
 simp at g20
 have hlt8 := some_lt Hb8.out
 have h9 := heap_setCell_same W8 W3.heap.size 20 _ _ (.slice (some ⟨W8.heap.size, 0, none⟩) 4 4) Hb8.out
 simp at h9
 have h9r := (heap_setCell_other W8 ⟨W3.heap.size, 20, none⟩ w.heap.size (.slice (some ⟨W8.heap.size, 0, none⟩) 4 4) (by show w.heap.size ≠ W3.heap.size; omega)).trans Hr8.out
 have hB09 := hB08.setCell (p := ⟨W3.heap.size, 20, none⟩) (Nat.le_of_lt hwp) (.slice (some ⟨W8.heap.size, 0, none⟩) 4 4)
 obtain ⟨W9, hW9⟩ : ∃ W9, W9 = W8.setCell ⟨W3.heap.size, 20, none⟩ (.slice (some ⟨W8.heap.size, 0, none⟩) 4 4) := ⟨_, rfl⟩
 have hsz9 : W9.heap.size = W8.heap.size := by rw [hW9]; simp [World.setCell]
 obtain ⟨W10, hW10, hB10, h10q, hz10⟩ := nw1 W9 #[.string ⟨#[112, 97, 114, 101, 110, 116]⟩, .string ⟨#[69, 85, 82]⟩, .slice A0 14 c0, .slice L0 14 d0, .bool false, .string ⟨#[110, 111, 114, 116, 104]⟩, .string ⟨#[69, 85, 82]⟩, .slice A1 14 c1, .slice L1 14 d1, .bool false, .string ⟨#[119, 101, 115, 116]⟩, .string ⟨#[85, 83, 68]⟩, .slice A2 14 c2, .slice L2 14 d2, .bool false, .string ⟨#[106, 111, 105, 110, 116]⟩, .string ⟨#[85, 83, 68]⟩, .slice A3 14 c3, .slice L3 14 d3, .bool false] 83
 rw [hsz9] at h10q
 rw [<- hW9] at h9 h9r hB09
 have a0_10 : AccsAt W10 W10.heap.size A0 Smp.echart := RowsAt.at_ (by rw [hW9]; exact RowsAt.set_other a0_8.out (fun ad h => by have := Fa0.out ad h; omega)) hB10
 have l0_10 : LnksAt W10 W10.heap.size L0 Smp.elinks := RowsAt.at_ (by rw [hW9]; exact RowsAt.set_other l0_8.out (fun ad h => by have := Fl0.out ad h; omega)) hB10
 have a1_10 : AccsAt W10 W10.heap.size A1 Smp.echart := RowsAt.at_ (by rw [hW9]; exact RowsAt.set_other a1_8.out (fun ad h => by have := Fa1.out ad h; omega)) hB10
 have l1_10 : LnksAt W10 W10.heap.size L1 Smp.elinks := RowsAt.at_ (by rw [hW9]; exact RowsAt.set_other l1_8.out (fun ad h => by have := Fl1.out ad h; omega)) hB10
 have a2_10 : AccsAt W10 W10.heap.size A2 Smp.echart := RowsAt.at_ (by rw [hW9]; exact RowsAt.set_other a2_8.out (fun ad h => by have := Fa2.out ad h; omega)) hB10
 have l2_10 : LnksAt W10 W10.heap.size L2 Smp.elinks := RowsAt.at_ (by rw [hW9]; exact RowsAt.set_other l2_8.out (fun ad h => by have := Fl2.out ad h; omega)) hB10
 have a3_10 : AccsAt W10 W10.heap.size A3 Smp.echart := RowsAt.at_ (by rw [hW9]; exact RowsAt.set_other a3_8.out (fun ad h => by have := Fa3.out ad h; omega)) hB10
 have l3_10 : LnksAt W10 W10.heap.size L3 Smp.elinks := RowsAt.at_ (by rw [hW9]; exact RowsAt.set_other l3_8.out (fun ad h => by have := Fl3.out ad h; omega)) hB10
 have hA10 : AccsAt W10 W10.heap.size A Smp.chart := RowsAt.at_ (by rw [hW9]; exact RowsAt.set_other HA8.out (fun ad h => by have := HAlt.out ad h; omega)) hB10
 have HW9 := Lib.hid hW9
 have HW10 := Lib.hid hW10
 have h10 := gbox h9 hB10 (some_lt h9)
 have h10r := gbox h9r hB10 (some_lt h9r)
 have hB010 := hB09.trans (hB10.mono hB09.size)
 have h11 := heap_setCell_same W10 W8.heap.size 19 _ _ (.bool true) h10q
 simp at h11
 have h11p := (heap_setCell_other W10 ⟨W8.heap.size, 19, none⟩ W3.heap.size (.bool true) (by show W3.heap.size ≠ W8.heap.size; omega)).trans h10
 have h11r := (heap_setCell_other W10 ⟨W8.heap.size, 19, none⟩ w.heap.size (.bool true) (by show w.heap.size ≠ W8.heap.size; omega)).trans h10r
 have hB11 := hB010.setCell (p := ⟨W8.heap.size, 19, none⟩) (by show w.heap.size <= W8.heap.size; omega) (.bool true)
 have k20 := cell_of_row _ _ 20 _ _ _ h10
 have k19 := cell_of_row _ _ 19 _ _ _ h10q
 have kf := fun j => frozen_of_row _ _ j _ _ h10q
 simp at k20 k19
 have hlt10 := some_lt h10
 have hqlt10 := some_lt h10q
 obtain ⟨W11, hW11⟩ : ∃ W11, W11 = W10.setCell ⟨W8.heap.size, 19, none⟩ (.bool true) := ⟨_, rfl⟩
 have a0_11 : AccsAt W11 W11.heap.size A0 Smp.echart := by rw [hW11]; exact RowsAt.set_other a0_10 (fun ad h => by have := ta0.out ad h; omega)
 have l0_11 : LnksAt W11 W11.heap.size L0 Smp.elinks := by rw [hW11]; exact RowsAt.set_other l0_10 (fun ad h => by have := tl0.out ad h; omega)
 have a1_11 : AccsAt W11 W11.heap.size A1 Smp.echart := by rw [hW11]; exact RowsAt.set_other a1_10 (fun ad h => by have := ta1.out ad h; omega)
 have l1_11 : LnksAt W11 W11.heap.size L1 Smp.elinks := by rw [hW11]; exact RowsAt.set_other l1_10 (fun ad h => by have := tl1.out ad h; omega)
 have a2_11 : AccsAt W11 W11.heap.size A2 Smp.echart := by rw [hW11]; exact RowsAt.set_other a2_10 (fun ad h => by have := ta2.out ad h; omega)
 have l2_11 : LnksAt W11 W11.heap.size L2 Smp.elinks := by rw [hW11]; exact RowsAt.set_other l2_10 (fun ad h => by have := tl2.out ad h; omega)
 have a3_11 : AccsAt W11 W11.heap.size A3 Smp.echart := by rw [hW11]; exact RowsAt.set_other a3_10 (fun ad h => by have := ta3.out ad h; omega)
 have l3_11 : LnksAt W11 W11.heap.size L3 Smp.elinks := by rw [hW11]; exact RowsAt.set_other l3_10 (fun ad h => by have := tl3.out ad h; omega)
 have hA11 : AccsAt W11 W11.heap.size A Smp.chart := by rw [hW11]; exact RowsAt.set_other hA10 (fun ad h => by have := HAlt.out ad h; omega)
 rw [<- hW11] at h11 h11p h11r hB11
 have HW11 := Lib.hid hW11
 have hE11 : RowsAt Ent.cells 5 W11 W11.heap.size (some ⟨W8.heap.size, 0, none⟩) (Smp.grp A c (some ⟨W8.heap.size, 0, none⟩) 4 ⟨A0, c0, L0, d0⟩ ⟨A1, c1, L1, d1⟩ ⟨A2, c2, L2, d2⟩ ⟨A3, c3, L3, d3⟩).ents := rows_flat (f := Ent.cells) (l := (Smp.grp A c (some ⟨W8.heap.size, 0, none⟩) 4 ⟨A0, c0, L0, d0⟩ ⟨A1, c1, L1, d1⟩ ⟨A2, c2, L2, d2⟩ ⟨A3, c3, L3, d3⟩).ents) h11 (some_lt h11) (fun _ _ => rfl)
 have F0 : ∀ B : Option Addr, (∀ ad, B = some ad -> W4.heap.size <= ad.block) -> Fresh (w.heap.size + 1) B := fun B h ad e => by have := h ad e; omega
 have R := fun {α : Type} {f : α -> List Value} {sz : Nat} {B : Option Addr} {l : List α} (h : RowsAt f sz W11 W11.heap.size B l) (hf : Fresh (w.heap.size + 1) B) => RowsAt.other_row h hf (show w.heap.size < w.heap.size + 1 by omega) #[.string ⟨#[69, 85, 82]⟩, .int .i64 2026, .int .i64 1, .int .i64 36, .slice A 26 c, .int .i64 1500, .int .i64 1600, .int .i64 1700, .int .i64 1200, .int .i64 3100, .int .i64 3200, .int .i64 3300, .int .i64 3400, .int .i64 3500, .int .i64 4500, .int .i64 4600, .int .i64 4700, .int .i64 5500, .int .i64 5600, .int .i64 5700, .slice (some ⟨W8.heap.size, 0, none⟩) 4 4]
 have hgrp : (Smp.grp A c (some ⟨W8.heap.size, 0, none⟩) 4 ⟨A0, c0, L0, d0⟩ ⟨A1, c1, L1, d1⟩ ⟨A2, c2, L2, d2⟩ ⟨A3, c3, L3, d3⟩).At (W11.setRow w.heap.size #[.string ⟨#[69, 85, 82]⟩, .int .i64 2026, .int .i64 1, .int .i64 36, .slice A 26 c, .int .i64 1500, .int .i64 1600, .int .i64 1700, .int .i64 1200, .int .i64 3100, .int .i64 3200, .int .i64 3300, .int .i64 3400, .int .i64 3500, .int .i64 4500, .int .i64 4600, .int .i64 4700, .int .i64 5500, .int .i64 5600, .int .i64 5700, .slice (some ⟨W8.heap.size, 0, none⟩) 4 4]) (W11.setRow w.heap.size #[.string ⟨#[69, 85, 82]⟩, .int .i64 2026, .int .i64 1, .int .i64 36, .slice A 26 c, .int .i64 1500, .int .i64 1600, .int .i64 1700, .int .i64 1200, .int .i64 3100, .int .i64 3200, .int .i64 3300, .int .i64 3400, .int .i64 3500, .int .i64 4500, .int .i64 4600, .int .i64 4700, .int .i64 5500, .int .i64 5600, .int .i64 5700, .slice (some ⟨W8.heap.size, 0, none⟩) 4 4]).heap.size := by
  refine ⟨rfl, show (26 : Nat) <= 100000 by decide, R hA11 (fun ad h => Nat.le_trans (by omega) (HfA.out ad h)), Smp.chart_wf, rfl, show (4 : Nat) <= 100000 by decide, R hE11 (fun ad h => by cases h; show w.heap.size + 1 <= W8.heap.size; omega), ?_, show (3 : Nat) <= maxLen by decide, fun r hr => Smp.roles_wf r hr⟩
  intro e he
  simp only [Smp.grp, List.mem_cons, List.not_mem_nil, or_false] at he
  rcases he with rfl | rfl | rfl | rfl
  ·exact ⟨rfl, show (14 : Nat) <= 100000 by decide, R a0_11 (F0 _ Fa0.out), Smp.echart_wf, rfl, show (14 : Nat) <= 100000 by decide, R l0_11 (F0 _ Fl0.out), Smp.elinks_wf, show (6 : Nat) <= maxLen by decide, show (3 : Nat) <= maxLen by decide⟩
  ·exact ⟨rfl, show (14 : Nat) <= 100000 by decide, R a1_11 (F0 _ Fa1.out), Smp.echart_wf, rfl, show (14 : Nat) <= 100000 by decide, R l1_11 (F0 _ Fl1.out), Smp.elinks_wf, show (5 : Nat) <= maxLen by decide, show (3 : Nat) <= maxLen by decide⟩
  ·exact ⟨rfl, show (14 : Nat) <= 100000 by decide, R a2_11 (F0 _ Fa2.out), Smp.echart_wf, rfl, show (14 : Nat) <= 100000 by decide, R l2_11 (F0 _ Fl2.out), Smp.elinks_wf, show (4 : Nat) <= maxLen by decide, show (3 : Nat) <= maxLen by decide⟩
  ·exact ⟨rfl, show (14 : Nat) <= 100000 by decide, R a3_11 (F0 _ Fa3.out), Smp.echart_wf, rfl, show (14 : Nat) <= 100000 by decide, R l3_11 (F0 _ Fl3.out), Smp.elinks_wf, show (5 : Nat) <= maxLen by decide, show (3 : Nat) <= maxLen by decide⟩
 have Hgrp := Lib.hid hgrp
 have hR := setRow_heap W11 w.heap.size _ #[.string ⟨#[69, 85, 82]⟩, .int .i64 2026, .int .i64 1, .int .i64 36, .slice A 26 c, .int .i64 1500, .int .i64 1600, .int .i64 1700, .int .i64 1200, .int .i64 3100, .int .i64 3200, .int .i64 3300, .int .i64 3400, .int .i64 3500, .int .i64 4500, .int .i64 4600, .int .i64 4700, .int .i64 5500, .int .i64 5600, .int .i64 5700, .slice (some ⟨W8.heap.size, 0, none⟩) 4 4] _ _ h11r
 have hload := Lib.hid (run_loadVar_row (P := Tryz.prog) _ _ _ 36 _ _ _ hR Tryz.underlying36 rfl grpSize)
 have hBF := Lib.hid (below_setRow hB11 (Nat.le_refl _) #[.string ⟨#[69, 85, 82]⟩, .int .i64 2026, .int .i64 1, .int .i64 36, .slice A 26 c, .int .i64 1500, .int .i64 1600, .int .i64 1700, .int .i64 1200, .int .i64 3100, .int .i64 3200, .int .i64 3300, .int .i64 3400, .int .i64 3500, .int .i64 4500, .int .i64 4600, .int .i64 4700, .int .i64 5500, .int .i64 5600, .int .i64 5700, .slice (some ⟨W8.heap.size, 0, none⟩) 4 4])
 have hrg := Lib.hid (range_row (cs := [.string ⟨#[69, 85, 82]⟩, .int .i64 2026, .int .i64 1, .int .i64 36, .slice A 26 c, .int .i64 1500, .int .i64 1600, .int .i64 1700, .int .i64 1200, .int .i64 3100, .int .i64 3200, .int .i64 3300, .int .i64 3400, .int .i64 3500, .int .i64 4500, .int .i64 4600, .int .i64 4700, .int .i64 5500, .int .i64 5600, .int .i64 5700, .slice (some ⟨W8.heap.size, 0, none⟩) 4 4]) h11p)
 have Ho : Hid ((#[.string ⟨#[69, 85, 82]⟩, .int .i64 2026, .int .i64 1, .int .i64 36, .slice A 26 c, .int .i64 1500, .int .i64 1600, .int .i64 1700, .int .i64 1200, .int .i64 3100, .int .i64 3200, .int .i64 3300, .int .i64 3400, .int .i64 3500, .int .i64 4500, .int .i64 4600, .int .i64 4700, .int .i64 5500, .int .i64 5600, .int .i64 5700, .slice (some ⟨W8.heap.size, 0, none⟩) 4 4] : Array Value).all (·.oneCell') = true) := by show _ = true; simp [Value.oneCell']
 have H11r := Lib.hid h11r
 clear a0_10 l0_10 a0_11 l0_11 a1_10 l1_10 a1_11 l1_11 a2_10 l2_10 a2_11 l2_11 a3_10 l3_10 a3_11 l3_11 hA10 hA11 hE11 hgrp hR R F0 h11 h11p h11r h10 h10q h10r h9 h9r hz10 hW9 hW10 hW11 hB11 hB10 hB010 hB09 hsz9
 have T19 := Lib.hid k19
 have T20 := Lib.hid k20
 have Tf := Lib.hid kf
 have Tl := Lib.hid (show W3.heap.size < W10.heap.size /\ W8.heap.size < W10.heap.size from ⟨hlt10, hqlt10⟩)
 clear k19 k20 kf hlt10 hqlt10 hpq z5 z6 z7 z8
 go_upto_region 3 with (fail)
 rw [<- HW9.out, <- HW10.out]
 clear g20 gf hlt8
 have k19 := T19.out
 have k20 := T20.out
 have kf := Tf.out
 obtain ⟨hlt10, hqlt10⟩ := Tl.out
 go_upto_region 4 with (fail)
 rw [<- HW11.out]
 clear k19 k20 kf hlt10 hqlt10
 go_wp2_with (first | (refine wpList_load_mid rfl 36 (.tmp 1) rfl W3.heap.size 0 rfl [.string ⟨#[69, 85, 82]⟩, .int .i64 2026, .int .i64 1, .int .i64 36, .slice A 26 c, .int .i64 1500, .int .i64 1600, .int .i64 1700, .int .i64 1200, .int .i64 3100, .int .i64 3200, .int .i64 3300, .int .i64 3400, .int .i64 3500, .int .i64 4500, .int .i64 4600, .int .i64 4700, .int .i64 5500, .int .i64 5600, .int .i64 5700, .slice (some ⟨W8.heap.size, 0, none⟩) 4 4] _ hrg.out Tryz.underlying36 rfl grpSize ?_) | (refine wpList_store_row rfl 36 (.tmp 0) (.tmp 16) none rfl rfl w.heap.size 36 _ #[.string ⟨#[69, 85, 82]⟩, .int .i64 2026, .int .i64 1, .int .i64 36, .slice A 26 c, .int .i64 1500, .int .i64 1600, .int .i64 1700, .int .i64 1200, .int .i64 3100, .int .i64 3200, .int .i64 3300, .int .i64 3400, .int .i64 3500, .int .i64 4500, .int .i64 4600, .int .i64 4700, .int .i64 5500, .int .i64 5600, .int .i64 5700, .slice (some ⟨W8.heap.size, 0, none⟩) 4 4] rfl rfl H11r.out rfl grpSize Ho.out ?_))
 exact bodyPost_ret (v := .agg #[.string ⟨#[69, 85, 82]⟩, .int .i64 2026, .int .i64 1, .int .i64 36, .slice A 26 c, .int .i64 1500, .int .i64 1600, .int .i64 1700, .int .i64 1200, .int .i64 3100, .int .i64 3200, .int .i64 3300, .int .i64 3400, .int .i64 3500, .int .i64 4500, .int .i64 4600, .int .i64 4700, .int .i64 5500, .int .i64 5600, .int .i64 5700, .slice (some ⟨W8.heap.size, 0, none⟩) 4 4]) (by simp [results, Tryz.results7, asAddr, Act.put, hload.out]) rfl ⟨hBF.out, Smp.grp A c (some ⟨W8.heap.size, 0, none⟩) 4 ⟨A0, c0, L0, d0⟩ ⟨A1, c1, L1, d1⟩ ⟨A2, c2, L2, d2⟩ ⟨A3, c3, L3, d3⟩, rfl, Hgrp.out, ⟨A, c, _, _, _, _, _, _, rfl⟩⟩
end
end Go.Proofs.YtobnfmneeabomaaGreat
