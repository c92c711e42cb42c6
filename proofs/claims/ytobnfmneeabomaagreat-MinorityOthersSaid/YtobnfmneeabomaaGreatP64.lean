/- My texts PartQ, PartW39. -/
import Derived.Test.YtobnfmneeabomaaGreatK46
import Derived.Test.YtobnfmneeabomaaGreatP61
set_option linter.unusedVariables false
set_option linter.unusedSimpArgs false
set_option maxRecDepth 100000
set_option maxHeartbeats 8000000
namespace Go.Proofs.YtobnfmneeabomaaGreat
open Go.RowKit
namespace Po
def part (l : List Prt) (a : Int) : Int := match l.find? (fun x => x.acct == a) with
 | some x => x.amt
 | none => 0
theorem part_map (f : Int -> Int) (a : Int) : ∀ (s : List Int), part (s.map (fun a => ⟨a, f a⟩)) a = if a ∈ s then f a else 0
 | [] => rfl
 | b :: s => by
  by_cases h : b = a
  ·subst h; simp [part]
  ·have ih := part_map f a s
   unfold part at ih ⊢
   rw [List.map_cons, List.find?_cons_of_neg (by simp [h])]
   rw [ih]
   simp [Ne.symm h]
theorem part_parts (l : List Prt) (a : Int) : part (parts l) a = sum a l := by
 unfold parts
 rw [part_map (fun a => sum a l)]
 by_cases h : a ∈ keep l
 ·rw [if_pos h]
 ·rw [if_neg h]
  unfold keep at h
  rw [List.mem_filter] at h
  by_cases ha : a ∈ asc l
  ·have : ¬ (decide (sum a l ≠ 0) = true) := fun e => h ⟨ha, e⟩
   simp at this
   exact this.symm
  ·symm
   exact sum_none a l fun x hx e => ha ((mem_asc a l).2 ⟨x, hx, e⟩)
theorem parts_none {l : List Prt} (h : ∀ a, sum a l = 0) : parts l = [] := by
 unfold parts keep
 rw [List.map_eq_nil_iff, List.filter_eq_nil_iff]
 intro a _
 simp [h a]
theorem part_clean {l : List Prt} (h : (clean l).2 = 0) (a : Int) : part (clean l).1 a = sum a l := by
 unfold clean at h ⊢
 split at h
 ·cases h
 ·rename_i hb
  rw [if_neg hb]
  exact part_parts l a
theorem part_nil (a : Int) : part [] a = 0 := rfl
end Po
theorem part_take {l : List Prt} {a : Int} {k : Nat} (hk : k < l.length) (h : (l.take k).find? (fun x => x.acct == a) = none) :
  (l[k].acct = a -> Po.part l a = l[k].amt) /\ (l[k].acct ≠ a -> (l.take (k + 1)).find? (fun x => x.acct == a) = none) := by
 have h1 : (l.take (k + 1)).find? (fun x => x.acct == a) = if l[k].acct = a then some l[k] else none := by
  rw [List.take_succ_eq_append_getElem hk, List.find?_append, h]
  simp [List.find?_cons]
  split <;> simp_all
 constructor
 ·intro e
  rw [if_pos e] at h1
  unfold Po.part
  have h2 : l.find? (fun x => x.acct == a) = (l.take (k + 1) ++ l.drop (k + 1)).find? (fun x => x.acct == a) := by rw [List.take_append_drop]
  rw [h2, List.find?_append, h1]; rfl
 ·intro e
  rw [if_neg e] at h1
  exact h1
section
variable (w : World)
theorem part39_any (k x o r : Int) (A : Option Addr) (n c : Nat) (l : List Prt) (a : Int) (hl : l.length = n) (hn : n <= 1000) (h : PrtsAt w w.heap.size A l) :
  Calls Tryz.prog 13 #[.agg #[.int .i64 k, .int .i64 x, .int .i64 o, .int .i64 r, .slice A n c], .int .i64 a] w fun e w' => e = .returned (.int .i64 (Po.part l a)) /\ Below w.heap.size w w' := by
 obtain ⟨W1, hW1, hB0, hb0, hz⟩ := nw1 w #[.int .i64 k, .int .i64 x, .int .i64 o, .int .i64 r, .slice A n c] 53
 have HW := Lib.hid hW1
 have a4 := cell_of_row _ _ 4 _ _ _ hb0
 simp at a4
 have s1 : w.heap.size < W1.heap.size := by omega
 have H := Lib.hid (RowsAt.at_ h hB0)
 have Hl := Lib.hid hl
 have HB0 := Lib.hid hB0
 clear hW1 hz hb0 hl h hB0
 go_enter Tryz.func13, Tryz.ntmps13
 go_upto_region 1 with (fail)
 rw [<- HW.out]
 go_wp2
 go_loopw [5] (fun i wr => ∃ j : Nat, j <= n /\ i = .int .i64 j /\ (l.take j).find? (fun x => x.acct == a) = none /\ wr = W1) (fun i _ => n - (intOf i).toNat)
 case atStart => exact ⟨0, Nat.zero_le _, rfl, rfl, rfl⟩
 case round =>
  obtain ⟨j, hj, rfl, hno, rfl⟩ := hrel
  have Hno := Lib.hid hno
  clear hno
  by_cases hlt : j < n
  ·have hjl : j < l.length := by have := Hl.out; omega
   obtain ⟨b, o1, hAe, hbB, c0, c1⟩ := PrtsAt.two H.out hjl
   obtain ⟨hy, hn'⟩ := part_take hjl Hno.out
   subst hAe
   obtain ⟨u, hu⟩ : ∃ u, u = l[j].acct := ⟨_, rfl⟩
   obtain ⟨m, hm⟩ : ∃ m, m = l[j].amt := ⟨_, rfl⟩
   rw [<- hu] at c0 hy hn'
   rw [<- hm] at c1 hy
   by_cases hc : u = a
   ·have HV := Lib.hid (hy hc)
    have hcb : (u == a) = true := by simp [hc]
    clear hu hm hy hn' hc
    go_wp2
    go_ret
    exact ⟨by rw [HV.out]; rfl, HB0.out⟩
   ·have HV := Lib.hid (hn' hc)
    have hcb : (u == a) = false := by simp [hc]
    clear hu hm hy hn' hc
    go_wp2
    go_roundw
    case rel => exact ⟨j + 1, by omega, by go_num, HV.out, by simp⟩
    case measure => simp [intOf]; omega
  ·obtain rfl : j = n := by omega
   have htk : l.take j = l := List.take_of_length_le (by have := Hl.out; omega)
   have HV : Hid (Po.part l a = 0) := by show _ = _; have := Hno.out; rw [htk] at this; unfold Po.part; rw [this]
   clear htk
   go_wp2
   go_ret
   exact ⟨by rw [HV.out]; rfl, HB0.out⟩
end
end Go.Proofs.YtobnfmneeabomaaGreat
