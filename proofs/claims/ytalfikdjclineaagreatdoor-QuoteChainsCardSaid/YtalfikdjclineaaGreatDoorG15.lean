/- My texts Curr, Maps. -/
import Derived.Laws.IdiomStrings
import Derived.WalkKit
import Derived.Maps.Own
import Derived.Maps.OwnOps
import Derived.Maps.Views
import Derived.Test.YtalfikdjclineaaGreatDoorG14
set_option linter.unusedVariables false
set_option linter.unusedSimpArgs false
set_option maxRecDepth 100000
set_option maxHeartbeats 8000000
namespace Go.Proofs.YtalfikdjclineaaGreatDoor
open Go.RowKit

theorem allTake (l : List UInt8) (p : UInt8 -> Bool) (k : Nat) (h : k < l.length) : (l.take (k + 1)).all p = ((l.take k).all p && p l[k]) := by
  rw [List.take_succ_eq_append_getElem h, List.all_append]; simp
theorem allMiss (l : List UInt8) (p : UInt8 -> Bool) (k : Nat) (h : k < l.length) (hp : p l[k] = false) : l.all p = false := by
  rw [List.all_eq_false]; exact ⟨l[k], List.getElem_mem h, by simp [hp]⟩

section
variable (w : World)
theorem rcur_any (s : ByteArray) (hs : s.size <= maxLen) : Calls Tryz.prog 39 #[.string s] w fun e w' => e = .returned (.bool (Rates.isCur s)) /\ w = w' := by
  unfold maxLen at hs
  have hsz : s.data.toList.length = s.size := by simp
  go_enter Tryz.func39, Tryz.ntmps39
  go_wp2
  go_loop [3] (fun i => ∃ k : Nat, k <= s.size /\ i = .int .i64 k /\ (s.data.toList.take k).all Rates.upper = true) (fun i => s.size - (intOf i).toNat)
  case atStart => exact ⟨0, Nat.zero_le _, rfl, rfl⟩
  case round =>
    obtain ⟨k, hk, rfl, ha⟩ := hrel
    have Ha := Lib.hid ha
    clear ha
    by_cases hlt : k < s.size
    · have hg : s.data.toList[k]'(by omega) = s[k] := rfl
      by_cases h1 : (s[k].toNat : Int) < 65
      · have hf : Hid (Rates.isCur s = false) := by
          show Rates.isCur s = false
          unfold Rates.isCur Rates.allUp
          rw [allMiss _ _ k (by omega) (by rw [hg]; unfold Rates.upper; simp only [decide_eq_false_iff_not]; omega)]; rfl
        clear hg
        go_wp2
        go_ret
        exact ⟨ret_bool hf.out.symm, rfl⟩
      · by_cases h2 : 90 < (s[k].toNat : Int)
        · have hf : Hid (Rates.isCur s = false) := by
            show Rates.isCur s = false
            unfold Rates.isCur Rates.allUp
            rw [allMiss _ _ k (by omega) (by rw [hg]; unfold Rates.upper; simp only [decide_eq_false_iff_not]; omega)]; rfl
          clear hg
          go_wp2
          go_ret
          exact ⟨ret_bool hf.out.symm, rfl⟩
        · have hf : Hid ((s.data.toList.take (k + 1)).all Rates.upper = true) := by
            show _ = true
            rw [allTake _ _ k (by omega), Ha.out, hg]
            unfold Rates.upper
            simp; omega
          clear hg
          go_wp2
          go_round
          case rel => exact ⟨k + 1, by omega, by go_num, hf.out⟩
          case measure => simp [intOf]; omega
    · obtain rfl : k = s.size := by omega
      have hf : Hid (Rates.isCur s = (s.size == 3)) := by
        show _ = _
        have h := Ha.out
        rw [List.take_of_length_le (by omega)] at h
        have h2 : Rates.allUp s = true := h
        unfold Rates.isCur
        simp only [h2, Bool.true_and]
      clear hsz
      go_wp2
      go_ret
      refine ⟨ret_bool ?_, rfl⟩
      rw [hf.out, Bool.eq_iff_iff]; simp; omega

theorem low_any (x : Int) : Calls Tryz.prog 66 #[.int .u8 x] w fun e w' => e = .returned (.bool (!decide (65 <= x /\ x <= 90))) /\ w = w' := by
  go_enter Tryz.func66, Tryz.ntmps66
  go_wp2
  all_goals (go_ret; exact ⟨ret_bool (by rw [Bool.eq_iff_iff]; simp <;> omega), rfl⟩)

theorem idxbytes_any (b n c : Nat) (s : ByteArray) (hn : s.size = n) (hs : n <= 100) (hc : ∀ j (h : j < s.size), w.cell? ⟨b, j, none⟩ = some (.int .u8 (s[j].toNat : Int))) :
    Calls Tryz.prog 90 #[.slice (some ⟨b, 0, none⟩) n c, .func (.func 66) #[] #[]] w fun e w' => ∃ i : Int, e = .returned (.int .i64 i) /\ (0 <= i ↔ Rates.allUp s = false) /\ w = w' := by
  subst hn
  have hsz : s.data.toList.length = s.size := by simp
  go_enter Tryz.func90, Tryz.ntmps90
  go_wp2
  go_loop [8] (fun i => ∃ k : Nat, k <= s.size /\ i = .int .i64 k /\ (s.data.toList.take k).all Rates.upper = true) (fun i => s.size - (intOf i).toNat)
  case atStart => exact ⟨0, Nat.zero_le _, rfl, rfl⟩
  case round =>
    obtain ⟨k, hk, rfl, ha⟩ := hrel
    have Ha := Lib.hid ha
    clear ha
    by_cases hlt : k < s.size
    · have hg : s.data.toList[k]'(by omega) = s[k] := rfl
      have hck := hc k hlt
      by_cases h1 : Rates.upper s[k] = true
      · have hd : decide (65 <= (s[k].toNat : Int) /\ (s[k].toNat : Int) <= 90) = true := h1
        have hf : Hid ((s.data.toList.take (k + 1)).all Rates.upper = true) := by
          show _ = true
          rw [allTake _ _ k (by omega), Ha.out, hg, h1]; rfl
        clear hg h1
        go_wp2_with (go_at_call 66; refine (low_any _ _).mono ?_; rw [hd]; rintro e w4 ⟨rfl, rfl⟩)
        go_round
        case rel => exact ⟨k + 1, by omega, by go_num, hf.out⟩
        case measure => simp [intOf]; omega
      · have h1' : Rates.upper s[k] = false := by simpa using h1
        have hd : decide (65 <= (s[k].toNat : Int) /\ (s[k].toNat : Int) <= 90) = false := h1'
        have hf : Hid (Rates.allUp s = false) := allMiss _ _ k (by omega) (by rw [hg]; exact h1')
        clear hg h1 h1'
        go_wp2_with (go_at_call 66; refine (low_any _ _).mono ?_; rw [hd]; rintro e w4 ⟨rfl, rfl⟩)
        go_ret
        exact ⟨_, rfl, ⟨fun _ => hf.out, fun _ => by omega⟩, rfl⟩
    · obtain rfl : k = s.size := by omega
      clear hc
      go_wp2
      go_ret
      refine ⟨_, rfl, ⟨fun h => by omega, fun h => ?_⟩, rfl⟩
      have h' := Ha.out
      rw [List.take_of_length_le (by omega)] at h'
      exact absurd h (by unfold Rates.allUp; rw [h']; simp)

theorem cntbytes_any (b n c : Nat) (s : ByteArray) (hn : s.size = n) (hs : n <= 100) (hc : ∀ j (h : j < s.size), w.cell? ⟨b, j, none⟩ = some (.int .u8 (s[j].toNat : Int))) :
    Calls Tryz.prog 65 #[.slice (some ⟨b, 0, none⟩) n c, .func (.func 66) #[] #[]] w fun e w' => e = .returned (.bool (!Rates.allUp s)) /\ w = w' := by
  have H := Lib.hid (idxbytes_any w b n c s hn hs hc)
  clear hc
  go_enter Tryz.func65, Tryz.ntmps65
  go_wp2_with (go_at_call 90; refine H.out.mono ?_; rintro e w4 ⟨i, rfl, hi, rfl⟩)
  go_ret
  refine ⟨ret_bool ?_, rfl⟩
  rw [Bool.eq_iff_iff]
  try simp only [decide_eq_true_eq, Bool.not_eq_true', hi]

theorem cur_any (s : ByteArray) (_hs : s.size <= maxLen) : Calls Tryz.prog 35 #[.string s] w fun e w' => e = .returned (.bool (Rates.isCur s)) /\ Below w.heap.size w w' := by
  by_cases h3 : s.size = 3
  · have hconv := fun W => run_bytes_of_string (P := Tryz.prog) W 9 96 5 s Tryz.underlying9 Tryz.underlying96 Tryz.underlying5
    have hr : Hid (Rates.isCur s = Rates.allUp s) := by show _ = _; unfold Rates.isCur; simp [h3]
    have h3' : ((s.size : Int) == 3) = true := by rw [h3]; rfl
    have h4 : s.size <= 100 := by omega
    clear h3
    go_enter Tryz.func35, Tryz.ntmps35
    go_wp2_with (fail)
    refine (cntbytes_any _ _ _ _ s rfl h4 ?_).mono ?_
    · intro j hj
      show (w.alloc _).cell? _ = _
      rw [cell_of_row _ _ _ _ _ _ (heap_alloc_new w _)]
      exact bytesRow_at s _ j hj
    rintro e w4 ⟨rfl, rfl⟩
    go_wp2
    go_ret
    exact ⟨ret_bool (by rw [hr.out]; try simp), ((Below.refl _ _).alloc (Nat.le_refl _) _).drew⟩
  · have hr : Hid (Rates.isCur s = false) := by show _ = _; unfold Rates.isCur; simp [h3]
    have h3' : ((s.size : Int) == 3) = false := by simp; omega
    clear h3
    go_enter Tryz.func35, Tryz.ntmps35
    go_wp2
    go_ret
    exact ⟨ret_bool hr.out.symm, Below.refl _ _⟩

theorem proper_split (g a1 : ByteArray) (a4 : Int) (hq : ¬ (Rates.isCur a1 = true /\ ¬ a1.toList = g.toList /\ 1 <= a4 /\ a4 <= 1000000000000)) :
    Rates.isCur a1 = false ∨ (Rates.isCur a1 = true /\ (a1.toList == g.toList) = true) ∨ (Rates.isCur a1 = true /\ (a1.toList == g.toList) = false /\ a4 < 1) ∨ (Rates.isCur a1 = true /\ (a1.toList == g.toList) = false /\ 1 <= a4 /\ 1000000000000 < a4) := by
  by_cases h1 : Rates.isCur a1 = true
  · by_cases h2 : a1.toList = g.toList
    · simp [h1, h2]
    · simp [h1, h2]; by_cases h3 : a4 < 1
      · exact .inl h3
      · refine .inr ⟨by omega, ?_⟩
        rcases Int.lt_or_le 1000000000000 a4 with h | h
        · exact h
        · exact absurd ⟨h1, h2, by omega, h⟩ hq
  · simp [h1]
theorem proper_no (g a1 : ByteArray) (a2 a3 a4 : Int) (hq : ¬ (Rates.isCur a1 = true /\ ¬ a1.toList = g.toList /\ 1 <= a4 /\ a4 <= 1000000000000)) : Rates.proper g ⟨a1, a2, a3, a4⟩ = false := by
  unfold Rates.proper
  rw [Bool.and_eq_false_iff]; left
  rw [Bool.and_eq_false_iff, Bool.and_eq_false_iff]
  simp only [Bool.not_eq_false', beq_iff_eq, decide_eq_false_iff_not]
  by_cases h1 : Rates.isCur a1 = true <;> by_cases h2 : a1.toList = g.toList <;> simp_all
theorem proper_yes (g a1 : ByteArray) (a4 : Int) (h1 : Rates.isCur a1 = true) (he : (a1.toList == g.toList) = false) (h3 : 1 <= a4) (h4 : a4 <= 1000000000000) (x2 x3 : Int) :
    Rates.proper g ⟨a1, x2, x3, a4⟩ = ((x2 == 1 && Rates.dateB x3) || (x2 == 2 && decide (0 <= x3 /\ x3 < 120))) := by
  simp [Rates.proper, h1, he, h3, h4]

theorem rproper_any (g a1 : ByteArray) (a2 a3 a4 : Int) (ha : a1.size <= maxLen) :
    Calls Tryz.prog 67 #[.string g, .agg #[.string a1, .int .i64 a2, .int .i64 a3, .int .i64 a4]] w fun e w' => e = .returned (.bool (Rates.proper g ⟨a1, a2, a3, a4⟩)) /\ Below w.heap.size w w' := by
  by_cases hq : Rates.isCur a1 = true /\ ¬ a1.toList = g.toList /\ 1 <= a4 /\ a4 <= 1000000000000
  · obtain ⟨h1, h2, h3, h4⟩ := hq
    have he : (a1.toList == g.toList) = false := by simpa using h2
    have hr := Lib.hid (proper_yes g a1 a4 h1 he h3 h4)
    clear h2
    go_enter Tryz.func67, Tryz.ntmps67
    go_wp2_with (first | (go_at_call 39; refine (rcur_any _ _ ha).mono ?_; rw [h1]; rintro e w4 ⟨rfl, rfl⟩) | (go_at_call 69; refine (rvalid_any _ _).mono ?_; rintro e w5 ⟨rfl, rfl⟩))
    all_goals (go_ret; exact ⟨ret_bool (by rw [hr.out]; unfold Rates.dateB; simp [*] <;> omega), (Below.refl _ _).alloc (Nat.le_refl _) _⟩)
  · have hr := Lib.hid (proper_no g a1 a2 a3 a4 hq)
    rcases proper_split g a1 a4 hq with h1 | ⟨h1, h2⟩ | ⟨h1, h2, h3⟩ | ⟨h1, h2, h3, h4⟩
    all_goals
      clear hq
      go_enter Tryz.func67, Tryz.ntmps67
      go_wp2_with (first | (go_at_call 39; refine (rcur_any _ _ ha).mono ?_; rw [h1]; rintro e w4 ⟨rfl, rfl⟩))
      go_ret
      exact ⟨ret_bool hr.out.symm, (Below.refl _ _).alloc (Nat.le_refl _) _⟩

theorem dproper_any (g a1 : ByteArray) (a2 a3 a4 : Int) (ha : a1.size <= maxLen) :
    Calls Tryz.prog 63 #[.string g, .agg #[.string a1, .int .i64 a2, .int .i64 a3, .int .i64 a4]] w fun e w' => e = .returned (.bool (Rates.proper g ⟨a1, a2, a3, a4⟩)) /\ Below w.heap.size w w' := by
  by_cases hq : Rates.isCur a1 = true /\ ¬ a1.toList = g.toList /\ 1 <= a4 /\ a4 <= 1000000000000
  · obtain ⟨h1, h2, h3, h4⟩ := hq
    have he : (a1.toList == g.toList) = false := by simpa using h2
    have hr := Lib.hid (proper_yes g a1 a4 h1 he h3 h4)
    clear h2
    go_enter Tryz.func63, Tryz.ntmps63
    go_wp2_with (first | (go_at_call 35; refine (cur_any _ _ ha).mono ?_; rw [h1]; rintro e w4 ⟨rfl, hB⟩; obtain ⟨hc, hf⟩ := bcell hB) | (go_at_call 36; refine (dvalid_any _ _).mono ?_; rintro e w5 ⟨rfl, rfl⟩))
    all_goals (go_ret; exact ⟨ret_bool (by rw [hr.out]; unfold Rates.dateB; simp [*] <;> omega), ((Below.refl _ _).alloc (Nat.le_refl _) _).trans (hB.mono (by simp))⟩)
  · have hr := Lib.hid (proper_no g a1 a2 a3 a4 hq)
    rcases proper_split g a1 a4 hq with h1 | ⟨h1, h2⟩ | ⟨h1, h2, h3⟩ | ⟨h1, h2, h3, h4⟩
    all_goals
      clear hq
      go_enter Tryz.func63, Tryz.ntmps63
      go_wp2_with (first | (go_at_call 35; refine (cur_any _ _ ha).mono ?_; rw [h1]; rintro e w4 ⟨rfl, hB⟩; obtain ⟨hc, hf⟩ := bcell hB))
      go_ret
      exact ⟨ret_bool hr.out.symm, ((Below.refl _ _).alloc (Nat.le_refl _) _).trans (hB.mono (by simp))⟩
end
end Go.Proofs.YtalfikdjclineaaGreatDoor
namespace Go.Proofs.YtalfikdjclineaaGreatDoor
open Go.RowKit Go.Maps

def heldR (v : Value) : Option (DataW Value × List MemPlace) := some (.held v, [])

def MapAt (w : World) (P : Program) (k : TypeId) (b n : Nat) (f : Value -> Option Value) : Prop :=
  ∃ D : DataW Value, w.ownsMap P k heldR b n D /\ IsMap D /\ ∀ x kl, keyOf P k x = some kl -> ∀ z, D.atKey kl (.held z) = .held ((f x).getD z)

section
variable {w w' : World} {P : Program} {k t e : TypeId} {b n : Nat} {f : Value -> Option Value}
theorem MapAt.lt (h : MapAt w P k b n f) : b < w.heap.size := by obtain ⟨D, h, _⟩ := h; exact h.lt
theorem MapAt.made (w : World) (P : Program) (k : TypeId) : MapAt (w.alloc (.map #[] 0)) P k w.heap.size 0 (fun _ => none) :=
  ⟨_, World.ownsMap_made w P k heldR, isMap_empty, fun _ _ _ _ => rfl⟩
theorem MapAt.kept {row : Option Nat} (h : MapAt w P k b n f) (hg : w.grownBy w' row) (hne : some b ≠ row) : MapAt w' P k b n f := by
  obtain ⟨D, h, r⟩ := h; exact ⟨D, h.kept hg hne, r⟩
theorem MapAt.alloc (h : MapAt w P k b n f) (o : Obj) : MapAt (w.alloc o) P k b n f := by obtain ⟨D, h, r⟩ := h; exact ⟨D, h.alloc o, r⟩
theorem MapAt.drew (h : MapAt w P k b n f) : MapAt w.drew P k b n f := h
theorem MapAt.below {B : Nat} (h : MapAt w P k b n f) (hb : Below B w w') (hB : b < B) : MapAt w' P k b n f := by
  obtain ⟨D, ⟨es, clock, he, r⟩, r2⟩ := h
  exact ⟨D, ⟨es, clock, (hb.block b hB).trans he, r⟩, r2⟩
theorem MapAt.mono (h : MapAt w P k b n f) {n' : Nat} (hn : n <= n') : MapAt w P k b n' f := by obtain ⟨D, h, r⟩ := h; exact ⟨D, h.mono hn, r⟩
theorem MapAt.ext {g : Value -> Option Value} (h : MapAt w P k b n f) (e : ∀ x kl, keyOf P k x = some kl -> f x = g x) : MapAt w P k b n g := by
  obtain ⟨D, h, r, s⟩ := h; exact ⟨D, h, r, fun x kl hk z => by rw [<- e x kl hk]; exact s x kl hk z⟩
theorem MapAt.lookup (h : MapAt w P k b n f) (K : Keyed P k) (ht : P.underlying t = some (.map k e)) {z : Value} (hz : (zeroValue e).run P w = .ok z w)
    {key : Value} {kl : Lit} (hkey : keyOf P k key = some kl) : (Instr.lookup t (.map (some b)) key false).run P w = .ok ((f key).getD z) w := by
  obtain ⟨D, h, _, s⟩ := h
  obtain ⟨v, ps, hrun, hv⟩ := h.lookup K ht hz (zd := .held z) (zp := []) rfl hkey
  rw [s key kl hkey z] at hv
  simp only [heldR, Option.some.injEq, Prod.mk.injEq, DataW.held.injEq] at hv
  rw [hrun, hv.1]
open Classical in
theorem MapAt.update (h : MapAt w P k b n f) (K : Keyed P k) (ht : P.underlying t = some (.map k e)) (hn : n < maxLen) {key val : Value} {kl : Lit} (hkey : keyOf P k key = some kl) :
    ∃ w', (Instr.mapUpdate t (.map (some b)) key val).run P w = .ok () w' /\ MapAt w' P k b (n + 1) (fun x => if x = key then some val else f x) /\ w.grownBy w' (some b) := by
  obtain ⟨D, h, hm, s⟩ := h
  obtain ⟨w', hrun, ho, hg⟩ := h.update K ht hn hkey (d := .held val) (ps := []) rfl
  refine ⟨w', hrun, ⟨_, ho, hm.put _ _, fun x kl' hk z => ?_⟩, hg⟩
  by_cases hx : x = key
  · subst hx
    rw [hkey] at hk; cases hk
    rw [atKey_put_same hm (K.key hkey)]
    show _ = DataW.held ((if x = x then some val else f x).getD z)
    rw [if_pos rfl]; rfl
  · show _ = DataW.held ((if x = key then some val else f x).getD z)
    rw [if_neg hx, <- s x kl' hk z]
    exact atKey_put_other (fun e => hx (K.inj (by rw [hk, e]) hkey)) _ _

open Classical in
theorem wpList_mapUpdate_at {ops : Array Oper} {rest : List Oper} {o : Oper} {a : Act} {Q : Exit -> Act -> World -> Prop}
    (hg : o.guard = none) (m x v : Operand) (hop : o.op = Op.mapUpdate t m x v) (h : MapAt w P k b n f) (K : Keyed P k) (ht : P.underlying t = some (.map k e))
    (hm : a.eval m = .map (some b)) (hn : n < maxLen) (key val : Value) (kl : Lit) (hx : a.eval x = key) (hv : a.eval v = val) (hkey : keyOf P k key = some kl)
    (hK : ∀ w', MapAt w' P k b (n + 1) (fun x => if x = key then some val else f x) -> w.grownBy w' (some b) -> wpList P ops Q rest (a.put o.dst undef) w') :
    wpList P ops Q (o :: rest) a w := by
  refine wpList_plain hg fun K' hK' => ?_
  obtain ⟨w', hrun, r1, r2⟩ := h.update K ht hn (val := val) hkey
  unfold Oper.wp
  simp [execOp, hop, hm, hx, hv, hrun, Result.andThen]
  exact hK' _ _ (hK w' r1 r2)
end
end Go.Proofs.YtalfikdjclineaaGreatDoor
