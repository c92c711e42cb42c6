/- My texts RatePlain, Rates. -/
import Derived.WalkKit
import Derived.Test.YtalfikdjclineaaGreatDoorG13
set_option linter.unusedVariables false
set_option linter.unusedSimpArgs false
set_option maxRecDepth 100000
set_option maxHeartbeats 8000000
namespace Go.Proofs.YtalfikdjclineaaGreatDoor
structure Rt where
  cur : ByteArray
  kind : Int
  when_ : Int
  val : Int

namespace Rt
def v (r : Rt) : Value := .agg #[.string r.cur, .int .i64 r.kind, .int .i64 r.when_, .int .i64 r.val]
def at_ (r : Rt) (c : ByteArray) (k d : Int) : Bool := r.cur.toList == c.toList && r.kind == k && r.when_ == d
def same (a b : Rt) : Bool := a.at_ b.cur b.kind b.when_
def zero : Rt := ⟨ByteArray.empty, 0, 0, 0⟩
theorem at_iff (r : Rt) (c : ByteArray) (k d : Int) : r.at_ c k d = true ↔ (r.cur.toList = c.toList /\ r.kind = k /\ r.when_ = d) := by
  simp [at_, and_assoc]
theorem toList_inj {a b : ByteArray} (h : a.toList = b.toList) : a = b := by
  rw [ByteArray.toList_eq, ByteArray.toList_eq] at h
  exact ByteArray.ext (Array.toList_inj.mp h)
end Rt

namespace Rates
def find (l : List Rt) (c : ByteArray) (k d : Int) : Option Int := (l.find? fun r => r.at_ c k d).map (·.val)
def upper (b : UInt8) : Bool := decide (65 <= (b.toNat : Int) /\ (b.toNat : Int) <= 90)
def allUp (s : ByteArray) : Bool := s.data.toList.all upper
def isCur (s : ByteArray) : Bool := allUp s && s.size == 3
def dateB (d : Int) : Bool := decide (-25567 <= d /\ d <= 84005)
def proper (g : ByteArray) (r : Rt) : Bool :=
  isCur r.cur && !(r.cur.toList == g.toList) && decide (1 <= r.val /\ r.val <= 1000000000000) &&
    ((r.kind == 1 && dateB r.when_) || (r.kind == 2 && decide (0 <= r.when_ /\ r.when_ < 120)))
def fresh : List Rt -> Bool
  | [] => true
  | r :: l => l.all (fun x => !(r.same x)) && fresh l
def valid (g : ByteArray) (l : List Rt) : Bool := l.all (proper g) && fresh l && isCur g && decide (l.length <= 1000)

def Fresh (l : List Rt) : Prop := l.Pairwise fun a b => a.same b = false
theorem fresh_iff (l : List Rt) : fresh l = true ↔ Fresh l := by
  unfold Fresh
  induction l with
  | nil => simp [fresh]
  | cons r l ih => rw [List.pairwise_cons, fresh, Bool.and_eq_true, ih, List.all_eq_true]; simp
def Pre (g : ByteArray) (l : List Rt) (k : Nat) : Prop := (l.take k).all (proper g) = true /\ Fresh (l.take k)
theorem pre_zero (g : ByteArray) (l : List Rt) : Pre g l 0 := ⟨rfl, by simp [Fresh]⟩
theorem pre_succ (g : ByteArray) (l : List Rt) (k : Nat) (h : k < l.length) (hp : Pre g l k) (h1 : proper g l[k] = true) (h2 : (l.take k).any (fun r => r.same l[k]) = false) : Pre g l (k + 1) := by
  unfold Pre
  rw [List.take_succ_eq_append_getElem h]
  refine ⟨?_, ?_⟩
  · rw [List.all_append, hp.1]; simp [h1]
  · unfold Fresh
    rw [List.pairwise_append]
    refine ⟨hp.2, by simp, fun a ha b hb => ?_⟩
    simp only [List.mem_singleton] at hb
    subst hb
    rw [List.any_eq_false] at h2
    simpa using h2 a ha
theorem pre_end (g : ByteArray) (l : List Rt) (hp : Pre g l l.length) : valid g l = (isCur g && decide (l.length <= 1000)) := by
  unfold Pre at hp
  rw [List.take_length] at hp
  unfold valid
  rw [hp.1, (fresh_iff l).2 hp.2]; simp
theorem valid_improper (g : ByteArray) (l : List Rt) (k : Nat) (h : k < l.length) (h1 : proper g l[k] = false) : valid g l = false := by
  have : l.all (proper g) = false := by rw [List.all_eq_false]; exact ⟨l[k], List.getElem_mem h, by simp [h1]⟩
  unfold valid; rw [this]; rfl
theorem valid_twice (g : ByteArray) (l : List Rt) (k j : Nat) (h : k < l.length) (hj : j < k) (h1 : (l[j]'(by omega)).same l[k] = true) : valid g l = false := by
  have : fresh l = false := by
    rw [Bool.eq_false_iff]; intro hf
    rw [fresh_iff, Fresh, List.pairwise_iff_getElem] at hf
    rw [hf j k (by omega) h hj] at h1; cases h1
  unfold valid; rw [this]; simp
theorem valid_twice' (g : ByteArray) (l : List Rt) (k : Nat) (h : k < l.length) (h1 : (l.take k).any (fun r => r.same l[k]) = true) : valid g l = false := by
  rw [List.any_eq_true] at h1
  obtain ⟨x, hx, hs⟩ := h1
  obtain ⟨j, hj, e⟩ := List.mem_take_iff_getElem.1 hx
  subst e
  exact valid_twice g l k j h (by omega) hs
theorem any_take_succ (l : List Rt) (p : Rt -> Bool) (j : Nat) (h : j < l.length) : (l.take (j + 1)).any p = ((l.take j).any p || p l[j]) := by
  rw [List.take_succ_eq_append_getElem h, List.any_append]; simp
theorem valid_iff (g : ByteArray) (l : List Rt) : valid g l = true ↔ ((∀ r ∈ l, proper g r = true) /\ Fresh l /\ isCur g = true /\ l.length <= 1000) := by
  unfold valid
  simp only [Bool.and_eq_true, List.all_eq_true, fresh_iff, decide_eq_true_eq, and_assoc]

theorem find_take_succ (l : List Rt) (c : ByteArray) (k d : Int) (n : Nat) (h : n < l.length) :
    find (l.take (n + 1)) c k d = ((find (l.take n) c k d).or (if l[n].at_ c k d = true then some l[n].val else none)) := by
  unfold find
  rw [List.take_succ_eq_append_getElem h, List.find?_append]
  cases (l.take n).find? (fun r => r.at_ c k d) with
  | some x => simp
  | none => by_cases hb : l[n].at_ c k d = true <;> simp [hb]
theorem find_hit (l : List Rt) (c : ByteArray) (k d : Int) (n : Nat) (h : n < l.length) (hno : find (l.take n) c k d = none) (ha : l[n].at_ c k d = true) : find l c k d = some l[n].val := by
  have e : l = l.take n ++ (l[n] :: l.drop (n + 1)) := by rw [List.getElem_cons_drop, List.take_append_drop]
  unfold find at hno ⊢
  rw [Option.map_eq_none_iff] at hno
  conv => lhs; rw [e]
  rw [List.find?_append, hno]
  simp only [Option.none_or, List.find?_cons, ha]
  rfl
theorem find_miss (l : List Rt) (c : ByteArray) (k d : Int) (n : Nat) (h : n < l.length) (hno : find (l.take n) c k d = none) (ha : l[n].at_ c k d = false) : find (l.take (n + 1)) c k d = none := by
  rw [find_take_succ l c k d n h, hno, ha]; rfl
end Rates
end Go.Proofs.YtalfikdjclineaaGreatDoor
namespace Go.Proofs.YtalfikdjclineaaGreatDoor
open Go.RowKit

def RatesAt (w : World) (B : Nat) (A : Option Addr) (rs : List Rt) : Prop :=
  rs = [] ∨ ∃ b o, A = some ⟨b, o, none⟩ /\ b < B /\ ∀ k (h : k < rs.length),
    w.cell? ⟨b, o + k * 4, none⟩ = some (.string rs[k].cur) /\ w.cell? ⟨b, o + k * 4 + 1, none⟩ = some (.int .i64 rs[k].kind) /\
    w.cell? ⟨b, o + k * 4 + 2, none⟩ = some (.int .i64 rs[k].when_) /\ w.cell? ⟨b, o + k * 4 + 3, none⟩ = some (.int .i64 rs[k].val)

theorem RatesAt.below {w w' : World} {B C : Nat} {A : Option Addr} {rs : List Rt} (h : RatesAt w B A rs) (hb : Below C w w') (hC : B <= C) : RatesAt w' B A rs := by
  rcases h with h | ⟨b, o, e, hl, hc⟩
  · exact .inl h
  · refine .inr ⟨b, o, e, hl, fun k hk => ?_⟩
    obtain ⟨h0, h1, h2, h3⟩ := hc k hk
    exact ⟨(hb.cell (p := ⟨b, _, none⟩) (Nat.lt_of_lt_of_le hl hC)).trans h0, (hb.cell (p := ⟨b, _, none⟩) (Nat.lt_of_lt_of_le hl hC)).trans h1, (hb.cell (p := ⟨b, _, none⟩) (Nat.lt_of_lt_of_le hl hC)).trans h2, (hb.cell (p := ⟨b, _, none⟩) (Nat.lt_of_lt_of_le hl hC)).trans h3⟩
theorem RatesAt.more {w : World} {B C : Nat} {A : Option Addr} {rs : List Rt} (h : RatesAt w B A rs) (hC : B <= C) : RatesAt w C A rs := by
  rcases h with h | ⟨b, o, e, hl, hc⟩
  · exact .inl h
  · exact .inr ⟨b, o, e, by omega, hc⟩
theorem RatesAt.look {w : World} {B : Nat} {A : Option Addr} {rs : List Rt} (h : RatesAt w B A rs) {k : Nat} (hk : k < rs.length) :
    ∃ b o, A = some ⟨b, o, none⟩ /\ b < B /\ w.cell? ⟨b, o + k * 4, none⟩ = some (.string rs[k].cur) /\ w.cell? ⟨b, o + k * 4 + 1, none⟩ = some (.int .i64 rs[k].kind) /\
    w.cell? ⟨b, o + k * 4 + 2, none⟩ = some (.int .i64 rs[k].when_) /\ w.cell? ⟨b, o + k * 4 + 3, none⟩ = some (.int .i64 rs[k].val) := by
  rcases h with h | ⟨b, o, e, hl, hc⟩
  · subst h; simp at hk
  · exact ⟨b, o, e, hl, hc k hk⟩

section
variable (w : World)
theorem sameKey_any (a1 b1 : ByteArray) (a2 a3 a4 b2 b3 b4 : Int) :
    Calls Tryz.prog 68 #[.agg #[.string a1, .int .i64 a2, .int .i64 a3, .int .i64 a4], .agg #[.string b1, .int .i64 b2, .int .i64 b3, .int .i64 b4]] w fun e w' => e = .returned (.bool (Rt.at_ ⟨a1, a2, a3, a4⟩ b1 b2 b3)) /\ Below w.heap.size w w' := by
  unfold Rt.at_
  go_enter Tryz.func68, Tryz.ntmps68
  go_wp2
  all_goals (go_ret; exact ⟨ret_bool (by simp [*]), ((Below.refl _ _).alloc (Nat.le_refl _) _).alloc (by simp) _⟩)

theorem rfind_any (A : Option Addr) (n c : Nat) (rs : List Rt) (cur : ByteArray) (kind when_ : Int) (hl : rs.length = n) (hn : n <= 1000) (h : RatesAt w w.heap.size A rs) :
    Calls Tryz.prog 70 #[.slice A n c, .string cur, .int .i64 kind, .int .i64 when_] w fun e w' => e = .returned (.tuple #[.int .i64 ((Rates.find rs cur kind when_).getD 0), .bool (Rates.find rs cur kind when_).isSome]) /\ Below w.heap.size w w' := by
  subst hl
  go_enter Tryz.func70, Tryz.ntmps70
  go_wp2
  go_loopw [10] (fun i wr => ∃ k : Nat, k <= rs.length /\ i = .int .i64 k /\ Rates.find (rs.take k) cur kind when_ = none /\ Below w.heap.size w wr) (fun i _ => rs.length - (intOf i).toNat)
  case atStart => exact ⟨0, Nat.zero_le _, rfl, rfl, Below.refl _ _⟩
  case round =>
    obtain ⟨k, hk, rfl, hno, hb⟩ := hrel
    by_cases hlt : k < rs.length
    · obtain ⟨b, o, rfl, hbB, c0, c1, c2, c3⟩ := (h.below hb (Nat.le_refl _)).look hlt
      have hbw : b < wr.heap.size := Nat.lt_of_lt_of_le hbB hb.size
      by_cases hat : Rt.at_ rs[k] cur kind when_ = true
      · have Hf := Lib.hid (Rates.find_hit rs cur kind when_ k hlt hno hat)
        clear hno
        go_wp2_with (go_at_call 68; refine (sameKey_any _ _ _ _ _ _ _ _ _).mono ?_; rintro e w4 ⟨rfl, hB⟩; obtain ⟨hc, hf⟩ := bcell hB)
        go_ret2
        exact ⟨by rw [Hf.out]; rfl, hb.trans (hB.mono hb.size)⟩
      · have hat' : Rt.at_ rs[k] cur kind when_ = false := by simpa using hat
        have Hf := Lib.hid (Rates.find_miss rs cur kind when_ k hlt hno hat')
        clear hno hat
        go_wp2_with (go_at_call 68; refine (sameKey_any _ _ _ _ _ _ _ _ _).mono ?_; rintro e w4 ⟨rfl, hB⟩; obtain ⟨hc, hf⟩ := bcell hB)
        go_roundw
        case rel => exact ⟨k + 1, by omega, by go_num, Hf.out, hb.trans (hB.mono hb.size)⟩
        case measure => simp [intOf]; omega
    · obtain rfl : k = rs.length := by omega
      rw [List.take_length] at hno
      have Hno := Lib.hid hno
      clear hno
      go_wp2
      go_ret2
      exact ⟨by rw [Hno.out]; rfl, hb⟩

theorem of_any (a1 : ByteArray) (a2 a3 a4 : Int) :
    Calls Tryz.prog 62 #[.agg #[.string a1, .int .i64 a2, .int .i64 a3, .int .i64 a4]] w fun e w' => e = .returned (.agg #[.string a1, .int .i64 a2, .int .i64 a3]) /\ Below w.heap.size w w' := by
  go_enter Tryz.func62, Tryz.ntmps62
  go_wp2
  refine bodyPost_ret (v := .agg #[.string a1, .int .i64 a2, .int .i64 a3]) (by simp [results, Tryz.results62, go_sem]) rfl ⟨rfl, ?_⟩
  exact ((Below.refl _ _).alloc (Nat.le_refl _) _).alloc (by simp) _

theorem dfind_any (A : Option Addr) (n c : Nat) (rs : List Rt) (cur : ByteArray) (kind when_ : Int) (hl : rs.length = n) (hn : n <= 1000) (h : RatesAt w w.heap.size A rs) :
    Calls Tryz.prog 31 #[.slice A n c, .string cur, .int .i64 kind, .int .i64 when_] w fun e w' => e = .returned (.tuple #[.int .i64 ((Rates.find rs cur kind when_).getD 0), .bool (Rates.find rs cur kind when_).isSome]) /\ Below w.heap.size w w' := by
  subst hl
  go_enter Tryz.func31, Tryz.ntmps31
  go_wp2
  go_loopw [14] (fun i wr => ∃ k : Nat, k <= rs.length /\ i = .int .i64 k /\ Rates.find (rs.take k) cur kind when_ = none /\ Below w.heap.size w wr) (fun i _ => rs.length - (intOf i).toNat)
  case atStart => exact ⟨0, Nat.zero_le _, rfl, rfl, Below.refl _ _⟩
  case round =>
    obtain ⟨k, hk, rfl, hno, hb⟩ := hrel
    by_cases hlt : k < rs.length
    · obtain ⟨b, o, rfl, hbB, c0, c1, c2, c3⟩ := (h.below hb (Nat.le_refl _)).look hlt
      have hbw : b < wr.heap.size := Nat.lt_of_lt_of_le hbB hb.size
      have Hno := Lib.hid hno
      have hz := hb.size
      clear hno
      go_wp2_with (go_at_call 62; refine (of_any _ _ _ _ _).mono ?_; rintro e w4 ⟨rfl, hB⟩; obtain ⟨hc, hf⟩ := bcell hB)
      all_goals first
        | (go_ret2
           exact ⟨by rw [Rates.find_hit rs cur kind when_ k hlt Hno.out (by simp [Rt.at_, *])]; rfl, (hb.alloc hb.size _).trans (hB.mono (by simp; omega))⟩)
        | (go_roundw
           case rel => exact ⟨k + 1, by omega, by go_num, Rates.find_miss rs cur kind when_ k hlt Hno.out (by simp [Rt.at_, *]), (hb.alloc hb.size _).trans (hB.mono (by simp; omega))⟩
           case measure => simp [intOf]; omega)
    · obtain rfl : k = rs.length := by omega
      rw [List.take_length] at hno
      have Hno := Lib.hid hno
      clear hno
      go_wp2
      go_ret2
      exact ⟨by rw [Hno.out]; rfl, hb⟩
end
end Go.Proofs.YtalfikdjclineaaGreatDoor
