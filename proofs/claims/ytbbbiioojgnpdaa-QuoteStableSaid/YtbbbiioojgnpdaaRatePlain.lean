/- Rates in plain lists: nothing of the program is imported here. -/
import Derived.WalkKit
namespace Go.Proofs.Ytbbbiioojgnpdaa
/-- A rate. -/
structure Rt where
  cur : ByteArray
  kind : Int
  when_ : Int
  val : Int

namespace Rt
def v (r : Rt) : Value := .agg #[.string r.cur, .int .i64 r.kind, .int .i64 r.when_, .int .i64 r.val]
/-- The three parts of a key are the same. -/
def at_ (r : Rt) (c : ByteArray) (k d : Int) : Bool := r.cur.toList == c.toList && r.kind == k && r.when_ == d
def same (a b : Rt) : Bool := a.at_ b.cur b.kind b.when_
def zero : Rt := ⟨ByteArray.empty, 0, 0, 0⟩
theorem at_iff (r : Rt) (c : ByteArray) (k d : Int) : r.at_ c k d = true ↔ (r.cur.toList = c.toList ∧ r.kind = k ∧ r.when_ = d) := by
  simp [at_, and_assoc]
theorem toList_inj {a b : ByteArray} (h : a.toList = b.toList) : a = b := by
  rw [ByteArray.toList_eq, ByteArray.toList_eq] at h
  exact ByteArray.ext (Array.toList_inj.mp h)
end Rt

namespace Rates
def find (l : List Rt) (c : ByteArray) (k d : Int) : Option Int := (l.find? fun r => r.at_ c k d).map (·.val)
def upper (b : UInt8) : Bool := decide (65 ≤ (b.toNat : Int) ∧ (b.toNat : Int) ≤ 90)
def allUp (s : ByteArray) : Bool := s.data.toList.all upper
def isCur (s : ByteArray) : Bool := allUp s && s.size == 3
def dateB (d : Int) : Bool := decide (-25567 ≤ d ∧ d ≤ 84005)
def proper (g : ByteArray) (r : Rt) : Bool :=
  isCur r.cur && !(r.cur.toList == g.toList) && decide (1 ≤ r.val ∧ r.val ≤ 1000000000000) &&
    ((r.kind == 1 && dateB r.when_) || (r.kind == 2 && decide (0 ≤ r.when_ ∧ r.when_ < 120)))
/-- No rate has the key of one ahead of it. -/
def fresh : List Rt → Bool
  | [] => true
  | r :: l => l.all (fun x => !(r.same x)) && fresh l
def valid (g : ByteArray) (l : List Rt) : Bool := l.all (proper g) && fresh l && isCur g && decide (l.length ≤ 1000)

def Fresh (l : List Rt) : Prop := l.Pairwise fun a b => a.same b = false
theorem fresh_iff (l : List Rt) : fresh l = true ↔ Fresh l := by
  unfold Fresh
  induction l with
  | nil => simp [fresh]
  | cons r l ih => rw [List.pairwise_cons, fresh, Bool.and_eq_true, ih, List.all_eq_true]; simp
/-- The first k rates are proper, and no two have one key. -/
def Pre (g : ByteArray) (l : List Rt) (k : Nat) : Prop := (l.take k).all (proper g) = true ∧ Fresh (l.take k)
theorem pre_zero (g : ByteArray) (l : List Rt) : Pre g l 0 := ⟨rfl, by simp [Fresh]⟩
theorem pre_succ (g : ByteArray) (l : List Rt) (k : Nat) (h : k < l.length) (hp : Pre g l k) (h1 : proper g l[k] = true) (h2 : (l.take k).any (fun r => r.same l[k]) = false) : Pre g l (k + 1) := by
  unfold Pre
  rw [List.take_succ_eq_append_getElem h]
  refine ⟨?_, ?_⟩
  · rw [List.all_append, hp.1]; simp [h1]
  · unfold Fresh
    rw [List.pairwise_append]
    refine ⟨hp.2, by simp, fun a ha b hb => ?_⟩
    simp only [List.mem_singleton] at hb
    subst hb
    rw [List.any_eq_false] at h2
    simpa using h2 a ha
theorem pre_end (g : ByteArray) (l : List Rt) (hp : Pre g l l.length) : valid g l = (isCur g && decide (l.length ≤ 1000)) := by
  unfold Pre at hp
  rw [List.take_length] at hp
  unfold valid
  rw [hp.1, (fresh_iff l).2 hp.2]; simp
theorem valid_improper (g : ByteArray) (l : List Rt) (k : Nat) (h : k < l.length) (h1 : proper g l[k] = false) : valid g l = false := by
  have : l.all (proper g) = false := by rw [List.all_eq_false]; exact ⟨l[k], List.getElem_mem h, by simp [h1]⟩
  unfold valid; rw [this]; rfl
theorem valid_twice (g : ByteArray) (l : List Rt) (k j : Nat) (h : k < l.length) (hj : j < k) (h1 : (l[j]'(by omega)).same l[k] = true) : valid g l = false := by
  have : fresh l = false := by
    rw [Bool.eq_false_iff]; intro hf
    rw [fresh_iff, Fresh, List.pairwise_iff_getElem] at hf
    rw [hf j k (by omega) h hj] at h1; cases h1
  unfold valid; rw [this]; simp
theorem valid_twice' (g : ByteArray) (l : List Rt) (k : Nat) (h : k < l.length) (h1 : (l.take k).any (fun r => r.same l[k]) = true) : valid g l = false := by
  rw [List.any_eq_true] at h1
  obtain ⟨x, hx, hs⟩ := h1
  obtain ⟨j, hj, e⟩ := List.mem_take_iff_getElem.1 hx
  subst e
  exact valid_twice g l k j h (by omega) hs
theorem any_take_succ (l : List Rt) (p : Rt → Bool) (j : Nat) (h : j < l.length) : (l.take (j + 1)).any p = ((l.take j).any p || p l[j]) := by
  rw [List.take_succ_eq_append_getElem h, List.any_append]; simp
theorem valid_iff (g : ByteArray) (l : List Rt) : valid g l = true ↔ ((∀ r ∈ l, proper g r = true) ∧ Fresh l ∧ isCur g = true ∧ l.length ≤ 1000) := by
  unfold valid
  simp only [Bool.and_eq_true, List.all_eq_true, fresh_iff, decide_eq_true_eq, and_assoc]

theorem find_take_succ (l : List Rt) (c : ByteArray) (k d : Int) (n : Nat) (h : n < l.length) :
    find (l.take (n + 1)) c k d = ((find (l.take n) c k d).or (if l[n].at_ c k d = true then some l[n].val else none)) := by
  unfold find
  rw [List.take_succ_eq_append_getElem h, List.find?_append]
  cases (l.take n).find? (fun r => r.at_ c k d) with
  | some x => simp
  | none => by_cases hb : l[n].at_ c k d = true <;> simp [hb]
theorem find_hit (l : List Rt) (c : ByteArray) (k d : Int) (n : Nat) (h : n < l.length) (hno : find (l.take n) c k d = none) (ha : l[n].at_ c k d = true) : find l c k d = some l[n].val := by
  have e : l = l.take n ++ (l[n] :: l.drop (n + 1)) := by rw [List.getElem_cons_drop, List.take_append_drop]
  unfold find at hno ⊢
  rw [Option.map_eq_none_iff] at hno
  conv => lhs; rw [e]
  rw [List.find?_append, hno]
  simp only [Option.none_or, List.find?_cons, ha]
  rfl
theorem find_miss (l : List Rt) (c : ByteArray) (k d : Int) (n : Nat) (h : n < l.length) (hno : find (l.take n) c k d = none) (ha : l[n].at_ c k d = false) : find (l.take (n + 1)) c k d = none := by
  rw [find_take_succ l c k d n h, hno, ha]; rfl
end Rates
end Go.Proofs.Ytbbbiioojgnpdaa
