/- My texts ChartPlain, Cal, GroupPlain. -/
import Derived.WalkKit
import Derived.Calls
namespace Go.Proofs.YtobnfmneeabomaaGreat
open Go.RowKit
theorem z : (∀ (a : Act) (t : Tmp) (v : Value), a.put (some t) v = { a with tmps := a.tmps.setIfInBounds t v }) ∧ (∀ (a : Act) (v : Value), a.put none v = a) ∧
    (∀ {α : Type} {xs : List α} {i : Nat} {h : i < xs.toArray.size}, xs.toArray[i]'h = xs[i]'(by simpa using h)) ∧
    (∀ {α : Type} {a : α} {l : List α} {i : Nat} {h : i + 1 < (a :: l).length}, (a :: l)[i + 1]'h = l[i]'(Nat.lt_of_succ_lt_succ h)) ∧
    (∀ {α : Type} {a : α} {l : List α} {h : 0 < (a :: l).length}, (a :: l)[0]'h = a) ∧
    (∀ {α : Type} {l : List α} {i : Nat} {a : α}, l.toArray.setIfInBounds i a = (l.set i a).toArray) ∧
    (∀ {α : Type} {x a : α} {xs : List α}, (x :: xs).set 0 a = a :: xs) ∧ (∀ {α : Type} {x a : α} {xs : List α} {i : Nat}, (x :: xs).set (i + 1) a = x :: xs.set i a) :=
  ⟨fun _ _ _ => rfl, fun _ _ => rfl, List.getElem_toArray _, List.getElem_cons_succ .., rfl, List.setIfInBounds_toArray .., List.set_cons_zero .., List.set_cons_succ ..⟩
end Go.Proofs.YtobnfmneeabomaaGreat
set_option linter.unusedVariables false
set_option linter.unusedSimpArgs false
set_option maxRecDepth 100000
set_option maxHeartbeats 8000000
namespace Go.Proofs.YtobnfmneeabomaaGreat
open Go.RowKit

structure Acc where
 code : Int
 kind : Int
 basis : Int
 parent : Int
def Acc.zero : Acc := ⟨0, 0, 0, 0⟩
def Acc.cells (a : Acc) : List Value := [.int .i64 a.code, .int .i64 a.kind, .int .i64 a.basis, .int .i64 a.parent]
def Acc.val (a : Acc) : Value := .agg #[.int .i64 a.code, .int .i64 a.kind, .int .i64 a.basis, .int .i64 a.parent]
namespace Ch
def find (l : List Acc) (c : Int) : Option Acc := l.find? (fun a => a.code == c)
def found (l : List Acc) (c : Int) : Acc := (find l c).getD Acc.zero
def has (l : List Acc) (c : Int) : Bool := (find l c).isSome
theorem find_take {l : List Acc} {c : Int} {k : Nat} (hk : k < l.length) (h : find (l.take k) c = none) : find (l.take (k + 1)) c = if l[k].code = c then some l[k] else none := by
 unfold find at *
 rw [List.take_succ_eq_append_getElem hk, List.find?_append, h]
 simp [List.find?_cons]
 split <;> simp_all
theorem find_hit {l : List Acc} {c : Int} {k : Nat} (hk : k < l.length) (h : find (l.take k) c = none) (hc : l[k].code = c) : find l c = some l[k] := by
 have h1 := find_take hk h
 rw [if_pos hc] at h1
 have h2 : find l c = find (l.take (k + 1) ++ l.drop (k + 1)) c := by rw [List.take_append_drop]
 rw [h2]
 unfold find at *
 rw [List.find?_append, h1]; rfl
theorem find_some {l : List Acc} {c : Int} {a : Acc} (h : find l c = some a) : a ∈ l /\ a.code = c := by
 unfold find at h
 exact ⟨List.mem_of_find?_eq_some h, by simpa using List.find?_some h⟩
theorem find_mem {l : List Acc} {a : Acc} (h : a ∈ l) : ∃ b, find l a.code = some b := by
 unfold find
 cases he : l.find? (fun b => b.code == a.code) with
 | some b => exact ⟨b, rfl⟩
 | none => rw [List.find?_eq_none] at he; have := he a h; simp at this

def basic (gr : Bool) (l : List Acc) (a : Acc) : Bool :=
 decide (1 <= a.code) && decide (a.code <= 99999) && decide (1 <= a.kind) && decide (a.kind <= 5) &&
 (if gr = true then decide (1 <= a.basis) && decide (a.basis <= 3) else decide (a.basis = 0)) &&
 (decide (a.parent = 0) || match find l a.parent with | none => false | some p => decide (p.code ≠ a.code) && decide (p.kind = a.kind))
def climb (l : List Acc) : Nat -> Int -> Nat
 | 0, _ => 0
 | n + 1, c => match find l c with | none => 0 | some a => 1 + climb l n a.parent
def at_ (l : List Acc) (i : Nat) : Acc := l.getD i Acc.zero
def okAt (gr : Bool) (l : List Acc) (i : Nat) : Bool :=
 basic gr l (at_ l i) && (decide (i = 0) || decide ((at_ l (i - 1)).code < (at_ l i).code)) && decide (climb l (l.length + 1) (at_ l i).code <= l.length)
def valid (gr : Bool) (l : List Acc) : Bool := decide (l.length <= 200) && (List.range l.length).all (okAt gr l)

theorem all_of {n : Nat} {P : Nat -> Bool} (h : ∀ i, i < n -> P i = true) : (List.range n).all P = true := by
 rw [List.all_eq_true]; intro i hi; exact h i (List.mem_range.1 hi)
theorem all_not {n i : Nat} {P : Nat -> Bool} (hi : i < n) (h : P i = false) : (List.range n).all P = false := by
 rw [List.all_eq_false]; exact ⟨i, List.mem_range.2 hi, by simp [h]⟩
theorem at_lt {l : List Acc} {i : Nat} (h : i < l.length) : at_ l i = l[i] := by simp [at_, h]

inductive Up (l : List Acc) (code : Int) : List Int -> Int -> Prop
 | nil : Up l code [] code
 | snoc {p : List Int} {c : Int} {a : Acc} (h : Up l code p c) (hf : find l c = some a) (hn : c ∉ p) : Up l code (p ++ [c]) a.parent
def Ends (l : List Acc) (p : List Int) (c : Int) : Prop := find l c = none ∨ c ∈ p
theorem Up.nodup {l : List Acc} {code c : Int} {p : List Int} (h : Up l code p c) : p.Nodup := by
 induction h with
 | nil => exact List.nodup_nil
 | snoc h hf hn ih =>
  rw [List.nodup_append]
  refine ⟨ih, by simp, ?_⟩
  intro a ha b hb e
  rw [List.mem_singleton] at hb
  subst hb e; exact hn ha
theorem Up.mem {l : List Acc} {code c : Int} {p : List Int} (h : Up l code p c) : ∀ x ∈ p, ∃ a, find l x = some a := by
 induction h with
 | nil => intro x hx; cases hx
 | @snoc p c a h hf hn ih =>
  intro x hx
  rw [List.mem_append] at hx
  rcases hx with hx | hx
  ·exact ih x hx
  ·rw [List.mem_singleton] at hx; subst hx; exact ⟨a, hf⟩
theorem pigeon : ∀ (p : List Int) (l : List Acc), p.Nodup -> (∀ x ∈ p, ∃ a ∈ l, a.code = x) -> p.length <= l.length
 | [], l, _, _ => Nat.zero_le _
 | x :: p, l, hn, hm => by
  obtain ⟨a, ha, hax⟩ := hm x (List.mem_cons_self)
  obtain ⟨s, t, rfl⟩ := List.append_of_mem ha
  have hn' := List.nodup_cons.1 hn
  have := pigeon p (s ++ t) hn'.2 fun y hy => by
   obtain ⟨b, hb, hby⟩ := hm y (List.mem_cons_of_mem _ hy)
   refine ⟨b, ?_, hby⟩
   rw [List.mem_append, List.mem_cons] at hb
   rw [List.mem_append]
   rcases hb with hb | rfl | hb
   ·exact .inl hb
   ·exfalso; rw [hax] at hby; subst hby; exact hn'.1 hy
   ·exact .inr hb
  simp at this ⊢; omega
theorem Up.length {l : List Acc} {code c : Int} {p : List Int} (h : Up l code p c) : p.length <= l.length :=
 pigeon p l h.nodup fun x hx => by
  obtain ⟨a, ha⟩ := h.mem x hx
  exact ⟨a, find_some ha⟩
theorem Up.climb {l : List Acc} {code c : Int} {p : List Int} (h : Up l code p c) : ∀ n, Ch.climb l (p.length + n) code = p.length + Ch.climb l n c := by
 induction h with
 | nil => intro n; simp
 | @snoc p c a h hf hn ih =>
  intro n
  rw [List.length_append, List.length_singleton, Nat.add_assoc, ih (1 + n), Nat.add_comm 1 n]
  show _ + Ch.climb l (n + 1) c = _
  simp only [Ch.climb, hf]; omega
theorem climb_none {l : List Acc} {c : Int} (h : find l c = none) (n : Nat) : climb l n c = 0 := by
 cases n with
 | zero => rfl
 | succ n => simp only [climb, h]
theorem climb_closed {l : List Acc} {p : List Int} (h : ∀ x ∈ p, ∃ a, find l x = some a /\ a.parent ∈ p) : ∀ (n : Nat) (x : Int), x ∈ p -> climb l n x = n
 | 0, _, _ => rfl
 | n + 1, x, hx => by
  obtain ⟨a, hf, ha⟩ := h x hx
  simp only [climb, hf]; rw [climb_closed h n _ ha]; omega
theorem Up.next {l : List Acc} {code c : Int} {p : List Int} (h : Up l code p c) : ∀ x ∈ p, ∃ a, find l x = some a /\ (a.parent ∈ p ∨ a.parent = c) := by
 induction h with
 | nil => intro x hx; cases hx
 | @snoc p c a h hf hn ih =>
  intro x hx
  rw [List.mem_append, List.mem_singleton] at hx
  rcases hx with hx | rfl
  ·obtain ⟨b, hb, hp⟩ := ih x hx
   refine ⟨b, hb, .inl ?_⟩
   rw [List.mem_append, List.mem_singleton]; exact hp
  ·exact ⟨a, hf, .inr rfl⟩
theorem Up.start {l : List Acc} {code c : Int} {p : List Int} (h : Up l code p c) : (p = [] /\ c = code) ∨ code ∈ p := by
 induction h with
 | nil => exact .inl ⟨rfl, rfl⟩
 | @snoc p c a h hf hn ih =>
  right
  rw [List.mem_append, List.mem_singleton]
  rcases ih with ⟨_, e⟩ | h
  ·exact .inr e.symm
  ·exact .inl h
theorem Up.last {l : List Acc} {code c : Int} {p : List Int} (h : Up l code p c) (hp : 0 < p.length) : ∃ a, find l (p[p.length - 1]'(by omega)) = some a /\ a.parent = c := by
 cases h with
 | nil => simp at hp
 | snoc h hf hn => exact ⟨_, by simpa using hf, rfl⟩
theorem top_iff {gr : Bool} {l : List Acc} (hb : ∀ a ∈ l, basic gr l a = true) {a : Acc} (ha : a ∈ l) {p : List Int} {c : Int} (h : Up l a.code p c) (he : Ends l p c) : c = 0 ↔ climb l (l.length + 1) a.code <= l.length := by
 have hlen := h.length
 have hcl := h.climb (l.length + 1 - p.length)
 rw [show p.length + (l.length + 1 - p.length) = l.length + 1 by omega] at hcl
 have hne : 0 < p.length := by
  rcases h.start with ⟨e, e2⟩ | hm
  ·obtain ⟨b, hf⟩ := find_mem ha
   rcases he with he | he
   ·rw [e2, hf] at he; cases he
   ·rw [e] at he; cases he
  ·exact List.length_pos_of_mem hm
 rcases he with he | he
 ·rw [climb_none he] at hcl
  refine ⟨fun _ => by omega, fun _ => ?_⟩
  obtain ⟨b, hf, hbc⟩ := h.last hne
  have hb' := hb b (find_some hf).1
  unfold basic at hb'
  rw [hbc, he] at hb'
  simp at hb'
  exact hb'.2
 ·have hcl2 := climb_closed (l := l) (p := p) (fun x hx => by
   obtain ⟨b, hf, hor⟩ := h.next x hx
   refine ⟨b, hf, ?_⟩
   rcases hor with h1 | h1
   ·exact h1
   ·rw [h1]; exact he) (l.length + 1 - p.length) c he
  rw [hcl2] at hcl
  refine ⟨fun h0 => ?_, fun hh => by omega⟩
  subst h0
  obtain ⟨b, hf⟩ := h.mem 0 he
  have hb' := hb b (find_some hf).1
  rw [basic] at hb'
  simp [(find_some hf).2] at hb'
end Ch
end Go.Proofs.YtobnfmneeabomaaGreat
namespace Go.Proofs.YtobnfmneeabomaaGreat
namespace Cal

def leapB (y : Int) : Bool := decide (y % 4 = 0 /\ (y % 100 ≠ 0 ∨ y % 400 = 0))
def tab (m : Int) : Int := if m = 2 then 28 else if m = 4 ∨ m = 6 ∨ m = 9 ∨ m = 11 then 30 else 31
def mlen (y m : Int) : Int := if m = 2 /\ leapB y = true then 29 else tab m
def days (y m : Int) : Int := if 1900 <= y /\ y <= 2199 /\ 1 <= m /\ m <= 12 then mlen y m else 0
def byear (y : Int) : Int := 365 * (y - 1) + (y - 1) / 4 - (y - 1) / 100 + (y - 1) / 400 - 719162
def lp (y : Int) : Int := if leapB y = true then 1 else 0
def cum (y m : Int) : Int :=
 (if m <= 1 then 0 else if m = 2 then 31 else if m = 3 then 59 else if m = 4 then 90 else if m = 5 then 120 else if m = 6 then 151 else if m = 7 then 181
  else if m = 8 then 212 else if m = 9 then 243 else if m = 10 then 273 else if m = 11 then 304 else if m = 12 then 334 else 365) + (if 3 <= m then lp y else 0)
def num (y m d : Int) : Int := byear y + cum y m + d - 1
def vld (y m d : Int) : Prop := 1900 <= y /\ y <= 2199 /\ 1 <= m /\ m <= 12 /\ 1 <= d /\ d <= mlen y m

theorem lp_01 (y : Int) : 0 <= lp y /\ lp y <= 1 := by unfold lp; split <;> omega
theorem lp_cases (y : Int) : (leapB y = true /\ lp y = 1) ∨ (leapB y = false /\ lp y = 0) := by
 unfold lp; by_cases h : leapB y = true <;> simp [h]
theorem leap_iff (y : Int) : leapB y = true ↔ (y % 4 = 0 /\ (y % 100 ≠ 0 ∨ y % 400 = 0)) := by unfold leapB; simp
theorem byear_succ (y : Int) : byear (y + 1) = byear y + 365 + lp y := by
 have h := leap_iff y
 unfold byear lp
 by_cases hl : leapB y = true
 ·rw [if_pos hl]; rw [hl] at h; simp at h; omega
 ·rw [if_neg hl]; have : ¬ (y % 4 = 0 /\ (y % 100 ≠ 0 ∨ y % 400 = 0)) := fun hh => hl (h.2 hh); omega
theorem byear_bd (y : Int) (h0 : 1900 <= y) (h : y <= 2200) : -25567 <= byear y /\ byear y <= 84006 := by unfold byear; omega
theorem tab_bd (m : Int) : 28 <= tab m /\ tab m <= 31 := by unfold tab; split <;> (try split) <;> omega
theorem mlen_bd (y m : Int) : 28 <= mlen y m /\ mlen y m <= 31 := by unfold mlen; have := tab_bd m; split <;> omega
theorem mlen_eq (y m : Int) : mlen y m = tab m + (if m = 2 then lp y else 0) := by
 rcases lp_cases y with ⟨h, e⟩ | ⟨h, e⟩ <;> by_cases hm : m = 2 <;> simp [mlen, h, e, hm, tab]
theorem cum_succ (y m : Int) (h1 : 1 <= m) (h2 : m <= 12) : cum y (m + 1) = cum y m + mlen y m := by
 have hm : m = 1 ∨ m = 2 ∨ m = 3 ∨ m = 4 ∨ m = 5 ∨ m = 6 ∨ m = 7 ∨ m = 8 ∨ m = 9 ∨ m = 10 ∨ m = 11 ∨ m = 12 := by omega
 rw [mlen_eq]
 rcases hm with rfl | rfl | rfl | rfl | rfl | rfl | rfl | rfl | rfl | rfl | rfl | rfl <;> simp [cum, tab] <;> omega
theorem cum_one (y : Int) : cum y 1 = 0 := by simp [cum]
theorem cum_end (y : Int) : cum y 13 = 365 + lp y := by simp [cum]
theorem cum_bd (y m : Int) (h1 : 1 <= m) (h2 : m <= 13) : 0 <= cum y m /\ cum y m <= 366 := by
 have := lp_01 y
 have hm : m = 1 ∨ m = 2 ∨ m = 3 ∨ m = 4 ∨ m = 5 ∨ m = 6 ∨ m = 7 ∨ m = 8 ∨ m = 9 ∨ m = 10 ∨ m = 11 ∨ m = 12 ∨ m = 13 := by omega
 rcases hm with rfl | rfl | rfl | rfl | rfl | rfl | rfl | rfl | rfl | rfl | rfl | rfl | rfl <;> simp [cum] <;> omega
theorem cum_le (y m k : Int) (h1 : 1 <= m) (h : m < k) (h2 : k <= 13) : cum y m + mlen y m <= cum y k := by
 have := lp_01 y
 rw [mlen_eq]
 have hm : m = 1 ∨ m = 2 ∨ m = 3 ∨ m = 4 ∨ m = 5 ∨ m = 6 ∨ m = 7 ∨ m = 8 ∨ m = 9 ∨ m = 10 ∨ m = 11 ∨ m = 12 := by omega
 have hk : k = 1 ∨ k = 2 ∨ k = 3 ∨ k = 4 ∨ k = 5 ∨ k = 6 ∨ k = 7 ∨ k = 8 ∨ k = 9 ∨ k = 10 ∨ k = 11 ∨ k = 12 ∨ k = 13 := by omega
 rcases hm with rfl | rfl | rfl | rfl | rfl | rfl | rfl | rfl | rfl | rfl | rfl | rfl <;>
  rcases hk with rfl | rfl | rfl | rfl | rfl | rfl | rfl | rfl | rfl | rfl | rfl | rfl | rfl <;> simp [cum, tab] <;> omega
theorem days_in (y m : Int) (h : 1900 <= y /\ y <= 2199 /\ 1 <= m /\ m <= 12) : days y m = mlen y m := by unfold days; rw [if_pos h]
theorem days_out (y m : Int) (h : ¬ (1900 <= y /\ y <= 2199 /\ 1 <= m /\ m <= 12)) : days y m = 0 := by unfold days; rw [if_neg h]
theorem days_bd (y m : Int) : 0 <= days y m /\ days y m <= 31 := by unfold days; have := mlen_bd y m; split <;> omega
theorem days_vld (y m d : Int) : vld y m d ↔ (1 <= d /\ d <= days y m) := by
 unfold vld days
 by_cases h : 1900 <= y /\ y <= 2199 /\ 1 <= m /\ m <= 12
 ·rw [if_pos h]; omega
 ·rw [if_neg h]; omega
theorem num_year (y m d : Int) (h : vld y m d) : byear y <= num y m d /\ num y m d < byear (y + 1) := by
 obtain ⟨_, _, h1, h2, _, _⟩ := h
 have c1 := cum_le y m 13 h1 (by omega) (by omega)
 have c0 := cum_bd y m h1 (by omega)
 rw [cum_end] at c1
 rw [byear_succ]; unfold num; omega
theorem num_bd (y m d : Int) (h : vld y m d) : -25567 <= num y m d /\ num y m d <= 84005 := by
 have h' := num_year y m d h
 obtain ⟨a, b, _⟩ := h
 have := byear_bd y a (by omega)
 have := byear_bd (y + 1) (by omega) (by omega)
 omega
def py (Y M p : Int) : Int := (12 * Y + M - 1 + p) / 12
def pm (Y M p : Int) : Int := (12 * Y + M - 1 + p) % 12 + 1
def first (Y M p : Int) : Int := num (py Y M p) (pm Y M p) 1
def last (Y M p : Int) : Int := first Y M p + mlen (py Y M p) (pm Y M p) - 1
def ok (Y M N : Int) : Bool := decide (1 <= M /\ M <= 12 /\ 1 <= N /\ N <= 120 /\ 1900 <= Y /\ Y <= 2199 /\ py Y M (N - 1) <= 2199)
theorem ok_iff (Y M N : Int) : ok Y M N = true ↔ (1 <= M /\ M <= 12 /\ 1 <= N /\ N <= 120 /\ 1900 <= Y /\ Y <= 2199 /\ py Y M (N - 1) <= 2199) := by unfold ok; simp
end Cal
end Go.Proofs.YtobnfmneeabomaaGreat
namespace Go.Proofs.YtobnfmneeabomaaGreat
open Go.RowKit

structure Lnk where
 frm : Int
 to : Int
 since : Int
structure Ent where
 name : ByteArray
 cur : ByteArray
 cA : Option Addr
 cn : Nat
 cc : Nat
 chart : List Acc
 lA : Option Addr
 ln : Nat
 lc : Nat
 links : List Lnk
 joint : Bool
structure Grp where
 cur : ByteArray
 Y : Int
 M : Int
 N : Int
 cA : Option Addr
 cn : Nat
 cc : Nat
 chart : List Acc
 r0 : Int
 r1 : Int
 r2 : Int
 r3 : Int
 r4 : Int
 r5 : Int
 r6 : Int
 r7 : Int
 r8 : Int
 r9 : Int
 r10 : Int
 r11 : Int
 r12 : Int
 r13 : Int
 r14 : Int
 eA : Option Addr
 en : Nat
 ec : Nat
 ents : List Ent
structure Role where
 name : ByteArray
 code : Int
 kind : Int
 basis : Int
 mapped : Bool
def Lnk.zero : Lnk := ⟨0, 0, 0⟩
def Role.zero : Role := ⟨ByteArray.empty, 0, 0, 0, false⟩
def Ent.zero : Ent := ⟨ByteArray.empty, ByteArray.empty, none, 0, 0, [], none, 0, 0, [], false⟩
def Lnk.cells (x : Lnk) : List Value := [.int .i64 x.frm, .int .i64 x.to, .int .i64 x.since]
def Ent.cells (x : Ent) : List Value := [.string x.name, .string x.cur, .slice x.cA x.cn x.cc, .slice x.lA x.ln x.lc, .bool x.joint]
def Role.cells (x : Role) : List Value := [.string x.name, .int .i64 x.code, .int .i64 x.kind, .int .i64 x.basis, .bool x.mapped]
namespace Gr
def upper (c : UInt8) : Bool := decide (65 <= (c.toNat : Int) /\ (c.toNat : Int) <= 90)
def isCur (s : ByteArray) : Bool := s.data.toList.all upper && decide (s.size = 3)
def letter (x : Int) : Bool := decide (97 <= x /\ x <= 122) || decide (65 <= x /\ x <= 90)
def byteAt (s : ByteArray) (i : Nat) : Int := ((s.data.toList.getD i 0).toNat : Int)
def nameAt (s : ByteArray) (i : Nat) : Bool := letter (byteAt s i) || (decide (i ≠ 0) && (decide (byteAt s i = 45) || decide (48 <= byteAt s i /\ byteAt s i <= 57)))
def isName (s : ByteArray) : Bool := (List.range s.size).all (nameAt s) && decide (1 <= s.size /\ s.size <= 16)
def based (a : Acc) : Bool := if a.kind = 1 ∨ a.kind = 2 then decide (a.basis = 1 ∨ a.basis = 3) else if a.kind = 3 then decide (a.basis = 3) else decide (a.basis = 2)
def date (d : Int) : Bool := decide (-25567 <= d /\ d <= 84005)
def linkOk (chart gchart : List Acc) (x : Lnk) : Bool := Ch.has chart x.frm && Ch.has gchart x.to && decide ((Ch.found chart x.frm).kind = (Ch.found gchart x.to).kind) && date x.since
def lat (l : List Lnk) (i : Nat) : Lnk := l.getD i Lnk.zero
def sameKey (x y : Lnk) : Bool := decide (x.frm = y.frm) && decide (x.since = y.since)
def fresh (l : List Lnk) (i : Nat) (x : Lnk) : Bool := !(l.take i).any (fun y => sameKey y x)
def linkAt (chart gchart : List Acc) (l : List Lnk) (i : Nat) : Bool := linkOk chart gchart (lat l i) && fresh l i (lat l i)
def mapping (chart gchart : List Acc) (l : List Lnk) : Bool :=
 Ch.valid true gchart && Ch.valid false chart && decide (l.length <= 400) && (List.range l.length).all (linkAt chart gchart l)
def roles (g : Grp) : List Role :=
 [⟨⟨#[105, 110, 118, 101, 115, 116, 109, 101, 110, 116]⟩, g.r0, 1, 3, true⟩, ⟨⟨#[103, 111, 111, 100, 119, 105, 108, 108]⟩, g.r1, 1, 3, false⟩,
  ⟨⟨#[97, 115, 115, 111, 99, 105, 97, 116, 101, 115]⟩, g.r2, 1, 3, false⟩, ⟨⟨#[105, 110, 118, 101, 110, 116, 111, 114, 121]⟩, g.r3, 1, 1, true⟩,
  ⟨⟨#[114, 101, 115, 101, 114, 118, 101]⟩, g.r4, 3, 3, false⟩, ⟨⟨#[109, 105, 110, 111, 114, 105, 116, 121]⟩, g.r5, 3, 3, false⟩, ⟨⟨#[114, 101, 116, 97, 105, 110, 101, 100]⟩, g.r6, 3, 3, true⟩,
  ⟨⟨#[97, 99, 113, 117, 105, 114, 101, 100]⟩, g.r7, 3, 3, false⟩, ⟨⟨#[111, 119, 110, 101, 114, 115]⟩, g.r8, 3, 3, false⟩,
  ⟨⟨#[100, 105, 115, 112, 111, 115, 97, 108]⟩, g.r9, 4, 2, false⟩, ⟨⟨#[97, 115, 115, 111, 99, 105, 97, 116, 101, 80, 114, 111, 102, 105, 116]⟩, g.r10, 4, 2, false⟩, ⟨⟨#[100, 105, 118, 105, 100, 101, 110, 100, 115]⟩, g.r11, 4, 2, true⟩,
  ⟨⟨#[109, 105, 110, 111, 114, 105, 116, 121, 80, 114, 111, 102, 105, 116]⟩, g.r12, 5, 2, false⟩, ⟨⟨#[100, 105, 102, 102, 101, 114, 101, 110, 99, 101]⟩, g.r13, 5, 2, false⟩, ⟨⟨#[109, 97, 114, 103, 105, 110]⟩, g.r14, 5, 2, false⟩]
def rat (l : List Role) (i : Nat) : Role := l.getD i Role.zero
def roleAt (chart : List Acc) (l : List Role) (i : Nat) : Bool :=
 Ch.has chart (rat l i).code && decide ((Ch.found chart (rat l i).code).kind = (rat l i).kind) && decide ((Ch.found chart (rat l i).code).basis = (rat l i).basis) && !(l.take i).any (fun y => decide (y.code = (rat l i).code))
def accounts (g : Grp) : Bool := Ch.valid true g.chart && g.chart.all based && (List.range (roles g).length).all (roleAt g.chart (roles g))
def openTo (l : List Role) (x : Lnk) : Bool := !l.any (fun y => decide (y.code = x.to) && !y.mapped)
def entity (g : Grp) (e : Ent) : Bool := isName e.name && isCur e.cur && mapping e.chart g.chart e.links && e.links.all (openTo (roles g))
def eat (l : List Ent) (i : Nat) : Ent := l.getD i Ent.zero
def entAt (g : Grp) (i : Nat) : Bool := entity g (eat g.ents i) && !(g.ents.take i).any (fun y => decide (y.name = (eat g.ents i).name))
def books (g : Grp) : Bool := isCur g.cur && Cal.ok g.Y g.M g.N && accounts g
def valid (g : Grp) : Bool := books g && decide (1 <= g.ents.length) && decide (g.ents.length <= 12) && !(eat g.ents 0).joint && (List.range g.ents.length).all (entAt g)
end Gr
end Go.Proofs.YtobnfmneeabomaaGreat
