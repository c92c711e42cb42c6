/- My texts Limb, DivPlain, DecP. -/
import Derived.WalkKit
import Derived.Lib.ItoaNum
set_option linter.unusedVariables false
set_option linter.unusedSimpArgs false
set_option maxRecDepth 100000
set_option maxHeartbeats 8000000
namespace Go.Proofs.YtalfikdjclineaaGreatDoor
namespace Big

def val (B : Int) : List Int -> Int
  | [] => 0
  | a :: l => a + B * val B l
def Lim (B : Int) (l : List Int) : Prop := ∀ a ∈ l, 0 <= a /\ a < B
def Norm (l : List Int) : Prop := ∀ h : l ≠ [], l.getLast h ≠ 0
def sgn (neg : Bool) (n : Int) : Int := if neg = true then -n else n

theorem Lim.nil {B : Int} : Lim B [] := fun _ h => by cases h
theorem Lim.cons {B a : Int} {l : List Int} : Lim B (a :: l) ↔ (0 <= a /\ a < B) /\ Lim B l := by unfold Lim; simp
theorem Lim.append {B : Int} {l m : List Int} : Lim B (l ++ m) ↔ Lim B l /\ Lim B m := by
  unfold Lim
  simp only [List.mem_append]
  exact ⟨fun h => ⟨fun a ha => h a (.inl ha), fun a ha => h a (.inr ha)⟩, fun h a ha => ha.elim (h.1 a) (h.2 a)⟩
theorem Lim.take {B : Int} {l : List Int} (h : Lim B l) (k : Nat) : Lim B (l.take k) := fun a ha => h a (List.mem_of_mem_take ha)
theorem Lim.drop {B : Int} {l : List Int} (h : Lim B l) (k : Nat) : Lim B (l.drop k) := fun a ha => h a (List.mem_of_mem_drop ha)
theorem Lim.get {B : Int} {l : List Int} (h : Lim B l) (k : Nat) (hk : k < l.length) : 0 <= l[k] /\ l[k] < B := h _ (List.getElem_mem hk)
theorem Lim.zeros {B : Int} (hB : 0 < B) (k : Nat) : Lim B (List.replicate k 0) := fun a ha => by
  rw [List.mem_replicate] at ha; omega

theorem val_nil (B : Int) : val B [] = 0 := rfl
theorem val_cons (B a : Int) (l : List Int) : val B (a :: l) = a + B * val B l := rfl
theorem val_one (B a : Int) : val B [a] = a := by simp [val]
theorem val_append (B : Int) (l m : List Int) : val B (l ++ m) = val B l + B ^ l.length * val B m := by
  induction l with
  | nil => simp [val]
  | cons a l ih =>
    rw [List.cons_append, val_cons, ih, val_cons, List.length_cons, Int.pow_succ, Int.mul_add]
    rw [Int.mul_comm (B ^ l.length) B, Int.mul_assoc, Int.add_assoc]
theorem val_snoc (B : Int) (l : List Int) (a : Int) : val B (l ++ [a]) = val B l + B ^ l.length * a := by rw [val_append, val_one]
theorem val_zeros (B : Int) (k : Nat) : val B (List.replicate k 0) = 0 := by
  induction k with
  | zero => rfl
  | succ k ih => rw [List.replicate_succ, val_cons, ih]; simp
theorem pow_pos {B : Int} (hB : 0 < B) (k : Nat) : 0 < B ^ k := Int.pow_pos hB
theorem val_nonneg {B : Int} (hB : 0 < B) {l : List Int} (h : Lim B l) : 0 <= val B l := by
  induction l with
  | nil => simp [val]
  | cons a l ih =>
    rw [Lim.cons] at h
    have := Int.mul_nonneg (Int.le_of_lt hB) (ih h.2)
    rw [val_cons]; omega
theorem val_lt {B : Int} (hB : 0 < B) {l : List Int} (h : Lim B l) : val B l < B ^ l.length := by
  induction l with
  | nil => simp [val]
  | cons a l ih =>
    rw [Lim.cons] at h
    have h1 := ih h.2
    rw [val_cons, List.length_cons, Int.pow_succ]
    have h2 : B * (val B l + 1) <= B * B ^ l.length := Int.mul_le_mul_of_nonneg_left (by omega) (Int.le_of_lt hB)
    rw [Int.mul_add, Int.mul_one] at h2
    rw [Int.mul_comm (B ^ l.length) B]
    omega
theorem val_take_succ (B : Int) (l : List Int) (k : Nat) (h : k < l.length) : val B (l.take (k + 1)) = val B (l.take k) + B ^ k * l[k] := by
  rw [List.take_succ_eq_append_getElem h, val_snoc, List.length_take, Nat.min_eq_left (Nat.le_of_lt h)]
theorem val_split (B : Int) (l : List Int) (k : Nat) (h : k <= l.length) : val B l = val B (l.take k) + B ^ k * val B (l.drop k) := by
  conv => lhs; rw [<- List.take_append_drop k l]
  rw [val_append, List.length_take, Nat.min_eq_left h]
theorem val_drop (B : Int) (l : List Int) (k : Nat) (h : k < l.length) : val B (l.drop k) = l[k] + B * val B (l.drop (k + 1)) := by
  rw [List.drop_eq_getElem_cons h, val_cons]

theorem Norm.nil : Norm [] := fun h => absurd rfl h
theorem norm_snoc {l : List Int} {a : Int} (h : a ≠ 0) : Norm (l ++ [a]) := fun _ => by simpa using h
theorem Norm.last {l : List Int} (h : Norm l) (hl : 0 < l.length) : l[l.length - 1]'(by omega) ≠ 0 := by
  have := h (by intro e; rw [e] at hl; simp at hl)
  rwa [List.getLast_eq_getElem] at this
theorem norm_of_last {l : List Int} (h : ∀ hl : 0 < l.length, l[l.length - 1]'(by omega) ≠ 0) : Norm l := fun hn => by
  rw [List.getLast_eq_getElem]; exact h (List.length_pos_iff.2 hn)
theorem norm_ge {B : Int} (hB : 0 < B) {l : List Int} (h : Lim B l) (hn : Norm l) (hl : 0 < l.length) : B ^ (l.length - 1) <= val B l := by
  have h1 := hn.last hl
  have h2 := h.get (l.length - 1) (by omega)
  rw [val_split B l (l.length - 1) (by omega), val_drop B l (l.length - 1) (by omega)]
  have h3 := val_nonneg hB (h.take (l.length - 1))
  have h4 : List.drop (l.length - 1 + 1) l = [] := List.drop_of_length_le (by omega)
  rw [h4, val_nil, Int.mul_zero, Int.add_zero]
  have h5 : B ^ (l.length - 1) * 1 <= B ^ (l.length - 1) * l[l.length - 1] := Int.mul_le_mul_of_nonneg_left (by omega) (Int.le_of_lt (pow_pos hB _))
  omega
theorem val_zero {B : Int} (hB : 0 < B) {l : List Int} (h : Lim B l) (hn : Norm l) : val B l = 0 ↔ l = [] := by
  constructor
  · intro h0
    rcases Nat.eq_zero_or_pos l.length with e | hl
    · exact List.length_eq_zero_iff.1 e
    · have h1 := norm_ge hB h hn hl
      have h2 := pow_pos hB (l.length - 1)
      omega
  · rintro rfl; rfl
theorem pow_le {B : Int} (hB : 1 <= B) {a b : Nat} (h : a <= b) : B ^ a <= B ^ b := by
  induction h with
  | refl => exact Int.le_refl _
  | @step m _ ih =>
    rw [Int.pow_succ]
    have h0 : 0 <= B ^ m := Int.le_of_lt (pow_pos (by omega) m)
    have h1 : B ^ m * 1 <= B ^ m * B := Int.mul_le_mul_of_nonneg_left hB h0
    rw [Int.mul_one] at h1
    exact Int.le_trans ih h1
theorem length_le {B : Int} (hB : 1 <= B) {l : List Int} (h : Lim B l) (hn : Norm l) (k : Nat) (hv : val B l < B ^ k) : l.length <= k := by
  rcases Nat.lt_or_ge k l.length with hk | hk
  · have h1 := norm_ge (by omega) h hn (by omega)
    have h2 := pow_le hB (show k <= l.length - 1 by omega)
    omega
  · exact hk
theorem longer_lt {B : Int} (hB : 1 <= B) {l m : List Int} (h : Lim B l) (hm : Lim B m) (hn : Norm m) (hl : l.length < m.length) : val B l < val B m := by
  have h1 := val_lt (by omega) h
  have h2 := norm_ge (by omega) hm hn (by omega)
  have h3 := pow_le hB (show l.length <= m.length - 1 by omega)
  omega
theorem top_lt {B : Int} (hB : 1 <= B) {l m : List Int} (h : Lim B l) (hm : Lim B m) (e : l.length = m.length) (k : Nat) (hk : k < l.length)
    (he : l.drop (k + 1) = m.drop (k + 1)) (hlt : l[k] < m[k]'(by omega)) : val B l < val B m := by
  rw [val_split B l k (by omega), val_split B m k (by omega), val_drop B l k hk, val_drop B m k (by omega), he]
  have h1 := val_lt (by omega) (h.take k)
  rw [List.length_take, Nat.min_eq_left (by omega)] at h1
  have h2 := val_nonneg (by omega) (hm.take k)
  have h3 : B ^ k * (l[k] + B * val B (List.drop (k + 1) m) + 1) <= B ^ k * (m[k]'(by omega) + B * val B (List.drop (k + 1) m)) := Int.mul_le_mul_of_nonneg_left (by omega) (Int.le_of_lt (pow_pos (by omega) _))
  rw [Int.mul_add, Int.mul_one] at h3
  omega

def trim (l : List Int) : List Int := (l.reverse.dropWhile (· == 0)).reverse
theorem trim_nil : trim [] = [] := rfl
theorem trim_snoc_zero (l : List Int) : trim (l ++ [0]) = trim l := by simp [trim]
theorem trim_snoc {l : List Int} {a : Int} (h : a ≠ 0) : trim (l ++ [a]) = l ++ [a] := by simp [trim, h]
theorem snoc_ind {P : List Int -> Prop} (h0 : P []) (hs : ∀ l r, P l -> P (l ++ [r])) (l : List Int) : P l := by
  rw [<- List.reverse_reverse l]
  induction l.reverse with
  | nil => exact h0
  | cons a t ih => rw [List.reverse_cons]; exact hs _ _ ih
theorem trim_spec (B : Int) (l : List Int) : val B (trim l) = val B l /\ Norm (trim l) /\ (trim l).length <= l.length /\ trim l = l.take (trim l).length := by
  revert l
  refine snoc_ind ⟨rfl, Norm.nil, Nat.le_refl _, rfl⟩ fun l a ih => ?_
  by_cases h : a = 0
  · subst h
    obtain ⟨h1, h2, h3, h4⟩ := ih
    rw [trim_snoc_zero]
    refine ⟨by rw [h1, val_snoc]; simp, h2, by simp; omega, ?_⟩
    rw [List.take_append_of_le_length h3]; exact h4
  · rw [trim_snoc h]
    exact ⟨rfl, norm_snoc h, Nat.le_refl _, (List.take_length).symm⟩
theorem trim_lim {B : Int} {l : List Int} (h : Lim B l) : Lim B (trim l) := by
  rw [(trim_spec B l).2.2.2]; exact h.take _
theorem trim_of_norm {l : List Int} (h : Norm l) : trim l = l := by
  rcases Nat.eq_zero_or_pos l.length with e | hl
  · rw [List.length_eq_zero_iff.1 e]; rfl
  · have hne : l ≠ [] := by intro e; rw [e] at hl; simp at hl
    have e := List.dropLast_concat_getLast hne
    rw [<- e]; exact trim_snoc (h hne)
theorem trim_take {l : List Int} {k : Nat} (hk : k < l.length) (h0 : l[k] = 0) : trim (l.take (k + 1)) = trim (l.take k) := by
  rw [List.take_succ_eq_append_getElem hk, h0, trim_snoc_zero]
theorem trim_take_stop {l : List Int} {k : Nat} (hk : k < l.length) (h0 : l[k] ≠ 0) : trim (l.take (k + 1)) = l.take (k + 1) := by
  rw [List.take_succ_eq_append_getElem hk, trim_snoc h0]

theorem sgn_true (n : Int) : sgn true n = -n := rfl
theorem sgn_false (n : Int) : sgn false n = n := rfl
end Big
end Go.Proofs.YtalfikdjclineaaGreatDoor
namespace Go.Proofs.YtalfikdjclineaaGreatDoor
namespace Big

theorem guess_prod {B g v1 v2 r h : Int} (hi : g * v1 + r = h) : g * (v2 + B * v1) = g * v2 + (B * h - r * B) := by
  have h1 : g * (B * v1) = B * (g * v1) := Int.mul_left_comm _ _ _
  have h2 : B * (g * v1 + r) = B * (g * v1) + B * r := Int.mul_add _ _ _
  have h3 : B * r = r * B := Int.mul_comm _ _
  rw [hi] at h2
  rw [Int.mul_add, h1]; omega
theorem guess_val {P g vl X : Int} : g * (vl + P * X) = g * vl + P * (g * X) := by rw [Int.mul_add, Int.mul_left_comm]
theorem guess_start {P B vl v1 v2 ul a3 h g r : Int} (hP : 0 < P) (hB : 0 < B) (l0 : 0 <= vl) (u1 : ul < P) (p2 : 0 <= v2) (p3 : a3 < B) (g0 : 0 <= g) (hi : g * v1 + r = h) (hr : r < v1) :
    ul + P * (a3 + B * h) < (g + 1) * (vl + P * (v2 + B * v1)) := by
  have e1 : (g + 1) * (v2 + B * v1) = (g + 1) * v2 + B * ((g + 1) * v1) := by rw [Int.mul_add, Int.mul_left_comm]
  have e2 : (g + 1) * v1 = g * v1 + v1 := by rw [Int.add_mul, Int.one_mul]
  have e3 : 0 <= (g + 1) * v2 := Int.mul_nonneg (by omega) p2
  have e4 : B * (h + 1) <= B * ((g + 1) * v1) := Int.mul_le_mul_of_nonneg_left (by omega) (Int.le_of_lt hB)
  rw [Int.mul_add, Int.mul_one] at e4
  have e5 : P * (a3 + B * h + 1) <= P * ((g + 1) * (v2 + B * v1)) := Int.mul_le_mul_of_nonneg_left (by omega) (Int.le_of_lt hP)
  rw [Int.mul_add P _ 1, Int.mul_one] at e5
  have e7 := guess_val (P := P) (g := g + 1) (vl := vl) (X := v2 + B * v1)
  have e6 : 0 <= (g + 1) * vl := Int.mul_nonneg (by omega) l0
  omega
theorem guess_step {P B vl v1 v2 ul a3 h g r : Int} (hP : 0 < P) (l0 : 0 <= vl) (u1 : ul < P) (g0 : 0 <= g) (hi : g * v1 + r = h)
    (hV : 0 <= vl + P * (v2 + B * v1)) (hU : ul + P * (a3 + B * h) < B * (vl + P * (v2 + B * v1))) (hc : B <= g ∨ r * B + a3 < g * v2) :
    ul + P * (a3 + B * h) < g * (vl + P * (v2 + B * v1)) := by
  rcases hc with hc | hc
  · have := Int.mul_le_mul_of_nonneg_right hc hV
    omega
  · have e1 := guess_prod (B := B) (v2 := v2) hi
    have e5 : P * (a3 + B * h + 1) <= P * (g * (v2 + B * v1)) := Int.mul_le_mul_of_nonneg_left (by omega) (Int.le_of_lt hP)
    rw [Int.mul_add P _ 1, Int.mul_one] at e5
    have e7 := guess_val (P := P) (g := g) (vl := vl) (X := v2 + B * v1)
    have e6 : 0 <= g * vl := Int.mul_nonneg g0 l0
    omega
theorem guess_end {P B vl v1 v2 ul a3 h g r : Int} (hP : 0 < P) (hB : 0 < B) (l0 : 0 <= vl) (l1 : vl < P) (u0 : 0 <= ul) (p1 : 1 <= v1) (p2 : 0 <= v2) (g0 : 0 <= g) (g1 : g <= B) (hi : g * v1 + r = h) (hc : g * v2 <= r * B + a3) :
    (g - 1) * (vl + P * (v2 + B * v1)) <= ul + P * (a3 + B * h) := by
  have e1 := guess_prod (B := B) (v2 := v2) hi
  have e5 : P * (g * (v2 + B * v1)) <= P * (a3 + B * h) := Int.mul_le_mul_of_nonneg_left (by omega) (Int.le_of_lt hP)
  have e2 : (g - 1) * (vl + P * (v2 + B * v1)) = g * (vl + P * (v2 + B * v1)) - (vl + P * (v2 + B * v1)) := by rw [Int.sub_mul, Int.one_mul]
  have e3 := guess_val (P := P) (g := g) (vl := vl) (X := v2 + B * v1)
  have e6 : g * vl <= B * P := Int.mul_le_mul g1 (Int.le_of_lt l1) l0 (Int.le_of_lt hB)
  have e7 : B * 1 <= B * v1 := Int.mul_le_mul_of_nonneg_left p1 (Int.le_of_lt hB)
  have e8 : P * B <= P * (v2 + B * v1) := Int.mul_le_mul_of_nonneg_left (by omega) (Int.le_of_lt hP)
  have e9 : B * P = P * B := Int.mul_comm _ _
  omega
theorem guess_break {B g v2 r a3 : Int} (hB : 0 < B) (g0 : 0 <= g) (g1 : g <= B) (p2 : 0 <= v2) (p3 : v2 < B) (a0 : 0 <= a3) (hr : B <= r) : g * v2 <= r * B + a3 := by
  have h1 : g * v2 <= B * B := Int.mul_le_mul g1 (by omega) p2 (by omega)
  have h2 : B * B <= r * B := Int.mul_le_mul_of_nonneg_right hr (by omega)
  omega
theorem guess_top {P B vl v1 v2 ul a3 a2 a1 : Int} (hP : 0 < P) (hB : 0 < B) (l1 : vl < P) (u0 : 0 <= ul) (p3 : v2 < B) (a0 : 0 <= a3) (a2' : 0 <= a2)
    (hU : ul + P * (a3 + B * (a1 * B + a2)) < B * (vl + P * (v2 + B * v1))) : a1 <= v1 := by
  rcases Int.lt_or_le v1 a1 with h | h
  · exfalso
    have e1 : (v1 + 1) * B <= a1 * B := Int.mul_le_mul_of_nonneg_right (by omega) (by omega)
    have e2 : B * ((v1 + 1) * B) <= B * (a1 * B + a2) := Int.mul_le_mul_of_nonneg_left (by omega) (by omega)
    have e3 : P * (B * ((v1 + 1) * B)) <= P * (a3 + B * (a1 * B + a2)) := Int.mul_le_mul_of_nonneg_left (by omega) (by omega)
    have e4 : P * (B * ((v1 + 1) * B)) = B * (P * (B * (v1 + 1))) := by rw [Int.mul_comm (v1 + 1) B, Int.mul_left_comm P B]
    have e5 : P * (v2 + B * v1 + 1) <= P * (B * (v1 + 1)) := Int.mul_le_mul_of_nonneg_left (by rw [Int.mul_add]; omega) (by omega)
    rw [Int.mul_add P _ 1, Int.mul_one] at e5
    have e6 : B * (vl + P * (v2 + B * v1)) <= B * (P * (B * (v1 + 1))) := Int.mul_le_mul_of_nonneg_left (by omega) (by omega)
    omega
  · exact h
theorem guess_low {B g v1 r h a1 a2 : Int} (hi : g * v1 + r = h) (hh : h = a1 * B + a2) (p1 : 0 <= v1) (ha : a1 <= v1) (hB : 0 < B) (a2' : a2 < B) (hg : B <= g) : r < B := by
  have e1 : B * v1 <= g * v1 := Int.mul_le_mul_of_nonneg_right hg p1
  have e2 : a1 * B <= v1 * B := Int.mul_le_mul_of_nonneg_right ha (by omega)
  have e3 : v1 * B = B * v1 := Int.mul_comm _ _
  omega
theorem win_top {B : Int} {l : List Int} {m : Nat} (hl : l.length = m + 3) : val B l = val B (l.take m) + B ^ m * (l[m] + B * (l[m + 2] * B + l[m + 1])) := by
  rw [val_split B l m (by omega), val_drop B l m (by omega), val_drop B l (m + 1) (by omega), val_drop B l (m + 1 + 1) (by omega)]
  have h4 : List.drop (m + 1 + 1 + 1) l = [] := List.drop_of_length_le (by omega)
  rw [h4, val_nil, Int.mul_zero, Int.add_zero, Int.mul_comm B l[m + 1 + 1], Int.add_comm l[m + 1]]
theorem div_top {B : Int} {l : List Int} {m : Nat} (hl : l.length = m + 2) : val B l = val B (l.take m) + B ^ m * (l[m] + B * l[m + 1]) := by
  rw [val_split B l m (by omega), val_drop B l m (by omega), val_drop B l (m + 1) (by omega)]
  have h4 : List.drop (m + 1 + 1) l = [] := List.drop_of_length_le (by omega)
  rw [h4, val_nil, Int.mul_zero, Int.add_zero]
theorem low_bd {B : Int} (hB : 0 < B) {l : List Int} (h : Lim B l) {k : Nat} (hk : k <= l.length) : 0 <= val B (l.take k) /\ val B (l.take k) < B ^ k := by
  refine ⟨val_nonneg hB (h.take k), ?_⟩
  have := val_lt hB (h.take k)
  rwa [List.length_take, Nat.min_eq_left hk] at this

structure Dig (U V v1 v2 a1 a2 a3 : Int) : Prop where
  ex : ∃ P vl ul : Int, 0 < P /\ (0 <= vl /\ vl < P) /\ (0 <= ul /\ ul < P) /\ V = vl + P * (v2 + 1000000000 * v1) /\ U = ul + P * (a3 + 1000000000 * (a1 * 1000000000 + a2))
  p1 : 1 <= v1 /\ v1 < 1000000000
  p2 : 0 <= v2 /\ v2 < 1000000000
  q1 : 0 <= a1 /\ a1 < 1000000000
  q2 : 0 <= a2 /\ a2 < 1000000000
  q3 : 0 <= a3 /\ a3 < 1000000000
  lt : U < 1000000000 * V
  u0 : 0 <= U
  v0 : 0 < V
theorem Dig.of {v O : List Int} {m : Nat} (hv : v.length = m + 2) (hO : O.length = m + 3) (hV : Lim 1000000000 v) (hU : Lim 1000000000 O) (h1 : 1 <= v[m + 1]) (hlt : val 1000000000 O < 1000000000 * val 1000000000 v) :
    Dig (val 1000000000 O) (val 1000000000 v) v[m + 1] v[m] O[m + 2] O[m + 1] O[m] := by
  have hB : (0 : Int) < 1000000000 := by omega
  have hP := pow_pos hB m
  have l1 := low_bd hB hV (k := m) (by omega)
  have l2 := low_bd hB hU (k := m) (by omega)
  have e1 := div_top (B := 1000000000) hv
  have e2 := win_top (B := 1000000000) hO
  have k1 := hV.get (m + 1) (by omega)
  have k2 := hV.get m (by omega)
  refine ⟨⟨_, _, _, hP, l1, l2, e1, e2⟩, ⟨h1, k1.2⟩, k2, hU.get (m + 2) (by omega), hU.get (m + 1) (by omega), hU.get m (by omega), hlt, val_nonneg hB hU, ?_⟩
  rw [e1]
  have k3 : 0 < 1000000000 ^ m * (v[m] + 1000000000 * v[m + 1]) := Int.mul_pos hP (by omega)
  omega
def Gs (U V v1 h g r : Int) : Prop := (0 <= g /\ 0 <= r) /\ g * v1 + r = h /\ U < (g + 1) * V
def Gd (U V g : Int) : Prop := (0 <= g /\ g < 1000000000) /\ (g - 1) * V <= U /\ U < (g + 1) * V
section
variable {U V v1 v2 a1 a2 a3 g r : Int}
theorem Dig.start (d : Dig U V v1 v2 a1 a2 a3) : Gs U V v1 (a1 * 1000000000 + a2) ((a1 * 1000000000 + a2) / v1) ((a1 * 1000000000 + a2) % v1) /\ (a1 * 1000000000 + a2) % v1 < 1000000000 := by
  obtain ⟨P, vl, ul, hP, l1, l2, e1, e2⟩ := d.ex
  have hp := d.p1
  have q1 := d.q1
  have q2 := d.q2
  have h0 : 0 <= (a1 * 1000000000 + a2) / v1 := Int.ediv_nonneg (by omega) (by omega)
  have h1 := Int.emod_nonneg (a1 * 1000000000 + a2) (show v1 ≠ 0 by omega)
  have h2 := Int.emod_lt_of_pos (a1 * 1000000000 + a2) (show 0 < v1 by omega)
  have h3 : (a1 * 1000000000 + a2) / v1 * v1 + (a1 * 1000000000 + a2) % v1 = a1 * 1000000000 + a2 := by
    rw [Int.mul_comm]; have := Int.emod_add_mul_ediv (a1 * 1000000000 + a2) v1; omega
  refine ⟨⟨⟨h0, h1⟩, h3, ?_⟩, by omega⟩
  rw [e1, e2]
  exact guess_start hP (by omega) l1.1 l2.2 d.p2.1 d.q3.2 h0 h3 h2
theorem Dig.step (d : Dig U V v1 v2 a1 a2 a3) (h : Gs U V v1 (a1 * 1000000000 + a2) g r) (hc : 1000000000 <= g ∨ r * 1000000000 + a3 < g * v2) : 1 <= g /\ Gs U V v1 (a1 * 1000000000 + a2) (g - 1) (r + v1) := by
  obtain ⟨P, vl, ul, hP, l1, l2, e1, e2⟩ := d.ex
  obtain ⟨⟨g0, r0⟩, hi, hU⟩ := h
  have hp := d.p1
  have hv := d.v0
  have hu := d.u0
  have hl := d.lt
  have h1 : U < g * V := by
    rw [e1, e2]
    rw [e1] at hv hl
    rw [e2] at hl
    exact guess_step hP l1.1 l2.2 g0 hi (by omega) hl hc
  have h2 : 1 <= g := by
    rcases Int.lt_or_le 0 g with h | h
    · omega
    · have : g = 0 := by omega
      subst this; rw [Int.zero_mul] at h1; omega
  refine ⟨h2, ⟨by omega, by omega⟩, ?_, ?_⟩
  · rw [Int.sub_mul, Int.one_mul]; omega
  · rw [show g - 1 + 1 = g by omega]; exact h1
theorem Dig.top (d : Dig U V v1 v2 a1 a2 a3) : a1 <= v1 := by
  obtain ⟨P, vl, ul, hP, l1, l2, e1, e2⟩ := d.ex
  have hl := d.lt
  rw [e1, e2] at hl
  exact guess_top hP (by omega) l1.2 l2.1 d.p2.2 d.q3.1 d.q2.1 hl
theorem Dig.low (d : Dig U V v1 v2 a1 a2 a3) (h : Gs U V v1 (a1 * 1000000000 + a2) g r) (hr : 1000000000 <= r) : g < 1000000000 := by
  rcases Int.lt_or_le g 1000000000 with h1 | h1
  · exact h1
  · have := guess_low h.2.1 rfl (by have := d.p1; omega) d.top (by omega) d.q2.2 h1
    omega
theorem Dig.most (d : Dig U V v1 v2 a1 a2 a3) (h : Gs U V v1 (a1 * 1000000000 + a2) g r) : g <= 2000000000 := by
  rcases Int.lt_or_le 2000000000 g with h1 | h1
  · exfalso
    have hp := d.p1
    have h2 : 2000000000 * v1 <= g * v1 := Int.mul_le_mul_of_nonneg_right (by omega) (by omega)
    have h3 := d.top
    have h4 := h.2.1
    have h5 := h.1
    have h6 := d.q2
    omega
  · exact h1
theorem Dig.good (d : Dig U V v1 v2 a1 a2 a3) (h : Gs U V v1 (a1 * 1000000000 + a2) g r) (hg : g < 1000000000) (hc : g * v2 <= r * 1000000000 + a3) : Gd U V g := by
  obtain ⟨P, vl, ul, hP, l1, l2, e1, e2⟩ := d.ex
  obtain ⟨⟨g0, r0⟩, hi, hU⟩ := h
  refine ⟨⟨g0, hg⟩, ?_, hU⟩
  rw [e1, e2]
  exact guess_end hP (by omega) l1.1 l1.2 l2.1 d.p1.1 d.p2.1 g0 (by omega) hi hc
theorem Dig.large (d : Dig U V v1 v2 a1 a2 a3) (h : Gs U V v1 (a1 * 1000000000 + a2) g r) (hr : 1000000000 <= r) : Gd U V g :=
  d.good h (d.low h hr) (guess_break (by omega) h.1.1 (by have := d.low h hr; omega) d.p2.1 d.p2.2 d.q3.1 hr)
end

theorem take_set_succ (B : Int) {F : List Int} {i : Nat} (h : i < F.length) (x : Int) : val B ((F.set i x).take (i + 1)) = val B (F.take i) + B ^ i * x := by
  rw [val_take_succ B _ i (by simpa using h), List.getElem_set_self, List.take_set_of_le (Nat.le_refl i)]
theorem drop_set_succ {F O : List Int} {i : Nat} (x : Int) (h : F.drop i = O.drop i) : (F.set i x).drop (i + 1) = O.drop (i + 1) := by
  rw [List.drop_set_of_lt (by omega)]
  have h2 := congrArg (List.drop 1) h
  rwa [List.drop_drop, List.drop_drop] at h2
theorem get_of_drop {F O : List Int} {i : Nat} (h : F.drop i = O.drop i) (hF : i < F.length) (hO : i < O.length) : F[i] = O[i] := by
  rw [List.drop_eq_getElem_cons hF, List.drop_eq_getElem_cons hO] at h
  exact (List.cons.inj h).1
theorem away_step {B : Int} {F : List Int} {i : Nat} (hi : i < F.length) {X W Z Y cy bo o p x bo' : Int} (h : val B (F.take i) + W = X + B ^ i * (bo + cy)) (hp : p = cy + Y) (hx : x = o - p % B - bo + bo' * B) :
    val B ((F.set i x).take (i + 1)) + (W + B ^ i * Y) = X + B ^ i * o + B ^ (i + 1) * (bo' + p / B) := by
  rw [take_set_succ B hi, Int.pow_succ, Int.mul_assoc]
  have h1 := Int.emod_add_mul_ediv p B
  have e : x + Y = (o - bo - cy) + B * (bo' + p / B) := by
    rw [Int.mul_add, Int.mul_comm B bo']; omega
  have e2 : B ^ i * (x + Y) = B ^ i * ((o - bo - cy) + B * (bo' + p / B)) := by rw [e]
  rw [Int.mul_add, Int.mul_add] at e2
  have e3 : B ^ i * (o - bo - cy) = B ^ i * o - B ^ i * (bo + cy) := by rw [<- Int.mul_sub]; congr 1; omega
  omega
theorem back_step {B : Int} {F : List Int} {i : Nat} (hi : i < F.length) {X W c o y x : Int} (h : val B (F.take i) + B ^ i * c = X + W) (hx : x = o + c + y) :
    val B ((F.set i (x % B)).take (i + 1)) + B ^ (i + 1) * (x / B) = X + B ^ i * o + (W + B ^ i * y) := by
  rw [take_set_succ B hi, Int.pow_succ, Int.mul_assoc]
  have h1 : B ^ i * (x % B) + B ^ i * (B * (x / B)) = B ^ i * x := by rw [<- Int.mul_add, Int.emod_add_mul_ediv]
  have h2 : B ^ i * x = B ^ i * o + B ^ i * c + B ^ i * y := by rw [hx, Int.mul_add, Int.mul_add]
  omega
theorem left_same {U V g F T : Int} (h : F + g * V = U) (h0 : 0 <= F) (h1 : U < (g + 1) * V) : U = g * V + F /\ F < V := by
  rw [Int.add_mul, Int.one_mul] at h1; omega
theorem left_less {U V g F T : Int} (h : F + g * V = U + T) (h1 : F < T) (h2 : (g - 1) * V <= U) : ∃ R, F + V = R + T /\ U = (g - 1) * V + R /\ 0 <= R /\ R < V := by
  refine ⟨U - (g - 1) * V, ?_, by omega, by omega, ?_⟩ <;> (rw [Int.sub_mul, Int.one_mul] at *; omega)
theorem left_back {G c F V R T : Int} (h : G + T * c = F + V) (hR : F + V = R + T) (g1 : G < T) (r0 : 0 <= R) (r1 : R < T) (hT : 0 < T) (c0 : c = 0 ∨ c = 1) : G = R := by
  rcases c0 with rfl | rfl
  · rw [Int.mul_zero] at h; omega
  · rw [Int.mul_one] at h; omega
theorem top_zero {B : Int} (hB : 1 <= B) {G : List Int} (h : Lim B G) {n : Nat} (hl : G.length = n + 1) (hv : val B G < B ^ n) : ∃ W, G = W ++ [0] /\ W.length = n := by
  refine ⟨G.take n, ?_, by simp; omega⟩
  have h0 := h.get n (by omega)
  have h1 := val_split B G n (by omega)
  rw [val_drop B G n (by omega)] at h1
  have h4 : List.drop (n + 1) G = [] := List.drop_of_length_le (by omega)
  rw [h4, val_nil, Int.mul_zero, Int.add_zero] at h1
  have h2 := val_nonneg (by omega) (h.take n)
  have hz : G[n] = 0 := by
    rcases Int.lt_or_le 0 G[n] with h | h
    · have : B ^ n * 1 <= B ^ n * G[n] := Int.mul_le_mul_of_nonneg_left (by omega) (Int.le_of_lt (pow_pos (by omega) n))
      omega
    · omega
  have h5 := List.take_succ_eq_append_getElem (l := G) (i := n) (by omega)
  rw [List.take_of_length_le (by omega), hz] at h5
  exact h5
end Big
end Go.Proofs.YtalfikdjclineaaGreatDoor
namespace Go.Proofs.YtalfikdjclineaaGreatDoor
namespace Dec
def pad : Nat -> Nat -> List UInt8
  | 0, _ => []
  | k + 1, u => pad k (u / 10) ++ [UInt8.ofNat (48 + u % 10)]
theorem pad_length : ∀ (k u : Nat), (pad k u).length = k
  | 0, _ => rfl
  | k + 1, u => by rw [pad, List.length_append, pad_length k]; rfl
theorem digits_small {u : Nat} (h : u < 10) : Lib.decDigits u = [UInt8.ofNat (48 + u)] := by rw [Lib.decDigits, dif_pos h]
theorem digits_big {u : Nat} (h : ¬ u < 10) : Lib.decDigits u = Lib.decDigits (u / 10) ++ [UInt8.ofNat (48 + u % 10)] := by rw [Lib.decDigits, dif_neg h]
theorem digits_pad : ∀ (k a b : Nat), 0 < a -> b < 10 ^ k -> Lib.decDigits (a * 10 ^ k + b) = Lib.decDigits a ++ pad k b
  | 0, a, b, _, hb => by simp at hb; subst hb; simp [pad]
  | k + 1, a, b, ha, hb => by
    have e : 10 ^ (k + 1) = 10 * 10 ^ k := by rw [Nat.pow_succ, Nat.mul_comm]
    have hp : 0 < 10 ^ k := Nat.pow_pos (by omega)
    have h1 : 10 ^ k <= a * 10 ^ k := Nat.le_mul_of_pos_left _ ha
    have hlt : ¬ a * 10 ^ (k + 1) + b < 10 := by rw [e, Nat.mul_left_comm]; omega
    have hd : (a * 10 ^ (k + 1) + b) / 10 = a * 10 ^ k + b / 10 := by rw [e, Nat.mul_left_comm]; omega
    have hm : (a * 10 ^ (k + 1) + b) % 10 = b % 10 := by rw [e, Nat.mul_left_comm]; omega
    rw [digits_big hlt, hd, hm, digits_pad k a (b / 10) ha (by rw [e] at hb; omega), pad, List.append_assoc]
theorem pad_fill : ∀ (k u : Nat), 0 < k -> u < 10 ^ k -> pad k u = List.replicate (k - (Lib.decDigits u).length) 48 ++ Lib.decDigits u /\ (Lib.decDigits u).length <= k
  | 1, u, _, hu => by
    have h : u < 10 := by simpa using hu
    rw [digits_small h]
    simp [pad, Nat.mod_eq_of_lt h]
  | k + 2, u, _, hu => by
    have e : 10 ^ (k + 2) = 10 * 10 ^ (k + 1) := by rw [Nat.pow_succ 10 (k + 1), Nat.mul_comm]
    obtain ⟨h1, h2⟩ := pad_fill (k + 1) (u / 10) (by omega) (by rw [e] at hu; omega)
    by_cases h : u < 10
    · have hz : u / 10 = 0 := by omega
      have hz2 : u % 10 = u := by omega
      rw [hz, digits_small (by omega)] at h1
      rw [pad, hz, h1, digits_small h, hz2]
      refine ⟨?_, by simp⟩
      show List.replicate (k + 1 - 1) 48 ++ [UInt8.ofNat (48 + 0)] ++ [UInt8.ofNat (48 + u)] = List.replicate (k + 2 - 1) 48 ++ [UInt8.ofNat (48 + u)]
      rw [show k + 1 - 1 = k by omega, show k + 2 - 1 = k + 1 by omega, List.replicate_succ']
      rfl
    · rw [digits_big h, pad, h1]
      refine ⟨?_, by simp; omega⟩
      rw [List.append_assoc, List.length_append]
      congr 2
      simp
def text (k : Nat) : List Nat -> List UInt8
  | [] => []
  | [a] => Lib.decDigits a
  | a :: l => text k l ++ pad k a
theorem text_cons (k a b : Nat) (l : List Nat) : text k (a :: b :: l) = text k (b :: l) ++ pad k a := rfl
def num (k : Nat) : List Nat -> Nat
  | [] => 0
  | a :: l => a + 10 ^ k * num k l
theorem text_num (k : Nat) : ∀ (l : List Nat), l ≠ [] -> (∀ a ∈ l, a < 10 ^ k) -> l.getLast? ≠ some 0 -> text k l = Lib.decDigits (num k l) /\ 0 < num k l
  | [], h, _, _ => absurd rfl h
  | [a], _, _, h => by
    have : a ≠ 0 := fun e => h (by rw [e]; rfl)
    simp [text, num]; omega
  | a :: b :: l, _, hb, h => by
    obtain ⟨h1, h2⟩ := text_num k (b :: l) (by simp) (fun x hx => hb x (List.mem_cons_of_mem _ hx)) (by simpa using h)
    have e : num k (a :: b :: l) = num k (b :: l) * 10 ^ k + a := by rw [num, Nat.mul_comm]; omega
    rw [text_cons, h1, e, digits_pad k _ a h2 (hb a List.mem_cons_self)]
    exact ⟨rfl, by have := Nat.le_mul_of_pos_right (num k (b :: l)) (show 0 < 10 ^ k from Nat.pow_pos (by omega)); omega⟩
theorem pad_front : ∀ (k u : Nat), pad (k + 1) u = UInt8.ofNat (48 + u / 10 ^ k % 10) :: pad k u
  | 0, u => by simp [pad]
  | k + 1, u => by
    have h := pad_front k (u / 10)
    have e : u / 10 / 10 ^ k = u / 10 ^ (k + 1) := by rw [Nat.div_div_eq_div_mul, Nat.pow_succ, Nat.mul_comm]
    rw [e] at h
    rw [pad, h, pad]
    rfl
theorem digits_exact {k a : Nat} (h0 : 10 ^ k <= a) (h1 : a < 10 ^ (k + 1)) : Lib.decDigits a = pad (k + 1) a := by
  have hp : 0 < 10 ^ k := Nat.pow_pos (by omega)
  have hq : 0 < a / 10 ^ k := Nat.div_pos h0 hp
  have hl : a / 10 ^ k < 10 := by rw [Nat.div_lt_iff_lt_mul hp]; rw [Nat.pow_succ] at h1; omega
  have e : a / 10 ^ k * 10 ^ k + a % 10 ^ k = a := by rw [Nat.mul_comm]; exact Nat.div_add_mod a (10 ^ k)
  have h2 := digits_pad k (a / 10 ^ k) (a % 10 ^ k) hq (Nat.mod_lt _ hp)
  rw [e, digits_small hl] at h2
  have hm : ∀ (j u : Nat), pad j (u % 10 ^ j) = pad j u := by
    intro j
    induction j with
    | zero => intro u; rfl
    | succ j ih =>
      intro u
      have ej : 10 ^ (j + 1) = 10 * 10 ^ j := by rw [Nat.pow_succ, Nat.mul_comm]
      rw [pad, pad, <- ih (u / 10)]
      have e1 : u % 10 ^ (j + 1) / 10 = u / 10 % 10 ^ j := by rw [ej, Nat.mod_mul_right_div_self]
      have e2 : u % 10 ^ (j + 1) % 10 = u % 10 := by rw [ej, Nat.mod_mul_right_mod]
      rw [e1, e2]
  rw [hm] at h2
  rw [h2, pad_front, Nat.mod_eq_of_lt hl]
  rfl
def top (j a : Nat) : List UInt8 := if a / 10 ^ j = 0 then Lib.decDigits a else pad j a
theorem top_zero {a : Nat} (h : 0 < a) : top 0 a = [] := by
  unfold top; rw [if_neg (by simp; omega)]; rfl
theorem top_done {j a : Nat} (h : a < 10 ^ j) : top j a = Lib.decDigits a := by
  unfold top; rw [if_pos (Nat.div_eq_of_lt h)]
theorem div_succ (a j : Nat) : a / 10 ^ (j + 1) = a / 10 ^ j / 10 := by rw [Nat.pow_succ, Nat.div_div_eq_div_mul]
theorem top_more {j a : Nat} (h : 0 < a / 10 ^ j) : top (j + 1) a = UInt8.ofNat (48 + a / 10 ^ j % 10) :: top j a := by
  have hp : 0 < 10 ^ j := Nat.pow_pos (by omega)
  have ht : top j a = pad j a := by unfold top; rw [if_neg (by omega)]
  rw [ht, <- pad_front]
  by_cases h2 : a / 10 ^ (j + 1) = 0
  · unfold top
    rw [if_pos h2]
    have h3 : a < 10 ^ (j + 1) := by
      rcases Nat.lt_or_ge a (10 ^ (j + 1)) with h4 | h4
      · exact h4
      · have := Nat.div_pos h4 (Nat.pow_pos (by omega)); omega
    have h5 : 10 ^ j <= a := by
      rcases Nat.lt_or_ge a (10 ^ j) with h4 | h4
      · rw [Nat.div_eq_of_lt h4] at h; omega
      · exact h4
    exact digits_exact h5 h3
  · unfold top; rw [if_neg h2]
theorem top_same {j a : Nat} (h : a / 10 ^ j = 0) : top (j + 1) a = top j a := by
  unfold top
  rw [if_pos h, if_pos (by rw [div_succ, h])]
def low (k : Nat) : List Nat -> List UInt8
  | [] => []
  | a :: l => low k l ++ pad k a
theorem low_snoc (k a : Nat) : ∀ l : List Nat, low k (l ++ [a]) = pad k a ++ low k l
  | [] => by simp [low]
  | x :: l => by rw [List.cons_append, low, low_snoc k a l, low, List.append_assoc]
theorem text_snoc (k a : Nat) : ∀ l : List Nat, text k (l ++ [a]) = Lib.decDigits a ++ low k l
  | [] => by simp [text, low]
  | [x] => by simp [text, low]
  | x :: y :: l => by
    have h := text_snoc k a (y :: l)
    rw [List.cons_append] at h
    rw [List.cons_append, List.cons_append, text_cons, h, List.append_assoc]
    rfl
theorem num_val {k : Nat} {B : Int} (hB : B = ((10 ^ k : Nat) : Int)) : ∀ {l : List Int}, Big.Lim B l -> ((num k (l.map Int.toNat) : Nat) : Int) = Big.val B l
  | [], _ => rfl
  | a :: l, h => by
    rw [Big.Lim.cons] at h
    rw [List.map_cons, num, Big.val_cons, Int.natCast_add, Int.natCast_mul, num_val hB h.2, <- hB]
    omega
theorem digits_ne (u : Nat) : Lib.decDigits u ≠ [] := by
  rw [Lib.decDigits]
  split <;> simp
theorem text_val {k : Nat} {B : Int} (hB : B = ((10 ^ k : Nat) : Int)) {l : List Int} (hL : Big.Lim B l) (hN : Big.Norm l) (h0 : 0 < l.length) : text k (l.map Int.toNat) = Lib.decDigits (Big.val B l).toNat := by
  have hne : l ≠ [] := List.length_pos_iff.1 h0
  have h1 := (text_num k (l.map Int.toNat) (by simpa using hne) (fun a ha => by
    rw [List.mem_map] at ha
    obtain ⟨b, hb, rfl⟩ := ha
    have := hL b hb
    rw [hB] at this
    omega) (by
    rw [List.getLast?_map, List.getLast?_eq_some_getLast hne]
    intro e
    have h2 := hN hne
    have h3 := hL _ (List.getLast_mem hne)
    simp only [Option.map_some, Option.some.injEq] at e
    omega)).1
  rw [h1, <- num_val hB hL, Int.toNat_natCast]
theorem text_len (k : Nat) : ∀ (l : List Nat), (∀ a ∈ l, a < 10 ^ k) -> 0 < k -> (text k l).length <= k * l.length
  | [], _, _ => Nat.zero_le _
  | [a], h, hk => by
    have := (pad_fill k a hk (h a (by simp))).2
    simpa [text] using this
  | a :: b :: l, h, hk => by
    have := text_len k (b :: l) (fun x hx => h x (List.mem_cons_of_mem _ hx)) hk
    rw [text_cons, List.length_append, pad_length, List.length_cons, Nat.mul_succ]
    omega
def frac (n d : Nat) : List UInt8 := if d = 1 then Lib.decDigits n else Lib.decDigits n ++ 47 :: Lib.decDigits d
theorem digits_one {d : Nat} (h : Lib.decDigits d = [49]) : d = 1 := by
  by_cases h1 : d < 10
  · rw [digits_small h1] at h
    have h2 := congrArg (fun l => l.map UInt8.toNat) h
    simp [UInt8.toNat_ofNat'] at h2
    omega
  · rw [digits_big h1] at h
    have h2 := congrArg List.length h
    have h3 := digits_ne (d / 10)
    have h4 : 0 < (Lib.decDigits (d / 10)).length := List.length_pos_iff.2 h3
    rw [List.length_append] at h2
    simp only [List.length_cons, List.length_nil] at h2
    omega
end Dec
end Go.Proofs.YtalfikdjclineaaGreatDoor
