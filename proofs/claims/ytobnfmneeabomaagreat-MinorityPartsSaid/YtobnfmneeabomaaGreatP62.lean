/- My texts RdP, PartsP, PartsM, PartsN, AbsL, PartsQ. -/
import Derived.Laws.Small
import Derived.Test.YtobnfmneeabomaaGreatH33
import Derived.Test.YtobnfmneeabomaaGreatK34
import Derived.Test.YtobnfmneeabomaaGreatK46
import Derived.Test.YtobnfmneeabomaaGreatP61
set_option linter.unusedVariables false
set_option linter.unusedSimpArgs false
set_option maxRecDepth 100000
set_option maxHeartbeats 8000000
namespace Go.Proofs.YtobnfmneeabomaaGreat
namespace R1
theorem rd_closed {n N D : Int} (hD : 0 < D) : rd n N D = Big.sgn (decide (n * N < 0)) ((2 * ((n * N).natAbs : Int) + D) / (2 * D)) := by
 unfold rd
 rw [Int.one_mul]
 obtain ⟨q, hq⟩ := Int.gcd_dvd_right (n * N) D
 obtain ⟨p, hp⟩ := Int.gcd_dvd_left (n * N) D
 have hG0 : (0 : Int) <= (Int.gcd (n * N) D : Int) := Int.natCast_nonneg _
 obtain ⟨G, hG⟩ : ∃ G, G = (Int.gcd (n * N) D : Int) := ⟨_, rfl⟩
 rw [<- hG] at hp hq hG0 ⊢
 have hne : G ≠ 0 := by intro e; subst e; rw [Int.zero_mul] at hq; omega
 have hGp : 0 < G := by omega
 have e1 : Int.tdiv (n * N) G = p := by rw [hp, Int.mul_tdiv_cancel_left _ hne]
 have e2 : Int.tdiv D G = q := by rw [hq, Int.mul_tdiv_cancel_left _ hne]
 have hqp : 0 < q := by rw [hq] at hD; exact Int.pos_of_mul_pos_right hD (by omega)
 rw [e1, e2]
 have hs : decide (n * N < 0) = decide (p < 0) := by
  rw [hp]
  by_cases h : p < 0
  ·rw [decide_eq_true h, decide_eq_true (Int.mul_neg_of_pos_of_neg hGp h)]
  ·rw [decide_eq_false h, decide_eq_false (by have := Int.mul_nonneg (Int.le_of_lt hGp) (Int.not_lt.1 h); omega)]
 rw [hs]
 have ha : ((n * N).natAbs : Int) = G * (p.natAbs : Int) := by rw [hp, Int.natAbs_mul, Int.natCast_mul]; congr 1; omega
 have hv : (2 * ((n * N).natAbs : Int) + D) / (2 * D) = (2 * (p.natAbs : Int) + q) / (2 * q) := by
  rw [ha]
  have h1 : 2 * (G * (p.natAbs : Int)) + D = G * (2 * (p.natAbs : Int) + q) := by rw [hq, Int.mul_add, Int.mul_left_comm]
  have h2 : 2 * D = G * (2 * q) := by rw [hq, Int.mul_left_comm]
  rw [h1, h2, Int.mul_ediv_mul_of_pos _ _ hGp]
 rw [hv, Int.tdiv_eq_ediv_of_nonneg (by omega)]
def took (n a d : Int) : Int := (2 * ((n.natAbs : Int) * a) + d) / (2 * d)
theorem took_bd {n a d : Int} (hd : 0 < d) (h0 : 0 <= a) (h1 : a <= d) : 0 <= took n a d /\ took n a d <= (n.natAbs : Int) := by
 have hn : (0 : Int) <= (n.natAbs : Int) := Int.natCast_nonneg _
 have hm := Int.mul_nonneg hn h0
 have hle := Int.mul_le_mul_of_nonneg_left h1 hn
 unfold took
 refine ⟨Int.ediv_nonneg (by omega) (by omega), ?_⟩
 have : (2 * ((n.natAbs : Int) * a) + d) / (2 * d) < (n.natAbs : Int) + 1 := by
  rw [Int.ediv_lt_iff_lt_mul (by omega)]
  have e : ((n.natAbs : Int) + 1) * (2 * d) = 2 * ((n.natAbs : Int) * d) + 2 * d := by rw [Int.add_mul, Int.one_mul, Int.mul_left_comm]
  rw [e]; omega
 omega
theorem took_mono {n a b d : Int} (hd : 0 < d) (h : a <= b) : took n a d <= took n b d := by
 have hn : (0 : Int) <= (n.natAbs : Int) := Int.natCast_nonneg _
 have hle := Int.mul_le_mul_of_nonneg_left h hn
 exact Int.ediv_le_ediv (by omega) (by omega)
theorem rd_share {n a d : Int} (hd : 0 < d) (h0 : 0 <= a) : rd n (Int.tdiv a (Int.gcd a d)) (Int.tdiv d (Int.gcd a d)) = if n < 0 then -(took n a d) else took n a d := by
 obtain ⟨q, hq⟩ := Int.gcd_dvd_right a d
 obtain ⟨p, hp⟩ := Int.gcd_dvd_left a d
 have hG0 : (0 : Int) <= (Int.gcd a d : Int) := Int.natCast_nonneg _
 obtain ⟨G, hG⟩ : ∃ G, G = (Int.gcd a d : Int) := ⟨_, rfl⟩
 rw [<- hG] at hp hq hG0 ⊢
 have hne : G ≠ 0 := by intro e; subst e; rw [Int.zero_mul] at hq; omega
 have hGp : 0 < G := by omega
 have e1 : Int.tdiv a G = p := by rw [hp, Int.mul_tdiv_cancel_left _ hne]
 have e2 : Int.tdiv d G = q := by rw [hq, Int.mul_tdiv_cancel_left _ hne]
 have hqp : 0 < q := by rw [hq] at hd; exact Int.pos_of_mul_pos_right hd (by omega)
 have hp0 : 0 <= p := by
  by_cases h : 0 <= p
  ·exact h
  ·have := Int.mul_neg_of_pos_of_neg hGp (by omega : p < 0); omega
 rw [e1, e2, rd_closed hqp]
 have hab : ((n * p).natAbs : Int) = (n.natAbs : Int) * p := by rw [Int.natAbs_mul, Int.natCast_mul]; congr 1; omega
 have hv : (2 * ((n * p).natAbs : Int) + q) / (2 * q) = took n a d := by
  unfold took
  have h1 : 2 * ((n.natAbs : Int) * a) + d = G * (2 * ((n.natAbs : Int) * p) + q) := by
   rw [Int.mul_add, <- hq]
   congr 1
   rw [hp, Int.mul_left_comm G 2, Int.mul_left_comm G (n.natAbs : Int) p]
  have h2 : 2 * d = G * (2 * q) := by rw [hq, Int.mul_left_comm]
  rw [h1, h2, Int.mul_ediv_mul_of_pos _ _ hGp, hab]
 rw [hv]
 by_cases hn : n < 0
 ·rw [if_pos hn]
  by_cases hp2 : 0 < p
  ·rw [decide_eq_true (Int.mul_neg_of_neg_of_pos hn hp2)]; rfl
  ·have hpz : p = 0 := by omega
   have ha : a = 0 := by rw [hp, hpz, Int.mul_zero]
   have h3 : took n a d = 0 := by
    unfold took
    rw [ha, Int.mul_zero, Int.mul_zero, Int.zero_add]
    exact Int.ediv_eq_zero_of_lt (by omega) (by omega)
   rw [h3]; unfold Big.sgn; split <;> rfl
 ·rw [if_neg hn, decide_eq_false (by have := Int.mul_nonneg (by omega : 0 <= n) hp0; omega)]; rfl
end R1
end Go.Proofs.YtobnfmneeabomaaGreat
namespace Go.Proofs.YtobnfmneeabomaaGreat
namespace R1
def oth (n a d : Int) : Int := n - (if n < 0 then -(took n a d) else took n a d)
theorem oth_abs {n a d : Int} (hd : 0 < d) (h0 : 0 <= a) (h1 : a <= d) : ((oth n a d).natAbs : Int) = (n.natAbs : Int) - took n a d := by
 obtain ⟨t0, t1⟩ := took_bd (n := n) hd h0 h1
 unfold oth
 by_cases h : n < 0
 ·rw [if_pos h]; omega
 ·rw [if_neg h]; omega
theorem oth_le {n a d : Int} (hd : 0 < d) (h0 : 0 <= a) (h1 : a <= d) : ((oth n a d).natAbs : Int) <= (n.natAbs : Int) := by
 have := took_bd (n := n) hd h0 h1
 rw [oth_abs hd h0 h1]; omega
theorem oth_mono {n a b d : Int} (hd : 0 < d) (h0 : 0 <= a) (h : a <= b) (h1 : b <= d) : ((oth n b d).natAbs : Int) <= ((oth n a d).natAbs : Int) := by
 rw [oth_abs hd (by omega) h1, oth_abs hd h0 (by omega)]
 have := took_mono (n := n) hd h
 omega
theorem took_all {n d : Int} (hd : 0 < d) : took n d d = (n.natAbs : Int) := by
 unfold took
 have hn : (0 : Int) <= (n.natAbs : Int) := Int.natCast_nonneg _
 have e : 2 * ((n.natAbs : Int) * d) + d = d + (2 * d) * (n.natAbs : Int) := by rw [Int.mul_assoc, Int.mul_comm d]; omega
 rw [e, Int.add_mul_ediv_left _ _ (by omega), Int.ediv_eq_zero_of_lt (by omega) (by omega), Int.zero_add]
theorem oth_all {n d : Int} (hd : 0 < d) : oth n d d = 0 := by
 unfold oth
 rw [took_all hd]
 split <;> omega
theorem oth_sign {n a d : Int} (hd : 0 < d) (h0 : 0 <= a) (h1 : a <= d) : 0 <= oth n a d * n := by
 obtain ⟨t0, t1⟩ := took_bd (n := n) hd h0 h1
 unfold oth
 by_cases h : n < 0
 ·rw [if_pos h]
  exact Int.mul_nonneg_of_nonpos_of_nonpos (by omega) (by omega)
 ·rw [if_neg h]
  exact Int.mul_nonneg (by omega) (by omega)
end R1
end Go.Proofs.YtobnfmneeabomaaGreat
namespace Go.Proofs.YtobnfmneeabomaaGreat
theorem R1.oth_zero {a d : Int} (hd : 0 < d) : R1.oth 0 a d = 0 := by
 unfold R1.oth R1.took
 have e : (2 * (((0 : Int).natAbs : Int) * a) + d) / (2 * d) = 0 := by
  simp only [Int.natAbs_zero, Int.natCast_zero, Int.zero_mul, Int.mul_zero, Int.zero_add]
  exact Int.ediv_eq_zero_of_lt (by omega) (by omega)
 rw [e]; simp
def Gr.Shared (p q : Int) (m : List Cnt) : Prop := ∀ y ∈ m, y.sN = Int.tdiv p (Int.gcd p q) /\ y.sD = Int.tdiv q (Int.gcd p q)
theorem Gr.minor_shared {g : Grp} {m : List Cnt} {x a d : Int} (hm : Gr.Shared a d m) (hd : 0 < d) (h0 : 0 <= a) :
  (Gr.minor g m x).1.2.2.1 = R1.oth (Gr.minor g m x).1.1 a d /\ (Gr.minor g m x).1.2.2.2 = R1.oth (Gr.minor g m x).1.2.1 a d := by
 unfold Gr.minor
 split
 ·simp [R1.oth_zero hd]
 ·cases hc : Cn.cfind m x with
  | none => simp [R1.oth_zero hd]
  | some y =>
   simp only []
   split
   ·simp [R1.oth_zero hd]
   ·have hy : y ∈ m := by unfold Cn.cfind at hc; exact List.mem_of_find?_eq_some hc
    obtain ⟨h1, h2⟩ := hm y hy
    simp only []
    rw [h1, h2, R1.rd_share hd h0, R1.rd_share hd h0]
    exact ⟨rfl, rfl⟩
end Go.Proofs.YtobnfmneeabomaaGreat
namespace Go.Proofs.YtobnfmneeabomaaGreat
theorem Gr.mpost_none {g : Grp} {m : List Cnt} {x : Int} (h1 : (Gr.minor g m x).1.2.2.1 = 0) (h2 : (Gr.minor g m x).1.2.2.2 = 0) (he : (Gr.minor g m x).2 = 0) : Gr.mpost g m x = ([], 0) := by
 unfold Gr.mpost
 rw [if_neg (by rw [he]; simp), h1, h2, Po.clean_eq (l' := []) (fun a => by simp [Po.sum])]
 rfl
end Go.Proofs.YtobnfmneeabomaaGreat
namespace Go.Proofs.YtobnfmneeabomaaGreat
open Go.RowKit
theorem absl_any (w : World) (n : Int) (h0 : -10000000000000000 <= n) (h1 : n <= 10000000000000000) : Calls Tryz.prog 11 #[.int .i64 n] w fun e w' => e = .returned (.int .i64 (n.natAbs : Int)) /\ w' = w := by
 go_enter Tryz.func11, Tryz.ntmps11
 obtain ⟨m, hm⟩ : ∃ m, m = -n := ⟨_, rfl⟩
 have hmn : -n = m := hm.symm
 have HV : Hid (max n m = (n.natAbs : Int)) := Lib.hid (by omega)
 clear hm
 go_wp2
 go_ret
 exact ⟨by show Ending.returned (Value.int IntKind.i64 (max n m)) = _; rw [HV.out], rfl⟩
end Go.Proofs.YtobnfmneeabomaaGreat
namespace Go.Proofs.YtobnfmneeabomaaGreat
open Go.RowKit
theorem Cn.cfind_sh (p q x : Int) : ∀ (l : List Raw), (Cn.cfind ((l.map (Raw.sh p q)).map Raw.cnt) x = none /\ Cn.cfind (l.map Raw.cnt) x = none) ∨ ∃ y ∈ l, Cn.cfind ((l.map (Raw.sh p q)).map Raw.cnt) x = some (y.sh p q).cnt /\ Cn.cfind (l.map Raw.cnt) x = some y.cnt
 | [] => .inl ⟨rfl, rfl⟩
 | y :: l => by
  unfold Cn.cfind
  simp only [List.map_cons, List.find?_cons]
  show (match ((y.sh p q).cnt.ent == x) with | true => _ | false => _) = _ /\ _ ∨ _
  have e : ((y.sh p q).cnt.ent == x) = (y.cnt.ent == x) := rfl
  rw [e]
  cases y.cnt.ent == x with
  | true => exact .inr ⟨y, List.mem_cons_self, rfl, rfl⟩
  | false =>
   rcases Cn.cfind_sh p q x l with h | ⟨z, hz, h⟩
   ·exact .inl h
   ·exact .inr ⟨z, List.mem_cons_of_mem _ hz, h⟩
theorem Gr.minor_sh {g : Grp} {l : List Raw} {x p q : Int} (hq : 0 < q) (hp : 0 <= p) : Gr.minor g ((l.map (Raw.sh p q)).map Raw.cnt) x =
  (((Gr.minor g (l.map Raw.cnt) x).1.1, (Gr.minor g (l.map Raw.cnt) x).1.2.1, R1.oth (Gr.minor g (l.map Raw.cnt) x).1.1 p q, R1.oth (Gr.minor g (l.map Raw.cnt) x).1.2.1 p q), (Gr.minor g (l.map Raw.cnt) x).2) := by
 obtain ⟨s1, s2⟩ := Gr.minor_shared (g := g) (m := (l.map (Raw.sh p q)).map Raw.cnt) (x := x) (a := p) (d := q) (by
  intro y hy
  rw [List.mem_map] at hy
  obtain ⟨a, ha, rfl⟩ := hy
  rw [List.mem_map] at ha
  obtain ⟨b, _, rfl⟩ := ha
  exact ⟨rfl, rfl⟩) hq hp
 have h : (Gr.minor g ((l.map (Raw.sh p q)).map Raw.cnt) x).1.1 = (Gr.minor g (l.map Raw.cnt) x).1.1 /\ (Gr.minor g ((l.map (Raw.sh p q)).map Raw.cnt) x).1.2.1 = (Gr.minor g (l.map Raw.cnt) x).1.2.1 /\ (Gr.minor g ((l.map (Raw.sh p q)).map Raw.cnt) x).2 = (Gr.minor g (l.map Raw.cnt) x).2 := by
  unfold Gr.minor
  split
  ·exact ⟨rfl, rfl, rfl⟩
  ·rcases Cn.cfind_sh p q x l with ⟨h1, h2⟩ | ⟨y, _, h1, h2⟩
   ·rw [h1, h2]; exact ⟨rfl, rfl, rfl⟩
   ·rw [h1, h2]
    simp only []
    have e : (y.sh p q).cnt.meth = y.cnt.meth := rfl
    rw [e]
    split
    ·exact ⟨rfl, rfl, rfl⟩
    ·exact ⟨rfl, rfl, rfl⟩
 obtain ⟨h1, h2, h3⟩ := h
 rw [h1] at s1
 rw [h2] at s2
 generalize Gr.minor g ((l.map (Raw.sh p q)).map Raw.cnt) x = r at *
 obtain ⟨⟨a, b, c, d⟩, e⟩ := r
 simp only [] at h1 h2 h3 s1 s2
 subst h1 h2 h3 s1 s2
 rfl
theorem Gr.minor_bd {g : Grp} {m : List Cnt} {x : Int} (hm : ∀ y ∈ m, y.its.length <= 50 /\ ∀ z ∈ y.its, z.small) :
  (-100000000000000 <= (Gr.minor g m x).1.1 /\ (Gr.minor g m x).1.1 <= 100000000000000) /\ -100000000000000 <= (Gr.minor g m x).1.2.1 /\ (Gr.minor g m x).1.2.1 <= 100000000000000 := by
 unfold Gr.minor
 split
 ·simp
 ·cases hc : Cn.cfind m x with
  | none => simp
  | some y =>
   simp only []
   split
   ·simp
   ·have hy : y ∈ m := by unfold Cn.cfind at hc; exact List.mem_of_find?_eq_some hc
    obtain ⟨hl, hx⟩ := hm y hy
    have b1 := Gr.sumOf_bd (Gr.isResult g) y.its hx
    have b2 := Gr.sumOf_bd (Gr.isEquity g) y.its hx
    have b3 := Gr.sumOf_bd (fun _ => true) y.its hx
    have b4 : Gr.sumOf (fun _ => true) y.its = Gr.sumAll y.its := rfl
    rw [b4] at b3
    simp only []
    omega
theorem Gr.minor_err {g : Grp} {m : List Cnt} {x : Int} (hv : Gr.valid g = true) (h : (Gr.minor g m x).2 ≠ 0) : (Gr.minor g m x).2 = 2 /\ (x < 0 ∨ (g.en : Int) <= x) := by
 have hc : (Gr.minor g m x).2 = Gr.check g x := by
  unfold Gr.minor
  split
  ·rfl
  ·rename_i h0
   have h0 : Gr.check g x = 0 := by simpa using h0
   rw [h0]
   split
   ·rfl
   ·split <;> rfl
 rw [hc] at h ⊢
 unfold Gr.check at h ⊢
 rw [if_neg (by rw [hv]; decide)] at h ⊢
 split at h
 ·rename_i h1; exact ⟨by rw [if_pos h1], h1⟩
 ·exact absurd rfl h
def AllAt (P : Nat) (oc od : Nat -> Int) (k : Nat) (wr : World) : Prop :=
 ∃ cur : Array Value, wr.heap[P]? = some (.cells cur 40 (0, 0)) /\ cur.size = 12 /\ ∀ j, j < k -> cur[j * 4 + 2]? = some (.int .i64 (oc j)) /\ cur[j * 4 + 3]? = some (.int .i64 (od j))
theorem AllAt.look {P : Nat} {oc od : Nat -> Int} {k : Nat} {wr : World} (h : AllAt P oc od k wr) (hk : k < 3) : (∃ v0 v1 v2 v3, wr.cell? ⟨P, k * 4, none⟩ = some v0 /\ wr.cell? ⟨P, k * 4 + 1, none⟩ = some v1 /\ wr.cell? ⟨P, k * 4 + 2, none⟩ = some v2 /\ wr.cell? ⟨P, k * 4 + 3, none⟩ = some v3) /\ (∀ j, wr.frozen? ⟨P, j, none⟩ = false) /\ P < wr.heap.size := by
 obtain ⟨cur, hc, hs, _⟩ := h
 refine ⟨⟨cur[k * 4]'(by omega), cur[k * 4 + 1]'(by omega), cur[k * 4 + 2]'(by omega), cur[k * 4 + 3]'(by omega), ?_, ?_, ?_, ?_⟩, fun j => frozen_of_row _ _ j _ _ hc, some_lt hc⟩
 all_goals (rw [cell_of_row _ _ _ _ _ _ hc]; exact Array.getElem?_eq_getElem _)
theorem AllAt.step {P : Nat} {oc od : Nat -> Int} {k : Nat} {wr : World} (v0 v1 : Value) (h : AllAt P oc od k wr) (hk : k < 3) :
  AllAt P oc od (k + 1) ((((wr.setCell ⟨P, k * 4, none⟩ v0).setCell ⟨P, k * 4 + 1, none⟩ v1).setCell ⟨P, k * 4 + 2, none⟩ (.int .i64 (oc k))).setCell ⟨P, k * 4 + 3, none⟩ (.int .i64 (od k))) /\
  wr.grownBy ((((wr.setCell ⟨P, k * 4, none⟩ v0).setCell ⟨P, k * 4 + 1, none⟩ v1).setCell ⟨P, k * 4 + 2, none⟩ (.int .i64 (oc k))).setCell ⟨P, k * 4 + 3, none⟩ (.int .i64 (od k))) (some P) := by
 obtain ⟨cur, hc, hs, ha⟩ := h
 have e1 := heap_setCell_same wr P (k * 4) _ _ v0 hc
 have e2 := heap_setCell_same _ P (k * 4 + 1) _ _ v1 e1
 have e3 := heap_setCell_same _ P (k * 4 + 2) _ _ (.int .i64 (oc k)) e2
 have e4 := heap_setCell_same _ P (k * 4 + 3) _ _ (.int .i64 (od k)) e3
 refine ⟨⟨_, e4, by simp [hs], fun j hj => ?_⟩, rfl, rfl, rfl, by simp [World.setCell], fun b hb hne => ?_⟩
 ·by_cases e : j = k
  ·subst e
   simp [Array.getElem?_setIfInBounds, hs]
   omega
  ·obtain ⟨a1, a2⟩ := ha j (by omega)
   simp only [Array.getElem?_setIfInBounds]
   rw [if_neg (by omega), if_neg (by omega), if_neg (by omega), if_neg (by omega), if_neg (by omega), if_neg (by omega), if_neg (by omega), if_neg (by omega)]
   exact ⟨a1, a2⟩
 ·have hne' : b ≠ P := fun e => hne (by rw [e])
  rw [heap_setCell_other _ _ _ _ hne', heap_setCell_other _ _ _ _ hne', heap_setCell_other _ _ _ _ hne', heap_setCell_other _ _ _ _ hne']
theorem AllAt.kept {P : Nat} {oc od : Nat -> Int} {k : Nat} {w w' : World} (h : AllAt P oc od k w) (e : w'.heap[P]? = w.heap[P]?) : AllAt P oc od k w' := by
 obtain ⟨cur, hc, hs, ha⟩ := h
 exact ⟨cur, e.trans hc, hs, ha⟩
theorem AllAt.get {P : Nat} {oc od : Nat -> Int} {wr : World} (h : AllAt P oc od 3 wr) : (wr.cell? ⟨P, 2, none⟩ = some (.int .i64 (oc 0)) /\ wr.cell? ⟨P, 3, none⟩ = some (.int .i64 (od 0))) /\ (wr.cell? ⟨P, 6, none⟩ = some (.int .i64 (oc 1)) /\ wr.cell? ⟨P, 7, none⟩ = some (.int .i64 (od 1))) /\ (wr.cell? ⟨P, 10, none⟩ = some (.int .i64 (oc 2)) /\ wr.cell? ⟨P, 11, none⟩ = some (.int .i64 (od 2))) /\ P < wr.heap.size := by
 obtain ⟨cur, hc, hs, ha⟩ := h
 have c := fun j => cell_of_row _ _ j _ _ _ hc
 exact ⟨⟨(c 2).trans (ha 0 (by omega)).1, (c 3).trans (ha 0 (by omega)).2⟩, ⟨(c 6).trans (ha 1 (by omega)).1, (c 7).trans (ha 1 (by omega)).2⟩, ⟨(c 10).trans (ha 2 (by omega)).1, (c 11).trans (ha 2 (by omega)).2⟩, some_lt hc⟩
end Go.Proofs.YtobnfmneeabomaaGreat
