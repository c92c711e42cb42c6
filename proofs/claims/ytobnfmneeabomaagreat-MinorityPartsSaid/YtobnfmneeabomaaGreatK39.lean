/- My texts RawW, Kept, ConK, ConR, ConD0, OpenG. -/
import Derived.Laws.OwnMore
import Derived.Test.YtobnfmneeabomaaGreatRows
import Derived.ProofKit
import Derived.OpenShut
import Derived.ShutString
import Derived.ChangeOld
import Derived.Deep.Slices
import Derived.Test.YtobnfmneeabomaaGreatG15
import Derived.Test.YtobnfmneeabomaaGreatG40
import Derived.Test.YtobnfmneeabomaaGreatH33
import Derived.Test.YtobnfmneeabomaaGreatH30
import Derived.Test.YtobnfmneeabomaaGreatG38
set_option linter.unusedVariables false
set_option linter.unusedSimpArgs false
set_option maxRecDepth 100000
set_option maxHeartbeats 8000000
namespace Go.Proofs.YtobnfmneeabomaaGreat
open Go.RowKit
theorem redBy_pos {a D : Int} (hD : 0 < D) : redBy a D = (Int.gcd a D : Int) := by unfold redBy; rw [if_neg (by omega)]
theorem red_le (a : Int) {D : Int} (hD : 0 < D) : Int.tdiv D (Int.gcd a D) <= D := by
 obtain ⟨q, hq⟩ := Int.gcd_dvd_right a D
 have h0 : (0 : Int) <= (Int.gcd a D : Int) := Int.natCast_nonneg _
 obtain ⟨G, hG⟩ : ∃ G, G = (Int.gcd a D : Int) := ⟨_, rfl⟩
 rw [<- hG] at hq h0 ⊢
 have hG0 : G ≠ 0 := by intro e; subst e; rw [Int.zero_mul] at hq; omega
 have e2 : Int.tdiv D G = q := by rw [hq, Int.mul_tdiv_cancel_left _ hG0]
 rw [e2]
 have hqp : 0 < q := by
  rw [hq] at hD
  exact Int.pos_of_mul_pos_right hD (by omega)
 have : 1 * q <= G * q := Int.mul_le_mul_of_nonneg_right (by omega) (by omega)
 rw [hq]; omega
structure Raw where
 ent : Int
 meth : Int
 since : Int
 s0 : Int
 s1 : Int
 f0 : Int
 f1 : Int
 iA : Option Addr
 im : Nat
 ic : Nat
 hA : Option Addr
 hm : Nat
 hc : Nat
 its : List Itm
 shs : List Itm
def Raw.cells (x : Raw) : List Value := [.int .i64 x.ent, .int .i64 x.meth, .int .i64 x.since, .int .i64 x.s0, .int .i64 x.s1, .int .i64 x.f0, .int .i64 x.f1, .slice x.iA x.im x.ic, .slice x.hA x.hm x.hc]
abbrev RawsAt := RowsAt Raw.cells 9
theorem rawSize : (Tryz.prog.info? 45).map (·.size) = some 9 := by kernel_rfl
def Itm.sm (x : Itm) : Bool := decide (x.amt <= 1000000000000) && decide (-1000000000000 <= x.amt)
theorem Itm.sm_small {x : Itm} (h : x.sm = true) : x.small := by
 unfold Itm.sm at h
 simp only [Bool.and_eq_true, decide_eq_true_eq] at h
 exact ⟨h.2, h.1⟩
namespace Raw
def few (l : List Itm) : Bool := l.all Itm.sm && decide (l.length <= 40)
def quot (a b : Int) : Bool := decide (0 < b) && decide (b <= 1000000) && decide (a <= 10 * b) && decide (-(10 * b) <= a)
def ok (x : Raw) : Bool := quot x.s0 x.s1 && quot x.f0 x.f1 && few x.its && few x.shs
def cnt (x : Raw) : Cnt := ⟨x.ent, x.meth, x.since, Int.tdiv x.s0 (Int.gcd x.s0 x.s1), Int.tdiv x.s1 (Int.gcd x.s0 x.s1), Int.tdiv x.f0 (Int.gcd x.f0 x.f1), Int.tdiv x.f1 (Int.gcd x.f0 x.f1), x.its, x.shs⟩
structure At (w : World) (B : Nat) (x : Raw) : Prop where
 hil : x.its.length = x.im
 him : x.im <= 9223372036854775807
 hiA : ItmsAt w B x.iA x.its
 hhl : x.shs.length = x.hm
 hhm : x.hm <= 9223372036854775807
 hhA : ItmsAt w B x.hA x.shs
theorem At.below {w w' : World} {B C : Nat} {x : Raw} (h : x.At w B) (hb : Below C w w') (hC : B <= C) : x.At w' B :=
 ⟨h.hil, h.him, RowsAt.below h.hiA hb hC, h.hhl, h.hhm, RowsAt.below h.hhA hb hC⟩
theorem At.more {w : World} {B C : Nat} {x : Raw} (h : x.At w B) (hC : B <= C) : x.At w C :=
 ⟨h.hil, h.him, RowsAt.more h.hiA hC, h.hhl, h.hhm, RowsAt.more h.hhA hC⟩
theorem few_ok {l : List Itm} (h : few l = true) : l.length <= 40 /\ ∀ x ∈ l, x.small := by
 unfold few at h
 simp only [Bool.and_eq_true, decide_eq_true_eq, List.all_eq_true] at h
 exact ⟨h.2, fun x hx => Itm.sm_small (h.1 x hx)⟩
theorem quot_ok {a b : Int} (h : quot a b = true) : ShareOk a b := by
 unfold quot at h
 simp only [Bool.and_eq_true, decide_eq_true_eq] at h
 obtain ⟨⟨⟨h1, h2⟩, h3⟩, h4⟩ := h
 exact ⟨h1, h2, h4, h3⟩
theorem red_ok {a b : Int} (h : ShareOk a b) : ShareOk (Int.tdiv a (Int.gcd a b)) (Int.tdiv b (Int.gcd a b)) := by
 obtain ⟨hb, hm, hl, hu⟩ := h
 have r1 := R1.red_pos a hb
 have r2 := red_le a hb
 obtain ⟨q, hq⟩ := Int.gcd_dvd_right a b
 obtain ⟨p, hp⟩ := Int.gcd_dvd_left a b
 have hG0 : (0 : Int) <= (Int.gcd a b : Int) := Int.natCast_nonneg _
 obtain ⟨G, hG⟩ : ∃ G, G = (Int.gcd a b : Int) := ⟨_, rfl⟩
 rw [<- hG] at hp hq hG0 r1 r2 ⊢
 have hne : G ≠ 0 := by intro e; subst e; rw [Int.zero_mul] at hq; omega
 have e1 : Int.tdiv a G = p := by rw [hp, Int.mul_tdiv_cancel_left _ hne]
 have e2 : Int.tdiv b G = q := by rw [hq, Int.mul_tdiv_cancel_left _ hne]
 rw [e2] at r1 r2
 rw [e1, e2]
 have hGp : 0 < G := by omega
 have u : G * p <= G * (10 * q) := by rw [<- hp, Int.mul_left_comm, <- hq]; exact hu
 have v : G * (-(10 * q)) <= G * p := by rw [<- hp, Int.mul_neg, Int.mul_left_comm, <- hq]; exact hl
 exact ⟨r1, by omega, Int.le_of_mul_le_mul_left v hGp, Int.le_of_mul_le_mul_left u hGp⟩
end Raw
section
variable (w : World)
theorem quot_any (a b : Int) : Calls Tryz.prog 15 #[.agg #[.int .i64 a, .int .i64 b]] w fun e w' => e = .returned (.bool (Raw.quot a b)) /\ Below w.heap.size w w' := by
 have hB0 := (Below.refl w.heap.size w).alloc (Nat.le_refl _) (.cells #[.int .i64 a, .int .i64 b] 41)
 by_cases h1 : 0 < b
 case neg =>
  have HV : Hid (Raw.quot a b = false) := by show _ = _; rw [Raw.quot, decide_eq_false h1]; rfl
  go_enter Tryz.func15, Tryz.ntmps15
  go_wp2
  go_ret
  exact ⟨by rw [HV.out]; rfl, hB0⟩
 by_cases h2 : b <= 1000000
 case neg =>
  have HV : Hid (Raw.quot a b = false) := by show _ = _; rw [Raw.quot, decide_eq_false h2]; simp
  go_enter Tryz.func15, Tryz.ntmps15
  go_wp2
  go_ret
  exact ⟨by rw [HV.out]; rfl, hB0⟩
 by_cases h3 : a <= 10 * b
 case neg =>
  have HV : Hid (Raw.quot a b = false) := by show _ = _; rw [Raw.quot, decide_eq_false h3]; simp
  go_enter Tryz.func15, Tryz.ntmps15
  go_wp2
  go_ret
  exact ⟨by rw [HV.out]; rfl, hB0⟩
 have HV : Hid (Raw.quot a b = decide (-10 * b <= a)) := by
  show _ = _
  rw [Raw.quot, decide_eq_true h1, decide_eq_true h2, decide_eq_true h3, show -(10 * b) = -10 * b by omega]; simp
 go_enter Tryz.func15, Tryz.ntmps15
 go_wp2
 go_ret
 exact ⟨by rw [HV.out]; rfl, hB0⟩
theorem few_any (A : Option Addr) (n c : Nat) (l : List Itm) (hl : l.length = n) (hn : n <= 9223372036854775807) (h : ItmsAt w w.heap.size A l) :
  Calls Tryz.prog 16 #[.slice A n c] w fun e w' => e = .returned (.bool (Raw.few l)) /\ Below w.heap.size w w' := by
 have Hl := Lib.hid hl
 clear hl
 go_enter Tryz.func16, Tryz.ntmps16
 go_wp2
 go_loopw [3] (fun i wr => ∃ k : Nat, k <= n /\ i = .int .i64 k /\ (l.take k).all Itm.sm = true /\ Below w.heap.size w wr) (fun i _ => n - (intOf i).toNat)
 case atStart => exact ⟨0, Nat.zero_le _, rfl, rfl, Below.refl _ _⟩
 case round =>
  obtain ⟨k, hk, rfl, ha, hb⟩ := hrel
  have Ha := Lib.hid ha
  clear ha
  by_cases hlt : k < n
  ·have hkl : k < l.length := by have := Hl.out; omega
   obtain ⟨b, o, rfl, hbB, hr, c3, c6⟩ := ItmsAt.seven (RowsAt.below h hb (Nat.le_refl _)) hkl
   have hbw : b < wr.heap.size := Nat.lt_of_lt_of_le hbB hb.size
   obtain ⟨am, ham⟩ : ∃ am, am = l[k].amt := ⟨_, rfl⟩
   rw [<- ham] at c6
   have Ham := Lib.hid ham
   clear hr c3 ham
   have hbad : l[k].sm = false -> Hid (Raw.few l = false) := fun hs => Lib.hid (by
    unfold Raw.few
    have : l.all Itm.sm = false := by rw [List.all_eq_false]; exact ⟨l[k], List.getElem_mem hkl, by simp [hs]⟩
    rw [this]; rfl)
   by_cases h1 : (1000000000000 : Int) < am
   ·have HV := hbad (by unfold Itm.sm; rw [<- Ham.out, decide_eq_false (show ¬ am <= 1000000000000 by omega)]; rfl)
    clear hbad
    go_wp2
    go_ret
    exact ⟨by rw [HV.out]; rfl, hb⟩
   by_cases h2 : am < (-1000000000000 : Int)
   ·have HV := hbad (by unfold Itm.sm; rw [<- Ham.out, decide_eq_false (show ¬ (-1000000000000 : Int) <= am by omega), Bool.and_false])
    clear hbad
    go_wp2
    go_ret
    exact ⟨by rw [HV.out]; rfl, hb⟩
   ·have Ha2 : Hid ((l.take (k + 1)).all Itm.sm = true) := by
     show _ = _
     rw [List.take_succ_eq_append_getElem hkl, List.all_append, Ha.out]
     simp only [List.all_cons, List.all_nil, Bool.and_true, Bool.true_and]
     unfold Itm.sm
     rw [<- Ham.out, decide_eq_true (show am <= 1000000000000 by omega), decide_eq_true (show (-1000000000000 : Int) <= am by omega)]; rfl
    clear hbad
    go_wp2
    go_roundw
    case rel => exact ⟨k + 1, by omega, by go_num, Ha2.out, hb⟩
    case measure => simp [intOf]; omega
  ·obtain rfl : k = n := by omega
   have HV : Hid (Raw.few l = decide ((k : Int) <= 40)) := by
    show _ = _
    have := Ha.out
    rw [<- Hl.out, List.take_length] at this
    rw [Raw.few, this, Hl.out, Bool.true_and]
    exact decide_eq_decide.2 (by omega)
   go_wp2
   go_ret
   exact ⟨by rw [HV.out]; rfl, hb⟩
end
end Go.Proofs.YtobnfmneeabomaaGreat
namespace Go.Proofs.YtobnfmneeabomaaGreat
open Go.RowKit
def OtherRow (w : World) (t : TypeId) (row : Option Nat) : Prop := ∀ b, row = some b -> ∃ cs s fr, w.heap[b]? = some (.cells cs s fr) /\ s ≠ t
theorem LimbsAt.kept {K : IntKind} {w w' : World} {A : Option Addr} {l : List Int} {row : Option Nat} (h : LimbsAt K w w.heap.size A l) (hg : w.grownBy w' row) (hr : OtherRow w (limbTy K) row) : LimbsAt K w' w'.heap.size A l := by
 rcases h with h | ⟨d, o, e, hl, hc, ht⟩
 ·exact .inl h
 ·have hne : some d ≠ row := by
   intro e'
   obtain ⟨cs, s, fr, h1, h2⟩ := hr d e'.symm
   obtain ⟨cur, fr', h3⟩ := ht
   rw [h1] at h3
   cases h3
   exact h2 rfl
  exact .inr ⟨d, o, e, Nat.lt_of_lt_of_le hl hg.size, fun j hj => (World.cell?_of_block (w := w) (hg.block d hl hne)).trans (hc j hj), ht.of_block (hg.block d hl hne)⟩
theorem PI.kept {w w' : World} {k : Nat} {v : Value} {z : Int} {row : Option Nat} (h : PI w w.heap.size k v z) (hg : w.grownBy w' row) (hr : OtherRow w 149 row) : PI w' w'.heap.size k v z := by
 obtain ⟨g, A, n, c, l, h1, h2, h3, h4, h5, h6, h7, h8, h9⟩ := h
 exact ⟨g, A, n, c, l, h1, h2, h3, h4, h5, h6, h7, h8, h9.kept hg hr⟩
theorem RI.kept {w w' : World} {k j : Nat} {v : Value} {N D : Int} {row : Option Nat} (h : RI w w.heap.size k j v N D) (hg : w.grownBy w' row) (hr : OtherRow w 149 row) : RI w' w'.heap.size k j v N D := by
 obtain ⟨g1, A1, n1, c1, g2, A2, n2, c2, e, h1, h2⟩ := h
 exact ⟨g1, A1, n1, c1, g2, A2, n2, c2, e, h1.kept hg hr, h2.kept hg hr⟩
theorem R1.PI.kept {w w' : World} {k : Nat} {v : Value} {z : Int} {row : Option Nat} (h : R1.PI w w.heap.size k v z) (hg : w.grownBy w' row) (hr : OtherRow w 3 row) : R1.PI w' w'.heap.size k v z := by
 obtain ⟨g, A, n, c, l, h1, h2, h3, h4, h5, h6, h7, h8, h9⟩ := h
 exact ⟨g, A, n, c, l, h1, h2, h3, h4, h5, h6, h7, h8, h9.kept hg hr⟩
theorem R1.RI.kept {w w' : World} {k j : Nat} {v : Value} {N D : Int} {row : Option Nat} (h : R1.RI w w.heap.size k j v N D) (hg : w.grownBy w' row) (hr : OtherRow w 3 row) : R1.RI w' w'.heap.size k j v N D := by
 obtain ⟨g1, A1, n1, c1, g2, A2, n2, c2, e, h1, h2⟩ := h
 exact ⟨g1, A1, n1, c1, g2, A2, n2, c2, e, R1.PI.kept h1 hg hr, R1.PI.kept h2 hg hr⟩
theorem RowsAt.keptB {α : Type} {f : α -> List Value} {sz : Nat} {w w' : World} {B : Nat} {A : Option Addr} {l : List α} {row : Option Nat} (h : RowsAt f sz w B A l) (hg : w.grownBy w' row) (hB : B <= w.heap.size) (hr : ∀ b, row = some b -> B <= b) : RowsAt f sz w' B A l := by
 rcases h with h | ⟨b, o, e, hl, hc⟩
 ·exact .inl h
 ·have hne : some b ≠ row := fun e' => by have := hr b e'.symm; omega
  exact .inr ⟨b, o, e, hl, fun k hk j v hv => (World.cell?_of_block (w := w) (hg.block b (Nat.lt_of_lt_of_le hl hB) hne)).trans (hc k hk j v hv)⟩
end Go.Proofs.YtobnfmneeabomaaGreat
namespace Go.Proofs.YtobnfmneeabomaaGreat
open Go.RowKit
def Con.Fits (R : World -> Nat -> Value -> Int -> Int -> Prop) (w : World) (B : Nat) (x : Con) (y : Cnt) : Prop :=
 x.Holds R w w.heap.size y /\ ItmsAt w B x.iA y.its /\ ItmsAt w B x.hA y.shs
theorem Con.Fits.keptR {w w' : World} {B : Nat} {x : Con} {y : Cnt} {row : Option Nat} (h : x.Fits SR w B y) (hg : w.grownBy w' row) (hB : B <= w.heap.size) (hr : ∀ b, row = some b -> B <= b) (ht : OtherRow w 3 row) : x.Fits SR w' B y := by
 obtain ⟨h0, h1, h2⟩ := h
 have k1 := h1.keptB hg hB hr
 have k2 := h2.keptB hg hB hr
 have hB' : B <= w'.heap.size := Nat.le_trans hB hg.size
 exact ⟨⟨h0.he, h0.hm, h0.hs, R1.RI.kept h0.hsh hg ht, R1.RI.kept h0.hfi hg ht, h0.hso, h0.hfo, h0.hil, h0.hin, h0.hix, k1.more hB', h0.hhl, h0.hhn, h0.hhx, k2.more hB'⟩, k1, k2⟩
theorem Con.Fits.belowR {w w' : World} {B : Nat} {x : Con} {y : Cnt} (h : x.Fits SR w B y) (hb : Below w.heap.size w w') (hB : B <= w.heap.size) : x.Fits SR w' B y :=
 ⟨h.1.atR hb, RowsAt.below h.2.1 hb hB, RowsAt.below h.2.2 hb hB⟩
theorem Con.Fits.belowD {w w' : World} {B : Nat} {x : Con} {y : Cnt} (h : x.Fits SD w B y) (hb : Below w.heap.size w w') (hB : B <= w.heap.size) : x.Fits SD w' B y :=
 ⟨h.1.atD hb, RowsAt.below h.2.1 hb hB, RowsAt.below h.2.2 hb hB⟩
end Go.Proofs.YtobnfmneeabomaaGreat
namespace Go.Proofs.YtobnfmneeabomaaGreat
open Go.RowKit

def conRow (l : List Con) : List Value := l.flatMap Con.cells
theorem conRow_snoc (l : List Con) (x : Con) : conRow (l ++ [x]) = conRow l ++ x.cells := by simp [conRow]
theorem con_one (x : Con) : ∀ u ∈ x.cells, u.oneCell' = true := by simp [Con.cells, Value.oneCell']
theorem conInfoR : (Tryz.prog.info? 78).map (fun i => (i.zero, i.size, i.bytes)) = some (some (.agg #[.int .i64 (Con.zero).ent, .int .i64 (Con.zero).meth, .int .i64 (Con.zero).since, .bool (Con.zero).sg1, .slice (Con.zero).sA1 (Con.zero).sn1 (Con.zero).sc1, .bool (Con.zero).sg2, .slice (Con.zero).sA2 (Con.zero).sn2 (Con.zero).sc2, .bool (Con.zero).fg1, .slice (Con.zero).fA1 (Con.zero).fn1 (Con.zero).fc1, .bool (Con.zero).fg2, .slice (Con.zero).fA2 (Con.zero).fn2 (Con.zero).fc2, .slice (Con.zero).iA (Con.zero).im (Con.zero).ic, .slice (Con.zero).hA (Con.zero).hm (Con.zero).hc]), 13, 200) := by kernel_rfl
theorem consAt_own {W : World} {base n : Nat} {v : Value} {e : TypeId} {l : List Con} (h : W.ownsRow base e 13 v n (conRow l)) (hn : n = l.length) : ∃ A c, v = .slice A n c /\ ConsAt W W.heap.size A l := by
 subst hn
 rcases h.2 with ⟨e, h0⟩ | ⟨g, cap, cur, e, _, hg, hle, _, hsz, htk⟩
 ·exact ⟨none, 0, by rw [e, h0], .inl (List.length_eq_zero_iff.1 h0)⟩
 ·refine ⟨_, cap, e, .inr ⟨g, 0, rfl, (Array.getElem?_eq_some_iff.1 hg).1, fun k hk j v hj => ?_⟩⟩
  have hjl : j < 13 := by have := (List.getElem?_eq_some_iff.1 hj).1; simpa [Con.cells] using this
  rw [Nat.zero_add, cell_of_row _ _ _ _ _ _ hg]
  have hf := flat_get Con.cells 13 l (fun _ _ => rfl) k hk j hjl
  rw [hj] at hf
  have hlt : k * 13 + j < l.length * 13 := by omega
  have : (cur.toList.take (l.length * 13))[k * 13 + j]? = some v := by rw [htk]; exact hf
  rw [List.getElem?_take, if_pos hlt] at this
  simpa using this
theorem row_of_own {W : World} {base n sz : Nat} {v : Value} {e : TypeId} {xs : List Value} (h : W.ownsRow base e sz v n xs) (t : TypeId) (ht : e ≠ t) : OtherRow W t v.ownBlock := by
 intro b hb
 rcases h.2 with ⟨rfl, _⟩ | ⟨g, cap, cur, rfl, _, hg, _⟩
 ·simp [Value.ownBlock] at hb
 ·simp [Value.ownBlock] at hb
  subst hb
  exact ⟨_, _, _, hg, ht⟩
theorem raw_cells {W : World} {p : Nat} {x : Raw} (h : W.heap[p]? = some (.cells #[.int .i64 x.ent, .int .i64 x.meth, .int .i64 x.since, .int .i64 x.s0, .int .i64 x.s1, .int .i64 x.f0, .int .i64 x.f1, .slice x.iA x.im x.ic, .slice x.hA x.hm x.hc] 45 (0, 0))) :
  (W.cell? ⟨p, 0, none⟩ = some (.int .i64 x.ent) /\ W.cell? ⟨p, 1, none⟩ = some (.int .i64 x.meth) /\ W.cell? ⟨p, 2, none⟩ = some (.int .i64 x.since)) /\
  (W.cell? ⟨p, 3, none⟩ = some (.int .i64 x.s0) /\ W.cell? ⟨p, 4, none⟩ = some (.int .i64 x.s1)) /\ (W.cell? ⟨p, 5, none⟩ = some (.int .i64 x.f0) /\ W.cell? ⟨p, 6, none⟩ = some (.int .i64 x.f1)) /\
  W.cell? ⟨p, 7, none⟩ = some (.slice x.iA x.im x.ic) /\ W.cell? ⟨p, 8, none⟩ = some (.slice x.hA x.hm x.hc) := by
 refine ⟨⟨?_, ?_, ?_⟩, ⟨?_, ?_⟩, ⟨?_, ?_⟩, ?_, ?_⟩ <;> (rw [cell_of_row _ _ _ _ _ _ h]; simp)
def ConPost (R : World -> Nat -> Value -> Int -> Int -> Prop) (l : List Raw) (w : World) (v : Value) (w' : World) : Prop :=
 l.length <= 8 /\ (∀ x ∈ l, x.ok = true) /\ ∃ A c cs, v = .slice A l.length c /\ cs.length = l.length /\ ConsAt w' w'.heap.size A cs /\ Hold (fun a b => a.Holds R w' w'.heap.size b) cs (l.map Raw.cnt)
def ContrPost (l : List Raw) (w : World) (e : Ending) (w' : World) : Prop :=
 Below w.heap.size w w' /\ ∃ v b, e = .returned (.tuple #[v, .bool b]) /\ (b = true -> ConPost SR l w v w')
section
variable (w : World)
theorem contrr_any (A : Option Addr) (n c : Nat) (l : List Raw) (hl : l.length = n) (hn : n <= 9223372036854775807) (h : RawsAt w w.heap.size A l) (hx : ∀ x ∈ l, x.At w w.heap.size) :
  Calls Tryz.prog 6 #[.slice A n c] w (ContrPost l w) := by
 have Hl := Lib.hid hl
 have HX := Lib.hid hx
 obtain ⟨i0, hi, hz0, hz1, hz2⟩ := info_parts conInfoR
 clear hl hx
 by_cases h8 : n <= 8
 case neg =>
  go_enter Tryz.func6, Tryz.ntmps6
  go_wp2
  go_ret2
  exact ⟨Below.refl _ _, _, _, rfl, fun h => by cases h⟩
 go_enter Tryz.func6, Tryz.ntmps6
 go_wp2
 go_loopw [4, 5] (fun v i wr => ∃ (k : Nat) (cs : List Con), k <= n /\ i = .int .i64 k /\ (∀ x ∈ l.take k, x.ok = true) /\ cs.length = k /\ wr.ownsRow w.heap.size 78 13 v k (conRow cs) /\ Hold (fun a b => a.Fits SR wr w.heap.size b) cs ((l.take k).map Raw.cnt) /\ Below w.heap.size w wr) (fun _ i _ => n - (intOf i).toNat)
 case atStart => exact ⟨0, [], Nat.zero_le _, rfl, by simp, rfl, World.ownsRow_nil _ _ _ _, trivial, Below.refl _ _⟩
 case round =>
  obtain ⟨k, cs, hk, rfl, hok, hcl, hown, hhold, hb⟩ := hrel
  have Hok := Lib.hid hok
  have Hcl := Lib.hid hcl
  have Hown := Lib.hid hown
  have Hhold := Lib.hid hhold
  clear hok hcl hown hhold
  by_cases hlt : k < n
  ·have hkl : k < l.length := by have := Hl.out; omega
   obtain ⟨b, o, rfl, hbB, hr⟩ := RowsAt.look (h.below hb (Nat.le_refl _)) hkl
   obtain ⟨x, hx⟩ : ∃ x, x = l[k] := ⟨_, rfl⟩
   rw [<- hx] at hr
   have HXe := Lib.hid hx
   have Hr := Lib.hid hr
   have hxa := (HX.out x (by rw [hx]; exact List.getElem_mem _)).below hb (Nat.le_refl _)
   have hbw : b < wr.heap.size := Nat.lt_of_lt_of_le hbB hb.size
   obtain ⟨W1, hW1, hB1, hb1, hz1⟩ := nw1 wr #[.int .i64 x.ent, .int .i64 x.meth, .int .i64 x.since, .int .i64 x.s0, .int .i64 x.s1, .int .i64 x.f0, .int .i64 x.f1, .slice x.iA x.im x.ic, .slice x.hA x.hm x.hc] 45
   have HW1 := Lib.hid hW1
   have Hb1 := Lib.hid hb1
   have Hxa := Lib.hid ((hxa.below (hB1.mono (show w.heap.size <= wr.heap.size from hb.size)) (Nat.le_refl _)).more (C := W1.heap.size) (by have := hb.size; omega))
   have s1 : wr.heap.size < W1.heap.size := by omega
   have hbw1 := hb.trans (hB1.mono hb.size)
   clear hr hx hxa hb1 hz1 hW1
   go_upto_region 8 with (refine wpList_load_mid rfl 45 (.tmp 22) rfl b (o + k * 9) rfl [.int .i64 x.ent, .int .i64 x.meth, .int .i64 x.since, .int .i64 x.s0, .int .i64 x.s1, .int .i64 x.f0, .int .i64 x.f1, .slice x.iA x.im x.ic, .slice x.hA x.hm x.hc] _ Hr.out Tryz.underlying45 rfl rawSize ?_)
   rw [<- HW1.out]
   have hbad : x.ok = false -> ∀ (W : World), Below w.heap.size w W -> ContrPost l w (.returned (.tuple #[.slice none 0 0, .bool false])) W := fun _ W hW => ⟨hW, _, _, rfl, fun h => by cases h⟩
   have Hbad := Lib.hid hbad
   clear hbad
   obtain ⟨_, ⟨c3, c4⟩, _⟩ := raw_cells Hb1.out
   go_wp2_with (fail)
   refine (quot_any W1 x.s0 x.s1).mono ?_
   rintro e W2 ⟨rfl, hB2⟩
   have hb2 := gbox Hb1.out hB2 s1
   have Hb2 := Lib.hid hb2
   have s2 := some_lt hb2
   have hbw2 := hbw1.trans (hB2.mono hbw1.size)
   clear c3 c4 hb2
   cases hq1 : Raw.quot x.s0 x.s1 with
   | false =>
    go_wp2
    go_ret2
    exact Hbad.out (by unfold Raw.ok; rw [hq1]; rfl) _ hbw2
   | true =>
   have Hq1 := Lib.hid hq1
   clear hq1
   obtain ⟨_, _, ⟨c5, c6⟩, _⟩ := raw_cells Hb2.out
   go_wp2_with (fail)
   refine (quot_any W2 x.f0 x.f1).mono ?_
   rintro e W3 ⟨rfl, hB3⟩
   have hb3 := gbox Hb2.out hB3 s2
   have Hb3 := Lib.hid hb3
   have s3 := some_lt hb3
   have hbw3 := hbw2.trans (hB3.mono hbw2.size)
   clear c5 c6 hb3
   cases hq2 : Raw.quot x.f0 x.f1 with
   | false =>
    go_wp2
    go_ret2
    exact Hbad.out (by unfold Raw.ok; rw [hq2, Bool.and_false]; rfl) _ hbw3
   | true =>
   have Hq2 := Lib.hid hq2
   clear hq2
   have hxa3 := Hxa.out.below (hB2.trans (hB3.mono hB2.size)) (Nat.le_refl _)
   have Hx3 := Lib.hid (hxa3.more (C := W3.heap.size) (by have := hB2.size; have := hB3.size; omega))
   obtain ⟨_, _, _, c7, _⟩ := raw_cells Hb3.out
   clear hxa3
   go_wp2_with (fail)
   refine (few_any W3 x.iA x.im x.ic x.its Hx3.out.hil Hx3.out.him Hx3.out.hiA).mono ?_
   rintro e W4 ⟨rfl, hB4⟩
   have hb4 := gbox Hb3.out hB4 s3
   have Hb4 := Lib.hid hb4
   have s4 := some_lt hb4
   have hbw4 := hbw3.trans (hB4.mono hbw3.size)
   have Hx4 := Lib.hid ((Hx3.out.below hB4 (Nat.le_refl _)).more (C := W4.heap.size) hB4.size)
   clear c7 hb4
   cases hq3 : Raw.few x.its with
   | false =>
    go_wp2
    go_ret2
    exact Hbad.out (by unfold Raw.ok; rw [hq3, Bool.and_false]; rfl) _ hbw4
   | true =>
   have Hq3 := Lib.hid hq3
   clear hq3
   obtain ⟨_, _, _, _, c8⟩ := raw_cells Hb4.out
   go_wp2_with (fail)
   refine (few_any W4 x.hA x.hm x.hc x.shs Hx4.out.hhl Hx4.out.hhm Hx4.out.hhA).mono ?_
   rintro e W5 ⟨rfl, hB5⟩
   have hb5 := gbox Hb4.out hB5 s4
   have Hb5 := Lib.hid hb5
   have s5 := some_lt hb5
   have hbw5 := hbw4.trans (hB5.mono hbw4.size)
   have Hx5 := Lib.hid ((Hx4.out.below hB5 (Nat.le_refl _)).more (C := W5.heap.size) hB5.size)
   clear c8 hb5
   cases hq4 : Raw.few x.shs with
   | false =>
    go_wp2
    go_ret2
    exact Hbad.out (by unfold Raw.ok; rw [hq4, Bool.and_false]) _ hbw5
   | true =>
   have hso := Raw.quot_ok Hq1.out
   have hfo := Raw.quot_ok Hq2.out
   have Hxok : Hid (x.ok = true) := by show _ = _; unfold Raw.ok; rw [Hq1.out, Hq2.out, Hq3.out, hq4]; rfl
   have Hfi := Lib.hid (Raw.few_ok Hq3.out)
   have Hfs := Lib.hid (Raw.few_ok hq4)
   have Hso := Lib.hid hso
   have Hfo := Lib.hid hfo
   clear hq4 hso hfo
   obtain ⟨_, ⟨c3, c4⟩, _⟩ := raw_cells Hb5.out
   go_wp2_with (fail)
   refine (R1.ratof_any W5 x.s0 x.s1 (by have := Hso.out; unfold ShareOk at this; omega) (by have := Hso.out; unfold ShareOk at this; omega) Hso.out.1 (by have := Hso.out; unfold ShareOk at this; omega)).mono ?_
   rintro e W6 ⟨⟨r6, rfl, hr6⟩, hB6⟩
   obtain ⟨g1, A1, n1, k1, g2, A2, n2, k2, rfl⟩ := hr6.open
   have hb6 := gbox Hb5.out hB6 s5
   have s6 := some_lt hb6
   have hbw6 := hbw5.trans (hB6.mono hbw5.size)
   have Hx6 := Lib.hid ((Hx5.out.below hB6 (Nat.le_refl _)).more (C := W6.heap.size) hB6.size)
   obtain ⟨W7, hW7, hB7, ha7, hz7⟩ := nw1 W6 #[.bool g1, .slice A1 n1 k1, .bool g2, .slice A2 n2 k2] 74
   have HW7 := Lib.hid hW7
   have Hb7 := Lib.hid (gbox hb6 hB7 s6)
   have Ha7 := Lib.hid ha7
   have Hr7 := Lib.hid (hr6.at_ hB7)
   have hbw7 := hbw6.trans (hB7.mono hbw6.size)
   have Hx7 := Lib.hid ((Hx6.out.below hB7 (Nat.le_refl _)).more (C := W7.heap.size) hB7.size)
   have s7 := some_lt Hb7.out
   have s7' := some_lt Ha7.out
   clear c3 c4 hb6 ha7 hr6 hW7 hz7
   go_upto_region 11 with (fail)
   rw [<- HW7.out]
   obtain ⟨_, _, ⟨c5, c6⟩, _⟩ := raw_cells Hb7.out
   go_wp2_with (fail)
   refine (R1.ratof_any W7 x.f0 x.f1 (by have := Hfo.out; unfold ShareOk at this; omega) (by have := Hfo.out; unfold ShareOk at this; omega) Hfo.out.1 (by have := Hfo.out; unfold ShareOk at this; omega)).mono ?_
   rintro e W8 ⟨⟨r8, rfl, hr8⟩, hB8⟩
   obtain ⟨g3, A3, n3, k3, g4, A4, n4, k4, rfl⟩ := hr8.open
   have hb8 := gbox Hb7.out hB8 s7
   have ha8 := gbox Ha7.out hB8 s7'
   have s8 := some_lt hb8
   have s8' := some_lt ha8
   have hbw8 := hbw7.trans (hB8.mono hbw7.size)
   have Hr8 := Lib.hid (Hr7.out.at_ hB8)
   have Hx8 := Lib.hid ((Hx7.out.below hB8 (Nat.le_refl _)).more (C := W8.heap.size) hB8.size)
   obtain ⟨W9, hW9, hB9, hd9, hz9⟩ := nw1 W8 #[.bool g3, .slice A3 n3 k3, .bool g4, .slice A4 n4 k4] 74
   have HW9 := Lib.hid hW9
   have Hb9 := Lib.hid (gbox hb8 hB9 s8)
   have Ha9 := Lib.hid (gbox ha8 hB9 s8')
   have Hd9 := Lib.hid hd9
   have Hs9 := Lib.hid (Hr8.out.at_ hB9)
   have Hf9 := Lib.hid (hr8.at_ hB9)
   have hbw9 := hbw8.trans (hB9.mono hbw8.size)
   have s9 := some_lt Hb9.out
   have s9' := some_lt Ha9.out
   have s9'' := some_lt hd9
   clear c5 c6 hb8 ha8 hd9 hr8 hW9
   go_upto_region 12 with (fail)
   rw [<- HW9.out]
   have hBr9 : Below wr.heap.size wr W9 := hB1.trans ((hB2.trans ((hB3.trans ((hB4.trans ((hB5.trans ((hB6.trans ((hB7.trans ((hB8.trans (hB9.mono hB8.size)).mono hB7.size)).mono hB6.size)).mono hB5.size)).mono hB4.size)).mono hB3.size)).mono hB2.size)).mono hB1.size)
   have hown9 := pOwns_below Hown.out hBr9
   have Hold9 := Lib.hid (Hhold.out.imp (Q := fun a b => a.Fits SR W9 w.heap.size b) fun _ _ h => h.belowR hBr9 hb.size)
   obtain ⟨y, hy⟩ : ∃ y : Con, y = ⟨x.ent, x.meth, x.since, g1, A1, n1, k1, g2, A2, n2, k2, g3, A3, n3, k3, g4, A4, n4, k4, x.iA, x.im, x.ic, x.hA, x.hm, x.hc⟩ := ⟨_, rfl⟩
   have hyf : y.Fits SR W9 w.heap.size x.cnt := by
    have hit := HX.out x (by rw [HXe.out]; exact List.getElem_mem _)
    have hi9 := RowsAt.below hit.hiA hbw9 (Nat.le_refl _)
    have hh9 := RowsAt.below hit.hhA hbw9 (Nat.le_refl _)
    have hq := hbw9.size
    subst hy
    exact ⟨⟨rfl, rfl, rfl, Hs9.out, Hf9.out, Raw.red_ok Hso.out, Raw.red_ok Hfo.out, hit.hil, by rw [<- hit.hil]; exact Nat.le_trans Hfi.out.1 (by omega), Hfi.out.2, RowsAt.more hi9 hq, hit.hhl, by rw [<- hit.hhl]; exact Nat.le_trans Hfs.out.1 (by omega), Hfs.out.2, RowsAt.more hh9 hq⟩, hi9, hh9⟩
   have Hyf := Lib.hid hyf
   have hra := Lib.hid (range_row (cs := [.bool g1, .slice A1 n1 k1, .bool g2, .slice A2 n2 k2]) Ha9.out)
   have hrd := Lib.hid (range_row (cs := [.bool g3, .slice A3 n3 k3, .bool g4, .slice A4 n4 k4]) Hd9.out)
   obtain ⟨⟨c0, c1, c2⟩, _, _, c7, c8⟩ := raw_cells Hb9.out
   have hq9 := hbw9.size
   have hk8 : k + 1 <= 8 := by omega
   have hyc : y.cells = [.int .i64 x.ent, .int .i64 x.meth, .int .i64 x.since, .bool g1, .slice A1 n1 k1, .bool g2, .slice A2 n2 k2, .bool g3, .slice A3 n3 k3, .bool g4, .slice A4 n4 k4, .slice x.iA x.im x.ic, .slice x.hA x.hm x.hc] := by rw [hy]; rfl
   have Hyc := Lib.hid hyc
   have hnew := cells_new W9 [.int .i64 x.ent, .int .i64 x.meth, .int .i64 x.since, .bool g1, .slice A1 n1 k1, .bool g2, .slice A2 n2 k2, .bool g3, .slice A3 n3 k3, .bool g4, .slice A4 n4 k4, .slice x.iA x.im x.ic, .slice x.hA x.hm x.hc] 78
   have hown10 := hown9.alloc (.cells #[.int .i64 x.ent, .int .i64 x.meth, .int .i64 x.since, .bool g1, .slice A1 n1 k1, .bool g2, .slice A2 n2 k2, .bool g3, .slice A3 n3 k3, .bool g4, .slice A4 n4 k4, .slice x.iA x.im x.ic, .slice x.hA x.hm x.hc] 78)
   have hone : ∀ u ∈ ([.int .i64 x.ent, .int .i64 x.meth, .int .i64 x.since, .bool g1, .slice A1 n1 k1, .bool g2, .slice A2 n2 k2, .bool g3, .slice A3 n3 k3, .bool g4, .slice A4 n4 k4, .slice x.iA x.im x.ic, .slice x.hA x.hm x.hc] : List Value), u.oneCell' = true := by rw [<- hyc]; exact con_one y
   have h63 : k + 1 <= maxLen := by unfold maxLen; omega
   have h64 : (k + 1) * 200 <= 140737488355328 := by omega
   have h65 : w.heap.size <= (W9.alloc (.cells #[.int .i64 x.ent, .int .i64 x.meth, .int .i64 x.since, .bool g1, .slice A1 n1 k1, .bool g2, .slice A2 n2 k2, .bool g3, .slice A3 n3 k3, .bool g4, .slice A4 n4 k4, .slice x.iA x.im x.ic, .slice x.hA x.hm x.hc] 78)).heap.size := by simp; omega
   have Hy := Lib.hid hy
   clear hyf hBr9 hown9 hyc hy hz9
   go_wp2_with (first | (refine wpList_load_mid rfl 74 (.tmp 7) rfl W6.heap.size 0 rfl [.bool g1, .slice A1 n1 k1, .bool g2, .slice A2 n2 k2] _ hra.out Tryz.underlying74 rfl R1.ratSize ?_) | (refine wpList_load_mid rfl 74 (.tmp 9) rfl W8.heap.size 0 rfl [.bool g3, .slice A3 n3 k3, .bool g4, .slice A4 n4 k4] _ hrd.out Tryz.underlying74 rfl R1.ratSize ?_) | (at_builtin; refine wpList_append_own _ rfl _ _ 26 rfl w.heap.size 78 i0 (.agg #[.int .i64 (Con.zero).ent, .int .i64 (Con.zero).meth, .int .i64 (Con.zero).since, .bool (Con.zero).sg1, .slice (Con.zero).sA1 (Con.zero).sn1 (Con.zero).sc1, .bool (Con.zero).sg2, .slice (Con.zero).sA2 (Con.zero).sn2 (Con.zero).sc2, .bool (Con.zero).fg1, .slice (Con.zero).fA1 (Con.zero).fn1 (Con.zero).fc1, .bool (Con.zero).fg2, .slice (Con.zero).fA2 (Con.zero).fn2 (Con.zero).fc2, .slice (Con.zero).iA (Con.zero).im (Con.zero).ic, .slice (Con.zero).hA (Con.zero).hm (Con.zero).hc]) 13 200 Tryz.underlying26 hi hz0 hz1 hz2 rfl (by decide) _ _ _ rfl hown10 ⟨W9.heap.size, 0, none⟩ 1 1 [.int .i64 x.ent, .int .i64 x.meth, .int .i64 x.since, .bool g1, .slice A1 n1 k1, .bool g2, .slice A2 n2 k2, .bool g3, .slice A3 n3 k3, .bool g4, .slice A4 n4 k4, .slice x.iA x.im x.ic, .slice x.hA x.hm x.hc] rfl rfl hnew hone h63 h64 h65 ?_))
   intro v' w10 hown' hgrow _
   rw [<- Hyc.out] at hown'
   have hbA := hbw9.alloc hq9 (.cells #[.int .i64 x.ent, .int .i64 x.meth, .int .i64 x.since, .bool g1, .slice A1 n1 k1, .bool g2, .slice A2 n2 k2, .bool g3, .slice A3 n3 k3, .bool g4, .slice A4 n4 k4, .slice x.iA x.im x.ic, .slice x.hA x.hm x.hc] 78)
   have hb10 := hbA.grown hgrow h65 (own_base Hown.out)
   have hBal := (row_new W9 #[.int .i64 x.ent, .int .i64 x.meth, .int .i64 x.since, .bool g1, .slice A1 n1 k1, .bool g2, .slice A2 n2 k2, .bool g3, .slice A3 n3 k3, .bool g4, .slice A4 n4 k4, .slice x.iA x.im x.ic, .slice x.hA x.hm x.hc] 78).1
   have hty := row_of_own hown10 3 (by decide)
   have kp : ∀ (a : Con) (b : Cnt), a.Fits SR W9 w.heap.size b -> a.Fits SR w10 w.heap.size b := fun a b h => (h.belowR hBal hq9).keptR hgrow h65 (own_base hown10) hty
   have hnh : Hold (fun a b => a.Fits SR w10 w.heap.size b) (cs ++ [y]) ((l.take (k + 1)).map Raw.cnt) := by
    rw [List.take_succ_eq_append_getElem hkl, List.map_append, <- HXe.out]
    exact Hold.snoc (kp _ _ Hyf.out) (Hold9.out.imp kp)
   have Hnh := Lib.hid hnh
   have Hok2 : Hid (∀ x ∈ l.take (k + 1), x.ok = true) := Lib.hid (take_mem_all (P := fun x : Raw => x.ok = true) hkl Hok.out (by rw [<- HXe.out]; exact Hxok.out))
   have Ho10 := Lib.hid hown'
   have Hb10 := Lib.hid hb10
   clear hown' hnh kp hty hBal hbA hgrow hb10
   go_wp2
   go_roundw
   case rel => exact ⟨k + 1, cs ++ [y], by omega, by go_num, Hok2.out, by rw [List.length_append, Hcl.out]; rfl, by rw [conRow_snoc]; exact Ho10.out, Hnh.out, Hb10.out⟩
   case measure => simp [intOf]; omega
  ·obtain rfl : k = n := by omega
   have htk : l.take k = l := List.take_of_length_le (by have := Hl.out; omega)
   have Htk := Lib.hid htk
   clear htk
   go_wp2
   go_ret2
   refine ⟨hb, _, _, rfl, fun _ => ?_⟩
   obtain ⟨A', c', rfl, hC⟩ := consAt_own Hown.out (by have := Hcl.out; omega)
   have hok := Hok.out
   have hho := Hhold.out
   rw [Htk.out] at hok hho
   have hlk := Hl.out
   refine ⟨by omega, hok, A', c', cs, by rw [hlk]; rfl, by rw [Hcl.out, hlk], hC, hho.imp fun _ _ h => h.1⟩
end
end Go.Proofs.YtobnfmneeabomaaGreat
namespace Go.Proofs.YtobnfmneeabomaaGreat
open Go.RowKit
theorem conInfoD : (Tryz.prog.info? 92).map (fun i => (i.zero, i.size, i.bytes)) = some (some (.agg #[.int .i64 (Con.zero).ent, .int .i64 (Con.zero).meth, .int .i64 (Con.zero).since, .bool (Con.zero).sg1, .slice (Con.zero).sA1 (Con.zero).sn1 (Con.zero).sc1, .bool (Con.zero).sg2, .slice (Con.zero).sA2 (Con.zero).sn2 (Con.zero).sc2, .bool (Con.zero).fg1, .slice (Con.zero).fA1 (Con.zero).fn1 (Con.zero).fc1, .bool (Con.zero).fg2, .slice (Con.zero).fA2 (Con.zero).fn2 (Con.zero).fc2, .slice (Con.zero).iA (Con.zero).im (Con.zero).ic, .slice (Con.zero).hA (Con.zero).hm (Con.zero).hc]), 13, 200) := by kernel_rfl
theorem itmInfo : (Tryz.prog.info? 61).map (fun i => (i.zero, i.size, i.bytes)) = some (some (.agg #[.int .i64 0, .int .i64 0, .int .i64 0, .int .i64 0, .int .i64 0, .int .i64 0, .int .i64 0]), 7, 56) := by kernel_rfl
def ItmsTy (w : World) (A : Option Addr) (l : List Itm) : Prop := l = [] ∨ ∃ b o cur fr, A = some ⟨b, o, none⟩ /\ w.heap[b]? = some (.cells cur 61 fr)
theorem ItmsTy.below {w w' : World} {A : Option Addr} {l : List Itm} (h : ItmsTy w A l) (_ : ItmsAt w w.heap.size A l) (hb : Below w.heap.size w w') : ItmsTy w' A l := by
 rcases h with h | ⟨b, o, cur, fr, e, hg⟩
 ·exact .inl h
 ·exact .inr ⟨b, o, cur, fr, e, (hb.block b (some_lt hg)).trans hg⟩
theorem ItmsTy.kept {w w' : World} {A : Option Addr} {l : List Itm} {row : Option Nat} (h : ItmsTy w A l) (hi : ItmsAt w w.heap.size A l) (hg : w.grownBy w' row) (hr : OtherRow w 61 row) : ItmsTy w' A l /\ ItmsAt w' w'.heap.size A l := by
 rcases h with h | ⟨b, o, cur, fr, e, hb⟩
 ·exact ⟨.inl h, .inl h⟩
 ·have hne : some b ≠ row := fun e' => by
   obtain ⟨cs, s, fr', h1, h2⟩ := hr b e'.symm
   rw [hb] at h1
   cases h1
   exact h2 rfl
  refine ⟨.inr ⟨b, o, cur, fr, e, (hg.block b (some_lt hb) hne).trans hb⟩, RowsAt.kept hi hg fun b' o' e' => ?_⟩
  rw [e] at e'
  cases e'
  exact hne
def Con.FitsD (w : World) (x : Con) (y : Cnt) : Prop := x.Holds SD w w.heap.size y /\ ItmsTy w x.iA y.its /\ ItmsTy w x.hA y.shs
theorem Con.FitsD.below {w w' : World} {x : Con} {y : Cnt} (h : x.FitsD w y) (hb : Below w.heap.size w w') : x.FitsD w' y :=
 ⟨h.1.atD hb, h.2.1.below h.1.hiA hb, h.2.2.below h.1.hhA hb⟩
theorem Con.FitsD.kept {w w' : World} {x : Con} {y : Cnt} {row : Option Nat} (h : x.FitsD w y) (hg : w.grownBy w' row) (ht : OtherRow w 149 row) (hr : OtherRow w 61 row) : x.FitsD w' y := by
 obtain ⟨h0, h1, h2⟩ := h
 obtain ⟨t1, i1⟩ := h1.kept h0.hiA hg hr
 obtain ⟨t2, i2⟩ := h2.kept h0.hhA hg hr
 exact ⟨⟨h0.he, h0.hm, h0.hs, RI.kept h0.hsh hg ht, RI.kept h0.hfi hg ht, h0.hso, h0.hfo, h0.hil, h0.hin, h0.hix, i1, h0.hhl, h0.hhn, h0.hhx, i2⟩, t1, t2⟩
theorem Raw.ok_parts {x : Raw} (h : x.ok = true) : Raw.quot x.s0 x.s1 = true /\ Raw.quot x.f0 x.f1 = true /\ Raw.few x.its = true /\ Raw.few x.shs = true := by
 unfold Raw.ok at h
 simp only [Bool.and_eq_true] at h
 exact ⟨h.1.1.1, h.1.1.2, h.1.2, h.2⟩
def Raw.wide (x : Raw) : Prop := Raw.quot x.s0 x.s1 = true /\ Raw.quot x.f0 x.f1 = true /\ (x.its.length <= 50 /\ ∀ z ∈ x.its, z.small) /\ x.shs.length <= 50 /\ ∀ z ∈ x.shs, z.small
theorem Raw.ok_wide {x : Raw} (h : x.ok = true) : x.wide := by
 obtain ⟨h1, h2, h3, h4⟩ := Raw.ok_parts h
 have k3 := Raw.few_ok h3
 have k4 := Raw.few_ok h4
 exact ⟨h1, h2, ⟨Nat.le_trans k3.1 (by omega), k3.2⟩, Nat.le_trans k4.1 (by omega), k4.2⟩
theorem row_not {W : World} {base n sz b : Nat} {v : Value} {e t : TypeId} {xs : List Value} {cs : Array Value} {fr : Nat × Nat} (h : W.ownsRow base e sz v n xs) (hb : v.ownBlock = some b) (hc : W.heap[b]? = some (.cells cs t fr)) (ht : e ≠ t) : False := by
 rcases h.2 with ⟨rfl, _⟩ | ⟨g, cap, cur, rfl, _, hg, _⟩
 ·simp [Value.ownBlock] at hb
 ·simp [Value.ownBlock] at hb
  subst hb
  rw [hg] at hc
  cases hc
  exact ht rfl
def OwnPost (l : List Raw) (w : World) (e : Ending) (w' : World) : Prop :=
 Below w.heap.size w w' /\ ∃ A c cs, e = .returned (.slice A l.length c) /\ cs.length = l.length /\ ConsAt w' w'.heap.size A cs /\ Hold (fun a b => a.Holds SD w' w'.heap.size b) cs (l.map Raw.cnt)
theorem run_append_zero {P : Program} {w : World} (t ty e : TypeId) (i : TypeInfo) (ht : P.underlying t = some (.slice e)) (hi : P.info? e = some i) (g : Nat) (A : Option Addr) (c : Nat) :
  (Builtin.append_ #[t, t] ty #[.slice (some ⟨g, 0, none⟩) 0 0, .slice A 0 c]).run P w = .ok (.slice (some ⟨g, 0, none⟩) 0 0) w := by
 cases A <;> simp [Builtin.append_, run_underlying ht, sizeOf, typeInfo, hi, Builtin.lenOf, Builtin.firstCells, storeCells, loadCells, loadCellsFrom]
theorem itms_len : ∀ (l : List Itm), (l.flatMap Itm.cells).length = l.length * 7
 | [] => rfl
 | a :: l => by rw [List.flatMap_cons, List.length_append, itms_len l]; simp [Itm.cells]; omega
theorem wp_copy_itms (w : World) {o : Oper} {a : Act} {K : Act -> World -> Prop} {Q : Exit -> Act -> World -> Prop} (s x : Operand) (t : TypeId)
  (ho : o.op = .call { callee := .builtin .append, args := #[s, x], argTypes := #[t, t] }) (ht : Tryz.prog.underlying t = some (.slice 61))
  (g : Nat) (hs : a.eval s = .slice (some ⟨g, 0, none⟩) 0 0) (hg : w.heap[g]? = some (.cells #[] 61 (0, 0)))
  (A : Option Addr) (m c : Nat) (l : List Itm) (hx : a.eval x = .slice A m c) (hl : l.length = m) (hm : m <= 50) (h : ItmsAt w w.heap.size A l)
  (hK : ∀ A' c' w', Below w.heap.size w w' -> ItmsAt w' w'.heap.size A' l -> ItmsTy w' A' l -> K (a.put o.dst (.slice A' m c')) w') : o.wp Tryz.prog a w K Q := by
 obtain ⟨i0, hi, hz0, hz1, hz2⟩ := info_parts itmInfo
 subst hl
 rcases h with h | ⟨b, off, rfl, hb, hr⟩
 ·subst h
  have hrun := run_append_zero (P := Tryz.prog) (w := w) t o.type _ i0 ht hi g A c
  have hk := hK (some ⟨g, 0, none⟩) 0 w (Below.refl _ _) (.inl rfl) (.inl rfl)
  unfold Oper.wp execOp
  simp only [ho, resolve, invoke, builtin, Sem.run_bind, Sem.run_pure, Result.andThen_ok, List.map_toArray, List.map_cons, List.map_nil, hs, hx, List.length_nil, hrun]
  exact hk
 ·by_cases h0 : l.length = 0
  ·have hl0 : l = [] := List.length_eq_zero_iff.1 h0
   subst hl0
   have hrun := run_append_zero (P := Tryz.prog) (w := w) t o.type _ i0 ht hi g (some ⟨b, off, none⟩) c
   have hk := hK (some ⟨g, 0, none⟩) 0 w (Below.refl _ _) (.inl rfl) (.inl rfl)
   unfold Oper.wp execOp
   simp only [ho, resolve, invoke, builtin, Sem.run_bind, Sem.run_pure, Result.andThen_ok, List.map_toArray, List.map_cons, List.map_nil, hs, hx, List.length_nil, hrun]
   exact hk
  ·have hfl : (l.flatMap Itm.cells).length = l.length * 7 := itms_len l
   have hnews : ∀ j u, (l.flatMap Itm.cells)[j]? = some u -> w.cell? ((⟨b, off, none⟩ : Addr).add j) = some u := by
    intro j u hj
    have hjl : j < l.length * 7 := by have := (List.getElem?_eq_some_iff.1 hj).1; rw [hfl] at this; exact this
    have hk : j / 7 < l.length := by omega
    have e := flat_get Itm.cells 7 l (fun _ _ => rfl) (j / 7) hk (j % 7) (by omega)
    rw [show j / 7 * 7 + j % 7 = j by omega, hj] at e
    have := hr (j / 7) hk (j % 7) u e.symm
    rw [Addr.add_mid]
    rw [show off + j / 7 * 7 + j % 7 = off + j by omega] at this
    exact this
   have hrun := run_append_grow (P := Tryz.prog) w t o.type _ i0 _ ht hi hz0 ⟨g, 0, none⟩ 0 0 [] (by simp) (by simp) ⟨b, off, none⟩ l.length c (l.flatMap Itm.cells) (by rw [hfl, hz1]) hnews (by omega) (by omega) (growslice_fits (by omega) (by rw [hz2]; omega))
   rw [Nat.zero_add] at hrun
   have hown0 : w.ownsRow 0 61 7 (.slice (some ⟨g, 0, none⟩) 0 0) 0 [] := ⟨rfl, .inr ⟨g, 0, #[], rfl, Nat.zero_le _, hg, Nat.le_refl _, Nat.zero_le _, rfl, rfl⟩⟩
   obtain ⟨v2, w2, hr2, ho2, _⟩ := run_append_own (P := Tryz.prog) w 0 t o.type _ i0 _ 7 56 ht hi hz0 hz1 hz2 rfl (by decide) _ _ _ hown0 ⟨b, off, none⟩ l.length c (l.flatMap Itm.cells) hfl hnews (by
    intro u hu
    rw [List.mem_flatMap] at hu
    obtain ⟨y, _, hy⟩ := hu
    simp [Itm.cells] at hy
    rcases hy with h | h | h | h | h | h | h <;> (rw [h]; rfl)) (by unfold maxLen; omega) (by omega) (Nat.zero_le _)
   rw [Nat.zero_add, List.nil_append] at ho2
   rw [hrun] at hr2
   generalize hW : World.alloc _ _ = W' at hrun hr2
   cases hr2
   have hbl : Below w.heap.size w w2 := by rw [<- hW]; exact ⟨rfl, rfl, rfl, by simp, fun k hk => Below.heap_alloc w.drew _ k hk⟩
   have hty : ∃ cur fr, w2.heap[w.heap.size]? = some (.cells cur 61 fr) := by rw [<- hW]; exact ⟨_, _, heap_alloc_new w.drew _⟩
   obtain ⟨A', c', he, hat⟩ := own_flat (f := Itm.cells) (by decide) (fun _ => rfl) ho2 rfl
   cases he
   obtain ⟨cur, fr, hty⟩ := hty
   have hk := hK _ (grownCap w l.length 0 61) w2 hbl hat (.inr ⟨_, _, _, _, rfl, hty⟩)
   unfold Oper.wp execOp
   simp only [ho, resolve, invoke, builtin, Sem.run_bind, Sem.run_pure, Result.andThen_ok, List.map_toArray, List.map_cons, List.map_nil, hs, hx, hrun]
   exact hk
end Go.Proofs.YtobnfmneeabomaaGreat
namespace Go.Proofs.YtobnfmneeabomaaGreat
open Go.ChangeShapes Go.WideShapes Go.ChangeAt Go.RowKit Go.Deep

section
variable {H : Type} {enc : TypeId × Value -> H} {P : Program} {w : World} {base : Nat} {spare : Nat -> Bool} {held : Bool}
theorem field_read {t : TypeId} {fs : Array Field} {fuel : Nat} {cs : List Value} {x : DataW H × List MemPlace} (ht : P.underlying t = some (.struct fs)) (h : DataW.trod enc P w base spare held fuel t cs = some x) (j : Nat) (T : TypeId) (o : Nat) (hf : (fs[j]?).map (fun f => (f.type, f.offset)) = some (T, o)) :
  ∃ n y, DataW.trod enc P w base spare held n T ((cs.drop o).take (P.cellsOf T)) = some y := by
 obtain ⟨xs, n, _, _, _, hlen, hg⟩ := DataW.trod_struct ht h
 rw [Option.map_eq_some_iff] at hf
 obtain ⟨f, hf, e⟩ := hf
 cases e
 have hj : j < fs.size := (Array.getElem?_eq_some_iff.1 hf).1
 exact ⟨n, xs[j]'(by omega), (hg j f hf).trans (List.getElem?_eq_getElem (by omega))⟩
theorem cell_of_trod_int {t : TypeId} {k : IntKind} {fuel : Nat} {v : Value} {x : DataW H × List MemPlace} (ht : P.underlying t = some (.int k)) (h : DataW.trod enc P w base spare held fuel t [v] = some x) : ∃ n, v = .int k n /\ (Lit.int k n).wf = true := by
 obtain ⟨n, e, _, hw⟩ := DataW.trod_int ht h
 exact ⟨n, by simpa using e, hw⟩
theorem cell_of_trod_string {t : TypeId} {fuel : Nat} {v : Value} {x : DataW H × List MemPlace} (ht : P.underlying t = some .string) (h : DataW.trod enc P w base spare held fuel t [v] = some x) : ∃ s : ByteArray, v = .string s /\ s.size <= maxLen := by
 obtain ⟨s, e, _, hw⟩ := DataW.trod_string ht h
 exact ⟨s, by simpa using e, hw⟩
theorem cell_of_trod_bool {t : TypeId} {fuel : Nat} {v : Value} {x : DataW H × List MemPlace} (ht : P.underlying t = some .bool) (h : DataW.trod enc P w base spare held fuel t [v] = some x) : ∃ b : Bool, v = .bool b := by
 obtain ⟨b, e, _⟩ := DataW.trod_bool ht h
 exact ⟨b, by simpa using e⟩
theorem rows_read {α : Type} {f : α -> List Value} {sz : Nat} {Wf : α -> Prop} (zero : α) {tS tE : TypeId} (hu : P.underlying tS = some (.slice tE)) (hce : P.cellsOf tE = sz) (hsz : 0 < sz) (hfl : ∀ a, (f a).length = sz)
  (hread : ∀ (n : Nat) (cs : List Value) (x : DataW H × List MemPlace), DataW.trod enc P w base spare held n tE cs = some x -> cs.length = sz -> ∃ a, Wf a /\ cs = f a)
  {fuel : Nat} {v : Value} {x : DataW H × List MemPlace} (h : DataW.trod enc P w base spare held fuel tS [v] = some x) :
  ∃ (A : Option Addr) (n c : Nat) (l : List α), v = .slice A n c /\ l.length = n /\ n <= maxLen /\ (∀ a ∈ l, Wf a) /\ RowsAt f sz w w.heap.size A l := by
 rcases open_slice hu h with ⟨hcs, _⟩ | ⟨a, len, cap, m, n, D, Pl, hcs, _, hl, hm, hmm, _, hi⟩
 ·exact ⟨none, 0, 0, [], by simpa using hcs, rfl, by unfold maxLen; omega, by simp, .inl rfl⟩
 ·have hlm : len <= m := by rw [hmm]; split <;> omega
  have hex : ∀ i, i < len -> ∃ r : α, Wf r /\ ∀ j u, (f r)[j]? = some u -> w.cell? (a.add (i * sz + j)) = some u := by
   intro i hil
   obtain ⟨cs', hc, ht⟩ := hi i (by omega)
   rw [hce] at hc
   obtain ⟨_, hcl, hat⟩ := World.cells?_some hc
   obtain ⟨r, hr, e⟩ := hread _ _ _ ht hcl
   refine ⟨r, hr, fun j u hj => ?_⟩
   have hj4 : j < sz := by have := (List.getElem?_eq_some_iff.1 hj).1; rw [hfl] at this; exact this
   have := hat j hj4
   rw [e, hj] at this
   rw [<- Go.Deep.add_add]; exact this
  have hch : ∃ F : Nat -> α, ∀ i, i < len -> Wf (F i) /\ ∀ j u, (f (F i))[j]? = some u -> w.cell? (a.add (i * sz + j)) = some u := by
   refine ⟨fun i => if hil : i < len then Classical.choose (hex i hil) else zero, fun i hil => ?_⟩
   simp only [hil, dite_true]
   exact Classical.choose_spec (hex i hil)
  obtain ⟨F, hF⟩ := hch
  refine ⟨some a, len, cap, (List.range len).map F, by simpa using hcs, by simp, by omega, ?_, ?_⟩
  ·intro r hr
   simp only [List.mem_map, List.mem_range] at hr
   obtain ⟨i, hil, rfl⟩ := hr
   exact (hF i hil).1
  ·rcases Nat.eq_zero_or_pos len with h0 | hpos
   ·left; rw [h0]; rfl
   ·right
    obtain ⟨b, off, spot⟩ := a
    have hlen0 : 0 < (f (F 0)).length := by rw [hfl]; exact hsz
    have h0 := (hF 0 hpos).2 0 _ (List.getElem?_eq_getElem hlen0)
    have hspot : spot = none := by simpa [Addr.add] using World.cell?_spot h0
    subst hspot
    refine ⟨b, off, rfl, block_lt_of_cell (by simpa [Addr.add] using h0), fun k hk => ?_⟩
    have hk' : k < len := by simpa using hk
    have e : ((List.range len).map F)[k] = F k := by simp
    rw [e]
    intro j u hj
    have h1 := (hF k hk').2 j u hj
    rw [Go.WideShapes.add_plain] at h1
    rw [Nat.add_assoc]
    exact h1
end
theorem cStr : Tryz.prog.cellsOf 9 = 1 := by kernel_rfl
theorem cInt : Tryz.prog.cellsOf 3 = 1 := by kernel_rfl
theorem cBool : Tryz.prog.cellsOf 4 = 1 := by kernel_rfl
theorem cAcc : Tryz.prog.cellsOf 111 = 4 := by kernel_rfl
theorem cLnk : Tryz.prog.cellsOf 113 = 3 := by kernel_rfl
theorem cEnt : Tryz.prog.cellsOf 83 = 5 := by kernel_rfl
theorem cItm : Tryz.prog.cellsOf 61 = 7 := by kernel_rfl
theorem cRef : Tryz.prog.cellsOf 59 = 2 := by kernel_rfl
theorem cRaw : Tryz.prog.cellsOf 45 = 9 := by kernel_rfl
theorem cPair : Tryz.prog.cellsOf 41 = 2 := by kernel_rfl
theorem cCal : Tryz.prog.cellsOf 30 = 3 := by kernel_rfl
theorem cRol : Tryz.prog.cellsOf 33 = 15 := by kernel_rfl
theorem cGrp : Tryz.prog.cellsOf 36 = 21 := by kernel_rfl
theorem cSA : Tryz.prog.cellsOf 31 = 1 := by kernel_rfl
theorem cSL : Tryz.prog.cellsOf 81 = 1 := by kernel_rfl
theorem cSE : Tryz.prog.cellsOf 34 = 1 := by kernel_rfl
theorem cSI : Tryz.prog.cellsOf 43 = 1 := by kernel_rfl
def Itm.wf (x : Itm) : Prop := (Lit.int .i64 x.ent0).wf = true /\ (Lit.int .i64 x.lin).wf = true /\ (Lit.int .i64 x.ent).wf = true /\ (Lit.int .i64 x.acct).wf = true /\ (Lit.int .i64 x.partner).wf = true /\ (Lit.int .i64 x.date).wf = true /\ (Lit.int .i64 x.amt).wf = true
structure Raw.wf (x : Raw) : Prop where
 h0 : (Lit.int .i64 x.ent).wf = true
 h1 : (Lit.int .i64 x.meth).wf = true
 h2 : (Lit.int .i64 x.since).wf = true
 h3 : (Lit.int .i64 x.s0).wf = true
 h4 : (Lit.int .i64 x.s1).wf = true
 h5 : (Lit.int .i64 x.f0).wf = true
 h6 : (Lit.int .i64 x.f1).wf = true
 h7 : ∀ y ∈ x.its, y.wf
 h8 : ∀ y ∈ x.shs, y.wf
section
variable {H : Type} {enc : TypeId × Value -> H} {w : World} {spare : Nat -> Bool} {held : Bool}
theorem acc_read {fuel : Nat} {cs : List Value} {x : DataW H × List MemPlace} (h : DataW.trod enc Tryz.prog w 0 spare held fuel 111 cs = some x) (hl : cs.length = 4) :
  ∃ a : Acc, a.wf /\ cs = a.cells := by
 match cs, hl with
 | [c0, c1, c2, c3], _ =>
  obtain ⟨_, _, h0⟩ := field_read Tryz.underlying111 h 0 3 0 rfl
  obtain ⟨_, _, h1⟩ := field_read Tryz.underlying111 h 1 3 1 rfl
  obtain ⟨_, _, h2⟩ := field_read Tryz.underlying111 h 2 3 2 rfl
  obtain ⟨_, _, h3⟩ := field_read Tryz.underlying111 h 3 3 3 rfl
  simp only [cInt, List.drop_zero, List.drop_succ_cons, List.take_succ_cons, List.take_zero] at h0 h1 h2 h3
  obtain ⟨a, rfl, ha⟩ := cell_of_trod_int Tryz.underlying3 h0
  obtain ⟨b, rfl, hb⟩ := cell_of_trod_int Tryz.underlying3 h1
  obtain ⟨c, rfl, hc⟩ := cell_of_trod_int Tryz.underlying3 h2
  obtain ⟨d, rfl, hd⟩ := cell_of_trod_int Tryz.underlying3 h3
  exact ⟨⟨a, b, c, d⟩, ⟨ha, hb, hc, hd⟩, rfl⟩
theorem lnk_read {fuel : Nat} {cs : List Value} {x : DataW H × List MemPlace} (h : DataW.trod enc Tryz.prog w 0 spare held fuel 113 cs = some x) (hl : cs.length = 3) :
  ∃ a : Lnk, a.wf /\ cs = a.cells := by
 match cs, hl with
 | [c0, c1, c2], _ =>
  obtain ⟨_, _, h0⟩ := field_read Tryz.underlying113 h 0 3 0 rfl
  obtain ⟨_, _, h1⟩ := field_read Tryz.underlying113 h 1 3 1 rfl
  obtain ⟨_, _, h2⟩ := field_read Tryz.underlying113 h 2 3 2 rfl
  simp only [cInt, List.drop_zero, List.drop_succ_cons, List.take_succ_cons, List.take_zero] at h0 h1 h2
  obtain ⟨a, rfl, ha⟩ := cell_of_trod_int Tryz.underlying3 h0
  obtain ⟨b, rfl, hb⟩ := cell_of_trod_int Tryz.underlying3 h1
  obtain ⟨c, rfl, hc⟩ := cell_of_trod_int Tryz.underlying3 h2
  exact ⟨⟨a, b, c⟩, ⟨ha, hb, hc⟩, rfl⟩
theorem itm_read {fuel : Nat} {cs : List Value} {x : DataW H × List MemPlace} (h : DataW.trod enc Tryz.prog w 0 spare held fuel 61 cs = some x) (hl : cs.length = 7) :
  ∃ a : Itm, a.wf /\ cs = a.cells := by
 match cs, hl with
 | [c0, c1, c2, c3, c4, c5, c6], _ =>
  obtain ⟨_, _, hR⟩ := field_read Tryz.underlying61 h 0 59 0 rfl
  obtain ⟨_, _, h2⟩ := field_read Tryz.underlying61 h 1 3 2 rfl
  obtain ⟨_, _, h3⟩ := field_read Tryz.underlying61 h 2 3 3 rfl
  obtain ⟨_, _, h4⟩ := field_read Tryz.underlying61 h 3 3 4 rfl
  obtain ⟨_, _, h5⟩ := field_read Tryz.underlying61 h 4 3 5 rfl
  obtain ⟨_, _, h6⟩ := field_read Tryz.underlying61 h 5 3 6 rfl
  simp only [cInt, cRef, List.drop_zero, List.drop_succ_cons, List.take_succ_cons, List.take_zero] at hR h2 h3 h4 h5 h6
  obtain ⟨_, _, h0⟩ := field_read Tryz.underlying59 hR 0 3 0 rfl
  obtain ⟨_, _, h1⟩ := field_read Tryz.underlying59 hR 1 3 1 rfl
  simp only [cInt, List.drop_zero, List.drop_succ_cons, List.take_succ_cons, List.take_zero] at h0 h1
  obtain ⟨a, rfl, ha⟩ := cell_of_trod_int Tryz.underlying3 h0
  obtain ⟨b, rfl, hb⟩ := cell_of_trod_int Tryz.underlying3 h1
  obtain ⟨c, rfl, hc⟩ := cell_of_trod_int Tryz.underlying3 h2
  obtain ⟨d, rfl, hd⟩ := cell_of_trod_int Tryz.underlying3 h3
  obtain ⟨e, rfl, he⟩ := cell_of_trod_int Tryz.underlying3 h4
  obtain ⟨p, rfl, hp⟩ := cell_of_trod_int Tryz.underlying3 h5
  obtain ⟨q, rfl, hq⟩ := cell_of_trod_int Tryz.underlying3 h6
  exact ⟨⟨a, b, c, d, e, p, q⟩, ⟨ha, hb, hc, hd, he, hp, hq⟩, rfl⟩
theorem pair_cells {fuel : Nat} {c0 c1 : Value} {x : DataW H × List MemPlace} (h : DataW.trod enc Tryz.prog w 0 spare held fuel 41 [c0, c1] = some x) :
  ∃ a b : Int, c0 = .int .i64 a /\ c1 = .int .i64 b /\ (Lit.int .i64 a).wf = true /\ (Lit.int .i64 b).wf = true := by
 obtain ⟨xs, m, _, _, _, hlen, hg⟩ := DataW.trod_array Tryz.underlying41 h
 have h0 := hg 0 (by omega)
 have h1 := hg 1 (by omega)
 simp only [cInt, Nat.zero_mul, Nat.one_mul, List.drop_zero, List.drop_succ_cons, List.take_succ_cons, List.take_zero] at h0 h1
 rw [List.getElem?_eq_getElem (by omega)] at h0 h1
 obtain ⟨a, rfl, ha⟩ := cell_of_trod_int Tryz.underlying3 h0
 obtain ⟨b, rfl, hb⟩ := cell_of_trod_int Tryz.underlying3 h1
 exact ⟨a, b, rfl, rfl, ha, hb⟩
theorem accs_read {fuel : Nat} {v : Value} {x : DataW H × List MemPlace} (h : DataW.trod enc Tryz.prog w 0 spare held fuel 31 [v] = some x) :
  ∃ (A : Option Addr) (n c : Nat) (l : List Acc), v = .slice A n c /\ l.length = n /\ n <= maxLen /\ (∀ a ∈ l, a.wf) /\ AccsAt w w.heap.size A l :=
 rows_read Acc.zero Tryz.underlying31 cAcc (by decide) (fun _ => rfl) (fun _ _ _ h hl => acc_read h hl) h
theorem lnks_read {fuel : Nat} {v : Value} {x : DataW H × List MemPlace} (h : DataW.trod enc Tryz.prog w 0 spare held fuel 81 [v] = some x) :
  ∃ (A : Option Addr) (n c : Nat) (l : List Lnk), v = .slice A n c /\ l.length = n /\ n <= maxLen /\ (∀ a ∈ l, a.wf) /\ LnksAt w w.heap.size A l :=
 rows_read Lnk.zero Tryz.underlying81 cLnk (by decide) (fun _ => rfl) (fun _ _ _ h hl => lnk_read h hl) h
theorem itms_read {fuel : Nat} {v : Value} {x : DataW H × List MemPlace} (h : DataW.trod enc Tryz.prog w 0 spare held fuel 43 [v] = some x) :
  ∃ (A : Option Addr) (n c : Nat) (l : List Itm), v = .slice A n c /\ l.length = n /\ n <= maxLen /\ (∀ a ∈ l, a.wf) /\ ItmsAt w w.heap.size A l :=
 rows_read ⟨0, 0, 0, 0, 0, 0, 0⟩ Tryz.underlying43 cItm (by decide) (fun _ => rfl) (fun _ _ _ h hl => itm_read h hl) h
theorem ent_read {fuel : Nat} {cs : List Value} {x : DataW H × List MemPlace} (h : DataW.trod enc Tryz.prog w 0 spare held fuel 83 cs = some x) (hl : cs.length = 5) :
  ∃ a : Ent, a.Out w w.heap.size /\ cs = a.cells := by
 match cs, hl with
 | [c0, c1, c2, c3, c4], _ =>
  obtain ⟨_, _, h0⟩ := field_read Tryz.underlying83 h 0 9 0 rfl
  obtain ⟨_, _, h1⟩ := field_read Tryz.underlying83 h 1 9 1 rfl
  obtain ⟨_, _, h2⟩ := field_read Tryz.underlying83 h 2 31 2 rfl
  obtain ⟨_, _, h3⟩ := field_read Tryz.underlying83 h 3 81 3 rfl
  obtain ⟨_, _, h4⟩ := field_read Tryz.underlying83 h 4 4 4 rfl
  simp only [cStr, cBool, cSA, cSL, List.drop_zero, List.drop_succ_cons, List.take_succ_cons, List.take_zero] at h0 h1 h2 h3 h4
  obtain ⟨s, rfl, hs⟩ := cell_of_trod_string Tryz.underlying9 h0
  obtain ⟨u, rfl, hu⟩ := cell_of_trod_string Tryz.underlying9 h1
  obtain ⟨A, n, c, l, rfl, k1, k2, k3, k4⟩ := accs_read h2
  obtain ⟨B, m, d, q, rfl, j1, j2, j3, j4⟩ := lnks_read h3
  obtain ⟨b, rfl⟩ := cell_of_trod_bool Tryz.underlying4 h4
  exact ⟨⟨s, u, A, n, c, l, B, m, d, q, b⟩, ⟨k1, k2, k4, k3, j1, j2, j4, j3, hs, hu⟩, rfl⟩
theorem ents_read {fuel : Nat} {v : Value} {x : DataW H × List MemPlace} (h : DataW.trod enc Tryz.prog w 0 spare held fuel 34 [v] = some x) :
  ∃ (A : Option Addr) (n c : Nat) (l : List Ent), v = .slice A n c /\ l.length = n /\ n <= maxLen /\ (∀ a ∈ l, a.Out w w.heap.size) /\ RowsAt Ent.cells 5 w w.heap.size A l :=
 rows_read Ent.zero Tryz.underlying34 cEnt (by decide) (fun _ => rfl) (fun _ _ _ h hl => ent_read h hl) h
theorem raw_read {fuel : Nat} {cs : List Value} {x : DataW H × List MemPlace} (h : DataW.trod enc Tryz.prog w 0 spare held fuel 45 cs = some x) (hl : cs.length = 9) :
  ∃ a : Raw, (a.wf /\ a.At w w.heap.size) /\ cs = a.cells := by
 match cs, hl with
 | [c0, c1, c2, c3, c4, c5, c6, c7, c8], _ =>
  obtain ⟨_, _, h0⟩ := field_read Tryz.underlying45 h 0 3 0 rfl
  obtain ⟨_, _, h1⟩ := field_read Tryz.underlying45 h 1 3 1 rfl
  obtain ⟨_, _, h2⟩ := field_read Tryz.underlying45 h 2 3 2 rfl
  obtain ⟨_, _, hS⟩ := field_read Tryz.underlying45 h 3 41 3 rfl
  obtain ⟨_, _, hF⟩ := field_read Tryz.underlying45 h 4 41 5 rfl
  obtain ⟨_, _, h7⟩ := field_read Tryz.underlying45 h 5 43 7 rfl
  obtain ⟨_, _, h8⟩ := field_read Tryz.underlying45 h 6 43 8 rfl
  simp only [cInt, cSI, cPair, List.drop_zero, List.drop_succ_cons, List.take_succ_cons, List.take_zero] at h0 h1 h2 hS hF h7 h8
  obtain ⟨a, rfl, ha⟩ := cell_of_trod_int Tryz.underlying3 h0
  obtain ⟨b, rfl, hb⟩ := cell_of_trod_int Tryz.underlying3 h1
  obtain ⟨c, rfl, hc⟩ := cell_of_trod_int Tryz.underlying3 h2
  obtain ⟨s0, s1, rfl, rfl, w0, w1⟩ := pair_cells hS
  obtain ⟨f0, f1, rfl, rfl, u0, u1⟩ := pair_cells hF
  obtain ⟨A, n, c', l, rfl, k1, k2, k3, k4⟩ := itms_read h7
  obtain ⟨B, m, d, q, rfl, j1, j2, j3, j4⟩ := itms_read h8
  exact ⟨⟨a, b, c, s0, s1, f0, f1, A, n, c', B, m, d, l, q⟩, ⟨⟨ha, hb, hc, w0, w1, u0, u1, k3, j3⟩, ⟨k1, by unfold maxLen at k2; omega, k4, j1, by unfold maxLen at j2; omega, j4⟩⟩, rfl⟩
theorem raws_read {fuel : Nat} {v : Value} {x : DataW H × List MemPlace} (h : DataW.trod enc Tryz.prog w 0 spare held fuel 22 [v] = some x) :
  ∃ (A : Option Addr) (n c : Nat) (l : List Raw), v = .slice A n c /\ l.length = n /\ n <= maxLen /\ (∀ a ∈ l, a.wf /\ a.At w w.heap.size) /\ RawsAt w w.heap.size A l :=
 rows_read ⟨0, 0, 0, 0, 0, 0, 0, none, 0, 0, none, 0, 0, [], []⟩ Tryz.underlying22 cRaw (by decide) (fun _ => rfl) (fun _ _ _ h hl => raw_read h hl) h
theorem grp_read {fuel : Nat} {cs : List Value} {x : DataW H × List MemPlace} (h : DataW.trod enc Tryz.prog w 0 spare held fuel 36 cs = some x) (hl : cs.length = 21) :
  ∃ g : Grp, g.Out w w.heap.size /\ cs = [.string g.cur, .int .i64 g.Y, .int .i64 g.M, .int .i64 g.N, .slice g.cA g.cn g.cc, .int .i64 g.r0, .int .i64 g.r1, .int .i64 g.r2, .int .i64 g.r3, .int .i64 g.r4, .int .i64 g.r5, .int .i64 g.r6, .int .i64 g.r7, .int .i64 g.r8, .int .i64 g.r9, .int .i64 g.r10, .int .i64 g.r11, .int .i64 g.r12, .int .i64 g.r13, .int .i64 g.r14, .slice g.eA g.en g.ec] := by
 match cs, hl with
 | [c0, c1, c2, c3, c4, c5, c6, c7, c8, c9, c10, c11, c12, c13, c14, c15, c16, c17, c18, c19, c20], _ =>
  obtain ⟨_, _, hS⟩ := field_read Tryz.underlying36 h 0 9 0 rfl
  obtain ⟨_, _, hC⟩ := field_read Tryz.underlying36 h 1 30 1 rfl
  obtain ⟨_, _, hA⟩ := field_read Tryz.underlying36 h 2 31 4 rfl
  obtain ⟨_, _, hR⟩ := field_read Tryz.underlying36 h 3 33 5 rfl
  obtain ⟨_, _, hE⟩ := field_read Tryz.underlying36 h 4 34 20 rfl
  simp only [cStr, cCal, cSA, cRol, cSE, List.drop_zero, List.drop_succ_cons, List.take_succ_cons, List.take_zero] at hS hC hA hR hE
  obtain ⟨_, _, h1⟩ := field_read Tryz.underlying30 hC 0 3 0 rfl
  obtain ⟨_, _, h2⟩ := field_read Tryz.underlying30 hC 1 3 1 rfl
  obtain ⟨_, _, h3⟩ := field_read Tryz.underlying30 hC 2 3 2 rfl
  obtain ⟨_, _, q0⟩ := field_read Tryz.underlying33 hR 0 3 0 rfl
  obtain ⟨_, _, q1⟩ := field_read Tryz.underlying33 hR 1 3 1 rfl
  obtain ⟨_, _, q2⟩ := field_read Tryz.underlying33 hR 2 3 2 rfl
  obtain ⟨_, _, q3⟩ := field_read Tryz.underlying33 hR 3 3 3 rfl
  obtain ⟨_, _, q4⟩ := field_read Tryz.underlying33 hR 4 3 4 rfl
  obtain ⟨_, _, q5⟩ := field_read Tryz.underlying33 hR 5 3 5 rfl
  obtain ⟨_, _, q6⟩ := field_read Tryz.underlying33 hR 6 3 6 rfl
  obtain ⟨_, _, q7⟩ := field_read Tryz.underlying33 hR 7 3 7 rfl
  obtain ⟨_, _, q8⟩ := field_read Tryz.underlying33 hR 8 3 8 rfl
  obtain ⟨_, _, q9⟩ := field_read Tryz.underlying33 hR 9 3 9 rfl
  obtain ⟨_, _, q10⟩ := field_read Tryz.underlying33 hR 10 3 10 rfl
  obtain ⟨_, _, q11⟩ := field_read Tryz.underlying33 hR 11 3 11 rfl
  obtain ⟨_, _, q12⟩ := field_read Tryz.underlying33 hR 12 3 12 rfl
  obtain ⟨_, _, q13⟩ := field_read Tryz.underlying33 hR 13 3 13 rfl
  obtain ⟨_, _, q14⟩ := field_read Tryz.underlying33 hR 14 3 14 rfl
  simp only [cInt, List.drop_zero, List.drop_succ_cons, List.take_succ_cons, List.take_zero] at h1 h2 h3 q0 q1 q2 q3 q4 q5 q6 q7 q8 q9 q10 q11 q12 q13 q14
  obtain ⟨s, rfl, hs⟩ := cell_of_trod_string Tryz.underlying9 hS
  obtain ⟨Y, rfl, hY⟩ := cell_of_trod_int Tryz.underlying3 h1
  obtain ⟨M, rfl, hM⟩ := cell_of_trod_int Tryz.underlying3 h2
  obtain ⟨N, rfl, hN⟩ := cell_of_trod_int Tryz.underlying3 h3
  obtain ⟨A, n, c, l, rfl, k1, k2, k3, k4⟩ := accs_read hA
  obtain ⟨r0, rfl, v0⟩ := cell_of_trod_int Tryz.underlying3 q0
  obtain ⟨r1, rfl, v1⟩ := cell_of_trod_int Tryz.underlying3 q1
  obtain ⟨r2, rfl, v2⟩ := cell_of_trod_int Tryz.underlying3 q2
  obtain ⟨r3, rfl, v3⟩ := cell_of_trod_int Tryz.underlying3 q3
  obtain ⟨r4, rfl, v4⟩ := cell_of_trod_int Tryz.underlying3 q4
  obtain ⟨r5, rfl, v5⟩ := cell_of_trod_int Tryz.underlying3 q5
  obtain ⟨r6, rfl, v6⟩ := cell_of_trod_int Tryz.underlying3 q6
  obtain ⟨r7, rfl, v7⟩ := cell_of_trod_int Tryz.underlying3 q7
  obtain ⟨r8, rfl, v8⟩ := cell_of_trod_int Tryz.underlying3 q8
  obtain ⟨r9, rfl, v9⟩ := cell_of_trod_int Tryz.underlying3 q9
  obtain ⟨r10, rfl, v10⟩ := cell_of_trod_int Tryz.underlying3 q10
  obtain ⟨r11, rfl, v11⟩ := cell_of_trod_int Tryz.underlying3 q11
  obtain ⟨r12, rfl, v12⟩ := cell_of_trod_int Tryz.underlying3 q12
  obtain ⟨r13, rfl, v13⟩ := cell_of_trod_int Tryz.underlying3 q13
  obtain ⟨r14, rfl, v14⟩ := cell_of_trod_int Tryz.underlying3 q14
  obtain ⟨B, m, d, q, rfl, j1, j2, j3, j4⟩ := ents_read hE
  refine ⟨⟨s, Y, M, N, A, n, c, l, r0, r1, r2, r3, r4, r5, r6, r7, r8, r9, r10, r11, r12, r13, r14, B, m, d, q⟩, ⟨k1, k2, k4, k3, j1, j2, j4, j3, hs, ?_⟩, rfl⟩
  simp only [Gr.roles, List.forall_mem_cons]
  exact ⟨v0, v1, v2, v3, v4, v5, v6, v7, v8, v9, v10, v11, v12, v13, v14, fun _ h => by cases h⟩
theorem grp_arg {r : Reach} {b0 : Nat} {v : Value} {d : DataW H} {p : List MemPlace} (hv : Value.okWide Tryz.prog w r b0 36 v) (h : DataW.Trod enc Tryz.prog w 0 spare held 36 v d p) :
  ∃ g : Grp, v = .agg #[.string g.cur, .int .i64 g.Y, .int .i64 g.M, .int .i64 g.N, .slice g.cA g.cn g.cc, .int .i64 g.r0, .int .i64 g.r1, .int .i64 g.r2, .int .i64 g.r3, .int .i64 g.r4, .int .i64 g.r5, .int .i64 g.r6, .int .i64 g.r7, .int .i64 g.r8, .int .i64 g.r9, .int .i64 g.r10, .int .i64 g.r11, .int .i64 g.r12, .int .i64 g.r13, .int .i64 g.r14, .slice g.eA g.en g.ec] /\ g.Out w w.heap.size := by
 obtain ⟨cs, rfl, hsz⟩ := okWide_struct Tryz.underlying36 hv
 rw [cGrp] at hsz
 obtain ⟨fuel, hf⟩ := h
 simp only [Value.cells] at hf
 obtain ⟨g, hg, e⟩ := grp_read hf (by simpa using hsz)
 refine ⟨g, ?_, hg⟩
 have : cs = (⟨[.string g.cur, .int .i64 g.Y, .int .i64 g.M, .int .i64 g.N, .slice g.cA g.cn g.cc, .int .i64 g.r0, .int .i64 g.r1, .int .i64 g.r2, .int .i64 g.r3, .int .i64 g.r4, .int .i64 g.r5, .int .i64 g.r6, .int .i64 g.r7, .int .i64 g.r8, .int .i64 g.r9, .int .i64 g.r10, .int .i64 g.r11, .int .i64 g.r12, .int .i64 g.r13, .int .i64 g.r14, .slice g.eA g.en g.ec]⟩ : Array Value) := by rw [<- e]
 rw [this]
theorem arr2_arg {r : Reach} {b0 : Nat} {v : Value} {d : DataW H} {p : List MemPlace} (hv : Value.okWide Tryz.prog w r b0 41 v) (h : DataW.Trod enc Tryz.prog w 0 spare held 41 v d p) :
  ∃ a b : Int, v = .agg #[.int .i64 a, .int .i64 b] /\ (Lit.int .i64 a).wf = true /\ (Lit.int .i64 b).wf = true := by
 simp only [Value.okWide, Tryz.underlying41] at hv
 obtain ⟨cs, rfl, hsz, _⟩ := hv
 rw [cPair] at hsz
 obtain ⟨cs⟩ := cs
 match cs, hsz with
 | [c0, c1], _ =>
  obtain ⟨fuel, hf⟩ := h
  simp only [Value.cells] at hf
  obtain ⟨a, b, rfl, rfl, ha, hb⟩ := pair_cells hf
  exact ⟨a, b, rfl, ha, hb⟩
theorem raws_arg {r : Reach} {b0 : Nat} {v : Value} {d : DataW H} {p : List MemPlace} (hv : Value.okWide Tryz.prog w r b0 22 v) (h : DataW.Trod enc Tryz.prog w 0 spare held 22 v d p) :
  ∃ (A : Option Addr) (n c : Nat) (l : List Raw), v = .slice A n c /\ l.length = n /\ n <= maxLen /\ (∀ a ∈ l, a.wf /\ a.At w w.heap.size) /\ RawsAt w w.heap.size A l := by
 obtain ⟨fuel, hf⟩ := h
 simp only [Value.okWide, Tryz.underlying22] at hv
 have : v.cells.toList = [v] := by
  cases v <;> first | rfl | (exfalso; simp_all [Cell.okWide, Cell.ok])
 rw [this] at hf
 exact raws_read hf
end
end Go.Proofs.YtobnfmneeabomaaGreat
