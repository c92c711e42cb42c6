/- My texts RawW, OpenG, Kept, ConK. -/
import Derived.Test.YtccapfbblnnfjaaGreatRows
import Derived.ProofKit
import Derived.OpenShut
import Derived.ShutString
import Derived.ChangeOld
import Derived.Deep.Slices
import Derived.Test.YtccapfbblnnfjaaGreatG15
import Derived.Test.YtccapfbblnnfjaaGreatG31
import Derived.Test.YtccapfbblnnfjaaGreatG33
import Derived.Test.YtccapfbblnnfjaaGreatG38
set_option linter.unusedVariables false
set_option linter.unusedSimpArgs false
set_option maxRecDepth 100000
set_option maxHeartbeats 8000000
namespace Go.Proofs.YtccapfbblnnfjaaGreat
open Go.RowKit
theorem redBy_pos {a D : Int} (hD : 0 < D) : redBy a D = (Int.gcd a D : Int) := by unfold redBy; rw [if_neg (by omega)]
theorem red_le (a : Int) {D : Int} (hD : 0 < D) : Int.tdiv D (Int.gcd a D) <= D := by
 obtain ⟨q, hq⟩ := Int.gcd_dvd_right a D
 have h0 : (0 : Int) <= (Int.gcd a D : Int) := Int.natCast_nonneg _
 obtain ⟨G, hG⟩ : ∃ G, G = (Int.gcd a D : Int) := ⟨_, rfl⟩
 rw [<- hG] at hq h0 ⊢
 have hG0 : G ≠ 0 := by intro e; subst e; rw [Int.zero_mul] at hq; omega
 have e2 : Int.tdiv D G = q := by rw [hq, Int.mul_tdiv_cancel_left _ hG0]
 rw [e2]
 have hqp : 0 < q := by
  rw [hq] at hD
  exact Int.pos_of_mul_pos_right hD (by omega)
 have : 1 * q <= G * q := Int.mul_le_mul_of_nonneg_right (by omega) (by omega)
 rw [hq]; omega
structure Raw where
 ent : Int
 meth : Int
 since : Int
 s0 : Int
 s1 : Int
 f0 : Int
 f1 : Int
 iA : Option Addr
 im : Nat
 ic : Nat
 hA : Option Addr
 hm : Nat
 hc : Nat
 its : List Itm
 shs : List Itm
def Raw.cells (x : Raw) : List Value := [.int .i64 x.ent, .int .i64 x.meth, .int .i64 x.since, .int .i64 x.s0, .int .i64 x.s1, .int .i64 x.f0, .int .i64 x.f1, .slice x.iA x.im x.ic, .slice x.hA x.hm x.hc]
abbrev RawsAt := RowsAt Raw.cells 9
theorem rawSize : (Tryz.prog.info? 78).map (·.size) = some 9 := by kernel_rfl
def Itm.sm (x : Itm) : Bool := decide (x.amt <= 1000000000000) && decide (-1000000000000 <= x.amt)
theorem Itm.sm_small {x : Itm} (h : x.sm = true) : x.small := by
 unfold Itm.sm at h
 simp only [Bool.and_eq_true, decide_eq_true_eq] at h
 exact ⟨h.2, h.1⟩
namespace Raw
def few (l : List Itm) : Bool := l.all Itm.sm && decide (l.length <= 40)
def quot (a b : Int) : Bool := decide (0 < b) && decide (b <= 1000000) && decide (a <= 10 * b) && decide (-(10 * b) <= a)
def ok (x : Raw) : Bool := quot x.s0 x.s1 && quot x.f0 x.f1 && few x.its && few x.shs
def cnt (x : Raw) : Cnt := ⟨x.ent, x.meth, x.since, Int.tdiv x.s0 (Int.gcd x.s0 x.s1), Int.tdiv x.s1 (Int.gcd x.s0 x.s1), Int.tdiv x.f0 (Int.gcd x.f0 x.f1), Int.tdiv x.f1 (Int.gcd x.f0 x.f1), x.its, x.shs⟩
structure At (w : World) (B : Nat) (x : Raw) : Prop where
 hil : x.its.length = x.im
 him : x.im <= 9223372036854775807
 hiA : ItmsAt w B x.iA x.its
 hhl : x.shs.length = x.hm
 hhm : x.hm <= 9223372036854775807
 hhA : ItmsAt w B x.hA x.shs
theorem At.below {w w' : World} {B C : Nat} {x : Raw} (h : x.At w B) (hb : Below C w w') (hC : B <= C) : x.At w' B :=
 ⟨h.hil, h.him, RowsAt.below h.hiA hb hC, h.hhl, h.hhm, RowsAt.below h.hhA hb hC⟩
theorem At.more {w : World} {B C : Nat} {x : Raw} (h : x.At w B) (hC : B <= C) : x.At w C :=
 ⟨h.hil, h.him, RowsAt.more h.hiA hC, h.hhl, h.hhm, RowsAt.more h.hhA hC⟩
theorem few_ok {l : List Itm} (h : few l = true) : l.length <= 40 /\ ∀ x ∈ l, x.small := by
 unfold few at h
 simp only [Bool.and_eq_true, decide_eq_true_eq, List.all_eq_true] at h
 exact ⟨h.2, fun x hx => Itm.sm_small (h.1 x hx)⟩
theorem quot_ok {a b : Int} (h : quot a b = true) : ShareOk a b := by
 unfold quot at h
 simp only [Bool.and_eq_true, decide_eq_true_eq] at h
 obtain ⟨⟨⟨h1, h2⟩, h3⟩, h4⟩ := h
 exact ⟨h1, h2, h4, h3⟩
theorem red_ok {a b : Int} (h : ShareOk a b) : ShareOk (Int.tdiv a (Int.gcd a b)) (Int.tdiv b (Int.gcd a b)) := by
 obtain ⟨hb, hm, hl, hu⟩ := h
 have r1 := R1.red_pos a hb
 have r2 := red_le a hb
 obtain ⟨q, hq⟩ := Int.gcd_dvd_right a b
 obtain ⟨p, hp⟩ := Int.gcd_dvd_left a b
 have hG0 : (0 : Int) <= (Int.gcd a b : Int) := Int.natCast_nonneg _
 obtain ⟨G, hG⟩ : ∃ G, G = (Int.gcd a b : Int) := ⟨_, rfl⟩
 rw [<- hG] at hp hq hG0 r1 r2 ⊢
 have hne : G ≠ 0 := by intro e; subst e; rw [Int.zero_mul] at hq; omega
 have e1 : Int.tdiv a G = p := by rw [hp, Int.mul_tdiv_cancel_left _ hne]
 have e2 : Int.tdiv b G = q := by rw [hq, Int.mul_tdiv_cancel_left _ hne]
 rw [e2] at r1 r2
 rw [e1, e2]
 have hGp : 0 < G := by omega
 have u : G * p <= G * (10 * q) := by rw [<- hp, Int.mul_left_comm, <- hq]; exact hu
 have v : G * (-(10 * q)) <= G * p := by rw [<- hp, Int.mul_neg, Int.mul_left_comm, <- hq]; exact hl
 exact ⟨r1, by omega, Int.le_of_mul_le_mul_left v hGp, Int.le_of_mul_le_mul_left u hGp⟩
end Raw
section
variable (w : World)
theorem quot_any (a b : Int) : Calls Tryz.prog 42 #[.agg #[.int .i64 a, .int .i64 b]] w fun e w' => e = .returned (.bool (Raw.quot a b)) /\ Below w.heap.size w w' := by
 have hB0 := (Below.refl w.heap.size w).alloc (Nat.le_refl _) (.cells #[.int .i64 a, .int .i64 b] 76)
 by_cases h1 : 0 < b
 case neg =>
  have HV : Hid (Raw.quot a b = false) := by show _ = _; rw [Raw.quot, decide_eq_false h1]; rfl
  go_enter Tryz.func42, Tryz.ntmps42
  go_wp2
  go_ret
  exact ⟨by rw [HV.out]; rfl, hB0⟩
 by_cases h2 : b <= 1000000
 case neg =>
  have HV : Hid (Raw.quot a b = false) := by show _ = _; rw [Raw.quot, decide_eq_false h2]; simp
  go_enter Tryz.func42, Tryz.ntmps42
  go_wp2
  go_ret
  exact ⟨by rw [HV.out]; rfl, hB0⟩
 by_cases h3 : a <= 10 * b
 case neg =>
  have HV : Hid (Raw.quot a b = false) := by show _ = _; rw [Raw.quot, decide_eq_false h3]; simp
  go_enter Tryz.func42, Tryz.ntmps42
  go_wp2
  go_ret
  exact ⟨by rw [HV.out]; rfl, hB0⟩
 have HV : Hid (Raw.quot a b = decide (-10 * b <= a)) := by
  show _ = _
  rw [Raw.quot, decide_eq_true h1, decide_eq_true h2, decide_eq_true h3, show -(10 * b) = -10 * b by omega]; simp
 go_enter Tryz.func42, Tryz.ntmps42
 go_wp2
 go_ret
 exact ⟨by rw [HV.out]; rfl, hB0⟩
theorem few_any (A : Option Addr) (n c : Nat) (l : List Itm) (hl : l.length = n) (hn : n <= 9223372036854775807) (h : ItmsAt w w.heap.size A l) :
  Calls Tryz.prog 43 #[.slice A n c] w fun e w' => e = .returned (.bool (Raw.few l)) /\ Below w.heap.size w w' := by
 have Hl := Lib.hid hl
 clear hl
 go_enter Tryz.func43, Tryz.ntmps43
 go_wp2
 go_loopw [3] (fun i wr => ∃ k : Nat, k <= n /\ i = .int .i64 k /\ (l.take k).all Itm.sm = true /\ Below w.heap.size w wr) (fun i _ => n - (intOf i).toNat)
 case atStart => exact ⟨0, Nat.zero_le _, rfl, rfl, Below.refl _ _⟩
 case round =>
  obtain ⟨k, hk, rfl, ha, hb⟩ := hrel
  have Ha := Lib.hid ha
  clear ha
  by_cases hlt : k < n
  ·have hkl : k < l.length := by have := Hl.out; omega
   obtain ⟨b, o, rfl, hbB, hr, c3, c6⟩ := ItmsAt.seven (RowsAt.below h hb (Nat.le_refl _)) hkl
   have hbw : b < wr.heap.size := Nat.lt_of_lt_of_le hbB hb.size
   obtain ⟨am, ham⟩ : ∃ am, am = l[k].amt := ⟨_, rfl⟩
   rw [<- ham] at c6
   have Ham := Lib.hid ham
   clear hr c3 ham
   have hbad : l[k].sm = false -> Hid (Raw.few l = false) := fun hs => Lib.hid (by
    unfold Raw.few
    have : l.all Itm.sm = false := by rw [List.all_eq_false]; exact ⟨l[k], List.getElem_mem hkl, by simp [hs]⟩
    rw [this]; rfl)
   by_cases h1 : (1000000000000 : Int) < am
   ·have HV := hbad (by unfold Itm.sm; rw [<- Ham.out, decide_eq_false (show ¬ am <= 1000000000000 by omega)]; rfl)
    clear hbad
    go_wp2
    go_ret
    exact ⟨by rw [HV.out]; rfl, hb⟩
   by_cases h2 : am < (-1000000000000 : Int)
   ·have HV := hbad (by unfold Itm.sm; rw [<- Ham.out, decide_eq_false (show ¬ (-1000000000000 : Int) <= am by omega), Bool.and_false])
    clear hbad
    go_wp2
    go_ret
    exact ⟨by rw [HV.out]; rfl, hb⟩
   ·have Ha2 : Hid ((l.take (k + 1)).all Itm.sm = true) := by
     show _ = _
     rw [List.take_succ_eq_append_getElem hkl, List.all_append, Ha.out]
     simp only [List.all_cons, List.all_nil, Bool.and_true, Bool.true_and]
     unfold Itm.sm
     rw [<- Ham.out, decide_eq_true (show am <= 1000000000000 by omega), decide_eq_true (show (-1000000000000 : Int) <= am by omega)]; rfl
    clear hbad
    go_wp2
    go_roundw
    case rel => exact ⟨k + 1, by omega, by go_num, Ha2.out, hb⟩
    case measure => simp [intOf]; omega
  ·obtain rfl : k = n := by omega
   have HV : Hid (Raw.few l = decide ((k : Int) <= 40)) := by
    show _ = _
    have := Ha.out
    rw [<- Hl.out, List.take_length] at this
    rw [Raw.few, this, Hl.out, Bool.true_and]
    exact decide_eq_decide.2 (by omega)
   go_wp2
   go_ret
   exact ⟨by rw [HV.out]; rfl, hb⟩
end
end Go.Proofs.YtccapfbblnnfjaaGreat
namespace Go.Proofs.YtccapfbblnnfjaaGreat
open Go.ChangeShapes Go.WideShapes Go.ChangeAt Go.RowKit Go.Deep

section
variable {H : Type} {enc : TypeId × Value -> H} {P : Program} {w : World} {base : Nat} {spare : Nat -> Bool} {held : Bool}
theorem field_read {t : TypeId} {fs : Array Field} {fuel : Nat} {cs : List Value} {x : DataW H × List MemPlace} (ht : P.underlying t = some (.struct fs)) (h : DataW.trod enc P w base spare held fuel t cs = some x) (j : Nat) (T : TypeId) (o : Nat) (hf : (fs[j]?).map (fun f => (f.type, f.offset)) = some (T, o)) :
  ∃ n y, DataW.trod enc P w base spare held n T ((cs.drop o).take (P.cellsOf T)) = some y := by
 obtain ⟨xs, n, _, _, _, hlen, hg⟩ := DataW.trod_struct ht h
 rw [Option.map_eq_some_iff] at hf
 obtain ⟨f, hf, e⟩ := hf
 cases e
 have hj : j < fs.size := (Array.getElem?_eq_some_iff.1 hf).1
 exact ⟨n, xs[j]'(by omega), (hg j f hf).trans (List.getElem?_eq_getElem (by omega))⟩
theorem cell_of_trod_int {t : TypeId} {k : IntKind} {fuel : Nat} {v : Value} {x : DataW H × List MemPlace} (ht : P.underlying t = some (.int k)) (h : DataW.trod enc P w base spare held fuel t [v] = some x) : ∃ n, v = .int k n /\ (Lit.int k n).wf = true := by
 obtain ⟨n, e, _, hw⟩ := DataW.trod_int ht h
 exact ⟨n, by simpa using e, hw⟩
theorem cell_of_trod_string {t : TypeId} {fuel : Nat} {v : Value} {x : DataW H × List MemPlace} (ht : P.underlying t = some .string) (h : DataW.trod enc P w base spare held fuel t [v] = some x) : ∃ s : ByteArray, v = .string s /\ s.size <= maxLen := by
 obtain ⟨s, e, _, hw⟩ := DataW.trod_string ht h
 exact ⟨s, by simpa using e, hw⟩
theorem cell_of_trod_bool {t : TypeId} {fuel : Nat} {v : Value} {x : DataW H × List MemPlace} (ht : P.underlying t = some .bool) (h : DataW.trod enc P w base spare held fuel t [v] = some x) : ∃ b : Bool, v = .bool b := by
 obtain ⟨b, e, _⟩ := DataW.trod_bool ht h
 exact ⟨b, by simpa using e⟩
theorem rows_read {α : Type} {f : α -> List Value} {sz : Nat} {Wf : α -> Prop} (zero : α) {tS tE : TypeId} (hu : P.underlying tS = some (.slice tE)) (hce : P.cellsOf tE = sz) (hsz : 0 < sz) (hfl : ∀ a, (f a).length = sz)
  (hread : ∀ (n : Nat) (cs : List Value) (x : DataW H × List MemPlace), DataW.trod enc P w base spare held n tE cs = some x -> cs.length = sz -> ∃ a, Wf a /\ cs = f a)
  {fuel : Nat} {v : Value} {x : DataW H × List MemPlace} (h : DataW.trod enc P w base spare held fuel tS [v] = some x) :
  ∃ (A : Option Addr) (n c : Nat) (l : List α), v = .slice A n c /\ l.length = n /\ n <= maxLen /\ (∀ a ∈ l, Wf a) /\ RowsAt f sz w w.heap.size A l := by
 rcases open_slice hu h with ⟨hcs, _⟩ | ⟨a, len, cap, m, n, D, Pl, hcs, _, hl, hm, hmm, _, hi⟩
 ·exact ⟨none, 0, 0, [], by simpa using hcs, rfl, by unfold maxLen; omega, by simp, .inl rfl⟩
 ·have hlm : len <= m := by rw [hmm]; split <;> omega
  have hex : ∀ i, i < len -> ∃ r : α, Wf r /\ ∀ j u, (f r)[j]? = some u -> w.cell? (a.add (i * sz + j)) = some u := by
   intro i hil
   obtain ⟨cs', hc, ht⟩ := hi i (by omega)
   rw [hce] at hc
   obtain ⟨_, hcl, hat⟩ := World.cells?_some hc
   obtain ⟨r, hr, e⟩ := hread _ _ _ ht hcl
   refine ⟨r, hr, fun j u hj => ?_⟩
   have hj4 : j < sz := by have := (List.getElem?_eq_some_iff.1 hj).1; rw [hfl] at this; exact this
   have := hat j hj4
   rw [e, hj] at this
   rw [<- Go.Deep.add_add]; exact this
  have hch : ∃ F : Nat -> α, ∀ i, i < len -> Wf (F i) /\ ∀ j u, (f (F i))[j]? = some u -> w.cell? (a.add (i * sz + j)) = some u := by
   refine ⟨fun i => if hil : i < len then Classical.choose (hex i hil) else zero, fun i hil => ?_⟩
   simp only [hil, dite_true]
   exact Classical.choose_spec (hex i hil)
  obtain ⟨F, hF⟩ := hch
  refine ⟨some a, len, cap, (List.range len).map F, by simpa using hcs, by simp, by omega, ?_, ?_⟩
  ·intro r hr
   simp only [List.mem_map, List.mem_range] at hr
   obtain ⟨i, hil, rfl⟩ := hr
   exact (hF i hil).1
  ·rcases Nat.eq_zero_or_pos len with h0 | hpos
   ·left; rw [h0]; rfl
   ·right
    obtain ⟨b, off, spot⟩ := a
    have hlen0 : 0 < (f (F 0)).length := by rw [hfl]; exact hsz
    have h0 := (hF 0 hpos).2 0 _ (List.getElem?_eq_getElem hlen0)
    have hspot : spot = none := by simpa [Addr.add] using World.cell?_spot h0
    subst hspot
    refine ⟨b, off, rfl, block_lt_of_cell (by simpa [Addr.add] using h0), fun k hk => ?_⟩
    have hk' : k < len := by simpa using hk
    have e : ((List.range len).map F)[k] = F k := by simp
    rw [e]
    intro j u hj
    have h1 := (hF k hk').2 j u hj
    rw [Go.WideShapes.add_plain] at h1
    rw [Nat.add_assoc]
    exact h1
end
theorem cStr : Tryz.prog.cellsOf 9 = 1 := by kernel_rfl
theorem cInt : Tryz.prog.cellsOf 3 = 1 := by kernel_rfl
theorem cBool : Tryz.prog.cellsOf 4 = 1 := by kernel_rfl
theorem cAcc : Tryz.prog.cellsOf 132 = 4 := by kernel_rfl
theorem cLnk : Tryz.prog.cellsOf 156 = 3 := by kernel_rfl
theorem cEnt : Tryz.prog.cellsOf 106 = 5 := by kernel_rfl
theorem cItm : Tryz.prog.cellsOf 82 = 7 := by kernel_rfl
theorem cRef : Tryz.prog.cellsOf 80 = 2 := by kernel_rfl
theorem cRaw : Tryz.prog.cellsOf 78 = 9 := by kernel_rfl
theorem cPair : Tryz.prog.cellsOf 76 = 2 := by kernel_rfl
theorem cCal : Tryz.prog.cellsOf 23 = 3 := by kernel_rfl
theorem cRol : Tryz.prog.cellsOf 26 = 15 := by kernel_rfl
theorem cGrp : Tryz.prog.cellsOf 29 = 21 := by kernel_rfl
theorem cSA : Tryz.prog.cellsOf 24 = 1 := by kernel_rfl
theorem cSL : Tryz.prog.cellsOf 104 = 1 := by kernel_rfl
theorem cSE : Tryz.prog.cellsOf 27 = 1 := by kernel_rfl
theorem cSI : Tryz.prog.cellsOf 60 = 1 := by kernel_rfl
def Itm.wf (x : Itm) : Prop := (Lit.int .i64 x.ent0).wf = true /\ (Lit.int .i64 x.lin).wf = true /\ (Lit.int .i64 x.ent).wf = true /\ (Lit.int .i64 x.acct).wf = true /\ (Lit.int .i64 x.partner).wf = true /\ (Lit.int .i64 x.date).wf = true /\ (Lit.int .i64 x.amt).wf = true
structure Raw.wf (x : Raw) : Prop where
 h0 : (Lit.int .i64 x.ent).wf = true
 h1 : (Lit.int .i64 x.meth).wf = true
 h2 : (Lit.int .i64 x.since).wf = true
 h3 : (Lit.int .i64 x.s0).wf = true
 h4 : (Lit.int .i64 x.s1).wf = true
 h5 : (Lit.int .i64 x.f0).wf = true
 h6 : (Lit.int .i64 x.f1).wf = true
 h7 : ∀ y ∈ x.its, y.wf
 h8 : ∀ y ∈ x.shs, y.wf
section
variable {H : Type} {enc : TypeId × Value -> H} {w : World} {spare : Nat -> Bool} {held : Bool}
theorem acc_read {fuel : Nat} {cs : List Value} {x : DataW H × List MemPlace} (h : DataW.trod enc Tryz.prog w 0 spare held fuel 132 cs = some x) (hl : cs.length = 4) :
  ∃ a : Acc, a.wf /\ cs = a.cells := by
 match cs, hl with
 | [c0, c1, c2, c3], _ =>
  obtain ⟨_, _, h0⟩ := field_read Tryz.underlying132 h 0 3 0 rfl
  obtain ⟨_, _, h1⟩ := field_read Tryz.underlying132 h 1 3 1 rfl
  obtain ⟨_, _, h2⟩ := field_read Tryz.underlying132 h 2 3 2 rfl
  obtain ⟨_, _, h3⟩ := field_read Tryz.underlying132 h 3 3 3 rfl
  simp only [cInt, List.drop_zero, List.drop_succ_cons, List.take_succ_cons, List.take_zero] at h0 h1 h2 h3
  obtain ⟨a, rfl, ha⟩ := cell_of_trod_int Tryz.underlying3 h0
  obtain ⟨b, rfl, hb⟩ := cell_of_trod_int Tryz.underlying3 h1
  obtain ⟨c, rfl, hc⟩ := cell_of_trod_int Tryz.underlying3 h2
  obtain ⟨d, rfl, hd⟩ := cell_of_trod_int Tryz.underlying3 h3
  exact ⟨⟨a, b, c, d⟩, ⟨ha, hb, hc, hd⟩, rfl⟩
theorem lnk_read {fuel : Nat} {cs : List Value} {x : DataW H × List MemPlace} (h : DataW.trod enc Tryz.prog w 0 spare held fuel 156 cs = some x) (hl : cs.length = 3) :
  ∃ a : Lnk, a.wf /\ cs = a.cells := by
 match cs, hl with
 | [c0, c1, c2], _ =>
  obtain ⟨_, _, h0⟩ := field_read Tryz.underlying156 h 0 3 0 rfl
  obtain ⟨_, _, h1⟩ := field_read Tryz.underlying156 h 1 3 1 rfl
  obtain ⟨_, _, h2⟩ := field_read Tryz.underlying156 h 2 3 2 rfl
  simp only [cInt, List.drop_zero, List.drop_succ_cons, List.take_succ_cons, List.take_zero] at h0 h1 h2
  obtain ⟨a, rfl, ha⟩ := cell_of_trod_int Tryz.underlying3 h0
  obtain ⟨b, rfl, hb⟩ := cell_of_trod_int Tryz.underlying3 h1
  obtain ⟨c, rfl, hc⟩ := cell_of_trod_int Tryz.underlying3 h2
  exact ⟨⟨a, b, c⟩, ⟨ha, hb, hc⟩, rfl⟩
theorem itm_read {fuel : Nat} {cs : List Value} {x : DataW H × List MemPlace} (h : DataW.trod enc Tryz.prog w 0 spare held fuel 82 cs = some x) (hl : cs.length = 7) :
  ∃ a : Itm, a.wf /\ cs = a.cells := by
 match cs, hl with
 | [c0, c1, c2, c3, c4, c5, c6], _ =>
  obtain ⟨_, _, hR⟩ := field_read Tryz.underlying82 h 0 80 0 rfl
  obtain ⟨_, _, h2⟩ := field_read Tryz.underlying82 h 1 3 2 rfl
  obtain ⟨_, _, h3⟩ := field_read Tryz.underlying82 h 2 3 3 rfl
  obtain ⟨_, _, h4⟩ := field_read Tryz.underlying82 h 3 3 4 rfl
  obtain ⟨_, _, h5⟩ := field_read Tryz.underlying82 h 4 3 5 rfl
  obtain ⟨_, _, h6⟩ := field_read Tryz.underlying82 h 5 3 6 rfl
  simp only [cInt, cRef, List.drop_zero, List.drop_succ_cons, List.take_succ_cons, List.take_zero] at hR h2 h3 h4 h5 h6
  obtain ⟨_, _, h0⟩ := field_read Tryz.underlying80 hR 0 3 0 rfl
  obtain ⟨_, _, h1⟩ := field_read Tryz.underlying80 hR 1 3 1 rfl
  simp only [cInt, List.drop_zero, List.drop_succ_cons, List.take_succ_cons, List.take_zero] at h0 h1
  obtain ⟨a, rfl, ha⟩ := cell_of_trod_int Tryz.underlying3 h0
  obtain ⟨b, rfl, hb⟩ := cell_of_trod_int Tryz.underlying3 h1
  obtain ⟨c, rfl, hc⟩ := cell_of_trod_int Tryz.underlying3 h2
  obtain ⟨d, rfl, hd⟩ := cell_of_trod_int Tryz.underlying3 h3
  obtain ⟨e, rfl, he⟩ := cell_of_trod_int Tryz.underlying3 h4
  obtain ⟨p, rfl, hp⟩ := cell_of_trod_int Tryz.underlying3 h5
  obtain ⟨q, rfl, hq⟩ := cell_of_trod_int Tryz.underlying3 h6
  exact ⟨⟨a, b, c, d, e, p, q⟩, ⟨ha, hb, hc, hd, he, hp, hq⟩, rfl⟩
theorem pair_cells {fuel : Nat} {c0 c1 : Value} {x : DataW H × List MemPlace} (h : DataW.trod enc Tryz.prog w 0 spare held fuel 76 [c0, c1] = some x) :
  ∃ a b : Int, c0 = .int .i64 a /\ c1 = .int .i64 b /\ (Lit.int .i64 a).wf = true /\ (Lit.int .i64 b).wf = true := by
 obtain ⟨xs, m, _, _, _, hlen, hg⟩ := DataW.trod_array Tryz.underlying76 h
 have h0 := hg 0 (by omega)
 have h1 := hg 1 (by omega)
 simp only [cInt, Nat.zero_mul, Nat.one_mul, List.drop_zero, List.drop_succ_cons, List.take_succ_cons, List.take_zero] at h0 h1
 rw [List.getElem?_eq_getElem (by omega)] at h0 h1
 obtain ⟨a, rfl, ha⟩ := cell_of_trod_int Tryz.underlying3 h0
 obtain ⟨b, rfl, hb⟩ := cell_of_trod_int Tryz.underlying3 h1
 exact ⟨a, b, rfl, rfl, ha, hb⟩
theorem accs_read {fuel : Nat} {v : Value} {x : DataW H × List MemPlace} (h : DataW.trod enc Tryz.prog w 0 spare held fuel 24 [v] = some x) :
  ∃ (A : Option Addr) (n c : Nat) (l : List Acc), v = .slice A n c /\ l.length = n /\ n <= maxLen /\ (∀ a ∈ l, a.wf) /\ AccsAt w w.heap.size A l :=
 rows_read Acc.zero Tryz.underlying24 cAcc (by decide) (fun _ => rfl) (fun _ _ _ h hl => acc_read h hl) h
theorem lnks_read {fuel : Nat} {v : Value} {x : DataW H × List MemPlace} (h : DataW.trod enc Tryz.prog w 0 spare held fuel 104 [v] = some x) :
  ∃ (A : Option Addr) (n c : Nat) (l : List Lnk), v = .slice A n c /\ l.length = n /\ n <= maxLen /\ (∀ a ∈ l, a.wf) /\ LnksAt w w.heap.size A l :=
 rows_read Lnk.zero Tryz.underlying104 cLnk (by decide) (fun _ => rfl) (fun _ _ _ h hl => lnk_read h hl) h
theorem itms_read {fuel : Nat} {v : Value} {x : DataW H × List MemPlace} (h : DataW.trod enc Tryz.prog w 0 spare held fuel 60 [v] = some x) :
  ∃ (A : Option Addr) (n c : Nat) (l : List Itm), v = .slice A n c /\ l.length = n /\ n <= maxLen /\ (∀ a ∈ l, a.wf) /\ ItmsAt w w.heap.size A l :=
 rows_read ⟨0, 0, 0, 0, 0, 0, 0⟩ Tryz.underlying60 cItm (by decide) (fun _ => rfl) (fun _ _ _ h hl => itm_read h hl) h
theorem ent_read {fuel : Nat} {cs : List Value} {x : DataW H × List MemPlace} (h : DataW.trod enc Tryz.prog w 0 spare held fuel 106 cs = some x) (hl : cs.length = 5) :
  ∃ a : Ent, a.Out w w.heap.size /\ cs = a.cells := by
 match cs, hl with
 | [c0, c1, c2, c3, c4], _ =>
  obtain ⟨_, _, h0⟩ := field_read Tryz.underlying106 h 0 9 0 rfl
  obtain ⟨_, _, h1⟩ := field_read Tryz.underlying106 h 1 9 1 rfl
  obtain ⟨_, _, h2⟩ := field_read Tryz.underlying106 h 2 24 2 rfl
  obtain ⟨_, _, h3⟩ := field_read Tryz.underlying106 h 3 104 3 rfl
  obtain ⟨_, _, h4⟩ := field_read Tryz.underlying106 h 4 4 4 rfl
  simp only [cStr, cBool, cSA, cSL, List.drop_zero, List.drop_succ_cons, List.take_succ_cons, List.take_zero] at h0 h1 h2 h3 h4
  obtain ⟨s, rfl, hs⟩ := cell_of_trod_string Tryz.underlying9 h0
  obtain ⟨u, rfl, hu⟩ := cell_of_trod_string Tryz.underlying9 h1
  obtain ⟨A, n, c, l, rfl, k1, k2, k3, k4⟩ := accs_read h2
  obtain ⟨B, m, d, q, rfl, j1, j2, j3, j4⟩ := lnks_read h3
  obtain ⟨b, rfl⟩ := cell_of_trod_bool Tryz.underlying4 h4
  exact ⟨⟨s, u, A, n, c, l, B, m, d, q, b⟩, ⟨k1, k2, k4, k3, j1, j2, j4, j3, hs, hu⟩, rfl⟩
theorem ents_read {fuel : Nat} {v : Value} {x : DataW H × List MemPlace} (h : DataW.trod enc Tryz.prog w 0 spare held fuel 27 [v] = some x) :
  ∃ (A : Option Addr) (n c : Nat) (l : List Ent), v = .slice A n c /\ l.length = n /\ n <= maxLen /\ (∀ a ∈ l, a.Out w w.heap.size) /\ RowsAt Ent.cells 5 w w.heap.size A l :=
 rows_read Ent.zero Tryz.underlying27 cEnt (by decide) (fun _ => rfl) (fun _ _ _ h hl => ent_read h hl) h
theorem raw_read {fuel : Nat} {cs : List Value} {x : DataW H × List MemPlace} (h : DataW.trod enc Tryz.prog w 0 spare held fuel 78 cs = some x) (hl : cs.length = 9) :
  ∃ a : Raw, (a.wf /\ a.At w w.heap.size) /\ cs = a.cells := by
 match cs, hl with
 | [c0, c1, c2, c3, c4, c5, c6, c7, c8], _ =>
  obtain ⟨_, _, h0⟩ := field_read Tryz.underlying78 h 0 3 0 rfl
  obtain ⟨_, _, h1⟩ := field_read Tryz.underlying78 h 1 3 1 rfl
  obtain ⟨_, _, h2⟩ := field_read Tryz.underlying78 h 2 3 2 rfl
  obtain ⟨_, _, hS⟩ := field_read Tryz.underlying78 h 3 76 3 rfl
  obtain ⟨_, _, hF⟩ := field_read Tryz.underlying78 h 4 76 5 rfl
  obtain ⟨_, _, h7⟩ := field_read Tryz.underlying78 h 5 60 7 rfl
  obtain ⟨_, _, h8⟩ := field_read Tryz.underlying78 h 6 60 8 rfl
  simp only [cInt, cSI, cPair, List.drop_zero, List.drop_succ_cons, List.take_succ_cons, List.take_zero] at h0 h1 h2 hS hF h7 h8
  obtain ⟨a, rfl, ha⟩ := cell_of_trod_int Tryz.underlying3 h0
  obtain ⟨b, rfl, hb⟩ := cell_of_trod_int Tryz.underlying3 h1
  obtain ⟨c, rfl, hc⟩ := cell_of_trod_int Tryz.underlying3 h2
  obtain ⟨s0, s1, rfl, rfl, w0, w1⟩ := pair_cells hS
  obtain ⟨f0, f1, rfl, rfl, u0, u1⟩ := pair_cells hF
  obtain ⟨A, n, c', l, rfl, k1, k2, k3, k4⟩ := itms_read h7
  obtain ⟨B, m, d, q, rfl, j1, j2, j3, j4⟩ := itms_read h8
  exact ⟨⟨a, b, c, s0, s1, f0, f1, A, n, c', B, m, d, l, q⟩, ⟨⟨ha, hb, hc, w0, w1, u0, u1, k3, j3⟩, ⟨k1, by unfold maxLen at k2; omega, k4, j1, by unfold maxLen at j2; omega, j4⟩⟩, rfl⟩
theorem raws_read {fuel : Nat} {v : Value} {x : DataW H × List MemPlace} (h : DataW.trod enc Tryz.prog w 0 spare held fuel 30 [v] = some x) :
  ∃ (A : Option Addr) (n c : Nat) (l : List Raw), v = .slice A n c /\ l.length = n /\ n <= maxLen /\ (∀ a ∈ l, a.wf /\ a.At w w.heap.size) /\ RawsAt w w.heap.size A l :=
 rows_read ⟨0, 0, 0, 0, 0, 0, 0, none, 0, 0, none, 0, 0, [], []⟩ Tryz.underlying30 cRaw (by decide) (fun _ => rfl) (fun _ _ _ h hl => raw_read h hl) h
theorem grp_read {fuel : Nat} {cs : List Value} {x : DataW H × List MemPlace} (h : DataW.trod enc Tryz.prog w 0 spare held fuel 29 cs = some x) (hl : cs.length = 21) :
  ∃ g : Grp, g.Out w w.heap.size /\ cs = [.string g.cur, .int .i64 g.Y, .int .i64 g.M, .int .i64 g.N, .slice g.cA g.cn g.cc, .int .i64 g.r0, .int .i64 g.r1, .int .i64 g.r2, .int .i64 g.r3, .int .i64 g.r4, .int .i64 g.r5, .int .i64 g.r6, .int .i64 g.r7, .int .i64 g.r8, .int .i64 g.r9, .int .i64 g.r10, .int .i64 g.r11, .int .i64 g.r12, .int .i64 g.r13, .int .i64 g.r14, .slice g.eA g.en g.ec] := by
 match cs, hl with
 | [c0, c1, c2, c3, c4, c5, c6, c7, c8, c9, c10, c11, c12, c13, c14, c15, c16, c17, c18, c19, c20], _ =>
  obtain ⟨_, _, hS⟩ := field_read Tryz.underlying29 h 0 9 0 rfl
  obtain ⟨_, _, hC⟩ := field_read Tryz.underlying29 h 1 23 1 rfl
  obtain ⟨_, _, hA⟩ := field_read Tryz.underlying29 h 2 24 4 rfl
  obtain ⟨_, _, hR⟩ := field_read Tryz.underlying29 h 3 26 5 rfl
  obtain ⟨_, _, hE⟩ := field_read Tryz.underlying29 h 4 27 20 rfl
  simp only [cStr, cCal, cSA, cRol, cSE, List.drop_zero, List.drop_succ_cons, List.take_succ_cons, List.take_zero] at hS hC hA hR hE
  obtain ⟨_, _, h1⟩ := field_read Tryz.underlying23 hC 0 3 0 rfl
  obtain ⟨_, _, h2⟩ := field_read Tryz.underlying23 hC 1 3 1 rfl
  obtain ⟨_, _, h3⟩ := field_read Tryz.underlying23 hC 2 3 2 rfl
  obtain ⟨_, _, q0⟩ := field_read Tryz.underlying26 hR 0 3 0 rfl
  obtain ⟨_, _, q1⟩ := field_read Tryz.underlying26 hR 1 3 1 rfl
  obtain ⟨_, _, q2⟩ := field_read Tryz.underlying26 hR 2 3 2 rfl
  obtain ⟨_, _, q3⟩ := field_read Tryz.underlying26 hR 3 3 3 rfl
  obtain ⟨_, _, q4⟩ := field_read Tryz.underlying26 hR 4 3 4 rfl
  obtain ⟨_, _, q5⟩ := field_read Tryz.underlying26 hR 5 3 5 rfl
  obtain ⟨_, _, q6⟩ := field_read Tryz.underlying26 hR 6 3 6 rfl
  obtain ⟨_, _, q7⟩ := field_read Tryz.underlying26 hR 7 3 7 rfl
  obtain ⟨_, _, q8⟩ := field_read Tryz.underlying26 hR 8 3 8 rfl
  obtain ⟨_, _, q9⟩ := field_read Tryz.underlying26 hR 9 3 9 rfl
  obtain ⟨_, _, q10⟩ := field_read Tryz.underlying26 hR 10 3 10 rfl
  obtain ⟨_, _, q11⟩ := field_read Tryz.underlying26 hR 11 3 11 rfl
  obtain ⟨_, _, q12⟩ := field_read Tryz.underlying26 hR 12 3 12 rfl
  obtain ⟨_, _, q13⟩ := field_read Tryz.underlying26 hR 13 3 13 rfl
  obtain ⟨_, _, q14⟩ := field_read Tryz.underlying26 hR 14 3 14 rfl
  simp only [cInt, List.drop_zero, List.drop_succ_cons, List.take_succ_cons, List.take_zero] at h1 h2 h3 q0 q1 q2 q3 q4 q5 q6 q7 q8 q9 q10 q11 q12 q13 q14
  obtain ⟨s, rfl, hs⟩ := cell_of_trod_string Tryz.underlying9 hS
  obtain ⟨Y, rfl, hY⟩ := cell_of_trod_int Tryz.underlying3 h1
  obtain ⟨M, rfl, hM⟩ := cell_of_trod_int Tryz.underlying3 h2
  obtain ⟨N, rfl, hN⟩ := cell_of_trod_int Tryz.underlying3 h3
  obtain ⟨A, n, c, l, rfl, k1, k2, k3, k4⟩ := accs_read hA
  obtain ⟨r0, rfl, v0⟩ := cell_of_trod_int Tryz.underlying3 q0
  obtain ⟨r1, rfl, v1⟩ := cell_of_trod_int Tryz.underlying3 q1
  obtain ⟨r2, rfl, v2⟩ := cell_of_trod_int Tryz.underlying3 q2
  obtain ⟨r3, rfl, v3⟩ := cell_of_trod_int Tryz.underlying3 q3
  obtain ⟨r4, rfl, v4⟩ := cell_of_trod_int Tryz.underlying3 q4
  obtain ⟨r5, rfl, v5⟩ := cell_of_trod_int Tryz.underlying3 q5
  obtain ⟨r6, rfl, v6⟩ := cell_of_trod_int Tryz.underlying3 q6
  obtain ⟨r7, rfl, v7⟩ := cell_of_trod_int Tryz.underlying3 q7
  obtain ⟨r8, rfl, v8⟩ := cell_of_trod_int Tryz.underlying3 q8
  obtain ⟨r9, rfl, v9⟩ := cell_of_trod_int Tryz.underlying3 q9
  obtain ⟨r10, rfl, v10⟩ := cell_of_trod_int Tryz.underlying3 q10
  obtain ⟨r11, rfl, v11⟩ := cell_of_trod_int Tryz.underlying3 q11
  obtain ⟨r12, rfl, v12⟩ := cell_of_trod_int Tryz.underlying3 q12
  obtain ⟨r13, rfl, v13⟩ := cell_of_trod_int Tryz.underlying3 q13
  obtain ⟨r14, rfl, v14⟩ := cell_of_trod_int Tryz.underlying3 q14
  obtain ⟨B, m, d, q, rfl, j1, j2, j3, j4⟩ := ents_read hE
  refine ⟨⟨s, Y, M, N, A, n, c, l, r0, r1, r2, r3, r4, r5, r6, r7, r8, r9, r10, r11, r12, r13, r14, B, m, d, q⟩, ⟨k1, k2, k4, k3, j1, j2, j4, j3, hs, ?_⟩, rfl⟩
  simp only [Gr.roles, List.forall_mem_cons]
  exact ⟨v0, v1, v2, v3, v4, v5, v6, v7, v8, v9, v10, v11, v12, v13, v14, fun _ h => by cases h⟩
theorem grp_arg {r : Reach} {b0 : Nat} {v : Value} {d : DataW H} {p : List MemPlace} (hv : Value.okWide Tryz.prog w r b0 29 v) (h : DataW.Trod enc Tryz.prog w 0 spare held 29 v d p) :
  ∃ g : Grp, v = .agg #[.string g.cur, .int .i64 g.Y, .int .i64 g.M, .int .i64 g.N, .slice g.cA g.cn g.cc, .int .i64 g.r0, .int .i64 g.r1, .int .i64 g.r2, .int .i64 g.r3, .int .i64 g.r4, .int .i64 g.r5, .int .i64 g.r6, .int .i64 g.r7, .int .i64 g.r8, .int .i64 g.r9, .int .i64 g.r10, .int .i64 g.r11, .int .i64 g.r12, .int .i64 g.r13, .int .i64 g.r14, .slice g.eA g.en g.ec] /\ g.Out w w.heap.size := by
 obtain ⟨cs, rfl, hsz⟩ := okWide_struct Tryz.underlying29 hv
 rw [cGrp] at hsz
 obtain ⟨fuel, hf⟩ := h
 simp only [Value.cells] at hf
 obtain ⟨g, hg, e⟩ := grp_read hf (by simpa using hsz)
 refine ⟨g, ?_, hg⟩
 have : cs = (⟨[.string g.cur, .int .i64 g.Y, .int .i64 g.M, .int .i64 g.N, .slice g.cA g.cn g.cc, .int .i64 g.r0, .int .i64 g.r1, .int .i64 g.r2, .int .i64 g.r3, .int .i64 g.r4, .int .i64 g.r5, .int .i64 g.r6, .int .i64 g.r7, .int .i64 g.r8, .int .i64 g.r9, .int .i64 g.r10, .int .i64 g.r11, .int .i64 g.r12, .int .i64 g.r13, .int .i64 g.r14, .slice g.eA g.en g.ec]⟩ : Array Value) := by rw [<- e]
 rw [this]
theorem raws_arg {r : Reach} {b0 : Nat} {v : Value} {d : DataW H} {p : List MemPlace} (hv : Value.okWide Tryz.prog w r b0 30 v) (h : DataW.Trod enc Tryz.prog w 0 spare held 30 v d p) :
  ∃ (A : Option Addr) (n c : Nat) (l : List Raw), v = .slice A n c /\ l.length = n /\ n <= maxLen /\ (∀ a ∈ l, a.wf /\ a.At w w.heap.size) /\ RawsAt w w.heap.size A l := by
 obtain ⟨fuel, hf⟩ := h
 simp only [Value.okWide, Tryz.underlying30] at hv
 have : v.cells.toList = [v] := by
  cases v <;> first | rfl | (exfalso; simp_all [Cell.okWide, Cell.ok])
 rw [this] at hf
 exact raws_read hf
end
end Go.Proofs.YtccapfbblnnfjaaGreat
namespace Go.Proofs.YtccapfbblnnfjaaGreat
open Go.RowKit
def OtherRow (w : World) (t : TypeId) (row : Option Nat) : Prop := ∀ b, row = some b -> ∃ cs s fr, w.heap[b]? = some (.cells cs s fr) /\ s ≠ t
theorem LimbsAt.kept {K : IntKind} {w w' : World} {A : Option Addr} {l : List Int} {row : Option Nat} (h : LimbsAt K w w.heap.size A l) (hg : w.grownBy w' row) (hr : OtherRow w (limbTy K) row) : LimbsAt K w' w'.heap.size A l := by
 rcases h with h | ⟨d, o, e, hl, hc, ht⟩
 ·exact .inl h
 ·have hne : some d ≠ row := by
   intro e'
   obtain ⟨cs, s, fr, h1, h2⟩ := hr d e'.symm
   obtain ⟨cur, fr', h3⟩ := ht
   rw [h1] at h3
   cases h3
   exact h2 rfl
  exact .inr ⟨d, o, e, Nat.lt_of_lt_of_le hl hg.size, fun j hj => (World.cell?_of_block (w := w) (hg.block d hl hne)).trans (hc j hj), ht.of_block (hg.block d hl hne)⟩
theorem PI.kept {w w' : World} {k : Nat} {v : Value} {z : Int} {row : Option Nat} (h : PI w w.heap.size k v z) (hg : w.grownBy w' row) (hr : OtherRow w 182 row) : PI w' w'.heap.size k v z := by
 obtain ⟨g, A, n, c, l, h1, h2, h3, h4, h5, h6, h7, h8, h9⟩ := h
 exact ⟨g, A, n, c, l, h1, h2, h3, h4, h5, h6, h7, h8, h9.kept hg hr⟩
theorem RI.kept {w w' : World} {k j : Nat} {v : Value} {N D : Int} {row : Option Nat} (h : RI w w.heap.size k j v N D) (hg : w.grownBy w' row) (hr : OtherRow w 182 row) : RI w' w'.heap.size k j v N D := by
 obtain ⟨g1, A1, n1, c1, g2, A2, n2, c2, e, h1, h2⟩ := h
 exact ⟨g1, A1, n1, c1, g2, A2, n2, c2, e, h1.kept hg hr, h2.kept hg hr⟩
theorem R1.PI.kept {w w' : World} {k : Nat} {v : Value} {z : Int} {row : Option Nat} (h : R1.PI w w.heap.size k v z) (hg : w.grownBy w' row) (hr : OtherRow w 3 row) : R1.PI w' w'.heap.size k v z := by
 obtain ⟨g, A, n, c, l, h1, h2, h3, h4, h5, h6, h7, h8, h9⟩ := h
 exact ⟨g, A, n, c, l, h1, h2, h3, h4, h5, h6, h7, h8, h9.kept hg hr⟩
theorem R1.RI.kept {w w' : World} {k j : Nat} {v : Value} {N D : Int} {row : Option Nat} (h : R1.RI w w.heap.size k j v N D) (hg : w.grownBy w' row) (hr : OtherRow w 3 row) : R1.RI w' w'.heap.size k j v N D := by
 obtain ⟨g1, A1, n1, c1, g2, A2, n2, c2, e, h1, h2⟩ := h
 exact ⟨g1, A1, n1, c1, g2, A2, n2, c2, e, R1.PI.kept h1 hg hr, R1.PI.kept h2 hg hr⟩
theorem RowsAt.keptB {α : Type} {f : α -> List Value} {sz : Nat} {w w' : World} {B : Nat} {A : Option Addr} {l : List α} {row : Option Nat} (h : RowsAt f sz w B A l) (hg : w.grownBy w' row) (hB : B <= w.heap.size) (hr : ∀ b, row = some b -> B <= b) : RowsAt f sz w' B A l := by
 rcases h with h | ⟨b, o, e, hl, hc⟩
 ·exact .inl h
 ·have hne : some b ≠ row := fun e' => by have := hr b e'.symm; omega
  exact .inr ⟨b, o, e, hl, fun k hk j v hv => (World.cell?_of_block (w := w) (hg.block b (Nat.lt_of_lt_of_le hl hB) hne)).trans (hc k hk j v hv)⟩
end Go.Proofs.YtccapfbblnnfjaaGreat
namespace Go.Proofs.YtccapfbblnnfjaaGreat
open Go.RowKit
def Con.Fits (R : World -> Nat -> Value -> Int -> Int -> Prop) (w : World) (B : Nat) (x : Con) (y : Cnt) : Prop :=
 x.Holds R w w.heap.size y /\ ItmsAt w B x.iA y.its /\ ItmsAt w B x.hA y.shs
theorem Con.Fits.keptR {w w' : World} {B : Nat} {x : Con} {y : Cnt} {row : Option Nat} (h : x.Fits SR w B y) (hg : w.grownBy w' row) (hB : B <= w.heap.size) (hr : ∀ b, row = some b -> B <= b) (ht : OtherRow w 3 row) : x.Fits SR w' B y := by
 obtain ⟨h0, h1, h2⟩ := h
 have k1 := h1.keptB hg hB hr
 have k2 := h2.keptB hg hB hr
 have hB' : B <= w'.heap.size := Nat.le_trans hB hg.size
 exact ⟨⟨h0.he, h0.hm, h0.hs, R1.RI.kept h0.hsh hg ht, R1.RI.kept h0.hfi hg ht, h0.hso, h0.hfo, h0.hil, h0.hin, h0.hix, k1.more hB', h0.hhl, h0.hhn, h0.hhx, k2.more hB'⟩, k1, k2⟩
theorem Con.Fits.belowR {w w' : World} {B : Nat} {x : Con} {y : Cnt} (h : x.Fits SR w B y) (hb : Below w.heap.size w w') (hB : B <= w.heap.size) : x.Fits SR w' B y :=
 ⟨h.1.atR hb, RowsAt.below h.2.1 hb hB, RowsAt.below h.2.2 hb hB⟩
theorem Con.Fits.belowD {w w' : World} {B : Nat} {x : Con} {y : Cnt} (h : x.Fits SD w B y) (hb : Below w.heap.size w w') (hB : B <= w.heap.size) : x.Fits SD w' B y :=
 ⟨h.1.atD hb, RowsAt.below h.2.1 hb hB, RowsAt.below h.2.2 hb hB⟩
end Go.Proofs.YtccapfbblnnfjaaGreat
