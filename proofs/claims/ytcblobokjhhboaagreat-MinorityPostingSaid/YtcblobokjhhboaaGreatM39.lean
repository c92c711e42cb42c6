/- Texts. -/
import Derived.Test.YtcblobokjhhboaaGreatRows
import Derived.ProofKit
import Derived.OpenShut
import Derived.ShutString
import Derived.ChangeOld
import Derived.Deep.Slices
import Derived.Laws.OwnMore
import Derived.Test.YtcblobokjhhboaaGreatG15
import Derived.Test.YtcblobokjhhboaaGreatG20
import Derived.Test.YtcblobokjhhboaaGreatG28
import Derived.Test.YtcblobokjhhboaaGreatG31
import Derived.Test.YtcblobokjhhboaaGreatM33
import Derived.Test.YtcblobokjhhboaaGreatG38
import Derived.Test.YtcblobokjhhboaaGreatG40
import Derived.Test.YtcblobokjhhboaaGreatG41
set_option linter.unusedVariables false
set_option linter.unusedSimpArgs false
set_option maxRecDepth 100000
set_option maxHeartbeats 8000000
namespace Go.Proofs.YtcblobokjhhboaaGreat
open Go.RowKit
theorem tk {P : Program} {ops : Array Oper} {Q : Exit -> Act -> World -> Prop} {md : Region.Mode} {S : World -> Prop} {i : Nat} {oi : Oper} {v : Value} {n : Nat} {l : Array Bool} {a : Act} {w : World} (hi : ops[i]? = some oi) (hs : (Region.noSelect ops && Region.free md ops l i && (Region.ready md ops l).contains i) = true) (hQ : ∀ c a w, Q (.panic c) (a.put oi.dst v) w -> Q (.panic c) a w) (hy : YieldsIf P ops S oi v a) (hS : S w) (h : wpAnyH P md ops Q S n (l.setIfInBounds i true) (a.put oi.dst v) w) : wpAnyH P md ops Q S (n + 1) l a w := by
 simp only [Bool.and_eq_true] at hs
 exact wpAnyH_take hi hs.1.1 hs.1.2 hs.2 hQ hy hS h
end Go.Proofs.YtcblobokjhhboaaGreat
namespace Go.Proofs.YtcblobokjhhboaaGreat
open Go.RowKit
theorem redBy_pos {a D : Int} (hD : 0 < D) : redBy a D = (Int.gcd a D : Int) := by unfold redBy; rw [if_neg (by omega)]
theorem red_le (a : Int) {D : Int} (hD : 0 < D) : Int.tdiv D (Int.gcd a D) <= D := by
 obtain ⟨q, hq⟩ := Int.gcd_dvd_right a D
 have h0 : (0 : Int) <= (Int.gcd a D : Int) := Int.natCast_nonneg _
 obtain ⟨G, hG⟩ : ∃ G, G = (Int.gcd a D : Int) := ⟨_, rfl⟩
 rw [<- hG] at hq h0 ⊢
 have hG0 : G ≠ 0 := by intro e; subst e; rw [Int.zero_mul] at hq; omega
 have e2 : Int.tdiv D G = q := by rw [hq, Int.mul_tdiv_cancel_left _ hG0]
 rw [e2]
 have hqp : 0 < q := by
  rw [hq] at hD
  exact Int.pos_of_mul_pos_right hD (by omega)
 have : 1 * q <= G * q := Int.mul_le_mul_of_nonneg_right (by omega) (by omega)
 rw [hq]; omega
structure Raw where
 ent : Int
 meth : Int
 since : Int
 s0 : Int
 s1 : Int
 f0 : Int
 f1 : Int
 iA : Option Addr
 im : Nat
 ic : Nat
 hA : Option Addr
 hm : Nat
 hc : Nat
 its : List Itm
 shs : List Itm
def Raw.cells (x : Raw) : List Value := [.int .i64 x.ent, .int .i64 x.meth, .int .i64 x.since, .int .i64 x.s0, .int .i64 x.s1, .int .i64 x.f0, .int .i64 x.f1, .slice x.iA x.im x.ic, .slice x.hA x.hm x.hc]
abbrev RawsAt := RowsAt Raw.cells 9
theorem rawSize : (Tryz.prog.info? 57).map (·.size) = some 9 := by kernel_rfl
def Itm.sm (x : Itm) : Bool := decide (x.amt <= 1000000000000) && decide (-1000000000000 <= x.amt)
theorem Itm.sm_small {x : Itm} (h : x.sm = true) : x.small := by
 unfold Itm.sm at h
 simp only [Bool.and_eq_true, decide_eq_true_eq] at h
 exact ⟨h.2, h.1⟩
namespace Raw
def few (l : List Itm) : Bool := l.all Itm.sm && decide (l.length <= 40)
def quot (a b : Int) : Bool := decide (0 < b) && decide (b <= 1000000) && decide (a <= 10 * b) && decide (-(10 * b) <= a)
def ok (x : Raw) : Bool := quot x.s0 x.s1 && quot x.f0 x.f1 && few x.its && few x.shs
def cnt (x : Raw) : Cnt := ⟨x.ent, x.meth, x.since, Int.tdiv x.s0 (Int.gcd x.s0 x.s1), Int.tdiv x.s1 (Int.gcd x.s0 x.s1), Int.tdiv x.f0 (Int.gcd x.f0 x.f1), Int.tdiv x.f1 (Int.gcd x.f0 x.f1), x.its, x.shs⟩
structure At (w : World) (B : Nat) (x : Raw) : Prop where
 hil : x.its.length = x.im
 him : x.im <= 9223372036854775807
 hiA : ItmsAt w B x.iA x.its
 hhl : x.shs.length = x.hm
 hhm : x.hm <= 9223372036854775807
 hhA : ItmsAt w B x.hA x.shs
theorem At.below {w w' : World} {B C : Nat} {x : Raw} (h : x.At w B) (hb : Below C w w') (hC : B <= C) : x.At w' B :=
 ⟨h.hil, h.him, RowsAt.below h.hiA hb hC, h.hhl, h.hhm, RowsAt.below h.hhA hb hC⟩
theorem At.more {w : World} {B C : Nat} {x : Raw} (h : x.At w B) (hC : B <= C) : x.At w C :=
 ⟨h.hil, h.him, RowsAt.more h.hiA hC, h.hhl, h.hhm, RowsAt.more h.hhA hC⟩
theorem few_ok {l : List Itm} (h : few l = true) : l.length <= 40 /\ ∀ x ∈ l, x.small := by
 unfold few at h
 simp only [Bool.and_eq_true, decide_eq_true_eq, List.all_eq_true] at h
 exact ⟨h.2, fun x hx => Itm.sm_small (h.1 x hx)⟩
theorem quot_ok {a b : Int} (h : quot a b = true) : ShareOk a b := by
 unfold quot at h
 simp only [Bool.and_eq_true, decide_eq_true_eq] at h
 obtain ⟨⟨⟨h1, h2⟩, h3⟩, h4⟩ := h
 exact ⟨h1, h2, h4, h3⟩
theorem red_ok {a b : Int} (h : ShareOk a b) : ShareOk (Int.tdiv a (Int.gcd a b)) (Int.tdiv b (Int.gcd a b)) := by
 obtain ⟨hb, hm, hl, hu⟩ := h
 have r1 := R1.red_pos a hb
 have r2 := red_le a hb
 obtain ⟨q, hq⟩ := Int.gcd_dvd_right a b
 obtain ⟨p, hp⟩ := Int.gcd_dvd_left a b
 have hG0 : (0 : Int) <= (Int.gcd a b : Int) := Int.natCast_nonneg _
 obtain ⟨G, hG⟩ : ∃ G, G = (Int.gcd a b : Int) := ⟨_, rfl⟩
 rw [<- hG] at hp hq hG0 r1 r2 ⊢
 have hne : G ≠ 0 := by intro e; subst e; rw [Int.zero_mul] at hq; omega
 have e1 : Int.tdiv a G = p := by rw [hp, Int.mul_tdiv_cancel_left _ hne]
 have e2 : Int.tdiv b G = q := by rw [hq, Int.mul_tdiv_cancel_left _ hne]
 rw [e2] at r1 r2
 rw [e1, e2]
 have hGp : 0 < G := by omega
 have u : G * p <= G * (10 * q) := by rw [<- hp, Int.mul_left_comm, <- hq]; exact hu
 have v : G * (-(10 * q)) <= G * p := by rw [<- hp, Int.mul_neg, Int.mul_left_comm, <- hq]; exact hl
 exact ⟨r1, by omega, Int.le_of_mul_le_mul_left v hGp, Int.le_of_mul_le_mul_left u hGp⟩
end Raw
section
variable (w : World)
theorem quot_any (a b : Int) : Calls Tryz.prog 39 #[.agg #[.int .i64 a, .int .i64 b]] w fun e w' => e = .returned (.bool (Raw.quot a b)) /\ Below w.heap.size w w' := by
 have hB0 := (Below.refl w.heap.size w).alloc (Nat.le_refl _) (.cells #[.int .i64 a, .int .i64 b] 54)
 by_cases h1 : 0 < b
 case neg =>
  have HV : Hid (Raw.quot a b = false) := by show _ = _; rw [Raw.quot, decide_eq_false h1]; rfl
  go_enter Tryz.func39, Tryz.ntmps39
  go_wp2
  go_ret
  exact ⟨by rw [HV.out]; rfl, hB0⟩
 by_cases h2 : b <= 1000000
 case neg =>
  have HV : Hid (Raw.quot a b = false) := by show _ = _; rw [Raw.quot, decide_eq_false h2]; simp
  go_enter Tryz.func39, Tryz.ntmps39
  go_wp2
  go_ret
  exact ⟨by rw [HV.out]; rfl, hB0⟩
 by_cases h3 : a <= 10 * b
 case neg =>
  have HV : Hid (Raw.quot a b = false) := by show _ = _; rw [Raw.quot, decide_eq_false h3]; simp
  go_enter Tryz.func39, Tryz.ntmps39
  go_wp2
  go_ret
  exact ⟨by rw [HV.out]; rfl, hB0⟩
 have HV : Hid (Raw.quot a b = decide (-10 * b <= a)) := by
  show _ = _
  rw [Raw.quot, decide_eq_true h1, decide_eq_true h2, decide_eq_true h3, show -(10 * b) = -10 * b by omega]; simp
 go_enter Tryz.func39, Tryz.ntmps39
 go_wp2
 go_ret
 exact ⟨by rw [HV.out]; rfl, hB0⟩
theorem few_any (A : Option Addr) (n c : Nat) (l : List Itm) (hl : l.length = n) (hn : n <= 9223372036854775807) (h : ItmsAt w w.heap.size A l) :
  Calls Tryz.prog 40 #[.slice A n c] w fun e w' => e = .returned (.bool (Raw.few l)) /\ Below w.heap.size w w' := by
 have Hl := Lib.hid hl
 clear hl
 go_enter Tryz.func40, Tryz.ntmps40
 go_wp2
 go_loopw [3] (fun i wr => ∃ k : Nat, k <= n /\ i = .int .i64 k /\ (l.take k).all Itm.sm = true /\ Below w.heap.size w wr) (fun i _ => n - (intOf i).toNat)
 case atStart => exact ⟨0, Nat.zero_le _, rfl, rfl, Below.refl _ _⟩
 case round =>
  obtain ⟨k, hk, rfl, ha, hb⟩ := hrel
  have Ha := Lib.hid ha
  clear ha
  by_cases hlt : k < n
  ·have hkl : k < l.length := by have := Hl.out; omega
   obtain ⟨b, o, rfl, hbB, hr, c3, c6⟩ := ItmsAt.seven (RowsAt.below h hb (Nat.le_refl _)) hkl
   have hbw : b < wr.heap.size := Nat.lt_of_lt_of_le hbB hb.size
   obtain ⟨am, ham⟩ : ∃ am, am = l[k].amt := ⟨_, rfl⟩
   rw [<- ham] at c6
   have Ham := Lib.hid ham
   clear hr c3 ham
   have hbad : l[k].sm = false -> Hid (Raw.few l = false) := fun hs => Lib.hid (by
    unfold Raw.few
    have : l.all Itm.sm = false := by rw [List.all_eq_false]; exact ⟨l[k], List.getElem_mem hkl, by simp [hs]⟩
    rw [this]; rfl)
   by_cases h1 : (1000000000000 : Int) < am
   ·have HV := hbad (by unfold Itm.sm; rw [<- Ham.out, decide_eq_false (show ¬ am <= 1000000000000 by omega)]; rfl)
    clear hbad
    go_wp2
    go_ret
    exact ⟨by rw [HV.out]; rfl, hb⟩
   by_cases h2 : am < (-1000000000000 : Int)
   ·have HV := hbad (by unfold Itm.sm; rw [<- Ham.out, decide_eq_false (show ¬ (-1000000000000 : Int) <= am by omega), Bool.and_false])
    clear hbad
    go_wp2
    go_ret
    exact ⟨by rw [HV.out]; rfl, hb⟩
   ·have Ha2 : Hid ((l.take (k + 1)).all Itm.sm = true) := by
     show _ = _
     rw [List.take_succ_eq_append_getElem hkl, List.all_append, Ha.out]
     simp only [List.all_cons, List.all_nil, Bool.and_true, Bool.true_and]
     unfold Itm.sm
     rw [<- Ham.out, decide_eq_true (show am <= 1000000000000 by omega), decide_eq_true (show (-1000000000000 : Int) <= am by omega)]; rfl
    clear hbad
    go_wp2
    go_roundw
    case rel => exact ⟨k + 1, by omega, by go_num, Ha2.out, hb⟩
    case measure => simp [intOf]; omega
  ·obtain rfl : k = n := by omega
   have HV : Hid (Raw.few l = decide ((k : Int) <= 40)) := by
    show _ = _
    have := Ha.out
    rw [<- Hl.out, List.take_length] at this
    rw [Raw.few, this, Hl.out, Bool.true_and]
    exact decide_eq_decide.2 (by omega)
   go_wp2
   go_ret
   exact ⟨by rw [HV.out]; rfl, hb⟩
end
end Go.Proofs.YtcblobokjhhboaaGreat
namespace Go.Proofs.YtcblobokjhhboaaGreat
open Go.ChangeShapes Go.WideShapes Go.ChangeAt Go.RowKit Go.Deep

section
variable {H : Type} {enc : TypeId × Value -> H} {P : Program} {w : World} {base : Nat} {spare : Nat -> Bool} {held : Bool}
theorem field_read {t : TypeId} {fs : Array Field} {fuel : Nat} {cs : List Value} {x : DataW H × List MemPlace} (ht : P.underlying t = some (.struct fs)) (h : DataW.trod enc P w base spare held fuel t cs = some x) (j : Nat) (T : TypeId) (o : Nat) (hf : (fs[j]?).map (fun f => (f.type, f.offset)) = some (T, o)) :
  ∃ n y, DataW.trod enc P w base spare held n T ((cs.drop o).take (P.cellsOf T)) = some y := by
 obtain ⟨xs, n, _, _, _, hlen, hg⟩ := DataW.trod_struct ht h
 rw [Option.map_eq_some_iff] at hf
 obtain ⟨f, hf, e⟩ := hf
 cases e
 have hj : j < fs.size := (Array.getElem?_eq_some_iff.1 hf).1
 exact ⟨n, xs[j]'(by omega), (hg j f hf).trans (List.getElem?_eq_getElem (by omega))⟩
theorem cell_of_trod_int {t : TypeId} {k : IntKind} {fuel : Nat} {v : Value} {x : DataW H × List MemPlace} (ht : P.underlying t = some (.int k)) (h : DataW.trod enc P w base spare held fuel t [v] = some x) : ∃ n, v = .int k n /\ (Lit.int k n).wf = true := by
 obtain ⟨n, e, _, hw⟩ := DataW.trod_int ht h
 exact ⟨n, by simpa using e, hw⟩
theorem cell_of_trod_string {t : TypeId} {fuel : Nat} {v : Value} {x : DataW H × List MemPlace} (ht : P.underlying t = some .string) (h : DataW.trod enc P w base spare held fuel t [v] = some x) : ∃ s : ByteArray, v = .string s /\ s.size <= maxLen := by
 obtain ⟨s, e, _, hw⟩ := DataW.trod_string ht h
 exact ⟨s, by simpa using e, hw⟩
theorem cell_of_trod_bool {t : TypeId} {fuel : Nat} {v : Value} {x : DataW H × List MemPlace} (ht : P.underlying t = some .bool) (h : DataW.trod enc P w base spare held fuel t [v] = some x) : ∃ b : Bool, v = .bool b := by
 obtain ⟨b, e, _⟩ := DataW.trod_bool ht h
 exact ⟨b, by simpa using e⟩
theorem rows_read {α : Type} {f : α -> List Value} {sz : Nat} {Wf : α -> Prop} (zero : α) {tS tE : TypeId} (hu : P.underlying tS = some (.slice tE)) (hce : P.cellsOf tE = sz) (hsz : 0 < sz) (hfl : ∀ a, (f a).length = sz)
  (hread : ∀ (n : Nat) (cs : List Value) (x : DataW H × List MemPlace), DataW.trod enc P w base spare held n tE cs = some x -> cs.length = sz -> ∃ a, Wf a /\ cs = f a)
  {fuel : Nat} {v : Value} {x : DataW H × List MemPlace} (h : DataW.trod enc P w base spare held fuel tS [v] = some x) :
  ∃ (A : Option Addr) (n c : Nat) (l : List α), v = .slice A n c /\ l.length = n /\ n <= maxLen /\ (∀ a ∈ l, Wf a) /\ RowsAt f sz w w.heap.size A l := by
 rcases open_slice hu h with ⟨hcs, _⟩ | ⟨a, len, cap, m, n, D, Pl, hcs, _, hl, hm, hmm, _, hi⟩
 ·exact ⟨none, 0, 0, [], by simpa using hcs, rfl, by unfold maxLen; omega, by simp, .inl rfl⟩
 ·have hlm : len <= m := by rw [hmm]; split <;> omega
  have hex : ∀ i, i < len -> ∃ r : α, Wf r /\ ∀ j u, (f r)[j]? = some u -> w.cell? (a.add (i * sz + j)) = some u := by
   intro i hil
   obtain ⟨cs', hc, ht⟩ := hi i (by omega)
   rw [hce] at hc
   obtain ⟨_, hcl, hat⟩ := World.cells?_some hc
   obtain ⟨r, hr, e⟩ := hread _ _ _ ht hcl
   refine ⟨r, hr, fun j u hj => ?_⟩
   have hj4 : j < sz := by have := (List.getElem?_eq_some_iff.1 hj).1; rw [hfl] at this; exact this
   have := hat j hj4
   rw [e, hj] at this
   rw [<- Go.Deep.add_add]; exact this
  have hch : ∃ F : Nat -> α, ∀ i, i < len -> Wf (F i) /\ ∀ j u, (f (F i))[j]? = some u -> w.cell? (a.add (i * sz + j)) = some u := by
   refine ⟨fun i => if hil : i < len then Classical.choose (hex i hil) else zero, fun i hil => ?_⟩
   simp only [hil, dite_true]
   exact Classical.choose_spec (hex i hil)
  obtain ⟨F, hF⟩ := hch
  refine ⟨some a, len, cap, (List.range len).map F, by simpa using hcs, by simp, by omega, ?_, ?_⟩
  ·intro r hr
   simp only [List.mem_map, List.mem_range] at hr
   obtain ⟨i, hil, rfl⟩ := hr
   exact (hF i hil).1
  ·rcases Nat.eq_zero_or_pos len with h0 | hpos
   ·left; rw [h0]; rfl
   ·right
    obtain ⟨b, off, spot⟩ := a
    have hlen0 : 0 < (f (F 0)).length := by rw [hfl]; exact hsz
    have h0 := (hF 0 hpos).2 0 _ (List.getElem?_eq_getElem hlen0)
    have hspot : spot = none := by simpa [Addr.add] using World.cell?_spot h0
    subst hspot
    refine ⟨b, off, rfl, block_lt_of_cell (by simpa [Addr.add] using h0), fun k hk => ?_⟩
    have hk' : k < len := by simpa using hk
    have e : ((List.range len).map F)[k] = F k := by simp
    rw [e]
    intro j u hj
    have h1 := (hF k hk').2 j u hj
    rw [Go.WideShapes.add_plain] at h1
    rw [Nat.add_assoc]
    exact h1
end
theorem cStr : Tryz.prog.cellsOf 9 = 1 := by kernel_rfl
theorem cInt : Tryz.prog.cellsOf 3 = 1 := by kernel_rfl
theorem cBool : Tryz.prog.cellsOf 4 = 1 := by kernel_rfl
theorem cAcc : Tryz.prog.cellsOf 84 = 4 := by kernel_rfl
theorem cLnk : Tryz.prog.cellsOf 168 = 3 := by kernel_rfl
theorem cEnt : Tryz.prog.cellsOf 113 = 5 := by kernel_rfl
theorem cItm : Tryz.prog.cellsOf 90 = 7 := by kernel_rfl
theorem cRef : Tryz.prog.cellsOf 88 = 2 := by kernel_rfl
theorem cRaw : Tryz.prog.cellsOf 57 = 9 := by kernel_rfl
theorem cPair : Tryz.prog.cellsOf 54 = 2 := by kernel_rfl
theorem cCal : Tryz.prog.cellsOf 23 = 3 := by kernel_rfl
theorem cRol : Tryz.prog.cellsOf 26 = 15 := by kernel_rfl
theorem cGrp : Tryz.prog.cellsOf 29 = 21 := by kernel_rfl
theorem cSA : Tryz.prog.cellsOf 24 = 1 := by kernel_rfl
theorem cSL : Tryz.prog.cellsOf 111 = 1 := by kernel_rfl
theorem cSE : Tryz.prog.cellsOf 27 = 1 := by kernel_rfl
theorem cSI : Tryz.prog.cellsOf 55 = 1 := by kernel_rfl
def Itm.wf (x : Itm) : Prop := (Lit.int .i64 x.ent0).wf = true /\ (Lit.int .i64 x.lin).wf = true /\ (Lit.int .i64 x.ent).wf = true /\ (Lit.int .i64 x.acct).wf = true /\ (Lit.int .i64 x.partner).wf = true /\ (Lit.int .i64 x.date).wf = true /\ (Lit.int .i64 x.amt).wf = true
structure Raw.wf (x : Raw) : Prop where
 h0 : (Lit.int .i64 x.ent).wf = true
 h1 : (Lit.int .i64 x.meth).wf = true
 h2 : (Lit.int .i64 x.since).wf = true
 h3 : (Lit.int .i64 x.s0).wf = true
 h4 : (Lit.int .i64 x.s1).wf = true
 h5 : (Lit.int .i64 x.f0).wf = true
 h6 : (Lit.int .i64 x.f1).wf = true
 h7 : ∀ y ∈ x.its, y.wf
 h8 : ∀ y ∈ x.shs, y.wf
section
variable {H : Type} {enc : TypeId × Value -> H} {w : World} {spare : Nat -> Bool} {held : Bool}
theorem acc_read {fuel : Nat} {cs : List Value} {x : DataW H × List MemPlace} (h : DataW.trod enc Tryz.prog w 0 spare held fuel 84 cs = some x) (hl : cs.length = 4) :
  ∃ a : Acc, a.wf /\ cs = a.cells := by
 match cs, hl with
 | [c0, c1, c2, c3], _ =>
  obtain ⟨_, _, h0⟩ := field_read Tryz.underlying84 h 0 3 0 rfl
  obtain ⟨_, _, h1⟩ := field_read Tryz.underlying84 h 1 3 1 rfl
  obtain ⟨_, _, h2⟩ := field_read Tryz.underlying84 h 2 3 2 rfl
  obtain ⟨_, _, h3⟩ := field_read Tryz.underlying84 h 3 3 3 rfl
  simp only [cInt, List.drop_zero, List.drop_succ_cons, List.take_succ_cons, List.take_zero] at h0 h1 h2 h3
  obtain ⟨a, rfl, ha⟩ := cell_of_trod_int Tryz.underlying3 h0
  obtain ⟨b, rfl, hb⟩ := cell_of_trod_int Tryz.underlying3 h1
  obtain ⟨c, rfl, hc⟩ := cell_of_trod_int Tryz.underlying3 h2
  obtain ⟨d, rfl, hd⟩ := cell_of_trod_int Tryz.underlying3 h3
  exact ⟨⟨a, b, c, d⟩, ⟨ha, hb, hc, hd⟩, rfl⟩
theorem lnk_read {fuel : Nat} {cs : List Value} {x : DataW H × List MemPlace} (h : DataW.trod enc Tryz.prog w 0 spare held fuel 168 cs = some x) (hl : cs.length = 3) :
  ∃ a : Lnk, a.wf /\ cs = a.cells := by
 match cs, hl with
 | [c0, c1, c2], _ =>
  obtain ⟨_, _, h0⟩ := field_read Tryz.underlying168 h 0 3 0 rfl
  obtain ⟨_, _, h1⟩ := field_read Tryz.underlying168 h 1 3 1 rfl
  obtain ⟨_, _, h2⟩ := field_read Tryz.underlying168 h 2 3 2 rfl
  simp only [cInt, List.drop_zero, List.drop_succ_cons, List.take_succ_cons, List.take_zero] at h0 h1 h2
  obtain ⟨a, rfl, ha⟩ := cell_of_trod_int Tryz.underlying3 h0
  obtain ⟨b, rfl, hb⟩ := cell_of_trod_int Tryz.underlying3 h1
  obtain ⟨c, rfl, hc⟩ := cell_of_trod_int Tryz.underlying3 h2
  exact ⟨⟨a, b, c⟩, ⟨ha, hb, hc⟩, rfl⟩
theorem itm_read {fuel : Nat} {cs : List Value} {x : DataW H × List MemPlace} (h : DataW.trod enc Tryz.prog w 0 spare held fuel 90 cs = some x) (hl : cs.length = 7) :
  ∃ a : Itm, a.wf /\ cs = a.cells := by
 match cs, hl with
 | [c0, c1, c2, c3, c4, c5, c6], _ =>
  obtain ⟨_, _, hR⟩ := field_read Tryz.underlying90 h 0 88 0 rfl
  obtain ⟨_, _, h2⟩ := field_read Tryz.underlying90 h 1 3 2 rfl
  obtain ⟨_, _, h3⟩ := field_read Tryz.underlying90 h 2 3 3 rfl
  obtain ⟨_, _, h4⟩ := field_read Tryz.underlying90 h 3 3 4 rfl
  obtain ⟨_, _, h5⟩ := field_read Tryz.underlying90 h 4 3 5 rfl
  obtain ⟨_, _, h6⟩ := field_read Tryz.underlying90 h 5 3 6 rfl
  simp only [cInt, cRef, List.drop_zero, List.drop_succ_cons, List.take_succ_cons, List.take_zero] at hR h2 h3 h4 h5 h6
  obtain ⟨_, _, h0⟩ := field_read Tryz.underlying88 hR 0 3 0 rfl
  obtain ⟨_, _, h1⟩ := field_read Tryz.underlying88 hR 1 3 1 rfl
  simp only [cInt, List.drop_zero, List.drop_succ_cons, List.take_succ_cons, List.take_zero] at h0 h1
  obtain ⟨a, rfl, ha⟩ := cell_of_trod_int Tryz.underlying3 h0
  obtain ⟨b, rfl, hb⟩ := cell_of_trod_int Tryz.underlying3 h1
  obtain ⟨c, rfl, hc⟩ := cell_of_trod_int Tryz.underlying3 h2
  obtain ⟨d, rfl, hd⟩ := cell_of_trod_int Tryz.underlying3 h3
  obtain ⟨e, rfl, he⟩ := cell_of_trod_int Tryz.underlying3 h4
  obtain ⟨p, rfl, hp⟩ := cell_of_trod_int Tryz.underlying3 h5
  obtain ⟨q, rfl, hq⟩ := cell_of_trod_int Tryz.underlying3 h6
  exact ⟨⟨a, b, c, d, e, p, q⟩, ⟨ha, hb, hc, hd, he, hp, hq⟩, rfl⟩
theorem pair_cells {fuel : Nat} {c0 c1 : Value} {x : DataW H × List MemPlace} (h : DataW.trod enc Tryz.prog w 0 spare held fuel 54 [c0, c1] = some x) :
  ∃ a b : Int, c0 = .int .i64 a /\ c1 = .int .i64 b /\ (Lit.int .i64 a).wf = true /\ (Lit.int .i64 b).wf = true := by
 obtain ⟨xs, m, _, _, _, hlen, hg⟩ := DataW.trod_array Tryz.underlying54 h
 have h0 := hg 0 (by omega)
 have h1 := hg 1 (by omega)
 simp only [cInt, Nat.zero_mul, Nat.one_mul, List.drop_zero, List.drop_succ_cons, List.take_succ_cons, List.take_zero] at h0 h1
 rw [List.getElem?_eq_getElem (by omega)] at h0 h1
 obtain ⟨a, rfl, ha⟩ := cell_of_trod_int Tryz.underlying3 h0
 obtain ⟨b, rfl, hb⟩ := cell_of_trod_int Tryz.underlying3 h1
 exact ⟨a, b, rfl, rfl, ha, hb⟩
theorem accs_read {fuel : Nat} {v : Value} {x : DataW H × List MemPlace} (h : DataW.trod enc Tryz.prog w 0 spare held fuel 24 [v] = some x) :
  ∃ (A : Option Addr) (n c : Nat) (l : List Acc), v = .slice A n c /\ l.length = n /\ n <= maxLen /\ (∀ a ∈ l, a.wf) /\ AccsAt w w.heap.size A l :=
 rows_read Acc.zero Tryz.underlying24 cAcc (by decide) (fun _ => rfl) (fun _ _ _ h hl => acc_read h hl) h
theorem lnks_read {fuel : Nat} {v : Value} {x : DataW H × List MemPlace} (h : DataW.trod enc Tryz.prog w 0 spare held fuel 111 [v] = some x) :
  ∃ (A : Option Addr) (n c : Nat) (l : List Lnk), v = .slice A n c /\ l.length = n /\ n <= maxLen /\ (∀ a ∈ l, a.wf) /\ LnksAt w w.heap.size A l :=
 rows_read Lnk.zero Tryz.underlying111 cLnk (by decide) (fun _ => rfl) (fun _ _ _ h hl => lnk_read h hl) h
theorem itms_read {fuel : Nat} {v : Value} {x : DataW H × List MemPlace} (h : DataW.trod enc Tryz.prog w 0 spare held fuel 55 [v] = some x) :
  ∃ (A : Option Addr) (n c : Nat) (l : List Itm), v = .slice A n c /\ l.length = n /\ n <= maxLen /\ (∀ a ∈ l, a.wf) /\ ItmsAt w w.heap.size A l :=
 rows_read ⟨0, 0, 0, 0, 0, 0, 0⟩ Tryz.underlying55 cItm (by decide) (fun _ => rfl) (fun _ _ _ h hl => itm_read h hl) h
theorem ent_read {fuel : Nat} {cs : List Value} {x : DataW H × List MemPlace} (h : DataW.trod enc Tryz.prog w 0 spare held fuel 113 cs = some x) (hl : cs.length = 5) :
  ∃ a : Ent, a.Out w w.heap.size /\ cs = a.cells := by
 match cs, hl with
 | [c0, c1, c2, c3, c4], _ =>
  obtain ⟨_, _, h0⟩ := field_read Tryz.underlying113 h 0 9 0 rfl
  obtain ⟨_, _, h1⟩ := field_read Tryz.underlying113 h 1 9 1 rfl
  obtain ⟨_, _, h2⟩ := field_read Tryz.underlying113 h 2 24 2 rfl
  obtain ⟨_, _, h3⟩ := field_read Tryz.underlying113 h 3 111 3 rfl
  obtain ⟨_, _, h4⟩ := field_read Tryz.underlying113 h 4 4 4 rfl
  simp only [cStr, cBool, cSA, cSL, List.drop_zero, List.drop_succ_cons, List.take_succ_cons, List.take_zero] at h0 h1 h2 h3 h4
  obtain ⟨s, rfl, hs⟩ := cell_of_trod_string Tryz.underlying9 h0
  obtain ⟨u, rfl, hu⟩ := cell_of_trod_string Tryz.underlying9 h1
  obtain ⟨A, n, c, l, rfl, k1, k2, k3, k4⟩ := accs_read h2
  obtain ⟨B, m, d, q, rfl, j1, j2, j3, j4⟩ := lnks_read h3
  obtain ⟨b, rfl⟩ := cell_of_trod_bool Tryz.underlying4 h4
  exact ⟨⟨s, u, A, n, c, l, B, m, d, q, b⟩, ⟨k1, k2, k4, k3, j1, j2, j4, j3, hs, hu⟩, rfl⟩
theorem ents_read {fuel : Nat} {v : Value} {x : DataW H × List MemPlace} (h : DataW.trod enc Tryz.prog w 0 spare held fuel 27 [v] = some x) :
  ∃ (A : Option Addr) (n c : Nat) (l : List Ent), v = .slice A n c /\ l.length = n /\ n <= maxLen /\ (∀ a ∈ l, a.Out w w.heap.size) /\ RowsAt Ent.cells 5 w w.heap.size A l :=
 rows_read Ent.zero Tryz.underlying27 cEnt (by decide) (fun _ => rfl) (fun _ _ _ h hl => ent_read h hl) h
theorem raw_read {fuel : Nat} {cs : List Value} {x : DataW H × List MemPlace} (h : DataW.trod enc Tryz.prog w 0 spare held fuel 57 cs = some x) (hl : cs.length = 9) :
  ∃ a : Raw, (a.wf /\ a.At w w.heap.size) /\ cs = a.cells := by
 match cs, hl with
 | [c0, c1, c2, c3, c4, c5, c6, c7, c8], _ =>
  obtain ⟨_, _, h0⟩ := field_read Tryz.underlying57 h 0 3 0 rfl
  obtain ⟨_, _, h1⟩ := field_read Tryz.underlying57 h 1 3 1 rfl
  obtain ⟨_, _, h2⟩ := field_read Tryz.underlying57 h 2 3 2 rfl
  obtain ⟨_, _, hS⟩ := field_read Tryz.underlying57 h 3 54 3 rfl
  obtain ⟨_, _, hF⟩ := field_read Tryz.underlying57 h 4 54 5 rfl
  obtain ⟨_, _, h7⟩ := field_read Tryz.underlying57 h 5 55 7 rfl
  obtain ⟨_, _, h8⟩ := field_read Tryz.underlying57 h 6 55 8 rfl
  simp only [cInt, cSI, cPair, List.drop_zero, List.drop_succ_cons, List.take_succ_cons, List.take_zero] at h0 h1 h2 hS hF h7 h8
  obtain ⟨a, rfl, ha⟩ := cell_of_trod_int Tryz.underlying3 h0
  obtain ⟨b, rfl, hb⟩ := cell_of_trod_int Tryz.underlying3 h1
  obtain ⟨c, rfl, hc⟩ := cell_of_trod_int Tryz.underlying3 h2
  obtain ⟨s0, s1, rfl, rfl, w0, w1⟩ := pair_cells hS
  obtain ⟨f0, f1, rfl, rfl, u0, u1⟩ := pair_cells hF
  obtain ⟨A, n, c', l, rfl, k1, k2, k3, k4⟩ := itms_read h7
  obtain ⟨B, m, d, q, rfl, j1, j2, j3, j4⟩ := itms_read h8
  exact ⟨⟨a, b, c, s0, s1, f0, f1, A, n, c', B, m, d, l, q⟩, ⟨⟨ha, hb, hc, w0, w1, u0, u1, k3, j3⟩, ⟨k1, by unfold maxLen at k2; omega, k4, j1, by unfold maxLen at j2; omega, j4⟩⟩, rfl⟩
theorem raws_read {fuel : Nat} {v : Value} {x : DataW H × List MemPlace} (h : DataW.trod enc Tryz.prog w 0 spare held fuel 30 [v] = some x) :
  ∃ (A : Option Addr) (n c : Nat) (l : List Raw), v = .slice A n c /\ l.length = n /\ n <= maxLen /\ (∀ a ∈ l, a.wf /\ a.At w w.heap.size) /\ RawsAt w w.heap.size A l :=
 rows_read ⟨0, 0, 0, 0, 0, 0, 0, none, 0, 0, none, 0, 0, [], []⟩ Tryz.underlying30 cRaw (by decide) (fun _ => rfl) (fun _ _ _ h hl => raw_read h hl) h
theorem grp_read {fuel : Nat} {cs : List Value} {x : DataW H × List MemPlace} (h : DataW.trod enc Tryz.prog w 0 spare held fuel 29 cs = some x) (hl : cs.length = 21) :
  ∃ g : Grp, g.Out w w.heap.size /\ cs = [.string g.cur, .int .i64 g.Y, .int .i64 g.M, .int .i64 g.N, .slice g.cA g.cn g.cc, .int .i64 g.r0, .int .i64 g.r1, .int .i64 g.r2, .int .i64 g.r3, .int .i64 g.r4, .int .i64 g.r5, .int .i64 g.r6, .int .i64 g.r7, .int .i64 g.r8, .int .i64 g.r9, .int .i64 g.r10, .int .i64 g.r11, .int .i64 g.r12, .int .i64 g.r13, .int .i64 g.r14, .slice g.eA g.en g.ec] := by
 match cs, hl with
 | [c0, c1, c2, c3, c4, c5, c6, c7, c8, c9, c10, c11, c12, c13, c14, c15, c16, c17, c18, c19, c20], _ =>
  obtain ⟨_, _, hS⟩ := field_read Tryz.underlying29 h 0 9 0 rfl
  obtain ⟨_, _, hC⟩ := field_read Tryz.underlying29 h 1 23 1 rfl
  obtain ⟨_, _, hA⟩ := field_read Tryz.underlying29 h 2 24 4 rfl
  obtain ⟨_, _, hR⟩ := field_read Tryz.underlying29 h 3 26 5 rfl
  obtain ⟨_, _, hE⟩ := field_read Tryz.underlying29 h 4 27 20 rfl
  simp only [cStr, cCal, cSA, cRol, cSE, List.drop_zero, List.drop_succ_cons, List.take_succ_cons, List.take_zero] at hS hC hA hR hE
  obtain ⟨_, _, h1⟩ := field_read Tryz.underlying23 hC 0 3 0 rfl
  obtain ⟨_, _, h2⟩ := field_read Tryz.underlying23 hC 1 3 1 rfl
  obtain ⟨_, _, h3⟩ := field_read Tryz.underlying23 hC 2 3 2 rfl
  obtain ⟨_, _, q0⟩ := field_read Tryz.underlying26 hR 0 3 0 rfl
  obtain ⟨_, _, q1⟩ := field_read Tryz.underlying26 hR 1 3 1 rfl
  obtain ⟨_, _, q2⟩ := field_read Tryz.underlying26 hR 2 3 2 rfl
  obtain ⟨_, _, q3⟩ := field_read Tryz.underlying26 hR 3 3 3 rfl
  obtain ⟨_, _, q4⟩ := field_read Tryz.underlying26 hR 4 3 4 rfl
  obtain ⟨_, _, q5⟩ := field_read Tryz.underlying26 hR 5 3 5 rfl
  obtain ⟨_, _, q6⟩ := field_read Tryz.underlying26 hR 6 3 6 rfl
  obtain ⟨_, _, q7⟩ := field_read Tryz.underlying26 hR 7 3 7 rfl
  obtain ⟨_, _, q8⟩ := field_read Tryz.underlying26 hR 8 3 8 rfl
  obtain ⟨_, _, q9⟩ := field_read Tryz.underlying26 hR 9 3 9 rfl
  obtain ⟨_, _, q10⟩ := field_read Tryz.underlying26 hR 10 3 10 rfl
  obtain ⟨_, _, q11⟩ := field_read Tryz.underlying26 hR 11 3 11 rfl
  obtain ⟨_, _, q12⟩ := field_read Tryz.underlying26 hR 12 3 12 rfl
  obtain ⟨_, _, q13⟩ := field_read Tryz.underlying26 hR 13 3 13 rfl
  obtain ⟨_, _, q14⟩ := field_read Tryz.underlying26 hR 14 3 14 rfl
  simp only [cInt, List.drop_zero, List.drop_succ_cons, List.take_succ_cons, List.take_zero] at h1 h2 h3 q0 q1 q2 q3 q4 q5 q6 q7 q8 q9 q10 q11 q12 q13 q14
  obtain ⟨s, rfl, hs⟩ := cell_of_trod_string Tryz.underlying9 hS
  obtain ⟨Y, rfl, hY⟩ := cell_of_trod_int Tryz.underlying3 h1
  obtain ⟨M, rfl, hM⟩ := cell_of_trod_int Tryz.underlying3 h2
  obtain ⟨N, rfl, hN⟩ := cell_of_trod_int Tryz.underlying3 h3
  obtain ⟨A, n, c, l, rfl, k1, k2, k3, k4⟩ := accs_read hA
  obtain ⟨r0, rfl, v0⟩ := cell_of_trod_int Tryz.underlying3 q0
  obtain ⟨r1, rfl, v1⟩ := cell_of_trod_int Tryz.underlying3 q1
  obtain ⟨r2, rfl, v2⟩ := cell_of_trod_int Tryz.underlying3 q2
  obtain ⟨r3, rfl, v3⟩ := cell_of_trod_int Tryz.underlying3 q3
  obtain ⟨r4, rfl, v4⟩ := cell_of_trod_int Tryz.underlying3 q4
  obtain ⟨r5, rfl, v5⟩ := cell_of_trod_int Tryz.underlying3 q5
  obtain ⟨r6, rfl, v6⟩ := cell_of_trod_int Tryz.underlying3 q6
  obtain ⟨r7, rfl, v7⟩ := cell_of_trod_int Tryz.underlying3 q7
  obtain ⟨r8, rfl, v8⟩ := cell_of_trod_int Tryz.underlying3 q8
  obtain ⟨r9, rfl, v9⟩ := cell_of_trod_int Tryz.underlying3 q9
  obtain ⟨r10, rfl, v10⟩ := cell_of_trod_int Tryz.underlying3 q10
  obtain ⟨r11, rfl, v11⟩ := cell_of_trod_int Tryz.underlying3 q11
  obtain ⟨r12, rfl, v12⟩ := cell_of_trod_int Tryz.underlying3 q12
  obtain ⟨r13, rfl, v13⟩ := cell_of_trod_int Tryz.underlying3 q13
  obtain ⟨r14, rfl, v14⟩ := cell_of_trod_int Tryz.underlying3 q14
  obtain ⟨B, m, d, q, rfl, j1, j2, j3, j4⟩ := ents_read hE
  refine ⟨⟨s, Y, M, N, A, n, c, l, r0, r1, r2, r3, r4, r5, r6, r7, r8, r9, r10, r11, r12, r13, r14, B, m, d, q⟩, ⟨k1, k2, k4, k3, j1, j2, j4, j3, hs, ?_⟩, rfl⟩
  simp only [Gr.roles, List.forall_mem_cons]
  exact ⟨v0, v1, v2, v3, v4, v5, v6, v7, v8, v9, v10, v11, v12, v13, v14, fun _ h => by cases h⟩
theorem grp_arg {r : Reach} {b0 : Nat} {v : Value} {d : DataW H} {p : List MemPlace} (hv : Value.okWide Tryz.prog w r b0 29 v) (h : DataW.Trod enc Tryz.prog w 0 spare held 29 v d p) :
  ∃ g : Grp, v = .agg #[.string g.cur, .int .i64 g.Y, .int .i64 g.M, .int .i64 g.N, .slice g.cA g.cn g.cc, .int .i64 g.r0, .int .i64 g.r1, .int .i64 g.r2, .int .i64 g.r3, .int .i64 g.r4, .int .i64 g.r5, .int .i64 g.r6, .int .i64 g.r7, .int .i64 g.r8, .int .i64 g.r9, .int .i64 g.r10, .int .i64 g.r11, .int .i64 g.r12, .int .i64 g.r13, .int .i64 g.r14, .slice g.eA g.en g.ec] /\ g.Out w w.heap.size := by
 obtain ⟨cs, rfl, hsz⟩ := okWide_struct Tryz.underlying29 hv
 rw [cGrp] at hsz
 obtain ⟨fuel, hf⟩ := h
 simp only [Value.cells] at hf
 obtain ⟨g, hg, e⟩ := grp_read hf (by simpa using hsz)
 refine ⟨g, ?_, hg⟩
 have : cs = (⟨[.string g.cur, .int .i64 g.Y, .int .i64 g.M, .int .i64 g.N, .slice g.cA g.cn g.cc, .int .i64 g.r0, .int .i64 g.r1, .int .i64 g.r2, .int .i64 g.r3, .int .i64 g.r4, .int .i64 g.r5, .int .i64 g.r6, .int .i64 g.r7, .int .i64 g.r8, .int .i64 g.r9, .int .i64 g.r10, .int .i64 g.r11, .int .i64 g.r12, .int .i64 g.r13, .int .i64 g.r14, .slice g.eA g.en g.ec]⟩ : Array Value) := by rw [<- e]
 rw [this]
theorem raws_arg {r : Reach} {b0 : Nat} {v : Value} {d : DataW H} {p : List MemPlace} (hv : Value.okWide Tryz.prog w r b0 30 v) (h : DataW.Trod enc Tryz.prog w 0 spare held 30 v d p) :
  ∃ (A : Option Addr) (n c : Nat) (l : List Raw), v = .slice A n c /\ l.length = n /\ n <= maxLen /\ (∀ a ∈ l, a.wf /\ a.At w w.heap.size) /\ RawsAt w w.heap.size A l := by
 obtain ⟨fuel, hf⟩ := h
 simp only [Value.okWide, Tryz.underlying30] at hv
 have : v.cells.toList = [v] := by
  cases v <;> first | rfl | (exfalso; simp_all [Cell.okWide, Cell.ok])
 rw [this] at hf
 exact raws_read hf
end
end Go.Proofs.YtcblobokjhhboaaGreat
namespace Go.Proofs.YtcblobokjhhboaaGreat
open Go.RowKit
def OtherRow (w : World) (t : TypeId) (row : Option Nat) : Prop := ∀ b, row = some b -> ∃ cs s fr, w.heap[b]? = some (.cells cs s fr) /\ s ≠ t
theorem LimbsAt.kept {K : IntKind} {w w' : World} {A : Option Addr} {l : List Int} {row : Option Nat} (h : LimbsAt K w w.heap.size A l) (hg : w.grownBy w' row) (hr : OtherRow w (limbTy K) row) : LimbsAt K w' w'.heap.size A l := by
 rcases h with h | ⟨d, o, e, hl, hc, ht⟩
 ·exact .inl h
 ·have hne : some d ≠ row := by
   intro e'
   obtain ⟨cs, s, fr, h1, h2⟩ := hr d e'.symm
   obtain ⟨cur, fr', h3⟩ := ht
   rw [h1] at h3
   cases h3
   exact h2 rfl
  exact .inr ⟨d, o, e, Nat.lt_of_lt_of_le hl hg.size, fun j hj => (World.cell?_of_block (w := w) (hg.block d hl hne)).trans (hc j hj), ht.of_block (hg.block d hl hne)⟩
theorem PI.kept {w w' : World} {k : Nat} {v : Value} {z : Int} {row : Option Nat} (h : PI w w.heap.size k v z) (hg : w.grownBy w' row) (hr : OtherRow w 147 row) : PI w' w'.heap.size k v z := by
 obtain ⟨g, A, n, c, l, h1, h2, h3, h4, h5, h6, h7, h8, h9⟩ := h
 exact ⟨g, A, n, c, l, h1, h2, h3, h4, h5, h6, h7, h8, h9.kept hg hr⟩
theorem RI.kept {w w' : World} {k j : Nat} {v : Value} {N D : Int} {row : Option Nat} (h : RI w w.heap.size k j v N D) (hg : w.grownBy w' row) (hr : OtherRow w 147 row) : RI w' w'.heap.size k j v N D := by
 obtain ⟨g1, A1, n1, c1, g2, A2, n2, c2, e, h1, h2⟩ := h
 exact ⟨g1, A1, n1, c1, g2, A2, n2, c2, e, h1.kept hg hr, h2.kept hg hr⟩
theorem R1.PI.kept {w w' : World} {k : Nat} {v : Value} {z : Int} {row : Option Nat} (h : R1.PI w w.heap.size k v z) (hg : w.grownBy w' row) (hr : OtherRow w 3 row) : R1.PI w' w'.heap.size k v z := by
 obtain ⟨g, A, n, c, l, h1, h2, h3, h4, h5, h6, h7, h8, h9⟩ := h
 exact ⟨g, A, n, c, l, h1, h2, h3, h4, h5, h6, h7, h8, h9.kept hg hr⟩
theorem R1.RI.kept {w w' : World} {k j : Nat} {v : Value} {N D : Int} {row : Option Nat} (h : R1.RI w w.heap.size k j v N D) (hg : w.grownBy w' row) (hr : OtherRow w 3 row) : R1.RI w' w'.heap.size k j v N D := by
 obtain ⟨g1, A1, n1, c1, g2, A2, n2, c2, e, h1, h2⟩ := h
 exact ⟨g1, A1, n1, c1, g2, A2, n2, c2, e, R1.PI.kept h1 hg hr, R1.PI.kept h2 hg hr⟩
theorem RowsAt.keptB {α : Type} {f : α -> List Value} {sz : Nat} {w w' : World} {B : Nat} {A : Option Addr} {l : List α} {row : Option Nat} (h : RowsAt f sz w B A l) (hg : w.grownBy w' row) (hB : B <= w.heap.size) (hr : ∀ b, row = some b -> B <= b) : RowsAt f sz w' B A l := by
 rcases h with h | ⟨b, o, e, hl, hc⟩
 ·exact .inl h
 ·have hne : some b ≠ row := fun e' => by have := hr b e'.symm; omega
  exact .inr ⟨b, o, e, hl, fun k hk j v hv => (World.cell?_of_block (w := w) (hg.block b (Nat.lt_of_lt_of_le hl hB) hne)).trans (hc k hk j v hv)⟩
end Go.Proofs.YtcblobokjhhboaaGreat
namespace Go.Proofs.YtcblobokjhhboaaGreat
open Go.RowKit
def Con.Fits (R : World -> Nat -> Value -> Int -> Int -> Prop) (w : World) (B : Nat) (x : Con) (y : Cnt) : Prop :=
 x.Holds R w w.heap.size y /\ ItmsAt w B x.iA y.its /\ ItmsAt w B x.hA y.shs
theorem Con.Fits.keptR {w w' : World} {B : Nat} {x : Con} {y : Cnt} {row : Option Nat} (h : x.Fits SR w B y) (hg : w.grownBy w' row) (hB : B <= w.heap.size) (hr : ∀ b, row = some b -> B <= b) (ht : OtherRow w 3 row) : x.Fits SR w' B y := by
 obtain ⟨h0, h1, h2⟩ := h
 have k1 := h1.keptB hg hB hr
 have k2 := h2.keptB hg hB hr
 have hB' : B <= w'.heap.size := Nat.le_trans hB hg.size
 exact ⟨⟨h0.he, h0.hm, h0.hs, R1.RI.kept h0.hsh hg ht, R1.RI.kept h0.hfi hg ht, h0.hso, h0.hfo, h0.hil, h0.hin, h0.hix, k1.more hB', h0.hhl, h0.hhn, h0.hhx, k2.more hB'⟩, k1, k2⟩
theorem Con.Fits.belowR {w w' : World} {B : Nat} {x : Con} {y : Cnt} (h : x.Fits SR w B y) (hb : Below w.heap.size w w') (hB : B <= w.heap.size) : x.Fits SR w' B y :=
 ⟨h.1.atR hb, RowsAt.below h.2.1 hb hB, RowsAt.below h.2.2 hb hB⟩
theorem Con.Fits.belowD {w w' : World} {B : Nat} {x : Con} {y : Cnt} (h : x.Fits SD w B y) (hb : Below w.heap.size w w') (hB : B <= w.heap.size) : x.Fits SD w' B y :=
 ⟨h.1.atD hb, RowsAt.below h.2.1 hb hB, RowsAt.below h.2.2 hb hB⟩
end Go.Proofs.YtcblobokjhhboaaGreat
namespace Go.Proofs.YtcblobokjhhboaaGreat
open Go.RowKit

def conRow (l : List Con) : List Value := l.flatMap Con.cells
theorem conRow_snoc (l : List Con) (x : Con) : conRow (l ++ [x]) = conRow l ++ x.cells := by simp [conRow]
theorem con_one (x : Con) : ∀ u ∈ x.cells, u.oneCell' = true := by simp [Con.cells, Value.oneCell']
theorem conInfoR : (Tryz.prog.info? 80).map (fun i => (i.zero, i.size, i.bytes)) = some (some (.agg #[.int .i64 (Con.zero).ent, .int .i64 (Con.zero).meth, .int .i64 (Con.zero).since, .bool (Con.zero).sg1, .slice (Con.zero).sA1 (Con.zero).sn1 (Con.zero).sc1, .bool (Con.zero).sg2, .slice (Con.zero).sA2 (Con.zero).sn2 (Con.zero).sc2, .bool (Con.zero).fg1, .slice (Con.zero).fA1 (Con.zero).fn1 (Con.zero).fc1, .bool (Con.zero).fg2, .slice (Con.zero).fA2 (Con.zero).fn2 (Con.zero).fc2, .slice (Con.zero).iA (Con.zero).im (Con.zero).ic, .slice (Con.zero).hA (Con.zero).hm (Con.zero).hc]), 13, 200) := by kernel_rfl
theorem consAt_own {W : World} {base n : Nat} {v : Value} {e : TypeId} {l : List Con} (h : W.ownsRow base e 13 v n (conRow l)) (hn : n = l.length) : ∃ A c, v = .slice A n c /\ ConsAt W W.heap.size A l := by
 subst hn
 rcases h.2 with ⟨e, h0⟩ | ⟨g, cap, cur, e, _, hg, hle, _, hsz, htk⟩
 ·exact ⟨none, 0, by rw [e, h0], .inl (List.length_eq_zero_iff.1 h0)⟩
 ·refine ⟨_, cap, e, .inr ⟨g, 0, rfl, (Array.getElem?_eq_some_iff.1 hg).1, fun k hk j v hj => ?_⟩⟩
  have hjl : j < 13 := by have := (List.getElem?_eq_some_iff.1 hj).1; simpa [Con.cells] using this
  rw [Nat.zero_add, cell_of_row _ _ _ _ _ _ hg]
  have hf := flat_get Con.cells 13 l (fun _ _ => rfl) k hk j hjl
  rw [hj] at hf
  have hlt : k * 13 + j < l.length * 13 := by omega
  have : (cur.toList.take (l.length * 13))[k * 13 + j]? = some v := by rw [htk]; exact hf
  rw [List.getElem?_take, if_pos hlt] at this
  simpa using this
theorem row_of_own {W : World} {base n sz : Nat} {v : Value} {e : TypeId} {xs : List Value} (h : W.ownsRow base e sz v n xs) (t : TypeId) (ht : e ≠ t) : OtherRow W t v.ownBlock := by
 intro b hb
 rcases h.2 with ⟨rfl, _⟩ | ⟨g, cap, cur, rfl, _, hg, _⟩
 ·simp [Value.ownBlock] at hb
 ·simp [Value.ownBlock] at hb
  subst hb
  exact ⟨_, _, _, hg, ht⟩
theorem raw_cells {W : World} {p : Nat} {x : Raw} (h : W.heap[p]? = some (.cells #[.int .i64 x.ent, .int .i64 x.meth, .int .i64 x.since, .int .i64 x.s0, .int .i64 x.s1, .int .i64 x.f0, .int .i64 x.f1, .slice x.iA x.im x.ic, .slice x.hA x.hm x.hc] 57 (0, 0))) :
  (W.cell? ⟨p, 0, none⟩ = some (.int .i64 x.ent) /\ W.cell? ⟨p, 1, none⟩ = some (.int .i64 x.meth) /\ W.cell? ⟨p, 2, none⟩ = some (.int .i64 x.since)) /\
  (W.cell? ⟨p, 3, none⟩ = some (.int .i64 x.s0) /\ W.cell? ⟨p, 4, none⟩ = some (.int .i64 x.s1)) /\ (W.cell? ⟨p, 5, none⟩ = some (.int .i64 x.f0) /\ W.cell? ⟨p, 6, none⟩ = some (.int .i64 x.f1)) /\
  W.cell? ⟨p, 7, none⟩ = some (.slice x.iA x.im x.ic) /\ W.cell? ⟨p, 8, none⟩ = some (.slice x.hA x.hm x.hc) := by
 refine ⟨⟨?_, ?_, ?_⟩, ⟨?_, ?_⟩, ⟨?_, ?_⟩, ?_, ?_⟩ <;> (rw [cell_of_row _ _ _ _ _ _ h]; simp)
def ConPost (R : World -> Nat -> Value -> Int -> Int -> Prop) (l : List Raw) (w : World) (v : Value) (w' : World) : Prop :=
 l.length <= 8 /\ (∀ x ∈ l, x.ok = true) /\ ∃ A c cs, v = .slice A l.length c /\ cs.length = l.length /\ ConsAt w' w'.heap.size A cs /\ Hold (fun a b => a.Holds R w' w'.heap.size b) cs (l.map Raw.cnt)
def ContrPost (l : List Raw) (w : World) (e : Ending) (w' : World) : Prop :=
 Below w.heap.size w w' /\ ∃ v b, e = .returned (.tuple #[v, .bool b]) /\ (b = true -> ConPost SR l w v w')
section
variable (w : World)
theorem contrr_any (A : Option Addr) (n c : Nat) (l : List Raw) (hl : l.length = n) (hn : n <= 9223372036854775807) (h : RawsAt w w.heap.size A l) (hx : ∀ x ∈ l, x.At w w.heap.size) :
  Calls Tryz.prog 14 #[.slice A n c] w (ContrPost l w) := by
 have Hl := Lib.hid hl
 have HX := Lib.hid hx
 obtain ⟨i0, hi, hz0, hz1, hz2⟩ := info_parts conInfoR
 clear hl hx
 by_cases h8 : n <= 8
 case neg =>
  go_enter Tryz.func14, Tryz.ntmps14
  go_wp2
  go_ret2
  exact ⟨Below.refl _ _, _, _, rfl, fun h => by cases h⟩
 go_enter Tryz.func14, Tryz.ntmps14
 go_wp2
 go_loopw [4, 5] (fun v i wr => ∃ (k : Nat) (cs : List Con), k <= n /\ i = .int .i64 k /\ (∀ x ∈ l.take k, x.ok = true) /\ cs.length = k /\ wr.ownsRow w.heap.size 80 13 v k (conRow cs) /\ Hold (fun a b => a.Fits SR wr w.heap.size b) cs ((l.take k).map Raw.cnt) /\ Below w.heap.size w wr) (fun _ i _ => n - (intOf i).toNat)
 case atStart => exact ⟨0, [], Nat.zero_le _, rfl, by simp, rfl, World.ownsRow_nil _ _ _ _, trivial, Below.refl _ _⟩
 case round =>
  obtain ⟨k, cs, hk, rfl, hok, hcl, hown, hhold, hb⟩ := hrel
  have Hok := Lib.hid hok
  have Hcl := Lib.hid hcl
  have Hown := Lib.hid hown
  have Hhold := Lib.hid hhold
  clear hok hcl hown hhold
  by_cases hlt : k < n
  ·have hkl : k < l.length := by have := Hl.out; omega
   obtain ⟨b, o, rfl, hbB, hr⟩ := RowsAt.look (h.below hb (Nat.le_refl _)) hkl
   obtain ⟨x, hx⟩ : ∃ x, x = l[k] := ⟨_, rfl⟩
   rw [<- hx] at hr
   have HXe := Lib.hid hx
   have Hr := Lib.hid hr
   have hxa := (HX.out x (by rw [hx]; exact List.getElem_mem _)).below hb (Nat.le_refl _)
   have hbw : b < wr.heap.size := Nat.lt_of_lt_of_le hbB hb.size
   obtain ⟨hB1, hb1, hz1⟩ := row_new wr #[.int .i64 x.ent, .int .i64 x.meth, .int .i64 x.since, .int .i64 x.s0, .int .i64 x.s1, .int .i64 x.f0, .int .i64 x.f1, .slice x.iA x.im x.ic, .slice x.hA x.hm x.hc] 57
   obtain ⟨W1, hW1⟩ : ∃ W1, W1 = wr.alloc (.cells #[.int .i64 x.ent, .int .i64 x.meth, .int .i64 x.since, .int .i64 x.s0, .int .i64 x.s1, .int .i64 x.f0, .int .i64 x.f1, .slice x.iA x.im x.ic, .slice x.hA x.hm x.hc] 57) := ⟨_, rfl⟩
   rw [<- hW1] at hB1 hb1 hz1
   have HW1 := Lib.hid hW1
   have Hb1 := Lib.hid hb1
   have Hxa := Lib.hid ((hxa.below (hB1.mono (show w.heap.size <= wr.heap.size from hb.size)) (Nat.le_refl _)).more (C := W1.heap.size) (by have := hb.size; omega))
   have s1 : wr.heap.size < W1.heap.size := by omega
   have hbw1 := hb.trans (hB1.mono hb.size)
   clear hr hx hxa hb1 hz1 hW1
   go_upto_region 8 with (refine wpList_load_mid rfl 57 (.tmp 22) rfl b (o + k * 9) rfl [.int .i64 x.ent, .int .i64 x.meth, .int .i64 x.since, .int .i64 x.s0, .int .i64 x.s1, .int .i64 x.f0, .int .i64 x.f1, .slice x.iA x.im x.ic, .slice x.hA x.hm x.hc] _ Hr.out Tryz.underlying57 rfl rawSize ?_)
   rw [<- HW1.out]
   have hbad : x.ok = false -> ∀ (W : World), Below w.heap.size w W -> ContrPost l w (.returned (.tuple #[.slice none 0 0, .bool false])) W := fun _ W hW => ⟨hW, _, _, rfl, fun h => by cases h⟩
   have Hbad := Lib.hid hbad
   clear hbad
   obtain ⟨_, ⟨c3, c4⟩, _⟩ := raw_cells Hb1.out
   go_wp2_with (fail)
   refine (quot_any W1 x.s0 x.s1).mono ?_
   rintro e W2 ⟨rfl, hB2⟩
   have hb2 := gbox Hb1.out hB2 s1
   have Hb2 := Lib.hid hb2
   have s2 := some_lt hb2
   have hbw2 := hbw1.trans (hB2.mono hbw1.size)
   clear c3 c4 hb2
   cases hq1 : Raw.quot x.s0 x.s1 with
   | false =>
    go_wp2
    go_ret2
    exact Hbad.out (by unfold Raw.ok; rw [hq1]; rfl) _ hbw2
   | true =>
   have Hq1 := Lib.hid hq1
   clear hq1
   obtain ⟨_, _, ⟨c5, c6⟩, _⟩ := raw_cells Hb2.out
   go_wp2_with (fail)
   refine (quot_any W2 x.f0 x.f1).mono ?_
   rintro e W3 ⟨rfl, hB3⟩
   have hb3 := gbox Hb2.out hB3 s2
   have Hb3 := Lib.hid hb3
   have s3 := some_lt hb3
   have hbw3 := hbw2.trans (hB3.mono hbw2.size)
   clear c5 c6 hb3
   cases hq2 : Raw.quot x.f0 x.f1 with
   | false =>
    go_wp2
    go_ret2
    exact Hbad.out (by unfold Raw.ok; rw [hq2, Bool.and_false]; rfl) _ hbw3
   | true =>
   have Hq2 := Lib.hid hq2
   clear hq2
   have hxa3 := Hxa.out.below (hB2.trans (hB3.mono hB2.size)) (Nat.le_refl _)
   have Hx3 := Lib.hid (hxa3.more (C := W3.heap.size) (by have := hB2.size; have := hB3.size; omega))
   obtain ⟨_, _, _, c7, _⟩ := raw_cells Hb3.out
   clear hxa3
   go_wp2_with (fail)
   refine (few_any W3 x.iA x.im x.ic x.its Hx3.out.hil Hx3.out.him Hx3.out.hiA).mono ?_
   rintro e W4 ⟨rfl, hB4⟩
   have hb4 := gbox Hb3.out hB4 s3
   have Hb4 := Lib.hid hb4
   have s4 := some_lt hb4
   have hbw4 := hbw3.trans (hB4.mono hbw3.size)
   have Hx4 := Lib.hid ((Hx3.out.below hB4 (Nat.le_refl _)).more (C := W4.heap.size) hB4.size)
   clear c7 hb4
   cases hq3 : Raw.few x.its with
   | false =>
    go_wp2
    go_ret2
    exact Hbad.out (by unfold Raw.ok; rw [hq3, Bool.and_false]; rfl) _ hbw4
   | true =>
   have Hq3 := Lib.hid hq3
   clear hq3
   obtain ⟨_, _, _, _, c8⟩ := raw_cells Hb4.out
   go_wp2_with (fail)
   refine (few_any W4 x.hA x.hm x.hc x.shs Hx4.out.hhl Hx4.out.hhm Hx4.out.hhA).mono ?_
   rintro e W5 ⟨rfl, hB5⟩
   have hb5 := gbox Hb4.out hB5 s4
   have Hb5 := Lib.hid hb5
   have s5 := some_lt hb5
   have hbw5 := hbw4.trans (hB5.mono hbw4.size)
   have Hx5 := Lib.hid ((Hx4.out.below hB5 (Nat.le_refl _)).more (C := W5.heap.size) hB5.size)
   clear c8 hb5
   cases hq4 : Raw.few x.shs with
   | false =>
    go_wp2
    go_ret2
    exact Hbad.out (by unfold Raw.ok; rw [hq4, Bool.and_false]) _ hbw5
   | true =>
   have hso := Raw.quot_ok Hq1.out
   have hfo := Raw.quot_ok Hq2.out
   have Hxok : Hid (x.ok = true) := by show _ = _; unfold Raw.ok; rw [Hq1.out, Hq2.out, Hq3.out, hq4]; rfl
   have Hfi := Lib.hid (Raw.few_ok Hq3.out)
   have Hfs := Lib.hid (Raw.few_ok hq4)
   have Hso := Lib.hid hso
   have Hfo := Lib.hid hfo
   clear hq4 hso hfo
   obtain ⟨_, ⟨c3, c4⟩, _⟩ := raw_cells Hb5.out
   go_wp2_with (fail)
   refine (R1.ratof_any W5 x.s0 x.s1 (by have := Hso.out; unfold ShareOk at this; omega) (by have := Hso.out; unfold ShareOk at this; omega) Hso.out.1 (by have := Hso.out; unfold ShareOk at this; omega)).mono ?_
   rintro e W6 ⟨⟨r6, rfl, hr6⟩, hB6⟩
   obtain ⟨g1, A1, n1, k1, g2, A2, n2, k2, rfl⟩ := hr6.open
   have hb6 := gbox Hb5.out hB6 s5
   have s6 := some_lt hb6
   have hbw6 := hbw5.trans (hB6.mono hbw5.size)
   have Hx6 := Lib.hid ((Hx5.out.below hB6 (Nat.le_refl _)).more (C := W6.heap.size) hB6.size)
   obtain ⟨hB7, ha7, hz7⟩ := row_new W6 #[.bool g1, .slice A1 n1 k1, .bool g2, .slice A2 n2 k2] 78
   obtain ⟨W7, hW7⟩ : ∃ W7, W7 = W6.alloc (.cells #[.bool g1, .slice A1 n1 k1, .bool g2, .slice A2 n2 k2] 78) := ⟨_, rfl⟩
   rw [<- hW7] at hB7 ha7 hz7
   have HW7 := Lib.hid hW7
   have Hb7 := Lib.hid (gbox hb6 hB7 s6)
   have Ha7 := Lib.hid ha7
   have Hr7 := Lib.hid (hr6.at_ hB7)
   have hbw7 := hbw6.trans (hB7.mono hbw6.size)
   have Hx7 := Lib.hid ((Hx6.out.below hB7 (Nat.le_refl _)).more (C := W7.heap.size) hB7.size)
   have s7 := some_lt Hb7.out
   have s7' := some_lt Ha7.out
   clear c3 c4 hb6 ha7 hr6 hW7 hz7
   go_upto_region 11 with (fail)
   rw [<- HW7.out]
   obtain ⟨_, _, ⟨c5, c6⟩, _⟩ := raw_cells Hb7.out
   go_wp2_with (fail)
   refine (R1.ratof_any W7 x.f0 x.f1 (by have := Hfo.out; unfold ShareOk at this; omega) (by have := Hfo.out; unfold ShareOk at this; omega) Hfo.out.1 (by have := Hfo.out; unfold ShareOk at this; omega)).mono ?_
   rintro e W8 ⟨⟨r8, rfl, hr8⟩, hB8⟩
   obtain ⟨g3, A3, n3, k3, g4, A4, n4, k4, rfl⟩ := hr8.open
   have hb8 := gbox Hb7.out hB8 s7
   have ha8 := gbox Ha7.out hB8 s7'
   have s8 := some_lt hb8
   have s8' := some_lt ha8
   have hbw8 := hbw7.trans (hB8.mono hbw7.size)
   have Hr8 := Lib.hid (Hr7.out.at_ hB8)
   have Hx8 := Lib.hid ((Hx7.out.below hB8 (Nat.le_refl _)).more (C := W8.heap.size) hB8.size)
   obtain ⟨hB9, hd9, hz9⟩ := row_new W8 #[.bool g3, .slice A3 n3 k3, .bool g4, .slice A4 n4 k4] 78
   obtain ⟨W9, hW9⟩ : ∃ W9, W9 = W8.alloc (.cells #[.bool g3, .slice A3 n3 k3, .bool g4, .slice A4 n4 k4] 78) := ⟨_, rfl⟩
   rw [<- hW9] at hB9 hd9 hz9
   have HW9 := Lib.hid hW9
   have Hb9 := Lib.hid (gbox hb8 hB9 s8)
   have Ha9 := Lib.hid (gbox ha8 hB9 s8')
   have Hd9 := Lib.hid hd9
   have Hs9 := Lib.hid (Hr8.out.at_ hB9)
   have Hf9 := Lib.hid (hr8.at_ hB9)
   have hbw9 := hbw8.trans (hB9.mono hbw8.size)
   have s9 := some_lt Hb9.out
   have s9' := some_lt Ha9.out
   have s9'' := some_lt hd9
   clear c5 c6 hb8 ha8 hd9 hr8 hW9
   go_upto_region 12 with (fail)
   rw [<- HW9.out]
   have hBr9 : Below wr.heap.size wr W9 := hB1.trans ((hB2.trans ((hB3.trans ((hB4.trans ((hB5.trans ((hB6.trans ((hB7.trans ((hB8.trans (hB9.mono hB8.size)).mono hB7.size)).mono hB6.size)).mono hB5.size)).mono hB4.size)).mono hB3.size)).mono hB2.size)).mono hB1.size)
   have hown9 := pOwns_below Hown.out hBr9
   have Hold9 := Lib.hid (Hhold.out.imp (Q := fun a b => a.Fits SR W9 w.heap.size b) fun _ _ h => h.belowR hBr9 hb.size)
   obtain ⟨y, hy⟩ : ∃ y : Con, y = ⟨x.ent, x.meth, x.since, g1, A1, n1, k1, g2, A2, n2, k2, g3, A3, n3, k3, g4, A4, n4, k4, x.iA, x.im, x.ic, x.hA, x.hm, x.hc⟩ := ⟨_, rfl⟩
   have hyf : y.Fits SR W9 w.heap.size x.cnt := by
    have hit := HX.out x (by rw [HXe.out]; exact List.getElem_mem _)
    have hi9 := RowsAt.below hit.hiA hbw9 (Nat.le_refl _)
    have hh9 := RowsAt.below hit.hhA hbw9 (Nat.le_refl _)
    have hq := hbw9.size
    subst hy
    exact ⟨⟨rfl, rfl, rfl, Hs9.out, Hf9.out, Raw.red_ok Hso.out, Raw.red_ok Hfo.out, hit.hil, by rw [<- hit.hil]; exact Hfi.out.1, Hfi.out.2, RowsAt.more hi9 hq, hit.hhl, by rw [<- hit.hhl]; exact Hfs.out.1, Hfs.out.2, RowsAt.more hh9 hq⟩, hi9, hh9⟩
   have Hyf := Lib.hid hyf
   have hra := Lib.hid (range_row (cs := [.bool g1, .slice A1 n1 k1, .bool g2, .slice A2 n2 k2]) Ha9.out)
   have hrd := Lib.hid (range_row (cs := [.bool g3, .slice A3 n3 k3, .bool g4, .slice A4 n4 k4]) Hd9.out)
   obtain ⟨⟨c0, c1, c2⟩, _, _, c7, c8⟩ := raw_cells Hb9.out
   have hq9 := hbw9.size
   have hk8 : k + 1 <= 8 := by omega
   have hyc : y.cells = [.int .i64 x.ent, .int .i64 x.meth, .int .i64 x.since, .bool g1, .slice A1 n1 k1, .bool g2, .slice A2 n2 k2, .bool g3, .slice A3 n3 k3, .bool g4, .slice A4 n4 k4, .slice x.iA x.im x.ic, .slice x.hA x.hm x.hc] := by rw [hy]; rfl
   have Hyc := Lib.hid hyc
   have hnew := cells_new W9 [.int .i64 x.ent, .int .i64 x.meth, .int .i64 x.since, .bool g1, .slice A1 n1 k1, .bool g2, .slice A2 n2 k2, .bool g3, .slice A3 n3 k3, .bool g4, .slice A4 n4 k4, .slice x.iA x.im x.ic, .slice x.hA x.hm x.hc] 80
   have hown10 := hown9.alloc (.cells #[.int .i64 x.ent, .int .i64 x.meth, .int .i64 x.since, .bool g1, .slice A1 n1 k1, .bool g2, .slice A2 n2 k2, .bool g3, .slice A3 n3 k3, .bool g4, .slice A4 n4 k4, .slice x.iA x.im x.ic, .slice x.hA x.hm x.hc] 80)
   have hone : ∀ u ∈ ([.int .i64 x.ent, .int .i64 x.meth, .int .i64 x.since, .bool g1, .slice A1 n1 k1, .bool g2, .slice A2 n2 k2, .bool g3, .slice A3 n3 k3, .bool g4, .slice A4 n4 k4, .slice x.iA x.im x.ic, .slice x.hA x.hm x.hc] : List Value), u.oneCell' = true := by rw [<- hyc]; exact con_one y
   have h63 : k + 1 <= maxLen := by unfold maxLen; omega
   have h64 : (k + 1) * 200 <= 140737488355328 := by omega
   have h65 : w.heap.size <= (W9.alloc (.cells #[.int .i64 x.ent, .int .i64 x.meth, .int .i64 x.since, .bool g1, .slice A1 n1 k1, .bool g2, .slice A2 n2 k2, .bool g3, .slice A3 n3 k3, .bool g4, .slice A4 n4 k4, .slice x.iA x.im x.ic, .slice x.hA x.hm x.hc] 80)).heap.size := by simp; omega
   have Hy := Lib.hid hy
   clear hyf hBr9 hown9 hyc hy hz9
   go_wp2_with (first | (refine wpList_load_mid rfl 78 (.tmp 7) rfl W6.heap.size 0 rfl [.bool g1, .slice A1 n1 k1, .bool g2, .slice A2 n2 k2] _ hra.out Tryz.underlying78 rfl R1.ratSize ?_) | (refine wpList_load_mid rfl 78 (.tmp 9) rfl W8.heap.size 0 rfl [.bool g3, .slice A3 n3 k3, .bool g4, .slice A4 n4 k4] _ hrd.out Tryz.underlying78 rfl R1.ratSize ?_) | (at_builtin; refine wpList_append_own _ rfl _ _ 32 rfl w.heap.size 80 i0 (.agg #[.int .i64 (Con.zero).ent, .int .i64 (Con.zero).meth, .int .i64 (Con.zero).since, .bool (Con.zero).sg1, .slice (Con.zero).sA1 (Con.zero).sn1 (Con.zero).sc1, .bool (Con.zero).sg2, .slice (Con.zero).sA2 (Con.zero).sn2 (Con.zero).sc2, .bool (Con.zero).fg1, .slice (Con.zero).fA1 (Con.zero).fn1 (Con.zero).fc1, .bool (Con.zero).fg2, .slice (Con.zero).fA2 (Con.zero).fn2 (Con.zero).fc2, .slice (Con.zero).iA (Con.zero).im (Con.zero).ic, .slice (Con.zero).hA (Con.zero).hm (Con.zero).hc]) 13 200 Tryz.underlying32 hi hz0 hz1 hz2 rfl (by decide) _ _ _ rfl hown10 ⟨W9.heap.size, 0, none⟩ 1 1 [.int .i64 x.ent, .int .i64 x.meth, .int .i64 x.since, .bool g1, .slice A1 n1 k1, .bool g2, .slice A2 n2 k2, .bool g3, .slice A3 n3 k3, .bool g4, .slice A4 n4 k4, .slice x.iA x.im x.ic, .slice x.hA x.hm x.hc] rfl rfl hnew hone h63 h64 h65 ?_))
   intro v' w10 hown' hgrow _
   rw [<- Hyc.out] at hown'
   have hbA := hbw9.alloc hq9 (.cells #[.int .i64 x.ent, .int .i64 x.meth, .int .i64 x.since, .bool g1, .slice A1 n1 k1, .bool g2, .slice A2 n2 k2, .bool g3, .slice A3 n3 k3, .bool g4, .slice A4 n4 k4, .slice x.iA x.im x.ic, .slice x.hA x.hm x.hc] 80)
   have hb10 := hbA.grown hgrow h65 (own_base Hown.out)
   have hBal := (row_new W9 #[.int .i64 x.ent, .int .i64 x.meth, .int .i64 x.since, .bool g1, .slice A1 n1 k1, .bool g2, .slice A2 n2 k2, .bool g3, .slice A3 n3 k3, .bool g4, .slice A4 n4 k4, .slice x.iA x.im x.ic, .slice x.hA x.hm x.hc] 80).1
   have hty := row_of_own hown10 3 (by decide)
   have kp : ∀ (a : Con) (b : Cnt), a.Fits SR W9 w.heap.size b -> a.Fits SR w10 w.heap.size b := fun a b h => (h.belowR hBal hq9).keptR hgrow h65 (own_base hown10) hty
   have hnh : Hold (fun a b => a.Fits SR w10 w.heap.size b) (cs ++ [y]) ((l.take (k + 1)).map Raw.cnt) := by
    rw [List.take_succ_eq_append_getElem hkl, List.map_append, <- HXe.out]
    exact Hold.snoc (kp _ _ Hyf.out) (Hold9.out.imp kp)
   have Hnh := Lib.hid hnh
   have Hok2 : Hid (∀ x ∈ l.take (k + 1), x.ok = true) := Lib.hid (take_mem_all (P := fun x : Raw => x.ok = true) hkl Hok.out (by rw [<- HXe.out]; exact Hxok.out))
   have Ho10 := Lib.hid hown'
   have Hb10 := Lib.hid hb10
   clear hown' hnh kp hty hBal hbA hgrow hb10
   go_wp2
   go_roundw
   case rel => exact ⟨k + 1, cs ++ [y], by omega, by go_num, Hok2.out, by rw [List.length_append, Hcl.out]; rfl, by rw [conRow_snoc]; exact Ho10.out, Hnh.out, Hb10.out⟩
   case measure => simp [intOf]; omega
  ·obtain rfl : k = n := by omega
   have htk : l.take k = l := List.take_of_length_le (by have := Hl.out; omega)
   have Htk := Lib.hid htk
   clear htk
   go_wp2
   go_ret2
   refine ⟨hb, _, _, rfl, fun _ => ?_⟩
   obtain ⟨A', c', rfl, hC⟩ := consAt_own Hown.out (by have := Hcl.out; omega)
   have hok := Hok.out
   have hho := Hhold.out
   rw [Htk.out] at hok hho
   have hlk := Hl.out
   refine ⟨by omega, hok, A', c', cs, by rw [hlk]; rfl, by rw [Hcl.out, hlk], hC, hho.imp fun _ _ h => h.1⟩
end
end Go.Proofs.YtcblobokjhhboaaGreat
namespace Go.Proofs.YtcblobokjhhboaaGreat
open Go.RowKit
theorem conInfoD : (Tryz.prog.info? 101).map (fun i => (i.zero, i.size, i.bytes)) = some (some (.agg #[.int .i64 (Con.zero).ent, .int .i64 (Con.zero).meth, .int .i64 (Con.zero).since, .bool (Con.zero).sg1, .slice (Con.zero).sA1 (Con.zero).sn1 (Con.zero).sc1, .bool (Con.zero).sg2, .slice (Con.zero).sA2 (Con.zero).sn2 (Con.zero).sc2, .bool (Con.zero).fg1, .slice (Con.zero).fA1 (Con.zero).fn1 (Con.zero).fc1, .bool (Con.zero).fg2, .slice (Con.zero).fA2 (Con.zero).fn2 (Con.zero).fc2, .slice (Con.zero).iA (Con.zero).im (Con.zero).ic, .slice (Con.zero).hA (Con.zero).hm (Con.zero).hc]), 13, 200) := by kernel_rfl
theorem itmInfo : (Tryz.prog.info? 90).map (fun i => (i.zero, i.size, i.bytes)) = some (some (.agg #[.int .i64 0, .int .i64 0, .int .i64 0, .int .i64 0, .int .i64 0, .int .i64 0, .int .i64 0]), 7, 56) := by kernel_rfl
def ItmsTy (w : World) (A : Option Addr) (l : List Itm) : Prop := l = [] ∨ ∃ b o cur fr, A = some ⟨b, o, none⟩ /\ w.heap[b]? = some (.cells cur 90 fr)
theorem ItmsTy.below {w w' : World} {A : Option Addr} {l : List Itm} (h : ItmsTy w A l) (_ : ItmsAt w w.heap.size A l) (hb : Below w.heap.size w w') : ItmsTy w' A l := by
 rcases h with h | ⟨b, o, cur, fr, e, hg⟩
 ·exact .inl h
 ·exact .inr ⟨b, o, cur, fr, e, (hb.block b (some_lt hg)).trans hg⟩
theorem ItmsTy.kept {w w' : World} {A : Option Addr} {l : List Itm} {row : Option Nat} (h : ItmsTy w A l) (hi : ItmsAt w w.heap.size A l) (hg : w.grownBy w' row) (hr : OtherRow w 90 row) : ItmsTy w' A l /\ ItmsAt w' w'.heap.size A l := by
 rcases h with h | ⟨b, o, cur, fr, e, hb⟩
 ·exact ⟨.inl h, .inl h⟩
 ·have hne : some b ≠ row := fun e' => by
   obtain ⟨cs, s, fr', h1, h2⟩ := hr b e'.symm
   rw [hb] at h1
   cases h1
   exact h2 rfl
  refine ⟨.inr ⟨b, o, cur, fr, e, (hg.block b (some_lt hb) hne).trans hb⟩, RowsAt.kept hi hg fun b' o' e' => ?_⟩
  rw [e] at e'
  cases e'
  exact hne
def Con.FitsD (w : World) (x : Con) (y : Cnt) : Prop := x.Holds SD w w.heap.size y /\ ItmsTy w x.iA y.its /\ ItmsTy w x.hA y.shs
theorem Con.FitsD.below {w w' : World} {x : Con} {y : Cnt} (h : x.FitsD w y) (hb : Below w.heap.size w w') : x.FitsD w' y :=
 ⟨h.1.atD hb, h.2.1.below h.1.hiA hb, h.2.2.below h.1.hhA hb⟩
theorem Con.FitsD.kept {w w' : World} {x : Con} {y : Cnt} {row : Option Nat} (h : x.FitsD w y) (hg : w.grownBy w' row) (ht : OtherRow w 147 row) (hr : OtherRow w 90 row) : x.FitsD w' y := by
 obtain ⟨h0, h1, h2⟩ := h
 obtain ⟨t1, i1⟩ := h1.kept h0.hiA hg hr
 obtain ⟨t2, i2⟩ := h2.kept h0.hhA hg hr
 exact ⟨⟨h0.he, h0.hm, h0.hs, RI.kept h0.hsh hg ht, RI.kept h0.hfi hg ht, h0.hso, h0.hfo, h0.hil, h0.hin, h0.hix, i1, h0.hhl, h0.hhn, h0.hhx, i2⟩, t1, t2⟩
theorem Raw.ok_parts {x : Raw} (h : x.ok = true) : Raw.quot x.s0 x.s1 = true /\ Raw.quot x.f0 x.f1 = true /\ Raw.few x.its = true /\ Raw.few x.shs = true := by
 unfold Raw.ok at h
 simp only [Bool.and_eq_true] at h
 exact ⟨h.1.1.1, h.1.1.2, h.1.2, h.2⟩
theorem row_not {W : World} {base n sz b : Nat} {v : Value} {e t : TypeId} {xs : List Value} {cs : Array Value} {fr : Nat × Nat} (h : W.ownsRow base e sz v n xs) (hb : v.ownBlock = some b) (hc : W.heap[b]? = some (.cells cs t fr)) (ht : e ≠ t) : False := by
 rcases h.2 with ⟨rfl, _⟩ | ⟨g, cap, cur, rfl, _, hg, _⟩
 ·simp [Value.ownBlock] at hb
 ·simp [Value.ownBlock] at hb
  subst hb
  rw [hg] at hc
  cases hc
  exact ht rfl
def OwnPost (l : List Raw) (w : World) (e : Ending) (w' : World) : Prop :=
 Below w.heap.size w w' /\ ∃ A c cs, e = .returned (.slice A l.length c) /\ cs.length = l.length /\ ConsAt w' w'.heap.size A cs /\ Hold (fun a b => a.Holds SD w' w'.heap.size b) cs (l.map Raw.cnt)
theorem run_append_zero {P : Program} {w : World} (t ty e : TypeId) (i : TypeInfo) (ht : P.underlying t = some (.slice e)) (hi : P.info? e = some i) (g : Nat) (A : Option Addr) (c : Nat) :
  (Builtin.append_ #[t, t] ty #[.slice (some ⟨g, 0, none⟩) 0 0, .slice A 0 c]).run P w = .ok (.slice (some ⟨g, 0, none⟩) 0 0) w := by
 cases A <;> simp [Builtin.append_, run_underlying ht, sizeOf, typeInfo, hi, Builtin.lenOf, Builtin.firstCells, storeCells, loadCells, loadCellsFrom]
theorem itms_len : ∀ (l : List Itm), (l.flatMap Itm.cells).length = l.length * 7
 | [] => rfl
 | a :: l => by rw [List.flatMap_cons, List.length_append, itms_len l]; simp [Itm.cells]; omega
theorem wp_copy_itms (w : World) {o : Oper} {a : Act} {K : Act -> World -> Prop} {Q : Exit -> Act -> World -> Prop} (s x : Operand) (t : TypeId)
  (ho : o.op = .call { callee := .builtin .append, args := #[s, x], argTypes := #[t, t] }) (ht : Tryz.prog.underlying t = some (.slice 90))
  (g : Nat) (hs : a.eval s = .slice (some ⟨g, 0, none⟩) 0 0) (hg : w.heap[g]? = some (.cells #[] 90 (0, 0)))
  (A : Option Addr) (m c : Nat) (l : List Itm) (hx : a.eval x = .slice A m c) (hl : l.length = m) (hm : m <= 40) (h : ItmsAt w w.heap.size A l)
  (hK : ∀ A' c' w', Below w.heap.size w w' -> ItmsAt w' w'.heap.size A' l -> ItmsTy w' A' l -> K (a.put o.dst (.slice A' m c')) w') : o.wp Tryz.prog a w K Q := by
 obtain ⟨i0, hi, hz0, hz1, hz2⟩ := info_parts itmInfo
 subst hl
 rcases h with h | ⟨b, off, rfl, hb, hr⟩
 ·subst h
  have hrun := run_append_zero (P := Tryz.prog) (w := w) t o.type _ i0 ht hi g A c
  have hk := hK (some ⟨g, 0, none⟩) 0 w (Below.refl _ _) (.inl rfl) (.inl rfl)
  unfold Oper.wp execOp
  simp only [ho, resolve, invoke, builtin, Sem.run_bind, Sem.run_pure, Result.andThen_ok, List.map_toArray, List.map_cons, List.map_nil, hs, hx, List.length_nil, hrun]
  exact hk
 ·by_cases h0 : l.length = 0
  ·have hl0 : l = [] := List.length_eq_zero_iff.1 h0
   subst hl0
   have hrun := run_append_zero (P := Tryz.prog) (w := w) t o.type _ i0 ht hi g (some ⟨b, off, none⟩) c
   have hk := hK (some ⟨g, 0, none⟩) 0 w (Below.refl _ _) (.inl rfl) (.inl rfl)
   unfold Oper.wp execOp
   simp only [ho, resolve, invoke, builtin, Sem.run_bind, Sem.run_pure, Result.andThen_ok, List.map_toArray, List.map_cons, List.map_nil, hs, hx, List.length_nil, hrun]
   exact hk
  ·have hfl : (l.flatMap Itm.cells).length = l.length * 7 := itms_len l
   have hnews : ∀ j u, (l.flatMap Itm.cells)[j]? = some u -> w.cell? ((⟨b, off, none⟩ : Addr).add j) = some u := by
    intro j u hj
    have hjl : j < l.length * 7 := by have := (List.getElem?_eq_some_iff.1 hj).1; rw [hfl] at this; exact this
    have hk : j / 7 < l.length := by omega
    have e := flat_get Itm.cells 7 l (fun _ _ => rfl) (j / 7) hk (j % 7) (by omega)
    rw [show j / 7 * 7 + j % 7 = j by omega, hj] at e
    have := hr (j / 7) hk (j % 7) u e.symm
    rw [Addr.add_mid]
    rw [show off + j / 7 * 7 + j % 7 = off + j by omega] at this
    exact this
   have hrun := run_append_grow (P := Tryz.prog) w t o.type _ i0 _ ht hi hz0 ⟨g, 0, none⟩ 0 0 [] (by simp) (by simp) ⟨b, off, none⟩ l.length c (l.flatMap Itm.cells) (by rw [hfl, hz1]) hnews (by omega) (by omega) (growslice_fits (by omega) (by rw [hz2]; omega))
   rw [Nat.zero_add] at hrun
   have hown0 : w.ownsRow 0 90 7 (.slice (some ⟨g, 0, none⟩) 0 0) 0 [] := ⟨rfl, .inr ⟨g, 0, #[], rfl, Nat.zero_le _, hg, Nat.le_refl _, Nat.zero_le _, rfl, rfl⟩⟩
   obtain ⟨v2, w2, hr2, ho2, _⟩ := run_append_own (P := Tryz.prog) w 0 t o.type _ i0 _ 7 56 ht hi hz0 hz1 hz2 rfl (by decide) _ _ _ hown0 ⟨b, off, none⟩ l.length c (l.flatMap Itm.cells) hfl hnews (by
    intro u hu
    rw [List.mem_flatMap] at hu
    obtain ⟨y, _, hy⟩ := hu
    simp [Itm.cells] at hy
    rcases hy with h | h | h | h | h | h | h <;> (rw [h]; rfl)) (by unfold maxLen; omega) (by omega) (Nat.zero_le _)
   rw [Nat.zero_add, List.nil_append] at ho2
   rw [hrun] at hr2
   generalize hW : World.alloc _ _ = W' at hrun hr2
   cases hr2
   have hbl : Below w.heap.size w w2 := by rw [<- hW]; exact ⟨rfl, rfl, rfl, by simp, fun k hk => Below.heap_alloc w.drew _ k hk⟩
   have hty : ∃ cur fr, w2.heap[w.heap.size]? = some (.cells cur 90 fr) := by rw [<- hW]; exact ⟨_, _, heap_alloc_new w.drew _⟩
   obtain ⟨A', c', he, hat⟩ := own_flat (f := Itm.cells) (by decide) (fun _ => rfl) ho2 rfl
   cases he
   obtain ⟨cur, fr, hty⟩ := hty
   have hk := hK _ (grownCap w l.length 0 90) w2 hbl hat (.inr ⟨_, _, _, _, rfl, hty⟩)
   unfold Oper.wp execOp
   simp only [ho, resolve, invoke, builtin, Sem.run_bind, Sem.run_pure, Result.andThen_ok, List.map_toArray, List.map_cons, List.map_nil, hs, hx, hrun]
   exact hk
end Go.Proofs.YtcblobokjhhboaaGreat
namespace Go.Proofs.YtcblobokjhhboaaGreat
open Go.RowKit
namespace Smp
def tos : List Int := [1010, 1100, 1200, 1300, 1500, 2000, 2100, 3000, 3300, 4000, 4100, 4700, 5000, 5100]
def kinds : List Int := [1, 1, 1, 1, 1, 2, 2, 3, 3, 4, 4, 4, 5, 5]
def echart : List Acc := (List.range 14).map (fun (i : Nat) => ⟨10 * ((i : Int) + 1), kinds.getD i 0, 0, 0⟩)
def elinks : List Lnk := (List.range 14).map (fun (i : Nat) => ⟨10 * ((i : Int) + 1), tos.getD i 0, -25567⟩)
theorem echart_at {i : Nat} (h : i < 14) : echart.take (i + 1) = echart.take i ++ [⟨10 * ((i : Int) + 1), kinds.getD i 0, 0, 0⟩] := by
 have hl : i < echart.length := h
 rw [List.take_succ_eq_append_getElem hl]
 simp [echart]
theorem elinks_at {i : Nat} (h : i < 14) : elinks.take (i + 1) = elinks.take i ++ [⟨10 * ((i : Int) + 1), tos.getD i 0, -25567⟩] := by
 have hl : i < elinks.length := h
 rw [List.take_succ_eq_append_getElem hl]
 simp [elinks]
end Smp
def lnkRow (l : List Lnk) : List Value := l.flatMap Lnk.cells
theorem lnkRow_snoc (l : List Lnk) (x : Lnk) : lnkRow (l ++ [x]) = lnkRow l ++ x.cells := by simp [lnkRow]
theorem lnkInfo : (Tryz.prog.info? 168).map (fun i => (i.zero, i.size, i.bytes)) = some (some (.agg #[.int .i64 0, .int .i64 0, .int .i64 0]), 3, 24) := by kernel_rfl
theorem own_ne_type {W : World} {b1 b2 s1 s2 n1 n2 : Nat} {v1 v2 : Value} {e1 e2 : TypeId} {x1 x2 : List Value} (h1 : W.ownsRow b1 e1 s1 v1 n1 x1) (h2 : W.ownsRow b2 e2 s2 v2 n2 x2) (he : e1 ≠ e2) : v1.ownBlock = none ∨ v1.ownBlock ≠ v2.ownBlock := by
 rcases h1.2 with ⟨rfl, _⟩ | ⟨g, cap, cur, rfl, _, hg, _⟩
 ·exact .inl rfl
 ·rcases h2.2 with ⟨rfl, _⟩ | ⟨g', cap', cur', rfl, _, hg', _⟩
  ·right; simp [Value.ownBlock]
  ·right
   simp only [Value.ownBlock, ne_eq, Option.some.injEq]
   intro e
   subst e
   rw [hg] at hg'
   cases hg'
   exact he rfl
theorem own_one {W : World} {b s n : Nat} {v : Value} {e : TypeId} {x : List Value} (h : W.ownsRow b e s v n x) : ∃ A c, v = .slice A n c := by
 rcases h.2 with ⟨rfl, rfl⟩ | ⟨g, cap, cur, rfl, _⟩
 ·exact ⟨_, _, rfl⟩
 ·exact ⟨_, _, rfl⟩
theorem grown_refl' (w : World) {row : Option Nat} : w.grownBy w row := ⟨rfl, rfl, rfl, Nat.le_refl _, fun _ _ _ => rfl⟩
theorem grown_set {a w : World} {g : Nat} (h : a.grownBy w (some g)) (i : Nat) (u : Value) : a.grownBy (w.setCell ⟨g, i, none⟩ u) (some g) :=
 ⟨h.os, h.tape, h.output, by simpa [World.setCell] using h.size, fun k hk hne => (Below.heap_setCell w ⟨g, i, none⟩ u k (fun e => hne (by rw [e]))).trans (h.block k hk hne)⟩
theorem own_ne_box {W : World} {n s m : Nat} {v : Value} {e : TypeId} {x : List Value} (h : W.ownsRow (n + 4) e s v m x) : v.ownBlock = none ∨ v.ownBlock ≠ some (n + 3) := by
 rcases h.2 with ⟨rfl, _⟩ | ⟨g, cap, cur, rfl, hg, _⟩
 ·exact .inl rfl
 ·right; simp [Value.ownBlock]; omega
def SampleEntPost (name cur : ByteArray) (w : World) (e : Ending) (w' : World) : Prop := Below w.heap.size w w' /\ ∃ A c L d, e = .returned (.agg #[.string name, .string cur, .slice A 14 c, .slice L 14 d, .bool false]) /\ Fresh w.heap.size A /\ Fresh w.heap.size L /\ AccsAt w' w'.heap.size A Smp.echart /\ LnksAt w' w'.heap.size L Smp.elinks
section
variable (w : World)
theorem sent_any (name cur : ByteArray) : Calls Tryz.prog 58 #[.string name, .string cur] w (SampleEntPost name cur w) := by
 obtain ⟨ia, hia, ha0, ha1, ha2⟩ := info_parts accInfo
 obtain ⟨il, hil, hl0, hl1, hl2⟩ := info_parts lnkInfo
 obtain ⟨hB1, hz, hblk⟩ := allocs_spec [(.cells #[.string ⟨#[]⟩, .string ⟨#[]⟩, .slice none 0 0, .slice none 0 0, .bool false] 113), (.cells #[.int .i64 1010, .int .i64 1100, .int .i64 1200, .int .i64 1300, .int .i64 1500, .int .i64 2000, .int .i64 2100, .int .i64 3000, .int .i64 3300, .int .i64 4000, .int .i64 4100, .int .i64 4700, .int .i64 5000, .int .i64 5100] 3), (.cells #[.int .i64 1, .int .i64 1, .int .i64 1, .int .i64 1, .int .i64 1, .int .i64 2, .int .i64 2, .int .i64 3, .int .i64 3, .int .i64 4, .int .i64 4, .int .i64 4, .int .i64 5, .int .i64 5] 3), (.cells #[.string name, .string cur, .slice none 0 0, .slice none 0 0, .bool false] 113)] w
 change Below w.heap.size w ((((w.alloc (.cells #[.string ⟨#[]⟩, .string ⟨#[]⟩, .slice none 0 0, .slice none 0 0, .bool false] 113)).alloc (.cells #[.int .i64 1010, .int .i64 1100, .int .i64 1200, .int .i64 1300, .int .i64 1500, .int .i64 2000, .int .i64 2100, .int .i64 3000, .int .i64 3300, .int .i64 4000, .int .i64 4100, .int .i64 4700, .int .i64 5000, .int .i64 5100] 3)).alloc (.cells #[.int .i64 1, .int .i64 1, .int .i64 1, .int .i64 1, .int .i64 1, .int .i64 2, .int .i64 2, .int .i64 3, .int .i64 3, .int .i64 4, .int .i64 4, .int .i64 4, .int .i64 5, .int .i64 5] 3)).alloc (.cells #[.string name, .string cur, .slice none 0 0, .slice none 0 0, .bool false] 113)) at hB1
 change ((((w.alloc (.cells #[.string ⟨#[]⟩, .string ⟨#[]⟩, .slice none 0 0, .slice none 0 0, .bool false] 113)).alloc (.cells #[.int .i64 1010, .int .i64 1100, .int .i64 1200, .int .i64 1300, .int .i64 1500, .int .i64 2000, .int .i64 2100, .int .i64 3000, .int .i64 3300, .int .i64 4000, .int .i64 4100, .int .i64 4700, .int .i64 5000, .int .i64 5100] 3)).alloc (.cells #[.int .i64 1, .int .i64 1, .int .i64 1, .int .i64 1, .int .i64 1, .int .i64 2, .int .i64 2, .int .i64 3, .int .i64 3, .int .i64 4, .int .i64 4, .int .i64 4, .int .i64 5, .int .i64 5] 3)).alloc (.cells #[.string name, .string cur, .slice none 0 0, .slice none 0 0, .bool false] 113)).heap.size = w.heap.size + 4 at hz
 change ∀ (i : Nat) (o : Obj), _ -> ((((w.alloc (.cells #[.string ⟨#[]⟩, .string ⟨#[]⟩, .slice none 0 0, .slice none 0 0, .bool false] 113)).alloc (.cells #[.int .i64 1010, .int .i64 1100, .int .i64 1200, .int .i64 1300, .int .i64 1500, .int .i64 2000, .int .i64 2100, .int .i64 3000, .int .i64 3300, .int .i64 4000, .int .i64 4100, .int .i64 4700, .int .i64 5000, .int .i64 5100] 3)).alloc (.cells #[.int .i64 1, .int .i64 1, .int .i64 1, .int .i64 1, .int .i64 1, .int .i64 2, .int .i64 2, .int .i64 3, .int .i64 3, .int .i64 4, .int .i64 4, .int .i64 4, .int .i64 5, .int .i64 5] 3)).alloc (.cells #[.string name, .string cur, .slice none 0 0, .slice none 0 0, .bool false] 113)).heap[w.heap.size + i]? = some o at hblk
 obtain ⟨W1, hW1⟩ : ∃ W1, W1 = ((((w.alloc (.cells #[.string ⟨#[]⟩, .string ⟨#[]⟩, .slice none 0 0, .slice none 0 0, .bool false] 113)).alloc (.cells #[.int .i64 1010, .int .i64 1100, .int .i64 1200, .int .i64 1300, .int .i64 1500, .int .i64 2000, .int .i64 2100, .int .i64 3000, .int .i64 3300, .int .i64 4000, .int .i64 4100, .int .i64 4700, .int .i64 5000, .int .i64 5100] 3)).alloc (.cells #[.int .i64 1, .int .i64 1, .int .i64 1, .int .i64 1, .int .i64 1, .int .i64 2, .int .i64 2, .int .i64 3, .int .i64 3, .int .i64 4, .int .i64 4, .int .i64 4, .int .i64 5, .int .i64 5] 3)).alloc (.cells #[.string name, .string cur, .slice none 0 0, .slice none 0 0, .bool false] 113)) := ⟨_, rfl⟩
 rw [<- hW1] at hB1 hz hblk
 have HW1 := Lib.hid hW1
 have Hres := Lib.hid (show W1.heap[w.heap.size]? = some _ from hblk 0 _ rfl)
 have Hto := Lib.hid (hblk 1 _ rfl)
 have Hkd := Lib.hid (hblk 2 _ rfl)
 have Hbox := Lib.hid (hblk 3 _ rfl)
 have Hz := Lib.hid hz
 have HB1 := Lib.hid hB1
 have hkc : ∀ (W : World) (i : Nat), Below (w.heap.size + 3) W1 W -> i < 14 -> W.cell? ⟨w.heap.size + 2, i, none⟩ = some (.int .i64 (Smp.kinds.getD i 0)) := fun W i hW hi => by
  rw [hW.cell (p := ⟨w.heap.size + 2, i, none⟩) (by show w.heap.size + 2 < _; omega), cell_of_row _ _ _ _ _ _ Hkd.out]
  match i, hi with
  | 0, _ => rfl
  | 1, _ => rfl
  | 2, _ => rfl
  | 3, _ => rfl
  | 4, _ => rfl
  | 5, _ => rfl
  | 6, _ => rfl
  | 7, _ => rfl
  | 8, _ => rfl
  | 9, _ => rfl
  | 10, _ => rfl
  | 11, _ => rfl
  | 12, _ => rfl
  | 13, _ => rfl
 have htc : ∀ (W : World) (i : Nat), Below (w.heap.size + 3) W1 W -> i < 14 -> W.cell? ⟨w.heap.size + 1, i, none⟩ = some (.int .i64 (Smp.tos.getD i 0)) := fun W i hW hi => by
  rw [hW.cell (p := ⟨w.heap.size + 1, i, none⟩) (by show w.heap.size + 1 < _; omega), cell_of_row _ _ _ _ _ _ Hto.out]
  match i, hi with
  | 0, _ => rfl
  | 1, _ => rfl
  | 2, _ => rfl
  | 3, _ => rfl
  | 4, _ => rfl
  | 5, _ => rfl
  | 6, _ => rfl
  | 7, _ => rfl
  | 8, _ => rfl
  | 9, _ => rfl
  | 10, _ => rfl
  | 11, _ => rfl
  | 12, _ => rfl
  | 13, _ => rfl
 have Hkc := Lib.hid hkc
 have Htc := Lib.hid htc
 clear hW1 hblk hz hB1 hkc htc
 go_enter Tryz.func58, Tryz.ntmps58
 go_upto_region 4 with (fail)
 rw [<- HW1.out]
 go_wp2
 go_loopw [8] (fun s wr => ∃ (i : Nat) (v1 v2 : Value), i <= 14 /\ s = .int .i64 i /\ wr.heap[w.heap.size + 3]? = some (.cells #[.string name, .string cur, v1, v2, .bool false] 113 (0, 0)) /\
  wr.ownsRow (w.heap.size + 4) 84 4 v1 i (accRow (Smp.echart.take i)) /\ wr.ownsRow (w.heap.size + 4) 168 3 v2 i (lnkRow (Smp.elinks.take i)) /\ Below (w.heap.size + 3) W1 wr) (fun s _ => 14 - (intOf s).toNat)
 case atStart => exact ⟨0, _, _, by omega, rfl, Hbox.out, World.ownsRow_nil _ _ _ _, World.ownsRow_nil _ _ _ _, Below.refl _ _⟩
 case round =>
  obtain ⟨i, v1, v2, hi, rfl, hbx, how1, how2, hb⟩ := hrel
  have Hbx := Lib.hid hbx
  have Hown1 := Lib.hid how1
  have Hown2 := Lib.hid how2
  have hqq := some_lt hbx
  clear hbx how1 how2
  by_cases hlt : i < 14
  case neg =>
   obtain rfl : i = 14 := by omega
   have x2 := Hbx.out
   obtain ⟨A1, c1, rfl⟩ := own_one Hown1.out
   obtain ⟨A2, c2, rfl⟩ := own_one Hown2.out
   have o1 := Hown1.out
   have o2 := Hown2.out
   rw [show Smp.echart.take 14 = Smp.echart from rfl] at o1
   rw [show Smp.elinks.take 14 = Smp.elinks from rfl] at o2
   obtain ⟨A1', c1', e1, r1⟩ := own_flat (f := Acc.cells) (by decide) (fun _ => rfl) o1 rfl
   obtain ⟨A2', c2', e2, r2⟩ := own_flat (f := Lnk.cells) (by decide) (fun _ => rfl) o2 rfl
   cases e1
   cases e2
   have f1 := own_fresh o1
   have f2 := own_fresh o2
   have hrg := Lib.hid (range_row (cs := [.string name, .string cur, .slice A1 14 c1, .slice A2 14 c2, .bool false]) x2)
   have hres := (hb.block w.heap.size (by omega)).trans Hres.out
   have Hr := Lib.hid hres
   have hR := setRow_heap wr w.heap.size _ #[.string name, .string cur, .slice A1 14 c1, .slice A2 14 c2, .bool false] _ _ hres
   have hload := Lib.hid (run_loadVar_row (P := Tryz.prog) _ _ _ 113 _ _ _ hR Tryz.underlying113 rfl entSize)
   have Ho : Hid ((#[.string name, .string cur, .slice A1 14 c1, .slice A2 14 c2, .bool false] : Array Value).all (·.oneCell') = true) := by show _ = true; simp [Value.oneCell']
   have hbw := HB1.out.trans (hb.mono (show w.heap.size <= w.heap.size + 3 by omega))
   have hBF := Lib.hid (below_setRow hbw (Nat.le_refl _) #[.string name, .string cur, .slice A1 14 c1, .slice A2 14 c2, .bool false])
   have R1 := Lib.hid (RowsAt.other_row r1 f1 (show w.heap.size < w.heap.size + 4 by omega) #[.string name, .string cur, .slice A1 14 c1, .slice A2 14 c2, .bool false])
   have R2 := Lib.hid (RowsAt.other_row r2 f2 (show w.heap.size < w.heap.size + 4 by omega) #[.string name, .string cur, .slice A1 14 c1, .slice A2 14 c2, .bool false])
   have F1 := Lib.hid f1
   have F2 := Lib.hid f2
   clear o1 o2 r1 r2 f1 f2 x2 hres hR hbw
   go_wp2_with (first | (refine wpList_load_mid rfl 113 (.tmp 7) rfl (w.heap.size + 3) 0 rfl [.string name, .string cur, .slice A1 14 c1, .slice A2 14 c2, .bool false] _ hrg.out Tryz.underlying113 rfl entSize ?_) | (refine wpList_store_row rfl 113 (.tmp 4) (.tmp 46) none rfl rfl w.heap.size 113 _ #[.string name, .string cur, .slice A1 14 c1, .slice A2 14 c2, .bool false] rfl rfl Hr.out rfl entSize Ho.out ?_))
   exact bodyPost_ret (v := .agg #[.string name, .string cur, .slice A1 14 c1, .slice A2 14 c2, .bool false]) (by simp [results, Tryz.results58, asAddr, Act.put, hload.out]) rfl ⟨hBF.out, A1, c1, A2, c2, rfl, (fun ad h => Nat.le_trans (by omega) (F1.out ad h)), (fun ad h => Nat.le_trans (by omega) (F2.out ad h)), R1.out, R2.out⟩
  have hi0' : (0 : Int) <= (i : Int) := by omega
  have hi1' : (i : Int) < 14 := by omega
  have hw1 : IntKind.i64.wrap ((i : Int) + 1) = (i : Int) + 1 := by rw [IntKind.wrap_i64]; omega
  have hw2 : IntKind.i64.wrap (10 * ((i : Int) + 1)) = 10 * ((i : Int) + 1) := by rw [IntKind.wrap_i64]; omega
  have hw3 : wrap64 ((i : Int) + 1) = (i : Int) + 1 := IntWalk.wrap64_in _ (by omega)
  have hw4 : wrap64 (10 * ((i : Int) + 1)) = 10 * ((i : Int) + 1) := IntWalk.wrap64_in _ (by omega)
  obtain ⟨kd, hkd⟩ : ∃ kd, kd = Smp.kinds.getD i 0 := ⟨_, rfl⟩
  obtain ⟨td, htd⟩ : ∃ td, td = Smp.tos.getD i 0 := ⟨_, rfl⟩
  have hck : ∀ W, Below (w.heap.size + 3) W1 W -> W.cell? ⟨w.heap.size + 2, i, none⟩ = some (.int .i64 kd) := fun W hW => by rw [hkd]; exact Hkc.out W i hW hlt
  have hct : ∀ W, Below (w.heap.size + 3) W1 W -> W.cell? ⟨w.heap.size + 1, i, none⟩ = some (.int .i64 td) := fun W hW => by rw [htd]; exact Htc.out W i hW hlt
  have HEa : Hid (Smp.echart.take (i + 1) = Smp.echart.take i ++ [⟨10 * ((i : Int) + 1), kd, 0, 0⟩]) := by show _ = _; rw [hkd]; exact Smp.echart_at hlt
  have HEl : Hid (Smp.elinks.take (i + 1) = Smp.elinks.take i ++ [⟨10 * ((i : Int) + 1), td, -25567⟩]) := by show _ = _; rw [htd]; exact Smp.elinks_at hlt
  have Hck := Lib.hid hck
  have Hct := Lib.hid hct
  clear hkd htd hck hct
  have hbA := hb
  go_upto_region 7 with (fail)
  have hSA : Below (w.heap.size + 3) W1 wr.drew := below_drawn hbA 1
  have hVA : Below wr.heap.size wr wr.drew := below_drawn (Below.refl _ _) 1
  refine wp_region_held (S := Below (w.heap.size + 3) W1) (by kernel_rfl) ?_
  change wpAnyH _ _ _ _ _ _ _ _ (World.drew wr)
  obtain ⟨W0A, hWd⟩ : ∃ W0, W0 = wr.drew := ⟨_, rfl⟩
  rw [<- hWd] at hSA hVA ⊢
  clear hWd
  refine tk (i := 0) (v := .pointer (some ⟨w.heap.size + 3, 2, none⟩)) rfl (by kernel_rfl) (fun _ _ _ h => h) (.inl ⟨by rfl, fun W' hS' => by go_simp⟩) hSA ?_
  try simp only [Act.put, z]
  refine tk (i := 2) (v := .int .i64 i) rfl (by kernel_rfl) (fun _ _ _ h => h) (.inl ⟨by rfl, fun W' hS' => by go_simp⟩) hSA ?_
  try simp only [Act.put, z]
  refine tk (i := 3) (v := .int .i64 ((i : Int) + 1)) rfl (by kernel_rfl) (fun _ _ _ h => h) (.inl ⟨by rfl, fun W' hS' => by go_simp⟩) hSA ?_
  try simp only [Act.put, z]
  refine tk (i := 4) (v := .int .i64 (10 * ((i : Int) + 1))) rfl (by kernel_rfl) (fun _ _ _ h => h) (.inl ⟨by rfl, fun W' hS' => by go_simp⟩) hSA ?_
  try simp only [Act.put, z]
  refine tk (i := 5) (v := .slice (some ⟨w.heap.size + 2, 0, none⟩) 14 14) rfl (by kernel_rfl) (fun _ _ _ h => h) (.inl ⟨by rfl, fun W' hS' => by go_simp⟩) hSA ?_
  try simp only [Act.put, z]
  refine tk (i := 6) (v := .int .i64 i) rfl (by kernel_rfl) (fun _ _ _ h => h) (.inl ⟨by rfl, fun W' hS' => by go_simp⟩) hSA ?_
  try simp only [Act.put, z]
  refine tk (i := 7) (v := .pointer (some ⟨w.heap.size + 2, i, none⟩)) rfl (by kernel_rfl) (fun _ _ _ h => h) (.inl ⟨by rfl, fun W' hS' => by go_simp⟩) hSA ?_
  try simp only [Act.put, z]
  refine tk (i := 8) (v := .int .i64 (kd)) rfl (by kernel_rfl) (fun _ _ _ h => h) (.inl ⟨by rfl, fun W' hS' => by have hc := Hck.out W' hS'; go_simp⟩) hSA ?_
  try simp only [Act.put, z]
  refine tk (i := 9) (v := .agg #[.int .i64 (10 * ((i : Int) + 1)), .int .i64 kd, .int .i64 0, .int .i64 0]) rfl (by kernel_rfl) (fun _ _ _ h => h) (.inl ⟨by rfl, fun W' hS' => by go_simp⟩) hSA ?_
  try simp only [Act.put, z]
  refine wpAnyH_letters fun md' ops' Q' a' hlm hlo hlq hla => ?_
  have fin : ∀ (W' : World) (p : Nat), Below wr.heap.size wr W' -> Below (w.heap.size + 3) W1 W' -> W'.heap[p]? = some (.cells #[.int .i64 (10 * ((i : Int) + 1)), .int .i64 kd, .int .i64 0, .int .i64 0] 84 (0, 0)) -> wpAnyH Tryz.prog md' ops' Q' (Below (w.heap.size + 3) W1) 3 #[true, true, true, true, true, true, true, true, true, true, true, false, false, false] ((a'.put (some 21) v1).put (some 30) (.slice (some ⟨p, 0, none⟩) 1 1)) W' := by
   intro W' p hV hS hrw
   subst hlm hlo hlq hla
   try simp only [Act.put, z]
   have how := pOwns_below Hown1.out hV
   have hoo := pOwns_below Hown2.out hV
   have hbx := gbox Hbx.out hV (some_lt Hbx.out)
   have hnew : ∀ j u, ([.int .i64 (10 * ((i : Int) + 1)), .int .i64 kd, .int .i64 0, .int .i64 0] : List Value)[j]? = some u -> W'.cell? ((⟨p, 0, none⟩ : Addr).add j) = some u := fun j u hj => by rw [Addr.add_mid, Nat.zero_add, cell_of_row _ _ _ _ _ _ hrw]; simpa using hj
   have hone : ∀ u ∈ ([.int .i64 (10 * ((i : Int) + 1)), .int .i64 kd, .int .i64 0, .int .i64 0] : List Value), u.oneCell' = true := by simp [Value.oneCell']
   have h65 : w.heap.size + 4 <= W'.heap.size := some_lt hbx
   refine wpAnyH_ready (rs := [11]) (by kernel_rfl) (by simp) (.cons rfl (fun K hK => ?_) .nil)
   refine wp_append_own W' _ _ 24 rfl (w.heap.size + 4) 84 ia (.agg #[.int .i64 0, .int .i64 0, .int .i64 0, .int .i64 0]) 4 32 Tryz.underlying24 hia ha0 ha1 ha2 rfl (by decide) v1 i _ rfl how ⟨p, 0, none⟩ 1 1 [.int .i64 (10 * ((i : Int) + 1)), .int .i64 kd, .int .i64 0, .int .i64 0] rfl rfl hnew hone (by unfold maxLen; omega) (by omega) h65 ?_
   intro v' W4 hown' hgrow _
   have hS4 := hS.grown hgrow (by omega) (fun k hk => Nat.le_trans (by omega) (own_base how k hk))
   have hbx4 := (hgrow.block _ (some_lt hbx) (fun e' => row_not (t := 113) how e'.symm hbx (by decide))).trans hbx
   have hoo4 := hoo.kept hgrow (own_ne_type hoo how (by decide))
   refine hK.out _ _ hS4 (fun _ => ?_)
   clear hK K
   try simp only [Act.put, z]
   clear hnew hone how hoo hbx hrw
   refine tk (i := 12) (v := .pointer (some ⟨w.heap.size + 3, 2, none⟩)) rfl (by kernel_rfl) (fun _ _ _ h => h) (.inl ⟨by rfl, fun W' hS' => by go_simp⟩) hS4 ?_
   try simp only [Act.put, z]
   refine wpAnyH_ready (rs := [13]) (by kernel_rfl) (by simp) (.cons rfl (fun K hK => ?_) .nil)
   have xc := cell_of_row _ _ 2 _ _ _ hbx4
   have xf := fun j => frozen_of_row _ _ j _ _ hbx4
   simp at xc
   have xlt := some_lt hbx4
   have hbx5 := heap_setCell_same W4 (w.heap.size + 3) 2 _ _ v' hbx4
   simp at hbx5
   have hS5 := hS4.setCell (p := ⟨w.heap.size + 3, 2, none⟩) (Nat.le_refl _) v'
   have own5 := hown'.kept (row := some (w.heap.size + 3)) (grown_set (grown_refl' W4) 2 v') (own_ne_box hown')
   have oth5 := hoo4.kept (row := some (w.heap.size + 3)) (grown_set (grown_refl' W4) 2 v') (own_ne_box hoo4)
   obtain ⟨Av, cv, rfl⟩ := own_one hown'
   go_simp
   obtain ⟨W5, hW5⟩ : ∃ W5, W5 = W4.setCell ⟨w.heap.size + 3, 2, none⟩ (.slice Av (i + 1) cv) := ⟨_, rfl⟩
   rw [<- hW5] at hbx5 hS5 own5 oth5 ⊢
   clear hW5
   refine hK.out _ _ hS5 (fun _ => ?_)
   clear hK K
   try simp only [Act.put, z]
   refine wpAnyH_done (by kernel_rfl) ?_ _
   try simp only [Act.put, z]
   have own6 : W5.ownsRow (w.heap.size + 4) 84 4 (.slice Av (i + 1) cv) (i + 1) (accRow (Smp.echart.take (i + 1))) := by rw [HEa.out, accRow_snoc]; exact own5
   have Hbx5 := Lib.hid hbx5
   have Hown6 := Lib.hid own6
   have Hoth5 := Lib.hid oth5
   clear hbx5 own5 own6 oth5 hown' hgrow hS4 hbx4 hoo4 xc xf xlt
   have hbB := hS5
   have hqB := some_lt Hbx5.out
   go_upto_region 8 with (fail)
   have hSB : Below (w.heap.size + 3) W1 W5.drew := below_drawn hbB 1
   have hVB : Below W5.heap.size W5 W5.drew := below_drawn (Below.refl _ _) 1
   refine wp_region_held (S := Below (w.heap.size + 3) W1) (by kernel_rfl) ?_
   change wpAnyH _ _ _ _ _ _ _ _ (World.drew W5)
   obtain ⟨W0B, hWd⟩ : ∃ W0, W0 = W5.drew := ⟨_, rfl⟩
   rw [<- hWd] at hSB hVB ⊢
   clear hWd
   refine tk (i := 0) (v := .pointer (some ⟨w.heap.size + 3, 3, none⟩)) rfl (by kernel_rfl) (fun _ _ _ h => h) (.inl ⟨by rfl, fun W' hS' => by go_simp⟩) hSB ?_
   try simp only [Act.put, z]
   refine tk (i := 2) (v := .int .i64 i) rfl (by kernel_rfl) (fun _ _ _ h => h) (.inl ⟨by rfl, fun W' hS' => by go_simp⟩) hSB ?_
   try simp only [Act.put, z]
   refine tk (i := 3) (v := .int .i64 ((i : Int) + 1)) rfl (by kernel_rfl) (fun _ _ _ h => h) (.inl ⟨by rfl, fun W' hS' => by go_simp⟩) hSB ?_
   try simp only [Act.put, z]
   refine tk (i := 4) (v := .int .i64 (10 * ((i : Int) + 1))) rfl (by kernel_rfl) (fun _ _ _ h => h) (.inl ⟨by rfl, fun W' hS' => by go_simp⟩) hSB ?_
   try simp only [Act.put, z]
   refine tk (i := 5) (v := .slice (some ⟨w.heap.size + 1, 0, none⟩) 14 14) rfl (by kernel_rfl) (fun _ _ _ h => h) (.inl ⟨by rfl, fun W' hS' => by go_simp⟩) hSB ?_
   try simp only [Act.put, z]
   refine tk (i := 6) (v := .int .i64 i) rfl (by kernel_rfl) (fun _ _ _ h => h) (.inl ⟨by rfl, fun W' hS' => by go_simp⟩) hSB ?_
   try simp only [Act.put, z]
   refine tk (i := 7) (v := .pointer (some ⟨w.heap.size + 1, i, none⟩)) rfl (by kernel_rfl) (fun _ _ _ h => h) (.inl ⟨by rfl, fun W' hS' => by go_simp⟩) hSB ?_
   try simp only [Act.put, z]
   refine tk (i := 8) (v := .int .i64 (td)) rfl (by kernel_rfl) (fun _ _ _ h => h) (.inl ⟨by rfl, fun W' hS' => by have hc := Hct.out W' hS'; go_simp⟩) hSB ?_
   try simp only [Act.put, z]
   refine tk (i := 9) (v := .agg #[.int .i64 (10 * ((i : Int) + 1)), .int .i64 td, .int .i64 (-25567)]) rfl (by kernel_rfl) (fun _ _ _ h => h) (.inl ⟨by rfl, fun W' hS' => by go_simp⟩) hSB ?_
   try simp only [Act.put, z]
   refine wpAnyH_letters fun md' ops' Q' a' hlm hlo hlq hla => ?_
   have fin : ∀ (W' : World) (p : Nat), Below W5.heap.size W5 W' -> Below (w.heap.size + 3) W1 W' -> W'.heap[p]? = some (.cells #[.int .i64 (10 * ((i : Int) + 1)), .int .i64 td, .int .i64 (-25567)] 168 (0, 0)) -> wpAnyH Tryz.prog md' ops' Q' (Below (w.heap.size + 3) W1) 3 #[true, true, true, true, true, true, true, true, true, true, true, false, false, false] ((a'.put (some 34) v2).put (some 43) (.slice (some ⟨p, 0, none⟩) 1 1)) W' := by
    intro W' p hV hS hrw
    subst hlm hlo hlq hla
    try simp only [Act.put, z]
    have how := pOwns_below Hoth5.out hV
    have hoo := pOwns_below Hown6.out hV
    have hbx := gbox Hbx5.out hV (some_lt Hbx5.out)
    have hnew : ∀ j u, ([.int .i64 (10 * ((i : Int) + 1)), .int .i64 td, .int .i64 (-25567)] : List Value)[j]? = some u -> W'.cell? ((⟨p, 0, none⟩ : Addr).add j) = some u := fun j u hj => by rw [Addr.add_mid, Nat.zero_add, cell_of_row _ _ _ _ _ _ hrw]; simpa using hj
    have hone : ∀ u ∈ ([.int .i64 (10 * ((i : Int) + 1)), .int .i64 td, .int .i64 (-25567)] : List Value), u.oneCell' = true := by simp [Value.oneCell']
    have h65 : w.heap.size + 4 <= W'.heap.size := some_lt hbx
    refine wpAnyH_ready (rs := [11]) (by kernel_rfl) (by simp) (.cons rfl (fun K hK => ?_) .nil)
    refine wp_append_own W' _ _ 111 rfl (w.heap.size + 4) 168 il (.agg #[.int .i64 0, .int .i64 0, .int .i64 0]) 3 24 Tryz.underlying111 hil hl0 hl1 hl2 rfl (by decide) v2 i _ rfl how ⟨p, 0, none⟩ 1 1 [.int .i64 (10 * ((i : Int) + 1)), .int .i64 td, .int .i64 (-25567)] rfl rfl hnew hone (by unfold maxLen; omega) (by omega) h65 ?_
    intro v' W4 hown' hgrow _
    have hS4 := hS.grown hgrow (by omega) (fun k hk => Nat.le_trans (by omega) (own_base how k hk))
    have hbx4 := (hgrow.block _ (some_lt hbx) (fun e' => row_not (t := 113) how e'.symm hbx (by decide))).trans hbx
    have hoo4 := hoo.kept hgrow (own_ne_type hoo how (by decide))
    refine hK.out _ _ hS4 (fun _ => ?_)
    clear hK K
    try simp only [Act.put, z]
    clear hnew hone how hoo hbx hrw
    refine tk (i := 12) (v := .pointer (some ⟨w.heap.size + 3, 3, none⟩)) rfl (by kernel_rfl) (fun _ _ _ h => h) (.inl ⟨by rfl, fun W' hS' => by go_simp⟩) hS4 ?_
    try simp only [Act.put, z]
    refine wpAnyH_ready (rs := [13]) (by kernel_rfl) (by simp) (.cons rfl (fun K hK => ?_) .nil)
    have xc := cell_of_row _ _ 3 _ _ _ hbx4
    have xf := fun j => frozen_of_row _ _ j _ _ hbx4
    simp at xc
    have xlt := some_lt hbx4
    have hbx5 := heap_setCell_same W4 (w.heap.size + 3) 3 _ _ v' hbx4
    simp at hbx5
    have hS5 := hS4.setCell (p := ⟨w.heap.size + 3, 3, none⟩) (Nat.le_refl _) v'
    have own5 := hown'.kept (row := some (w.heap.size + 3)) (grown_set (grown_refl' W4) 3 v') (own_ne_box hown')
    have oth5 := hoo4.kept (row := some (w.heap.size + 3)) (grown_set (grown_refl' W4) 3 v') (own_ne_box hoo4)
    obtain ⟨Av, cv, rfl⟩ := own_one hown'
    go_simp
    obtain ⟨W5, hW5⟩ : ∃ W5, W5 = W4.setCell ⟨w.heap.size + 3, 3, none⟩ (.slice Av (i + 1) cv) := ⟨_, rfl⟩
    rw [<- hW5] at hbx5 hS5 own5 oth5 ⊢
    clear hW5
    refine hK.out _ _ hS5 (fun _ => ?_)
    clear hK K
    try simp only [Act.put, z]
    refine wpAnyH_done (by kernel_rfl) ?_ _
    try simp only [Act.put, z]
    have own6 : W5.ownsRow (w.heap.size + 4) 168 3 (.slice Av (i + 1) cv) (i + 1) (lnkRow (Smp.elinks.take (i + 1))) := by rw [HEl.out, lnkRow_snoc]; exact own5
    have Hbx5 := Lib.hid hbx5
    have Hown6 := Lib.hid own6
    have Hoth5 := Lib.hid oth5
    clear hbx5 own5 own6 oth5 hown' hgrow hS4 hbx4 hoo4 xc xf xlt
    go_wp2
    go_roundw
    case rel => exact ⟨i + 1, _, _, by omega, by go_num, Hbx5.out, Hoth5.out, Hown6.out, hS5⟩
    case measure => simp [intOf]; omega
   subst hlm hlo hlq hla
   have hbq := gbox Hbx5.out hVB (some_lt Hbx5.out)
   have xq := cell_of_row _ _ 3 _ _ _ hbq
   simp at xq
   have xql := some_lt hbq
   refine wpAnyH_ready (rs := [1, 10]) (by kernel_rfl) (by simp) (AllReadyH.cons rfl (fun K hK => ?_) (.cons rfl (fun K hK => ?_) .nil))
   ·skip
    go_simp
    refine hK.out _ _ hSB (fun _ => ?_)
    clear hK K
    try simp only [Act.put, z]
    refine wpAnyH_ready (rs := [10]) (by kernel_rfl) (by simp) (.cons rfl (fun K hK => ?_) .nil)
    obtain ⟨hBa, hrw, _⟩ := row_new W0B #[.int .i64 (10 * ((i : Int) + 1)), .int .i64 td, .int .i64 (-25567)] 168
    go_simp
    obtain ⟨W6, hWn⟩ : ∃ W6, W6 = W0B.alloc (.cells #[.int .i64 (10 * ((i : Int) + 1)), .int .i64 td, .int .i64 (-25567)] 168) := ⟨_, rfl⟩
    rw [<- hWn] at hBa hrw ⊢
    clear hWn
    have hV6 := hVB.trans (hBa.mono hVB.size)
    have hS6 := hSB.trans (hBa.mono (by have := hSB.size; omega))
    refine hK.out _ _ hS6 (fun _ => ?_)
    clear hK K
    try simp only [Act.put, z]
    have hn := fin W6 W0B.heap.size hV6 hS6 hrw
    try simp only [Act.put, z] at hn
    exact hn
   ·skip
    obtain ⟨hBa, hrw, _⟩ := row_new W0B #[.int .i64 (10 * ((i : Int) + 1)), .int .i64 td, .int .i64 (-25567)] 168
    go_simp
    obtain ⟨W6, hWn⟩ : ∃ W6, W6 = W0B.alloc (.cells #[.int .i64 (10 * ((i : Int) + 1)), .int .i64 td, .int .i64 (-25567)] 168) := ⟨_, rfl⟩
    rw [<- hWn] at hBa hrw ⊢
    clear hWn
    have hV6 := hVB.trans (hBa.mono hVB.size)
    have hS6 := hSB.trans (hBa.mono (by have := hSB.size; omega))
    refine hK.out _ _ hS6 (fun _ => ?_)
    clear hK K
    try simp only [Act.put, z]
    have hbq6 := gbox hbq hBa (some_lt hbq)
    have xq6 := cell_of_row _ _ 3 _ _ _ hbq6
    simp at xq6
    have xql6 := some_lt hbq6
    refine wpAnyH_ready (rs := [1]) (by kernel_rfl) (by simp) (.cons rfl (fun K hK => ?_) .nil)
    go_simp
    refine hK.out _ _ hS6 (fun _ => ?_)
    clear hK K
    try simp only [Act.put, z]
    have hn := fin W6 W0B.heap.size hV6 hS6 hrw
    try simp only [Act.put, z] at hn
    exact hn
  subst hlm hlo hlq hla
  have hbq := gbox Hbx.out hVA (some_lt Hbx.out)
  have xq := cell_of_row _ _ 2 _ _ _ hbq
  simp at xq
  have xql := some_lt hbq
  refine wpAnyH_ready (rs := [1, 10]) (by kernel_rfl) (by simp) (AllReadyH.cons rfl (fun K hK => ?_) (.cons rfl (fun K hK => ?_) .nil))
  ·skip
   go_simp
   refine hK.out _ _ hSA (fun _ => ?_)
   clear hK K
   try simp only [Act.put, z]
   refine wpAnyH_ready (rs := [10]) (by kernel_rfl) (by simp) (.cons rfl (fun K hK => ?_) .nil)
   obtain ⟨hBa, hrw, _⟩ := row_new W0A #[.int .i64 (10 * ((i : Int) + 1)), .int .i64 kd, .int .i64 0, .int .i64 0] 84
   go_simp
   obtain ⟨W6, hWn⟩ : ∃ W6, W6 = W0A.alloc (.cells #[.int .i64 (10 * ((i : Int) + 1)), .int .i64 kd, .int .i64 0, .int .i64 0] 84) := ⟨_, rfl⟩
   rw [<- hWn] at hBa hrw ⊢
   clear hWn
   have hV6 := hVA.trans (hBa.mono hVA.size)
   have hS6 := hSA.trans (hBa.mono (by have := hSA.size; omega))
   refine hK.out _ _ hS6 (fun _ => ?_)
   clear hK K
   try simp only [Act.put, z]
   have hn := fin W6 W0A.heap.size hV6 hS6 hrw
   try simp only [Act.put, z] at hn
   exact hn
  ·skip
   obtain ⟨hBa, hrw, _⟩ := row_new W0A #[.int .i64 (10 * ((i : Int) + 1)), .int .i64 kd, .int .i64 0, .int .i64 0] 84
   go_simp
   obtain ⟨W6, hWn⟩ : ∃ W6, W6 = W0A.alloc (.cells #[.int .i64 (10 * ((i : Int) + 1)), .int .i64 kd, .int .i64 0, .int .i64 0] 84) := ⟨_, rfl⟩
   rw [<- hWn] at hBa hrw ⊢
   clear hWn
   have hV6 := hVA.trans (hBa.mono hVA.size)
   have hS6 := hSA.trans (hBa.mono (by have := hSA.size; omega))
   refine hK.out _ _ hS6 (fun _ => ?_)
   clear hK K
   try simp only [Act.put, z]
   have hbq6 := gbox hbq hBa (some_lt hbq)
   have xq6 := cell_of_row _ _ 2 _ _ _ hbq6
   simp at xq6
   have xql6 := some_lt hbq6
   refine wpAnyH_ready (rs := [1]) (by kernel_rfl) (by simp) (.cons rfl (fun K hK => ?_) .nil)
   go_simp
   refine hK.out _ _ hS6 (fun _ => ?_)
   clear hK K
   try simp only [Act.put, z]
   have hn := fin W6 W0A.heap.size hV6 hS6 hrw
   try simp only [Act.put, z] at hn
   exact hn
end
end Go.Proofs.YtcblobokjhhboaaGreat
namespace Go.Proofs.YtcblobokjhhboaaGreat
open Go.RowKit
structure EntA where
 A : Option Addr
 c : Nat
 L : Option Addr
 d : Nat
namespace Smp
def ent (name cur : ByteArray) (x : EntA) (joint : Bool) : Ent := ⟨name, cur, x.A, 14, x.c, echart, x.L, 14, x.d, elinks, joint⟩
def grp (A : Option Addr) (c : Nat) (eA : Option Addr) (ec : Nat) (x0 x1 x2 x3 : EntA) : Grp :=
 ⟨⟨#[69, 85, 82]⟩, 2026, 1, 36, A, 26, c, chart, 1500, 1600, 1700, 1200, 3100, 3200, 3300, 3400, 3500, 4500, 4600, 4700, 5500, 5600, 5700, eA, 4, ec, [ent ⟨#[112, 97, 114, 101, 110, 116]⟩ ⟨#[69, 85, 82]⟩ x0 false, ent ⟨#[110, 111, 114, 116, 104]⟩ ⟨#[69, 85, 82]⟩ x1 false, ent ⟨#[119, 101, 115, 116]⟩ ⟨#[85, 83, 68]⟩ x2 false, ent ⟨#[106, 111, 105, 110, 116]⟩ ⟨#[85, 83, 68]⟩ x3 true]⟩
theorem chart_wf : ∀ a ∈ chart, a.wf := by
 have : chart.all (fun a => (Lit.int .i64 a.code).wf && (Lit.int .i64 a.kind).wf && (Lit.int .i64 a.basis).wf && (Lit.int .i64 a.parent).wf) = true := by kernel_rfl
 intro a ha
 have := List.all_eq_true.1 this a ha
 simp only [Bool.and_eq_true] at this
 exact ⟨this.1.1.1, this.1.1.2, this.1.2, this.2⟩
theorem echart_wf : ∀ a ∈ echart, a.wf := by
 have : echart.all (fun a => (Lit.int .i64 a.code).wf && (Lit.int .i64 a.kind).wf && (Lit.int .i64 a.basis).wf && (Lit.int .i64 a.parent).wf) = true := by kernel_rfl
 intro a ha
 have := List.all_eq_true.1 this a ha
 simp only [Bool.and_eq_true] at this
 exact ⟨this.1.1.1, this.1.1.2, this.1.2, this.2⟩
theorem elinks_wf : ∀ a ∈ elinks, a.wf := by
 have : elinks.all (fun a => (Lit.int .i64 a.frm).wf && (Lit.int .i64 a.to).wf && (Lit.int .i64 a.since).wf) = true := by kernel_rfl
 intro a ha
 have := List.all_eq_true.1 this a ha
 simp only [Bool.and_eq_true] at this
 exact ⟨this.1.1, this.1.2, this.2⟩
theorem roles_wf {A : Option Addr} {c : Nat} {eA : Option Addr} {ec : Nat} {x0 x1 x2 x3 : EntA} : ∀ r ∈ Gr.roles (grp A c eA ec x0 x1 x2 x3), (Lit.int .i64 r.code).wf = true := by
 have : (Gr.roles (grp A c eA ec x0 x1 x2 x3)).all (fun r => (Lit.int .i64 r.code).wf) = true := by kernel_rfl
 exact List.all_eq_true.1 this
def Is (g : Grp) : Prop := ∃ A c eA ec x0 x1 x2 x3, g = grp A c eA ec x0 x1 x2 x3
end Smp
def SamplePost (w : World) (e : Ending) (w' : World) : Prop := Below w.heap.size w w' /\ ∃ g : Grp, e = .returned (.agg #[.string g.cur, .int .i64 g.Y, .int .i64 g.M, .int .i64 g.N, .slice g.cA g.cn g.cc, .int .i64 g.r0, .int .i64 g.r1, .int .i64 g.r2, .int .i64 g.r3, .int .i64 g.r4, .int .i64 g.r5, .int .i64 g.r6, .int .i64 g.r7, .int .i64 g.r8, .int .i64 g.r9, .int .i64 g.r10, .int .i64 g.r11, .int .i64 g.r12, .int .i64 g.r13, .int .i64 g.r14, .slice g.eA g.en g.ec]) /\ g.At w' w'.heap.size /\ Smp.Is g
theorem RowsAt.set_other {α : Type} {f : α -> List Value} {sz : Nat} {w : World} {A : Option Addr} {l : List α} (h : RowsAt f sz w w.heap.size A l) {b j : Nat} {v : Value} (hne : ∀ ad, A = some ad -> ad.block ≠ b) : RowsAt f sz (w.setCell ⟨b, j, none⟩ v) (w.setCell ⟨b, j, none⟩ v).heap.size A l := by
 rcases h with h | ⟨b', o, e, hl, hc⟩
 ·exact .inl h
 ·have hn : b' ≠ b := hne _ e
  exact .inr ⟨b', o, e, by simpa [World.setCell] using hl, fun k hk i u hu => (World.cell?_of_block (w := w) (heap_setCell_other w _ _ _ hn)).trans (hc k hk i u hu)⟩
theorem RowsAt.lt {α : Type} {f : α -> List Value} {sz : Nat} {w : World} {B : Nat} {A : Option Addr} {l : List α} (h : RowsAt f sz w B A l) (hl : l ≠ []) : ∀ ad, A = some ad -> ad.block < B := by
 intro ad e
 rcases h with h | ⟨b', o, e', hl', _⟩
 ·exact absurd h hl
 ·rw [e'] at e; cases e; exact hl'
section
variable (w : World)
theorem sroles_any : Calls Tryz.prog 57 #[] w fun e w' => e = .returned (.agg #[.int .i64 1500, .int .i64 1600, .int .i64 1700, .int .i64 1200, .int .i64 3100, .int .i64 3200, .int .i64 3300, .int .i64 3400, .int .i64 3500, .int .i64 4500, .int .i64 4600, .int .i64 4700, .int .i64 5500, .int .i64 5600, .int .i64 5700]) /\ Below w.heap.size w w' := by
 obtain ⟨hB0, hb0, hz⟩ := row_new w #[.int .i64 0, .int .i64 0, .int .i64 0, .int .i64 0, .int .i64 0, .int .i64 0, .int .i64 0, .int .i64 0, .int .i64 0, .int .i64 0, .int .i64 0, .int .i64 0, .int .i64 0, .int .i64 0, .int .i64 0] 26
 obtain ⟨W1, hW1⟩ : ∃ W1, W1 = (w.alloc (.cells #[.int .i64 0, .int .i64 0, .int .i64 0, .int .i64 0, .int .i64 0, .int .i64 0, .int .i64 0, .int .i64 0, .int .i64 0, .int .i64 0, .int .i64 0, .int .i64 0, .int .i64 0, .int .i64 0, .int .i64 0] 26)) := ⟨_, rfl⟩
 rw [<- hW1] at hB0 hb0 hz
 have HW := Lib.hid hW1
 have Hb0 := Lib.hid hb0
 have hR := setRow_heap W1 w.heap.size _ #[.int .i64 1500, .int .i64 1600, .int .i64 1700, .int .i64 1200, .int .i64 3100, .int .i64 3200, .int .i64 3300, .int .i64 3400, .int .i64 3500, .int .i64 4500, .int .i64 4600, .int .i64 4700, .int .i64 5500, .int .i64 5600, .int .i64 5700] _ _ hb0
 have hload := Lib.hid (run_loadVar_row (P := Tryz.prog) _ _ _ 26 _ _ _ hR Tryz.underlying26 rfl rolesSize)
 have hBF := Lib.hid (below_setRow hB0 (Nat.le_refl _) #[.int .i64 1500, .int .i64 1600, .int .i64 1700, .int .i64 1200, .int .i64 3100, .int .i64 3200, .int .i64 3300, .int .i64 3400, .int .i64 3500, .int .i64 4500, .int .i64 4600, .int .i64 4700, .int .i64 5500, .int .i64 5600, .int .i64 5700])
 have Ho : Hid ((#[.int .i64 1500, .int .i64 1600, .int .i64 1700, .int .i64 1200, .int .i64 3100, .int .i64 3200, .int .i64 3300, .int .i64 3400, .int .i64 3500, .int .i64 4500, .int .i64 4600, .int .i64 4700, .int .i64 5500, .int .i64 5600, .int .i64 5700] : Array Value).all (·.oneCell') = true) := by show _ = true; simp [Value.oneCell']
 clear hW1 hz hb0 hR
 go_enter Tryz.func57, Tryz.ntmps57
 go_upto_region 1 with (fail)
 rw [<- HW.out]
 go_wp2_with (refine wpList_store_row rfl 26 (.tmp 0) (.tmp 1) none rfl rfl w.heap.size 26 _ #[.int .i64 1500, .int .i64 1600, .int .i64 1700, .int .i64 1200, .int .i64 3100, .int .i64 3200, .int .i64 3300, .int .i64 3400, .int .i64 3500, .int .i64 4500, .int .i64 4600, .int .i64 4700, .int .i64 5500, .int .i64 5600, .int .i64 5700] rfl rfl Hb0.out rfl rolesSize Ho.out ?_)
 exact bodyPost_ret (v := .agg #[.int .i64 1500, .int .i64 1600, .int .i64 1700, .int .i64 1200, .int .i64 3100, .int .i64 3200, .int .i64 3300, .int .i64 3400, .int .i64 3500, .int .i64 4500, .int .i64 4600, .int .i64 4700, .int .i64 5500, .int .i64 5600, .int .i64 5700]) (by simp [results, Tryz.results57, asAddr, Act.put, hload.out]) rfl ⟨rfl, hBF.out⟩
theorem sample_any : Calls Tryz.prog 22 #[] w (SamplePost w) := by
 obtain ⟨hB0, hb0, hz⟩ := row_new w #[.string ⟨#[]⟩, .int .i64 0, .int .i64 0, .int .i64 0, .slice none 0 0, .int .i64 0, .int .i64 0, .int .i64 0, .int .i64 0, .int .i64 0, .int .i64 0, .int .i64 0, .int .i64 0, .int .i64 0, .int .i64 0, .int .i64 0, .int .i64 0, .int .i64 0, .int .i64 0, .int .i64 0, .slice none 0 0] 29
 obtain ⟨W1, hW1⟩ : ∃ W1, W1 = (w.alloc (.cells #[.string ⟨#[]⟩, .int .i64 0, .int .i64 0, .int .i64 0, .slice none 0 0, .int .i64 0, .int .i64 0, .int .i64 0, .int .i64 0, .int .i64 0, .int .i64 0, .int .i64 0, .int .i64 0, .int .i64 0, .int .i64 0, .int .i64 0, .int .i64 0, .int .i64 0, .int .i64 0, .int .i64 0, .slice none 0 0] 29)) := ⟨_, rfl⟩
 rw [<- hW1] at hB0 hb0 hz
 have HW := Lib.hid hW1
 have Hb0 := Lib.hid hb0
 have s1 : w.heap.size < W1.heap.size := by omega
 clear hW1 hz hb0
 go_enter Tryz.func22, Tryz.ntmps22
 go_upto_region 1 with (fail)
 rw [<- HW.out]
 go_wp2_with (fail)
 refine (schart_any W1).mono ?_
 rintro e W2 ⟨hB2, A, c, rfl, hfA, hA⟩
 have HfA := Lib.hid hfA
 have HA := Lib.hid hA
 clear hfA hA
 go_wp2_with (fail)
 refine (sroles_any W2).mono ?_
 rintro e W3 ⟨rfl, hB3⟩
 have hB03 := (hB0.trans (hB2.mono hB0.size)).trans (hB3.mono (Nat.le_trans hB0.size hB2.size))
 have hb3 := gbox (gbox Hb0.out hB2 s1) hB3 (by have := hB2.size; omega)
 have hA3 := RowsAt.at_ HA.out hB3
 have hAlt := RowsAt.lt HA.out (by decide)
 have HAlt : Hid (∀ ad, A = some ad -> ad.block < W3.heap.size) := Lib.hid (fun ad h => Nat.lt_of_lt_of_le (hAlt ad h) hB3.size)
 have hs23 := hB2.size
 have hs33 := hB3.size
 obtain ⟨hB4, hb4, hz4⟩ := row_new W3 #[.string ⟨#[69, 85, 82]⟩, .int .i64 2026, .int .i64 1, .int .i64 36, .slice A 26 c, .int .i64 1500, .int .i64 1600, .int .i64 1700, .int .i64 1200, .int .i64 3100, .int .i64 3200, .int .i64 3300, .int .i64 3400, .int .i64 3500, .int .i64 4500, .int .i64 4600, .int .i64 4700, .int .i64 5500, .int .i64 5600, .int .i64 5700, .slice none 0 0] 29
 obtain ⟨W4, hW4⟩ : ∃ W4, W4 = W3.alloc (.cells #[.string ⟨#[69, 85, 82]⟩, .int .i64 2026, .int .i64 1, .int .i64 36, .slice A 26 c, .int .i64 1500, .int .i64 1600, .int .i64 1700, .int .i64 1200, .int .i64 3100, .int .i64 3200, .int .i64 3300, .int .i64 3400, .int .i64 3500, .int .i64 4500, .int .i64 4600, .int .i64 4700, .int .i64 5500, .int .i64 5600, .int .i64 5700, .slice none 0 0] 29) := ⟨_, rfl⟩
 rw [<- hW4] at hB4 hb4 hz4
 have HW4 := Lib.hid hW4
 have Hb4 := Lib.hid hb4
 have hB04 := hB03.trans (hB4.mono hB03.size)
 have Hr4 := Lib.hid (gbox hb3 hB4 (some_lt hb3))
 have HA4 := Lib.hid (RowsAt.at_ hA3 hB4)
 have Hz4 := Lib.hid hz4
 have s4 : W3.heap.size < W4.heap.size := by omega
 have h1c : ∀ v ∈ (#[.string ⟨#[69, 85, 82]⟩, .int .i64 2026, .int .i64 1, .int .i64 36, .slice A 26 c, .int .i64 1500, .int .i64 1600, .int .i64 1700, .int .i64 1200, .int .i64 3100, .int .i64 3200, .int .i64 3300, .int .i64 3400, .int .i64 3500, .int .i64 4500, .int .i64 4600, .int .i64 4700, .int .i64 5500, .int .i64 5600, .int .i64 5700, .slice none 0 0] : Array Value).toList, v.oneCell' = true := by simp [Value.oneCell']
 clear hW4 hz4 hb4 hb3 hA3 hAlt
 go_upto_region 2 with (refine wpList_store_new rfl 29 _ _ rfl 29 _ #[.string ⟨#[69, 85, 82]⟩, .int .i64 2026, .int .i64 1, .int .i64 36, .slice A 26 c, .int .i64 1500, .int .i64 1600, .int .i64 1700, .int .i64 1200, .int .i64 3100, .int .i64 3200, .int .i64 3300, .int .i64 3400, .int .i64 3500, .int .i64 4500, .int .i64 4600, .int .i64 4700, .int .i64 5500, .int .i64 5600, .int .i64 5700, .slice none 0 0] rfl rfl rfl h1c grpSize ?_)
 clear h1c
 rw [<- HW4.out]

 go_wp2_with (fail)
 refine (sent_any W4 ⟨#[112, 97, 114, 101, 110, 116]⟩ ⟨#[69, 85, 82]⟩).mono ?_
 rintro e W5 ⟨hB5, A0, c0, L0, d0, rfl, hfa, hfl, ha, hl⟩
 have Fa0 := Lib.hid (show ∀ ad, A0 = some ad -> W4.heap.size <= ad.block from fun ad h => Nat.le_trans (by omega) (hfa ad h))
 have Fl0 := Lib.hid (show ∀ ad, L0 = some ad -> W4.heap.size <= ad.block from fun ad h => Nat.le_trans (by omega) (hfl ad h))
 have a0_5 := Lib.hid ha
 have l0_5 := Lib.hid hl
 have ta0 := Lib.hid (RowsAt.lt ha (by decide))
 have tl0 := Lib.hid (RowsAt.lt hl (by decide))
 clear hfa hfl ha hl
 have HA5 := Lib.hid (RowsAt.at_ HA4.out hB5)
 have Hb5 := Lib.hid (gbox Hb4.out hB5 (some_lt Hb4.out))
 have Hr5 := Lib.hid (gbox Hr4.out hB5 (some_lt Hr4.out))
 have hB05 := hB04.trans (hB5.mono hB04.size)
 go_wp2_with (fail)
 refine (sent_any W5 ⟨#[110, 111, 114, 116, 104]⟩ ⟨#[69, 85, 82]⟩).mono ?_
 rintro e W6 ⟨hB6, A1, c1, L1, d1, rfl, hfa, hfl, ha, hl⟩
 have Fa1 := Lib.hid (show ∀ ad, A1 = some ad -> W4.heap.size <= ad.block from fun ad h => Nat.le_trans (by have := hB5.size; omega) (hfa ad h))
 have Fl1 := Lib.hid (show ∀ ad, L1 = some ad -> W4.heap.size <= ad.block from fun ad h => Nat.le_trans (by have := hB5.size; omega) (hfl ad h))
 have a1_6 := Lib.hid ha
 have l1_6 := Lib.hid hl
 have ta1 := Lib.hid (RowsAt.lt ha (by decide))
 have tl1 := Lib.hid (RowsAt.lt hl (by decide))
 clear hfa hfl ha hl
 have a0_6 := Lib.hid (RowsAt.at_ a0_5.out hB6)
 have l0_6 := Lib.hid (RowsAt.at_ l0_5.out hB6)
 have HA6 := Lib.hid (RowsAt.at_ HA5.out hB6)
 have Hb6 := Lib.hid (gbox Hb5.out hB6 (some_lt Hb5.out))
 have Hr6 := Lib.hid (gbox Hr5.out hB6 (some_lt Hr5.out))
 have hB06 := hB05.trans (hB6.mono hB05.size)
 go_wp2_with (fail)
 refine (sent_any W6 ⟨#[119, 101, 115, 116]⟩ ⟨#[85, 83, 68]⟩).mono ?_
 rintro e W7 ⟨hB7, A2, c2, L2, d2, rfl, hfa, hfl, ha, hl⟩
 have Fa2 := Lib.hid (show ∀ ad, A2 = some ad -> W4.heap.size <= ad.block from fun ad h => Nat.le_trans (by have := hB5.size; have := hB6.size; omega) (hfa ad h))
 have Fl2 := Lib.hid (show ∀ ad, L2 = some ad -> W4.heap.size <= ad.block from fun ad h => Nat.le_trans (by have := hB5.size; have := hB6.size; omega) (hfl ad h))
 have a2_7 := Lib.hid ha
 have l2_7 := Lib.hid hl
 have ta2 := Lib.hid (RowsAt.lt ha (by decide))
 have tl2 := Lib.hid (RowsAt.lt hl (by decide))
 clear hfa hfl ha hl
 have a0_7 := Lib.hid (RowsAt.at_ a0_6.out hB7)
 have l0_7 := Lib.hid (RowsAt.at_ l0_6.out hB7)
 have a1_7 := Lib.hid (RowsAt.at_ a1_6.out hB7)
 have l1_7 := Lib.hid (RowsAt.at_ l1_6.out hB7)
 have HA7 := Lib.hid (RowsAt.at_ HA6.out hB7)
 have Hb7 := Lib.hid (gbox Hb6.out hB7 (some_lt Hb6.out))
 have Hr7 := Lib.hid (gbox Hr6.out hB7 (some_lt Hr6.out))
 have hB07 := hB06.trans (hB7.mono hB06.size)
 go_wp2_with (fail)
 refine (sent_any W7 ⟨#[106, 111, 105, 110, 116]⟩ ⟨#[85, 83, 68]⟩).mono ?_
 rintro e W8 ⟨hB8, A3, c3, L3, d3, rfl, hfa, hfl, ha, hl⟩
 have Fa3 := Lib.hid (show ∀ ad, A3 = some ad -> W4.heap.size <= ad.block from fun ad h => Nat.le_trans (by have := hB5.size; have := hB6.size; have := hB7.size; omega) (hfa ad h))
 have Fl3 := Lib.hid (show ∀ ad, L3 = some ad -> W4.heap.size <= ad.block from fun ad h => Nat.le_trans (by have := hB5.size; have := hB6.size; have := hB7.size; omega) (hfl ad h))
 have a3_8 := Lib.hid ha
 have l3_8 := Lib.hid hl
 have ta3 := Lib.hid (RowsAt.lt ha (by decide))
 have tl3 := Lib.hid (RowsAt.lt hl (by decide))
 clear hfa hfl ha hl
 have a0_8 := Lib.hid (RowsAt.at_ a0_7.out hB8)
 have l0_8 := Lib.hid (RowsAt.at_ l0_7.out hB8)
 have a1_8 := Lib.hid (RowsAt.at_ a1_7.out hB8)
 have l1_8 := Lib.hid (RowsAt.at_ l1_7.out hB8)
 have a2_8 := Lib.hid (RowsAt.at_ a2_7.out hB8)
 have l2_8 := Lib.hid (RowsAt.at_ l2_7.out hB8)
 have HA8 := Lib.hid (RowsAt.at_ HA7.out hB8)
 have Hb8 := Lib.hid (gbox Hb7.out hB8 (some_lt Hb7.out))
 have Hr8 := Lib.hid (gbox Hr7.out hB8 (some_lt Hr7.out))
 have hB08 := hB07.trans (hB8.mono hB07.size)
 have z5 := hB5.size
 have z6 := hB6.size
 have z7 := hB7.size
 have z8 := hB8.size
 have hpq : W3.heap.size < W8.heap.size := by omega
 have hwp : w.heap.size < W3.heap.size := by have := hB0.size; omega
 have g20 := cell_of_row _ _ 20 _ _ _ Hb8.out
 have gf := fun j => frozen_of_row _ _ j _ _ Hb8.out
 simp at g20
 have hlt8 := some_lt Hb8.out
 have h9 := heap_setCell_same W8 W3.heap.size 20 _ _ (.slice (some ⟨W8.heap.size, 0, none⟩) 4 4) Hb8.out
 simp at h9
 have h9r := (heap_setCell_other W8 ⟨W3.heap.size, 20, none⟩ w.heap.size (.slice (some ⟨W8.heap.size, 0, none⟩) 4 4) (by show w.heap.size ≠ W3.heap.size; omega)).trans Hr8.out
 have hB09 := hB08.setCell (p := ⟨W3.heap.size, 20, none⟩) (Nat.le_of_lt hwp) (.slice (some ⟨W8.heap.size, 0, none⟩) 4 4)
 obtain ⟨W9, hW9⟩ : ∃ W9, W9 = W8.setCell ⟨W3.heap.size, 20, none⟩ (.slice (some ⟨W8.heap.size, 0, none⟩) 4 4) := ⟨_, rfl⟩
 have hsz9 : W9.heap.size = W8.heap.size := by rw [hW9]; simp [World.setCell]
 obtain ⟨hB10, h10q, hz10⟩ := row_new W9 #[.string ⟨#[112, 97, 114, 101, 110, 116]⟩, .string ⟨#[69, 85, 82]⟩, .slice A0 14 c0, .slice L0 14 d0, .bool false, .string ⟨#[110, 111, 114, 116, 104]⟩, .string ⟨#[69, 85, 82]⟩, .slice A1 14 c1, .slice L1 14 d1, .bool false, .string ⟨#[119, 101, 115, 116]⟩, .string ⟨#[85, 83, 68]⟩, .slice A2 14 c2, .slice L2 14 d2, .bool false, .string ⟨#[106, 111, 105, 110, 116]⟩, .string ⟨#[85, 83, 68]⟩, .slice A3 14 c3, .slice L3 14 d3, .bool false] 113
 obtain ⟨W10, hW10⟩ : ∃ W10, W10 = W9.alloc (.cells #[.string ⟨#[112, 97, 114, 101, 110, 116]⟩, .string ⟨#[69, 85, 82]⟩, .slice A0 14 c0, .slice L0 14 d0, .bool false, .string ⟨#[110, 111, 114, 116, 104]⟩, .string ⟨#[69, 85, 82]⟩, .slice A1 14 c1, .slice L1 14 d1, .bool false, .string ⟨#[119, 101, 115, 116]⟩, .string ⟨#[85, 83, 68]⟩, .slice A2 14 c2, .slice L2 14 d2, .bool false, .string ⟨#[106, 111, 105, 110, 116]⟩, .string ⟨#[85, 83, 68]⟩, .slice A3 14 c3, .slice L3 14 d3, .bool false] 113) := ⟨_, rfl⟩
 rw [<- hW10] at hB10 h10q hz10
 rw [hsz9] at h10q
 rw [<- hW9] at h9 h9r hB09
 have a0_10 : AccsAt W10 W10.heap.size A0 Smp.echart := RowsAt.at_ (by rw [hW9]; exact RowsAt.set_other a0_8.out (fun ad h => by have := Fa0.out ad h; omega)) hB10
 have l0_10 : LnksAt W10 W10.heap.size L0 Smp.elinks := RowsAt.at_ (by rw [hW9]; exact RowsAt.set_other l0_8.out (fun ad h => by have := Fl0.out ad h; omega)) hB10
 have a1_10 : AccsAt W10 W10.heap.size A1 Smp.echart := RowsAt.at_ (by rw [hW9]; exact RowsAt.set_other a1_8.out (fun ad h => by have := Fa1.out ad h; omega)) hB10
 have l1_10 : LnksAt W10 W10.heap.size L1 Smp.elinks := RowsAt.at_ (by rw [hW9]; exact RowsAt.set_other l1_8.out (fun ad h => by have := Fl1.out ad h; omega)) hB10
 have a2_10 : AccsAt W10 W10.heap.size A2 Smp.echart := RowsAt.at_ (by rw [hW9]; exact RowsAt.set_other a2_8.out (fun ad h => by have := Fa2.out ad h; omega)) hB10
 have l2_10 : LnksAt W10 W10.heap.size L2 Smp.elinks := RowsAt.at_ (by rw [hW9]; exact RowsAt.set_other l2_8.out (fun ad h => by have := Fl2.out ad h; omega)) hB10
 have a3_10 : AccsAt W10 W10.heap.size A3 Smp.echart := RowsAt.at_ (by rw [hW9]; exact RowsAt.set_other a3_8.out (fun ad h => by have := Fa3.out ad h; omega)) hB10
 have l3_10 : LnksAt W10 W10.heap.size L3 Smp.elinks := RowsAt.at_ (by rw [hW9]; exact RowsAt.set_other l3_8.out (fun ad h => by have := Fl3.out ad h; omega)) hB10
 have hA10 : AccsAt W10 W10.heap.size A Smp.chart := RowsAt.at_ (by rw [hW9]; exact RowsAt.set_other HA8.out (fun ad h => by have := HAlt.out ad h; omega)) hB10
 have HW9 := Lib.hid hW9
 have HW10 := Lib.hid hW10
 have h10 := gbox h9 hB10 (some_lt h9)
 have h10r := gbox h9r hB10 (some_lt h9r)
 have hB010 := hB09.trans (hB10.mono hB09.size)
 have h11 := heap_setCell_same W10 W8.heap.size 19 _ _ (.bool true) h10q
 simp at h11
 have h11p := (heap_setCell_other W10 ⟨W8.heap.size, 19, none⟩ W3.heap.size (.bool true) (by show W3.heap.size ≠ W8.heap.size; omega)).trans h10
 have h11r := (heap_setCell_other W10 ⟨W8.heap.size, 19, none⟩ w.heap.size (.bool true) (by show w.heap.size ≠ W8.heap.size; omega)).trans h10r
 have hB11 := hB010.setCell (p := ⟨W8.heap.size, 19, none⟩) (by show w.heap.size <= W8.heap.size; omega) (.bool true)
 have k20 := cell_of_row _ _ 20 _ _ _ h10
 have k19 := cell_of_row _ _ 19 _ _ _ h10q
 have kf := fun j => frozen_of_row _ _ j _ _ h10q
 simp at k20 k19
 have hlt10 := some_lt h10
 have hqlt10 := some_lt h10q
 obtain ⟨W11, hW11⟩ : ∃ W11, W11 = W10.setCell ⟨W8.heap.size, 19, none⟩ (.bool true) := ⟨_, rfl⟩
 have a0_11 : AccsAt W11 W11.heap.size A0 Smp.echart := by rw [hW11]; exact RowsAt.set_other a0_10 (fun ad h => by have := ta0.out ad h; omega)
 have l0_11 : LnksAt W11 W11.heap.size L0 Smp.elinks := by rw [hW11]; exact RowsAt.set_other l0_10 (fun ad h => by have := tl0.out ad h; omega)
 have a1_11 : AccsAt W11 W11.heap.size A1 Smp.echart := by rw [hW11]; exact RowsAt.set_other a1_10 (fun ad h => by have := ta1.out ad h; omega)
 have l1_11 : LnksAt W11 W11.heap.size L1 Smp.elinks := by rw [hW11]; exact RowsAt.set_other l1_10 (fun ad h => by have := tl1.out ad h; omega)
 have a2_11 : AccsAt W11 W11.heap.size A2 Smp.echart := by rw [hW11]; exact RowsAt.set_other a2_10 (fun ad h => by have := ta2.out ad h; omega)
 have l2_11 : LnksAt W11 W11.heap.size L2 Smp.elinks := by rw [hW11]; exact RowsAt.set_other l2_10 (fun ad h => by have := tl2.out ad h; omega)
 have a3_11 : AccsAt W11 W11.heap.size A3 Smp.echart := by rw [hW11]; exact RowsAt.set_other a3_10 (fun ad h => by have := ta3.out ad h; omega)
 have l3_11 : LnksAt W11 W11.heap.size L3 Smp.elinks := by rw [hW11]; exact RowsAt.set_other l3_10 (fun ad h => by have := tl3.out ad h; omega)
 have hA11 : AccsAt W11 W11.heap.size A Smp.chart := by rw [hW11]; exact RowsAt.set_other hA10 (fun ad h => by have := HAlt.out ad h; omega)
 rw [<- hW11] at h11 h11p h11r hB11
 have HW11 := Lib.hid hW11
 have hE11 : RowsAt Ent.cells 5 W11 W11.heap.size (some ⟨W8.heap.size, 0, none⟩) (Smp.grp A c (some ⟨W8.heap.size, 0, none⟩) 4 ⟨A0, c0, L0, d0⟩ ⟨A1, c1, L1, d1⟩ ⟨A2, c2, L2, d2⟩ ⟨A3, c3, L3, d3⟩).ents := rows_flat (f := Ent.cells) (l := (Smp.grp A c (some ⟨W8.heap.size, 0, none⟩) 4 ⟨A0, c0, L0, d0⟩ ⟨A1, c1, L1, d1⟩ ⟨A2, c2, L2, d2⟩ ⟨A3, c3, L3, d3⟩).ents) h11 (some_lt h11) (fun _ _ => rfl)
 have F0 : ∀ B : Option Addr, (∀ ad, B = some ad -> W4.heap.size <= ad.block) -> Fresh (w.heap.size + 1) B := fun B h ad e => by have := h ad e; omega
 have R := fun {α : Type} {f : α -> List Value} {sz : Nat} {B : Option Addr} {l : List α} (h : RowsAt f sz W11 W11.heap.size B l) (hf : Fresh (w.heap.size + 1) B) => RowsAt.other_row h hf (show w.heap.size < w.heap.size + 1 by omega) #[.string ⟨#[69, 85, 82]⟩, .int .i64 2026, .int .i64 1, .int .i64 36, .slice A 26 c, .int .i64 1500, .int .i64 1600, .int .i64 1700, .int .i64 1200, .int .i64 3100, .int .i64 3200, .int .i64 3300, .int .i64 3400, .int .i64 3500, .int .i64 4500, .int .i64 4600, .int .i64 4700, .int .i64 5500, .int .i64 5600, .int .i64 5700, .slice (some ⟨W8.heap.size, 0, none⟩) 4 4]
 have hgrp : (Smp.grp A c (some ⟨W8.heap.size, 0, none⟩) 4 ⟨A0, c0, L0, d0⟩ ⟨A1, c1, L1, d1⟩ ⟨A2, c2, L2, d2⟩ ⟨A3, c3, L3, d3⟩).At (W11.setRow w.heap.size #[.string ⟨#[69, 85, 82]⟩, .int .i64 2026, .int .i64 1, .int .i64 36, .slice A 26 c, .int .i64 1500, .int .i64 1600, .int .i64 1700, .int .i64 1200, .int .i64 3100, .int .i64 3200, .int .i64 3300, .int .i64 3400, .int .i64 3500, .int .i64 4500, .int .i64 4600, .int .i64 4700, .int .i64 5500, .int .i64 5600, .int .i64 5700, .slice (some ⟨W8.heap.size, 0, none⟩) 4 4]) (W11.setRow w.heap.size #[.string ⟨#[69, 85, 82]⟩, .int .i64 2026, .int .i64 1, .int .i64 36, .slice A 26 c, .int .i64 1500, .int .i64 1600, .int .i64 1700, .int .i64 1200, .int .i64 3100, .int .i64 3200, .int .i64 3300, .int .i64 3400, .int .i64 3500, .int .i64 4500, .int .i64 4600, .int .i64 4700, .int .i64 5500, .int .i64 5600, .int .i64 5700, .slice (some ⟨W8.heap.size, 0, none⟩) 4 4]).heap.size := by
  refine ⟨rfl, show (26 : Nat) <= 100000 by decide, R hA11 (fun ad h => Nat.le_trans (by omega) (HfA.out ad h)), Smp.chart_wf, rfl, show (4 : Nat) <= 100000 by decide, R hE11 (fun ad h => by cases h; show w.heap.size + 1 <= W8.heap.size; omega), ?_, show (3 : Nat) <= maxLen by decide, fun r hr => Smp.roles_wf r hr⟩
  intro e he
  simp only [Smp.grp, List.mem_cons, List.not_mem_nil, or_false] at he
  rcases he with rfl | rfl | rfl | rfl
  ·exact ⟨rfl, show (14 : Nat) <= 100000 by decide, R a0_11 (F0 _ Fa0.out), Smp.echart_wf, rfl, show (14 : Nat) <= 100000 by decide, R l0_11 (F0 _ Fl0.out), Smp.elinks_wf, show (6 : Nat) <= maxLen by decide, show (3 : Nat) <= maxLen by decide⟩
  ·exact ⟨rfl, show (14 : Nat) <= 100000 by decide, R a1_11 (F0 _ Fa1.out), Smp.echart_wf, rfl, show (14 : Nat) <= 100000 by decide, R l1_11 (F0 _ Fl1.out), Smp.elinks_wf, show (5 : Nat) <= maxLen by decide, show (3 : Nat) <= maxLen by decide⟩
  ·exact ⟨rfl, show (14 : Nat) <= 100000 by decide, R a2_11 (F0 _ Fa2.out), Smp.echart_wf, rfl, show (14 : Nat) <= 100000 by decide, R l2_11 (F0 _ Fl2.out), Smp.elinks_wf, show (4 : Nat) <= maxLen by decide, show (3 : Nat) <= maxLen by decide⟩
  ·exact ⟨rfl, show (14 : Nat) <= 100000 by decide, R a3_11 (F0 _ Fa3.out), Smp.echart_wf, rfl, show (14 : Nat) <= 100000 by decide, R l3_11 (F0 _ Fl3.out), Smp.elinks_wf, show (5 : Nat) <= maxLen by decide, show (3 : Nat) <= maxLen by decide⟩
 have Hgrp := Lib.hid hgrp
 have hR := setRow_heap W11 w.heap.size _ #[.string ⟨#[69, 85, 82]⟩, .int .i64 2026, .int .i64 1, .int .i64 36, .slice A 26 c, .int .i64 1500, .int .i64 1600, .int .i64 1700, .int .i64 1200, .int .i64 3100, .int .i64 3200, .int .i64 3300, .int .i64 3400, .int .i64 3500, .int .i64 4500, .int .i64 4600, .int .i64 4700, .int .i64 5500, .int .i64 5600, .int .i64 5700, .slice (some ⟨W8.heap.size, 0, none⟩) 4 4] _ _ h11r
 have hload := Lib.hid (run_loadVar_row (P := Tryz.prog) _ _ _ 29 _ _ _ hR Tryz.underlying29 rfl grpSize)
 have hBF := Lib.hid (below_setRow hB11 (Nat.le_refl _) #[.string ⟨#[69, 85, 82]⟩, .int .i64 2026, .int .i64 1, .int .i64 36, .slice A 26 c, .int .i64 1500, .int .i64 1600, .int .i64 1700, .int .i64 1200, .int .i64 3100, .int .i64 3200, .int .i64 3300, .int .i64 3400, .int .i64 3500, .int .i64 4500, .int .i64 4600, .int .i64 4700, .int .i64 5500, .int .i64 5600, .int .i64 5700, .slice (some ⟨W8.heap.size, 0, none⟩) 4 4])
 have hrg := Lib.hid (range_row (cs := [.string ⟨#[69, 85, 82]⟩, .int .i64 2026, .int .i64 1, .int .i64 36, .slice A 26 c, .int .i64 1500, .int .i64 1600, .int .i64 1700, .int .i64 1200, .int .i64 3100, .int .i64 3200, .int .i64 3300, .int .i64 3400, .int .i64 3500, .int .i64 4500, .int .i64 4600, .int .i64 4700, .int .i64 5500, .int .i64 5600, .int .i64 5700, .slice (some ⟨W8.heap.size, 0, none⟩) 4 4]) h11p)
 have Ho : Hid ((#[.string ⟨#[69, 85, 82]⟩, .int .i64 2026, .int .i64 1, .int .i64 36, .slice A 26 c, .int .i64 1500, .int .i64 1600, .int .i64 1700, .int .i64 1200, .int .i64 3100, .int .i64 3200, .int .i64 3300, .int .i64 3400, .int .i64 3500, .int .i64 4500, .int .i64 4600, .int .i64 4700, .int .i64 5500, .int .i64 5600, .int .i64 5700, .slice (some ⟨W8.heap.size, 0, none⟩) 4 4] : Array Value).all (·.oneCell') = true) := by show _ = true; simp [Value.oneCell']
 have H11r := Lib.hid h11r
 clear a0_10 l0_10 a0_11 l0_11 a1_10 l1_10 a1_11 l1_11 a2_10 l2_10 a2_11 l2_11 a3_10 l3_10 a3_11 l3_11 hA10 hA11 hE11 hgrp hR R F0 h11 h11p h11r h10 h10q h10r h9 h9r hz10 hW9 hW10 hW11 hB11 hB10 hB010 hB09 hsz9
 have T19 := Lib.hid k19
 have T20 := Lib.hid k20
 have Tf := Lib.hid kf
 have Tl := Lib.hid (show W3.heap.size < W10.heap.size /\ W8.heap.size < W10.heap.size from ⟨hlt10, hqlt10⟩)
 clear k19 k20 kf hlt10 hqlt10 hpq z5 z6 z7 z8
 go_upto_region 3 with (fail)
 rw [<- HW9.out, <- HW10.out]
 clear g20 gf hlt8
 have k19 := T19.out
 have k20 := T20.out
 have kf := Tf.out
 obtain ⟨hlt10, hqlt10⟩ := Tl.out
 go_upto_region 4 with (fail)
 rw [<- HW11.out]
 clear k19 k20 kf hlt10 hqlt10
 go_wp2_with (first | (refine wpList_load_mid rfl 29 (.tmp 1) rfl W3.heap.size 0 rfl [.string ⟨#[69, 85, 82]⟩, .int .i64 2026, .int .i64 1, .int .i64 36, .slice A 26 c, .int .i64 1500, .int .i64 1600, .int .i64 1700, .int .i64 1200, .int .i64 3100, .int .i64 3200, .int .i64 3300, .int .i64 3400, .int .i64 3500, .int .i64 4500, .int .i64 4600, .int .i64 4700, .int .i64 5500, .int .i64 5600, .int .i64 5700, .slice (some ⟨W8.heap.size, 0, none⟩) 4 4] _ hrg.out Tryz.underlying29 rfl grpSize ?_) | (refine wpList_store_row rfl 29 (.tmp 0) (.tmp 16) none rfl rfl w.heap.size 29 _ #[.string ⟨#[69, 85, 82]⟩, .int .i64 2026, .int .i64 1, .int .i64 36, .slice A 26 c, .int .i64 1500, .int .i64 1600, .int .i64 1700, .int .i64 1200, .int .i64 3100, .int .i64 3200, .int .i64 3300, .int .i64 3400, .int .i64 3500, .int .i64 4500, .int .i64 4600, .int .i64 4700, .int .i64 5500, .int .i64 5600, .int .i64 5700, .slice (some ⟨W8.heap.size, 0, none⟩) 4 4] rfl rfl H11r.out rfl grpSize Ho.out ?_))
 exact bodyPost_ret (v := .agg #[.string ⟨#[69, 85, 82]⟩, .int .i64 2026, .int .i64 1, .int .i64 36, .slice A 26 c, .int .i64 1500, .int .i64 1600, .int .i64 1700, .int .i64 1200, .int .i64 3100, .int .i64 3200, .int .i64 3300, .int .i64 3400, .int .i64 3500, .int .i64 4500, .int .i64 4600, .int .i64 4700, .int .i64 5500, .int .i64 5600, .int .i64 5700, .slice (some ⟨W8.heap.size, 0, none⟩) 4 4]) (by simp [results, Tryz.results22, asAddr, Act.put, hload.out]) rfl ⟨hBF.out, Smp.grp A c (some ⟨W8.heap.size, 0, none⟩) 4 ⟨A0, c0, L0, d0⟩ ⟨A1, c1, L1, d1⟩ ⟨A2, c2, L2, d2⟩ ⟨A3, c3, L3, d3⟩, rfl, Hgrp.out, ⟨A, c, _, _, _, _, _, _, rfl⟩⟩
end
end Go.Proofs.YtcblobokjhhboaaGreat
