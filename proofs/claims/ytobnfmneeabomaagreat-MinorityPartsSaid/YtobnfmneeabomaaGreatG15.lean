/- My texts Reg, Maps, Rows2, RefOf, RefCmp. -/
import Derived.WalkKit
import Derived.Maps.Own
import Derived.Maps.OwnOps
import Derived.Maps.Views
import Derived.StillTailTactics
import Derived.Test.YtobnfmneeabomaaGreatG03
import Derived.Test.YtobnfmneeabomaaGreatG11
import Derived.Test.YtobnfmneeabomaaGreatG14
set_option linter.unusedVariables false
set_option linter.unusedSimpArgs false
set_option maxRecDepth 100000
set_option maxHeartbeats 8000000
namespace Go.Proofs.YtobnfmneeabomaaGreat
open Go.RowKit

def Reg (w : World) (L : List (Nat × Array Value × TypeId)) (W : World) : Prop :=
 Below w.heap.size w W /\ ∀ x ∈ L, W.heap[x.1]? = some (.cells x.2.1 x.2.2 (0, 0))
theorem Reg.get {w W : World} {L : List (Nat × Array Value × TypeId)} (h : Reg w L W) {b : Nat} {X : Array Value} {t : TypeId} (hm : (b, X, t) ∈ L) : W.heap[b]? = some (.cells X t (0, 0)) := h.2 _ hm
theorem Reg.step {w W W' : World} {L : List (Nat × Array Value × TypeId)} (h : Reg w L W) (hb : Below W.heap.size W W') : Reg w L W' :=
 ⟨h.1.trans (hb.mono h.1.size), fun x hx => (hb.block _ (some_lt (h.2 x hx))).trans (h.2 x hx)⟩
theorem Reg.drew {w W : World} {L : List (Nat × Array Value × TypeId)} (h : Reg w L W) : Reg w L W.drew := ⟨below_drawn h.1 1, h.2⟩
theorem Reg.store {w W : World} {L : List (Nat × Array Value × TypeId)} (h : Reg w L W) (d : Nat) (hd : w.heap.size <= d) (hne : ∀ x ∈ L, x.1 ≠ d) (cs : Array Value) : Reg w L (W.setRow d cs) :=
 ⟨below_setRow h.1 hd _, fun x hx => (setRow_other _ _ _ _ (hne x hx)).trans (h.2 x hx)⟩
theorem Reg.lt {w W : World} {L : List (Nat × Array Value × TypeId)} (h : Reg w L W) {b : Nat} {X : Array Value} {t : TypeId} (hm : (b, X, t) ∈ L) : b < W.heap.size := some_lt (h.2 _ hm)
theorem row_new (w : World) (X : Array Value) (t : TypeId) : Below w.heap.size w (w.alloc (.cells X t)) /\ (w.alloc (.cells X t)).heap[w.heap.size]? = some (.cells X t (0, 0)) /\ (w.alloc (.cells X t)).heap.size = w.heap.size + 1 :=
 ⟨(Below.refl _ _).alloc (Nat.le_refl _) _, heap_alloc_new w _, by simp⟩
theorem row_new2 (w : World) (X Y : Array Value) (t s : TypeId) : Below w.heap.size w ((w.alloc (.cells X t)).alloc (.cells Y s)) /\ ((w.alloc (.cells X t)).alloc (.cells Y s)).heap[w.heap.size]? = some (.cells X t (0, 0)) /\ ((w.alloc (.cells X t)).alloc (.cells Y s)).heap[w.heap.size + 1]? = some (.cells Y s (0, 0)) /\ ((w.alloc (.cells X t)).alloc (.cells Y s)).heap.size = w.heap.size + 2 := by
 refine ⟨((Below.refl _ _).alloc (Nat.le_refl _) _).alloc (by simp) _, ?_, ?_, by simp⟩
 ·rw [Below.heap_alloc _ _ _ (by simp)]; exact heap_alloc_new w _
 ·have := heap_alloc_new (w.alloc (.cells X t)) (.cells Y s)
  rwa [show (w.alloc (.cells X t)).heap.size = w.heap.size + 1 by simp] at this
theorem row_new3 (w : World) (X Y Z : Array Value) (t s r : TypeId) : Below w.heap.size w (((w.alloc (.cells X t)).alloc (.cells Y s)).alloc (.cells Z r)) /\ (((w.alloc (.cells X t)).alloc (.cells Y s)).alloc (.cells Z r)).heap[w.heap.size]? = some (.cells X t (0, 0)) /\ (((w.alloc (.cells X t)).alloc (.cells Y s)).alloc (.cells Z r)).heap[w.heap.size + 1]? = some (.cells Y s (0, 0)) /\ (((w.alloc (.cells X t)).alloc (.cells Y s)).alloc (.cells Z r)).heap[w.heap.size + 2]? = some (.cells Z r (0, 0)) /\ (((w.alloc (.cells X t)).alloc (.cells Y s)).alloc (.cells Z r)).heap.size = w.heap.size + 3 := by
 obtain ⟨h1, h2, h3, h4⟩ := row_new2 w X Y t s
 obtain ⟨g1, g2, g3⟩ := row_new ((w.alloc (.cells X t)).alloc (.cells Y s)) Z r
 rw [h4] at g2 g3
 exact ⟨h1.trans (g1.mono h1.size), (g1.block _ (by omega)).trans h2, (g1.block _ (by omega)).trans h3, g2, g3⟩
theorem nw1 (w : World) (X : Array Value) (t : TypeId) : ∃ W, W = w.alloc (.cells X t) /\ Below w.heap.size w W /\ W.heap[w.heap.size]? = some (.cells X t (0, 0)) /\ W.heap.size = w.heap.size + 1 := ⟨_, rfl, row_new w X t⟩
theorem nw2 (w : World) (X Y : Array Value) (t s : TypeId) : ∃ W, W = (w.alloc (.cells X t)).alloc (.cells Y s) /\ Below w.heap.size w W /\ W.heap[w.heap.size]? = some (.cells X t (0, 0)) /\ W.heap[w.heap.size + 1]? = some (.cells Y s (0, 0)) /\ W.heap.size = w.heap.size + 2 := ⟨_, rfl, row_new2 w X Y t s⟩
theorem row_new4 (w : World) (X Y Z U : Array Value) (t s r q : TypeId) : Below w.heap.size w ((((w.alloc (.cells X t)).alloc (.cells Y s)).alloc (.cells Z r)).alloc (.cells U q)) /\ ((((w.alloc (.cells X t)).alloc (.cells Y s)).alloc (.cells Z r)).alloc (.cells U q)).heap[w.heap.size]? = some (.cells X t (0, 0)) /\ ((((w.alloc (.cells X t)).alloc (.cells Y s)).alloc (.cells Z r)).alloc (.cells U q)).heap[w.heap.size + 1]? = some (.cells Y s (0, 0)) /\ ((((w.alloc (.cells X t)).alloc (.cells Y s)).alloc (.cells Z r)).alloc (.cells U q)).heap[w.heap.size + 2]? = some (.cells Z r (0, 0)) /\ ((((w.alloc (.cells X t)).alloc (.cells Y s)).alloc (.cells Z r)).alloc (.cells U q)).heap[w.heap.size + 3]? = some (.cells U q (0, 0)) /\ ((((w.alloc (.cells X t)).alloc (.cells Y s)).alloc (.cells Z r)).alloc (.cells U q)).heap.size = w.heap.size + 4 := by
 obtain ⟨h1, h2, h3, h4, h5⟩ := row_new3 w X Y Z t s r
 obtain ⟨g1, g2, g3⟩ := row_new (((w.alloc (.cells X t)).alloc (.cells Y s)).alloc (.cells Z r)) U q
 rw [h5] at g2 g3
 exact ⟨h1.trans (g1.mono h1.size), (g1.block _ (by omega)).trans h2, (g1.block _ (by omega)).trans h3, (g1.block _ (by omega)).trans h4, g2, g3⟩
def Mk (W0 W : World) (b : Bool) (v : Value) (p : Nat) (X : Array Value) (T : TypeId) : Prop :=
 b = true -> v = .pointer (some ⟨p, 0, none⟩) /\ W0.heap.size <= p /\ W.heap[p]? = some (.cells X T (0, 0))
theorem Mk.step {W0 W W' : World} {b : Bool} {v : Value} {p : Nat} {X : Array Value} {T : TypeId} (h : Mk W0 W b v p X T) (hB : Below W.heap.size W W') : Mk W0 W' b v p X T :=
 fun hb => ⟨(h hb).1, (h hb).2.1, gbox (h hb).2.2 hB (some_lt (h hb).2.2)⟩
theorem ropt {P : Program} {ops : Array Oper} {Q : Exit -> Act -> World -> Prop} {md : Region.Mode} {S : World -> Prop} {fuel : Nat} {listed : Array Bool} {a : Act} {w : World} {b : Bool} {i : Nat} {rs : List Nat}
  (h : b = false -> AllReadyH P md ops Q S fuel listed a w [i]) (hs : AllReadyH P md ops Q S fuel listed a w rs) : AllReadyH P md ops Q S fuel listed a w (cond b [] [i] ++ rs) := by
 cases b
 ·intro j hj
  rcases List.mem_cons.1 hj with rfl | hj
  ·exact h rfl _ (List.mem_cons_self ..)
  ·exact hs j hj
 ·exact hs
end Go.Proofs.YtobnfmneeabomaaGreat
namespace Go.Proofs.YtobnfmneeabomaaGreat
open Go.RowKit Go.Maps

def heldR (v : Value) : Option (DataW Value × List MemPlace) := some (.held v, [])

def MapAt (w : World) (P : Program) (k : TypeId) (b n : Nat) (f : Value -> Option Value) : Prop :=
 ∃ D : DataW Value, w.ownsMap P k heldR b n D /\ IsMap D /\ ∀ x kl, keyOf P k x = some kl -> ∀ z, D.atKey kl (.held z) = .held ((f x).getD z)

section
variable {w w' : World} {P : Program} {k t e : TypeId} {b n : Nat} {f : Value -> Option Value}
theorem MapAt.lt (h : MapAt w P k b n f) : b < w.heap.size := by obtain ⟨D, h, _⟩ := h; exact h.lt
theorem MapAt.made (w : World) (P : Program) (k : TypeId) : MapAt (w.alloc (.map #[] 0)) P k w.heap.size 0 (fun _ => none) :=
 ⟨_, World.ownsMap_made w P k heldR, isMap_empty, fun _ _ _ _ => rfl⟩
theorem MapAt.kept {row : Option Nat} (h : MapAt w P k b n f) (hg : w.grownBy w' row) (hne : some b ≠ row) : MapAt w' P k b n f := by
 obtain ⟨D, h, r⟩ := h; exact ⟨D, h.kept hg hne, r⟩
theorem MapAt.alloc (h : MapAt w P k b n f) (o : Obj) : MapAt (w.alloc o) P k b n f := by obtain ⟨D, h, r⟩ := h; exact ⟨D, h.alloc o, r⟩
theorem MapAt.drew (h : MapAt w P k b n f) : MapAt w.drew P k b n f := h
theorem MapAt.below {B : Nat} (h : MapAt w P k b n f) (hb : Below B w w') (hB : b < B) : MapAt w' P k b n f := by
 obtain ⟨D, ⟨es, clock, he, r⟩, r2⟩ := h
 exact ⟨D, ⟨es, clock, (hb.block b hB).trans he, r⟩, r2⟩
theorem MapAt.mono (h : MapAt w P k b n f) {n' : Nat} (hn : n <= n') : MapAt w P k b n' f := by obtain ⟨D, h, r⟩ := h; exact ⟨D, h.mono hn, r⟩
theorem MapAt.ext {g : Value -> Option Value} (h : MapAt w P k b n f) (e : ∀ x kl, keyOf P k x = some kl -> f x = g x) : MapAt w P k b n g := by
 obtain ⟨D, h, r, s⟩ := h; exact ⟨D, h, r, fun x kl hk z => by rw [<- e x kl hk]; exact s x kl hk z⟩
theorem MapAt.lookup (h : MapAt w P k b n f) (K : Keyed P k) (ht : P.underlying t = some (.map k e)) {z : Value} (hz : (zeroValue e).run P w = .ok z w)
  {key : Value} {kl : Lit} (hkey : keyOf P k key = some kl) : (Instr.lookup t (.map (some b)) key false).run P w = .ok ((f key).getD z) w := by
 obtain ⟨D, h, _, s⟩ := h
 obtain ⟨v, ps, hrun, hv⟩ := h.lookup K ht hz (zd := .held z) (zp := []) rfl hkey
 rw [s key kl hkey z] at hv
 simp only [heldR, Option.some.injEq, Prod.mk.injEq, DataW.held.injEq] at hv
 rw [hrun, hv.1]
open Classical in
theorem MapAt.update (h : MapAt w P k b n f) (K : Keyed P k) (ht : P.underlying t = some (.map k e)) (hn : n < maxLen) {key val : Value} {kl : Lit} (hkey : keyOf P k key = some kl) :
  ∃ w', (Instr.mapUpdate t (.map (some b)) key val).run P w = .ok () w' /\ MapAt w' P k b (n + 1) (fun x => if x = key then some val else f x) /\ w.grownBy w' (some b) := by
 obtain ⟨D, h, hm, s⟩ := h
 obtain ⟨w', hrun, ho, hg⟩ := h.update K ht hn hkey (d := .held val) (ps := []) rfl
 refine ⟨w', hrun, ⟨_, ho, hm.put _ _, fun x kl' hk z => ?_⟩, hg⟩
 by_cases hx : x = key
 ·subst hx
  rw [hkey] at hk; cases hk
  rw [atKey_put_same hm (K.key hkey)]
  show _ = DataW.held ((if x = x then some val else f x).getD z)
  rw [if_pos rfl]; rfl
 ·show _ = DataW.held ((if x = key then some val else f x).getD z)
  rw [if_neg hx, <- s x kl' hk z]
  exact atKey_put_other (fun e => hx (K.inj (by rw [hk, e]) hkey)) _ _

open Classical in
theorem wpList_mapUpdate_at {ops : Array Oper} {rest : List Oper} {o : Oper} {a : Act} {Q : Exit -> Act -> World -> Prop}
  (hg : o.guard = none) (m x v : Operand) (hop : o.op = Op.mapUpdate t m x v) (h : MapAt w P k b n f) (K : Keyed P k) (ht : P.underlying t = some (.map k e))
  (hm : a.eval m = .map (some b)) (hn : n < maxLen) (key val : Value) (kl : Lit) (hx : a.eval x = key) (hv : a.eval v = val) (hkey : keyOf P k key = some kl)
  (hK : ∀ w', MapAt w' P k b (n + 1) (fun x => if x = key then some val else f x) -> w.grownBy w' (some b) -> wpList P ops Q rest (a.put o.dst undef) w') :
  wpList P ops Q (o :: rest) a w := by
 refine wpList_plain hg fun K' hK' => ?_
 obtain ⟨w', hrun, r1, r2⟩ := h.update K ht hn (val := val) hkey
 unfold Oper.wp
 simp [execOp, hop, hm, hx, hv, hrun, Result.andThen]
 exact hK' _ _ (hK w' r1 r2)
end
end Go.Proofs.YtobnfmneeabomaaGreat
namespace Go.Proofs.YtobnfmneeabomaaGreat
open Go.RowKit

def RowsAt {α : Type} (f : α -> List Value) (sz : Nat) (w : World) (B : Nat) (A : Option Addr) (l : List α) : Prop :=
 l = [] ∨ ∃ b o, A = some ⟨b, o, none⟩ /\ b < B /\ ∀ k (h : k < l.length), w.rangeAt b (o + k * sz) (f l[k])
section
variable {α : Type} {f : α -> List Value} {sz : Nat} {w w' : World} {B C : Nat} {A : Option Addr} {l : List α}
theorem RowsAt.below (h : RowsAt f sz w B A l) (hb : Below C w w') (hC : B <= C) : RowsAt f sz w' B A l := by
 rcases h with h | ⟨b, o, e, hl, hc⟩
 ·exact .inl h
 ·exact .inr ⟨b, o, e, hl, fun k hk j v hv => (hb.cell (p := ⟨b, _, none⟩) (Nat.lt_of_lt_of_le hl hC)).trans (hc k hk j v hv)⟩
theorem RowsAt.more (h : RowsAt f sz w B A l) (hC : B <= C) : RowsAt f sz w C A l := by
 rcases h with h | ⟨b, o, e, hl, hc⟩
 ·exact .inl h
 ·exact .inr ⟨b, o, e, by omega, hc⟩
theorem RowsAt.kept {row : Option Nat} (h : RowsAt f sz w w.heap.size A l) (hg : w.grownBy w' row) (hne : ∀ b o, A = some ⟨b, o, none⟩ -> some b ≠ row) : RowsAt f sz w' w'.heap.size A l := by
 rcases h with h | ⟨b, o, e, hl, hc⟩
 ·exact .inl h
 ·exact .inr ⟨b, o, e, Nat.lt_of_lt_of_le hl hg.size, fun k hk j v hv => (World.cell?_of_block (w := w) (hg.block b hl (hne b o e))).trans (hc k hk j v hv)⟩
theorem RowsAt.at_ (h : RowsAt f sz w w.heap.size A l) (hb : Below w.heap.size w w') : RowsAt f sz w' w'.heap.size A l := (h.below hb (Nat.le_refl _)).more hb.size
theorem RowsAt.look (h : RowsAt f sz w B A l) {k : Nat} (hk : k < l.length) : ∃ b o, A = some ⟨b, o, none⟩ /\ b < B /\ w.rangeAt b (o + k * sz) (f l[k]) := by
 rcases h with h | ⟨b, o, e, hl, hc⟩
 ·subst h; simp at hk
 ·exact ⟨b, o, e, hl, hc k hk⟩
end
theorem range_cell {w : World} {b o : Nat} {cs : List Value} (h : w.rangeAt b o cs) (j : Nat) (v : Value) (hv : cs[j]? = some v) : w.cell? ⟨b, o + j, none⟩ = some v := h j v hv
theorem take_mem_all {α : Type} {l : List α} {k : Nat} {P : α -> Prop} (hk : k < l.length) (h : ∀ a ∈ l.take k, P a) (hp : P l[k]) : ∀ a ∈ l.take (k + 1), P a := by
 intro a ha
 rw [List.take_succ_eq_append_getElem hk, List.mem_append, List.mem_singleton] at ha
 rcases ha with ha | rfl
 ·exact h a ha
 ·exact hp

open Go.Maps in
theorem intLaw : Maps.Keyed Tryz.prog 3 := int_keyed Tryz.underlying3
def SetAt (w : World) (b : Nat) (p : List Int) : Prop :=
 ∃ f, MapAt w Tryz.prog 3 b p.length f /\ ∀ x, f (.int .i64 x) = if x ∈ p then some (.bool true) else none
section
variable {w w' : World} {b B : Nat} {p : List Int}
theorem SetAt.lt (h : SetAt w b p) : b < w.heap.size := by obtain ⟨f, h, _⟩ := h; exact h.lt
theorem SetAt.below (h : SetAt w b p) (hb : Below B w w') (hB : b < B) : SetAt w' b p := by obtain ⟨f, h, r⟩ := h; exact ⟨f, h.below hb hB, r⟩
theorem SetAt.kept {row : Option Nat} (h : SetAt w b p) (hg : w.grownBy w' row) (hne : some b ≠ row) : SetAt w' b p := by obtain ⟨f, h, r⟩ := h; exact ⟨f, h.kept hg hne, r⟩
theorem SetAt.alloc (h : SetAt w b p) (o : Obj) : SetAt (w.alloc o) b p := by obtain ⟨f, h, r⟩ := h; exact ⟨f, h.alloc o, r⟩
theorem SetAt.made (w : World) : SetAt (w.alloc (.map #[] 0)) w.heap.size [] := ⟨_, MapAt.made w _ _, fun x => by simp⟩
open Go.Maps in
theorem SetAt.look (h : SetAt w b p) (x : Int) (hx : (Lit.int .i64 x).wf = true) : (Instr.lookup 137 (.map (some b)) (.int .i64 x) false).run Tryz.prog w = .ok (.bool (decide (x ∈ p))) w := by
 obtain ⟨f, hm, hf⟩ := h
 have hz : (zeroValue 4).run Tryz.prog w = .ok (.bool false) w := by kernel_rfl
 rw [hm.lookup intLaw Tryz.underlying137 hz (keyOf_int_mk Tryz.underlying3 hx), hf]
 by_cases h : x ∈ p <;> simp [h]
open Classical in
theorem set_step {f : Value -> Option Value} (hf : ∀ x, f (.int .i64 x) = if x ∈ p then some (.bool true) else none) (c : Int) :
  ∀ x, (fun v => if v = .int .i64 c then some (Value.bool true) else f v) (.int .i64 x) = if x ∈ p ++ [c] then some (.bool true) else none := by
 intro x
 show (if _ then _ else f _) = _
 by_cases h : x = c
 ·subst h; rw [if_pos rfl, if_pos (by simp)]
 ·rw [if_neg (by simp [h]), hf]
  by_cases h2 : x ∈ p <;> simp [h, h2]
end
end Go.Proofs.YtobnfmneeabomaaGreat
namespace Go.Proofs.YtobnfmneeabomaaGreat
namespace R1
open Go.RowKit

theorem of_less {x : Int} {k : Nat} (h : x < 10000 ^ (5 - k)) (h0 : 0 < x) : k < 5 /\ x / 10000 < 10000 ^ (5 - (k + 1)) := by
 have hk : k < 5 := by
  rcases Nat.lt_or_ge k 5 with h3 | h3
  ·exact h3
  ·rw [show 5 - k = 0 by omega, Int.pow_zero] at h; omega
 refine ⟨hk, Int.ediv_lt_of_lt_mul (by omega) ?_⟩
 rw [<- Int.pow_succ, show (5 - (k + 1)).succ = 5 - k by omega]; exact h
theorem of_step {P : List Int} {k : Nat} {x a : Int} (hv : Big.val 10000 P + 10000 ^ k * x = a) (hP : P.length = k) : Big.val 10000 (P ++ [x % 10000]) + 10000 ^ (k + 1) * (x / 10000) = a := by
 rw [Big.val_snoc, hP, Int.pow_succ, Int.mul_assoc]
 have h1 : (10000 : Int) ^ k * (x % 10000) + 10000 ^ k * (10000 * (x / 10000)) = 10000 ^ k * x := by rw [<- Int.mul_add, Int.emod_add_mul_ediv]
 omega
theorem neg_tmod (x : Int) (h : 0 <= x) : (-x).tmod 10000 = -(x % 10000) := by rw [Int.neg_tmod, Int.tmod_eq_emod_of_nonneg h]
theorem neg_tdiv (x : Int) (h : 0 <= x) : (-x).tdiv 10000 = -(x / 10000) := by rw [Int.neg_tdiv, Int.tdiv_eq_ediv_of_nonneg h]
section
variable (w : World)
theorem of_neg (n : Int) (h0 : n < 0) (h1 : -9223372036854775808 <= n) :
  Calls Tryz.prog 32 #[.int .i64 n] w fun e w' => (∃ r, e = .returned r /\ PI w' w'.heap.size 5 r n) /\ Below w.heap.size w w' := by
 obtain ⟨i0, hi, hz0, hz1, hz2⟩ := info_parts iinfo
 have hdn : decide (n < 0) = true := decide_eq_true h0
 have hB0 := (Below.refl w.heap.size w).alloc (Nat.le_refl _) (.cells #[.bool false, .slice none 0 0] 72)
 have hZ0 := heap_alloc_new w (.cells #[.bool false, .slice none 0 0] 72)
 go_enter Tryz.func32, Tryz.ntmps32
 go_wp2
 go_loopw [3, 4] (fun v u wr => ∃ (k : Nat) (P : List Int) (x : Int), k <= 5 /\ u = .int .i64 (-x) /\ 0 <= x /\ x <= 9223372036854775808 /\ x < 10000 ^ (5 - k) /\ P.length = k /\ Big.Lim 10000 P /\ Big.val 10000 P + 10000 ^ k * x = -n /\
  wr.ownsRow (w.heap.size + 1) 3 1 v k (P.map (Value.int .i64)) /\ Below w.heap.size w wr /\ wr.heap[w.heap.size]? = some (.cells #[.bool false, .slice none 0 0] 72 (0, 0))) (fun _ u _ => (intOf u).natAbs)
 case atStart => exact ⟨0, [], -n, by omega, by rw [Int.neg_neg], by omega, by omega, by omega, rfl, Big.Lim.nil, by simp [Big.val], World.ownsRow_nil _ _ _ _, hB0, hZ0⟩
 case round =>
  obtain ⟨k, P, x, hk, rfl, hx0, hxm, hx1, hPl, hPL, hv, hown, hb, hZ⟩ := hrel
  have HPl := Lib.hid hPl
  have HPL := Lib.hid hPL
  have Hv := Lib.hid hv
  have HZ := Lib.hid hZ
  have Hx1 := Lib.hid hx1
  have hgr : w.heap.size < wr.heap.size := (Array.getElem?_eq_some_iff.1 hZ).1
  clear hPl hPL hv hZ hZ0 hx1
  by_cases hx : 0 < x
  ·obtain ⟨h3, hd⟩ := of_less Hx1.out hx
   have Hd := Lib.hid hd
   have hne : ((-x) != 0) = true := by simp; omega
   have hX0 : 0 <= x % 10000 := by omega
   have hX1 : x % 10000 < 10000 := by omega
   have e1 := neg_tmod x hx0
   have e2 := neg_tdiv x hx0
   have Hnew := Lib.hid (one_cell (heap_alloc_new wr (.cells #[.int .i64 (x % 10000)] 3)))
   have Hown := Lib.hid (hown.alloc (.cells #[.int .i64 (x % 10000)] 3))
   have Hone : Hid (∀ u ∈ ([Value.int .i64 (x % 10000)] : List Value), u.oneCell' = true) := by show ∀ u ∈ _, _; simp [Value.oneCell']
   clear hd
   by_cases hl0 : x % 10000 = 0
   ·have hlt : ¬ -(x % 10000) < 0 := by omega
    rw [hl0] at e1 Hnew Hown Hone
    go_wp2_with (at_builtin; refine wpList_append_own _ rfl _ _ 70 rfl (w.heap.size + 1) 3 i0 (.int .i64 0) 1 8 Tryz.underlying70 hi hz0 hz1 hz2 rfl (by decide) _ _ _ rfl Hown.out ⟨wr.heap.size, 0, none⟩ 1 1 [.int .i64 0] rfl rfl Hnew.out Hone.out (by unfold maxLen; omega) (by omega) (by simp; omega) ?_)
    intro v' w9 hown' hgrow _
    have hb9 := (hb.alloc hb.size (.cells #[.int .i64 0] 3)).grown hgrow (by simp; omega) (fun q hq => by have := own_base hown q hq; omega)
    have HZ9 := Lib.hid ((hgrow.block w.heap.size (by simp; omega) (fun e => by have := own_base hown w.heap.size e.symm; omega)).trans ((Below.heap_alloc wr (.cells #[.int .i64 0] 3) _ hgr).trans HZ.out))
    go_wp2
    go_roundw
    case rel =>
     refine ⟨k + 1, P ++ [(x % 10000)], x / 10000, by omega, by go_num, by omega, by omega, Hd.out, by have := HPl.out; simp; omega, Big.Lim.append.2 ⟨HPL.out, fun a ha => ?_⟩, of_step Hv.out HPl.out, by rw [List.map_append]; rw [hl0]; exact hown', hb9, HZ9.out⟩
     rw [List.mem_singleton] at ha; subst ha; omega
    case measure => simp [intOf]; omega
   ·have hlt : -(x % 10000) < 0 := by omega
    go_wp2_with (at_builtin; refine wpList_append_own _ rfl _ _ 70 rfl (w.heap.size + 1) 3 i0 (.int .i64 0) 1 8 Tryz.underlying70 hi hz0 hz1 hz2 rfl (by decide) _ _ _ rfl Hown.out ⟨wr.heap.size, 0, none⟩ 1 1 [.int .i64 (x % 10000)] rfl rfl Hnew.out Hone.out (by unfold maxLen; omega) (by omega) (by simp; omega) ?_)
    intro v' w9 hown' hgrow _
    have hb9 := (hb.alloc hb.size (.cells #[.int .i64 (x % 10000)] 3)).grown hgrow (by simp; omega) (fun q hq => by have := own_base hown q hq; omega)
    have HZ9 := Lib.hid ((hgrow.block w.heap.size (by simp; omega) (fun e => by have := own_base hown w.heap.size e.symm; omega)).trans ((Below.heap_alloc wr (.cells #[.int .i64 (x % 10000)] 3) _ hgr).trans HZ.out))
    go_wp2
    go_roundw
    case rel =>
     refine ⟨k + 1, P ++ [(x % 10000)], x / 10000, by omega, by go_num, by omega, by omega, Hd.out, by have := HPl.out; simp; omega, Big.Lim.append.2 ⟨HPL.out, fun a ha => ?_⟩, of_step Hv.out HPl.out, by rw [List.map_append]; exact hown', hb9, HZ9.out⟩
     rw [List.mem_singleton] at ha; subst ha; omega
    case measure => simp [intOf]; omega
  ·obtain rfl : x = 0 := by omega
   have hval : Hid (Big.val 10000 P = -n) := by show _ = _; have := Hv.out; rwa [Int.mul_zero, Int.add_zero] at this
   obtain ⟨A, c, rfl, hkc, hlim⟩ := limbs_own hown HPl.out.symm
   have hAb := Lib.hid (fun b o (e : A = some ⟨b, o, none⟩) => own_base hown b (by rw [e]; rfl))
   have Hlim := Lib.hid hlim
   clear hlim hown
   go_wp2_with (fail)
   refine (signed_any wr true A k c P HPl.out (by omega) hkc Hlim.out).mono ?_
   rintro e w5 ⟨rfl, hB5⟩
   have hb5 := hb.trans (hB5.mono hb.size)
   have hZ5 := (hB5.block _ hgr).trans HZ.out
   have hq5 := hB5.size
   have hg5 : w.heap.size < w5.heap.size := by omega
   have z0 : w5.cell? ⟨w.heap.size, 0, none⟩ = some (.bool false) := by rw [cell_of_row _ _ _ _ _ _ hZ5]; rfl
   have z1 : w5.cell? ⟨w.heap.size, 1, none⟩ = some (.slice none 0 0) := by rw [cell_of_row _ _ _ _ _ _ hZ5]; rfl
   have zf : ∀ j, w5.frozen? ⟨w.heap.size, j, none⟩ = false := fun j => frozen_of_row _ _ _ _ _ hZ5
   have hBf := (hb5.setCell (p := ⟨w.heap.size, 0, none⟩) (by simp) (.bool (true && decide (0 < (Big.trim P).length)))).setCell (p := ⟨w.heap.size, 1, none⟩) (by simp) (.slice A (Big.trim P).length c)
   have HL2 := Lib.hid (((Hlim.out.at_ hB5 (Nat.le_refl _)).other (w' := (w5.setCell ⟨w.heap.size, 0, none⟩ (.bool (true && decide (0 < (Big.trim P).length)))).setCell ⟨w.heap.size, 1, none⟩ (.slice A (Big.trim P).length c)) (fun b o e => by
    have := hAb.out b o e
    exact (Below.heap_setCell _ _ _ b (fun e => by simp at e; omega)).trans (Below.heap_setCell _ _ _ b (fun e => by simp at e; omega)))).more (C := ((w5.setCell ⟨w.heap.size, 0, none⟩ (.bool (true && decide (0 < (Big.trim P).length)))).setCell ⟨w.heap.size, 1, none⟩ (.slice A (Big.trim P).length c)).heap.size) (by simp))
   have HP := Lib.hid (PI.mk (neg := true) HPl.out hk hkc HPL.out HL2.out)
   rw [hval.out] at HP
   clear hZ5
   simp only [Bool.true_and, Bool.false_and] at HP hBf ⊢
   go_wp2
   refine bodyPost_ret (v := .agg #[.bool (decide (0 < (Big.trim P).length)), .slice A (Big.trim P).length c]) (by simp [results, Tryz.results32, go_sem, z0, z1]) rfl ⟨⟨_, rfl, ?_⟩, hBf⟩
   have := HP.out
   simpa [Big.sgn] using this
theorem of_pos (n : Int) (h0 : 0 <= n) (h1 : n <= 9223372036854775807) :
  Calls Tryz.prog 32 #[.int .i64 n] w fun e w' => (∃ r, e = .returned r /\ PI w' w'.heap.size 5 r n) /\ Below w.heap.size w w' := by
 obtain ⟨i0, hi, hz0, hz1, hz2⟩ := info_parts iinfo
 have hdn : decide (n < 0) = false := decide_eq_false (by omega)
 have hB0 := (Below.refl w.heap.size w).alloc (Nat.le_refl _) (.cells #[.bool false, .slice none 0 0] 72)
 have hZ0 := heap_alloc_new w (.cells #[.bool false, .slice none 0 0] 72)
 go_enter Tryz.func32, Tryz.ntmps32
 go_wp2
 go_loopw [3, 4] (fun v u wr => ∃ (k : Nat) (P : List Int) (x : Int), k <= 5 /\ u = .int .i64 x /\ 0 <= x /\ x <= 9223372036854775807 /\ x < 10000 ^ (5 - k) /\ P.length = k /\ Big.Lim 10000 P /\ Big.val 10000 P + 10000 ^ k * x = n /\
  wr.ownsRow (w.heap.size + 1) 3 1 v k (P.map (Value.int .i64)) /\ Below w.heap.size w wr /\ wr.heap[w.heap.size]? = some (.cells #[.bool false, .slice none 0 0] 72 (0, 0))) (fun _ u _ => (intOf u).natAbs)
 case atStart => exact ⟨0, [], n, by omega, rfl, by omega, by omega, by omega, rfl, Big.Lim.nil, by simp [Big.val], World.ownsRow_nil _ _ _ _, hB0, hZ0⟩
 case round =>
  obtain ⟨k, P, x, hk, rfl, hx0, hxm, hx1, hPl, hPL, hv, hown, hb, hZ⟩ := hrel
  have HPl := Lib.hid hPl
  have HPL := Lib.hid hPL
  have Hv := Lib.hid hv
  have HZ := Lib.hid hZ
  have Hx1 := Lib.hid hx1
  have hgr : w.heap.size < wr.heap.size := (Array.getElem?_eq_some_iff.1 hZ).1
  clear hPl hPL hv hZ hZ0 hx1
  by_cases hx : 0 < x
  ·obtain ⟨h3, hd⟩ := of_less Hx1.out hx
   have Hd := Lib.hid hd
   have hne : (x != 0) = true := by simp; omega
   have hX0 : 0 <= x % 10000 := by omega
   have hX1 : x % 10000 < 10000 := by omega
   have Hnew := Lib.hid (one_cell (heap_alloc_new wr (.cells #[.int .i64 (x % 10000)] 3)))
   have Hown := Lib.hid (hown.alloc (.cells #[.int .i64 (x % 10000)] 3))
   have Hone : Hid (∀ u ∈ ([Value.int .i64 (x % 10000)] : List Value), u.oneCell' = true) := by show ∀ u ∈ _, _; simp [Value.oneCell']
   clear hd
   have hlt : ¬ x % 10000 < 0 := by omega
   go_wp2_with (at_builtin; refine wpList_append_own _ rfl _ _ 70 rfl (w.heap.size + 1) 3 i0 (.int .i64 0) 1 8 Tryz.underlying70 hi hz0 hz1 hz2 rfl (by decide) _ _ _ rfl Hown.out ⟨wr.heap.size, 0, none⟩ 1 1 [.int .i64 (x % 10000)] rfl rfl Hnew.out Hone.out (by unfold maxLen; omega) (by omega) (by simp; omega) ?_)
   intro v' w9 hown' hgrow _
   have hb9 := (hb.alloc hb.size (.cells #[.int .i64 (x % 10000)] 3)).grown hgrow (by simp; omega) (fun q hq => by have := own_base hown q hq; omega)
   have HZ9 := Lib.hid ((hgrow.block w.heap.size (by simp; omega) (fun e => by have := own_base hown w.heap.size e.symm; omega)).trans ((Below.heap_alloc wr (.cells #[.int .i64 (x % 10000)] 3) _ hgr).trans HZ.out))
   go_wp2
   go_roundw
   case rel =>
    refine ⟨k + 1, P ++ [(x % 10000)], x / 10000, by omega, by go_num, by omega, by omega, Hd.out, by have := HPl.out; simp; omega, Big.Lim.append.2 ⟨HPL.out, fun a ha => ?_⟩, of_step Hv.out HPl.out, by rw [List.map_append]; exact hown', hb9, HZ9.out⟩
    rw [List.mem_singleton] at ha; subst ha; omega
   case measure => simp [intOf]; omega
  ·obtain rfl : x = 0 := by omega
   have hval : Hid (Big.val 10000 P = n) := by show _ = _; have := Hv.out; rwa [Int.mul_zero, Int.add_zero] at this
   obtain ⟨A, c, rfl, hkc, hlim⟩ := limbs_own hown HPl.out.symm
   have hAb := Lib.hid (fun b o (e : A = some ⟨b, o, none⟩) => own_base hown b (by rw [e]; rfl))
   have Hlim := Lib.hid hlim
   clear hlim hown
   go_wp2_with (fail)
   refine (signed_any wr false A k c P HPl.out (by omega) hkc Hlim.out).mono ?_
   rintro e w5 ⟨rfl, hB5⟩
   have hb5 := hb.trans (hB5.mono hb.size)
   have hZ5 := (hB5.block _ hgr).trans HZ.out
   have hq5 := hB5.size
   have hg5 : w.heap.size < w5.heap.size := by omega
   have z0 : w5.cell? ⟨w.heap.size, 0, none⟩ = some (.bool false) := by rw [cell_of_row _ _ _ _ _ _ hZ5]; rfl
   have z1 : w5.cell? ⟨w.heap.size, 1, none⟩ = some (.slice none 0 0) := by rw [cell_of_row _ _ _ _ _ _ hZ5]; rfl
   have zf : ∀ j, w5.frozen? ⟨w.heap.size, j, none⟩ = false := fun j => frozen_of_row _ _ _ _ _ hZ5
   have hBf := (hb5.setCell (p := ⟨w.heap.size, 0, none⟩) (by simp) (.bool (false && decide (0 < (Big.trim P).length)))).setCell (p := ⟨w.heap.size, 1, none⟩) (by simp) (.slice A (Big.trim P).length c)
   have HL2 := Lib.hid (((Hlim.out.at_ hB5 (Nat.le_refl _)).other (w' := (w5.setCell ⟨w.heap.size, 0, none⟩ (.bool (false && decide (0 < (Big.trim P).length)))).setCell ⟨w.heap.size, 1, none⟩ (.slice A (Big.trim P).length c)) (fun b o e => by
    have := hAb.out b o e
    exact (Below.heap_setCell _ _ _ b (fun e => by simp at e; omega)).trans (Below.heap_setCell _ _ _ b (fun e => by simp at e; omega)))).more (C := ((w5.setCell ⟨w.heap.size, 0, none⟩ (.bool (false && decide (0 < (Big.trim P).length)))).setCell ⟨w.heap.size, 1, none⟩ (.slice A (Big.trim P).length c)).heap.size) (by simp))
   have HP := Lib.hid (PI.mk (neg := false) HPl.out hk hkc HPL.out HL2.out)
   rw [hval.out] at HP
   clear hZ5
   simp only [Bool.true_and, Bool.false_and] at HP hBf ⊢
   go_wp2
   refine bodyPost_ret (v := .agg #[.bool (false), .slice A (Big.trim P).length c]) (by simp [results, Tryz.results32, go_sem, z0, z1]) rfl ⟨⟨_, rfl, ?_⟩, hBf⟩
   have := HP.out
   simpa [Big.sgn] using this
theorem of_int (n : Int) (h1 : -9223372036854775808 <= n) (h2 : n <= 9223372036854775807) :
  Calls Tryz.prog 32 #[.int .i64 n] w fun e w' => (∃ r, e = .returned r /\ PI w' w'.heap.size 5 r n) /\ Below w.heap.size w w' := by
 by_cases h : n < 0
 ·exact of_neg w n h h1
 ·exact of_pos w n (by omega) h2
end
end R1
end Go.Proofs.YtobnfmneeabomaaGreat
namespace Go.Proofs.YtobnfmneeabomaaGreat
namespace R1
open Go.RowKit
theorem PI.open {w : World} {B k : Nat} {u : Value} {z : Int} (h : PI w B k u z) : ∃ (g : Bool) (A : Option Addr) (n c : Nat), u = .agg #[.bool g, .slice A n c] := by
 obtain ⟨g, A, n, c, l, e, _⟩ := h
 exact ⟨g, A, n, c, e⟩
theorem PI.other {w w' : World} {B k b : Nat} {v : Value} {z : Int} {cs : Array Value} {t : TypeId} {fr : Nat × Nat} (h : PI w B k v z) (hb : w.heap[b]? = some (.cells cs t fr)) (hcs : ∀ (j : Nat) (n : Int), cs[j]? ≠ some (.int .i64 n)) (hw : ∀ c, c ≠ b -> w'.heap[c]? = w.heap[c]?) : PI w' B k v z := by
 obtain ⟨g, A, n, c, l, h1, h2, h3, h4, h5, h6, h7, h8, h9⟩ := h
 refine ⟨g, A, n, c, l, h1, h2, h3, h4, h5, h6, h7, h8, ?_⟩
 rcases h9 with h | ⟨d, o, e, hl, hc⟩
 ·exact .inl h
 ·rcases Nat.eq_zero_or_pos l.length with h0 | h0
  ·exact .inl (List.length_eq_zero_iff.1 h0)
  ·have hne : d ≠ b := by
    rintro rfl
    have := hc.1 0 h0
    rw [cell_of_row _ _ _ _ _ _ hb] at this
    exact hcs _ _ this
   exact .inr ⟨d, o, e, hl, fun j hj => (World.cell?_of_block (w := w) (hw d hne)).trans (hc.1 j hj), hc.2.of_block (hw d hne)⟩
theorem PI.drw {W : World} {k : Nat} {v : Value} {z : Int} (h : PI W W.heap.size k v z) : PI W.drew W.drew.heap.size k v z := h.at_ (below_drawn (Below.refl _ _) 1)
theorem no_int2 (g : Bool) (A : Option Addr) (n c : Nat) : ∀ (j : Nat) (z : Int), (#[.bool g, .slice A n c] : Array Value)[j]? ≠ some (.int .i64 z) := by
 intro j z
 match j with
 | 0 => simp
 | 1 => simp
 | j + 2 => simp
section
variable (w : World)
end
end R1
end Go.Proofs.YtobnfmneeabomaaGreat
