/- My texts Reg, Maps, Rows2, RefOf, RefCmp. -/
import Derived.WalkKit
import Derived.Maps.Own
import Derived.Maps.OwnOps
import Derived.Maps.Views
import Derived.StillTailTactics
import Derived.Test.YtccapfbblnnfjaaGreatG03
import Derived.Test.YtccapfbblnnfjaaGreatG11
import Derived.Test.YtccapfbblnnfjaaGreatG14
set_option linter.unusedVariables false
set_option linter.unusedSimpArgs false
set_option maxRecDepth 100000
set_option maxHeartbeats 8000000
namespace Go.Proofs.YtccapfbblnnfjaaGreat
open Go.RowKit

def Reg (w : World) (L : List (Nat × Array Value × TypeId)) (W : World) : Prop :=
 Below w.heap.size w W /\ ∀ x ∈ L, W.heap[x.1]? = some (.cells x.2.1 x.2.2 (0, 0))
theorem Reg.get {w W : World} {L : List (Nat × Array Value × TypeId)} (h : Reg w L W) {b : Nat} {X : Array Value} {t : TypeId} (hm : (b, X, t) ∈ L) : W.heap[b]? = some (.cells X t (0, 0)) := h.2 _ hm
theorem Reg.step {w W W' : World} {L : List (Nat × Array Value × TypeId)} (h : Reg w L W) (hb : Below W.heap.size W W') : Reg w L W' :=
 ⟨h.1.trans (hb.mono h.1.size), fun x hx => (hb.block _ (some_lt (h.2 x hx))).trans (h.2 x hx)⟩
theorem Reg.drew {w W : World} {L : List (Nat × Array Value × TypeId)} (h : Reg w L W) : Reg w L W.drew := ⟨below_drawn h.1 1, h.2⟩
theorem Reg.store {w W : World} {L : List (Nat × Array Value × TypeId)} (h : Reg w L W) (d : Nat) (hd : w.heap.size <= d) (hne : ∀ x ∈ L, x.1 ≠ d) (cs : Array Value) : Reg w L (W.setRow d cs) :=
 ⟨below_setRow h.1 hd _, fun x hx => (setRow_other _ _ _ _ (hne x hx)).trans (h.2 x hx)⟩
theorem Reg.lt {w W : World} {L : List (Nat × Array Value × TypeId)} (h : Reg w L W) {b : Nat} {X : Array Value} {t : TypeId} (hm : (b, X, t) ∈ L) : b < W.heap.size := some_lt (h.2 _ hm)
theorem row_new (w : World) (X : Array Value) (t : TypeId) : Below w.heap.size w (w.alloc (.cells X t)) /\ (w.alloc (.cells X t)).heap[w.heap.size]? = some (.cells X t (0, 0)) /\ (w.alloc (.cells X t)).heap.size = w.heap.size + 1 :=
 ⟨(Below.refl _ _).alloc (Nat.le_refl _) _, heap_alloc_new w _, by simp⟩
theorem row_new2 (w : World) (X Y : Array Value) (t s : TypeId) : Below w.heap.size w ((w.alloc (.cells X t)).alloc (.cells Y s)) /\ ((w.alloc (.cells X t)).alloc (.cells Y s)).heap[w.heap.size]? = some (.cells X t (0, 0)) /\ ((w.alloc (.cells X t)).alloc (.cells Y s)).heap[w.heap.size + 1]? = some (.cells Y s (0, 0)) /\ ((w.alloc (.cells X t)).alloc (.cells Y s)).heap.size = w.heap.size + 2 := by
 refine ⟨((Below.refl _ _).alloc (Nat.le_refl _) _).alloc (by simp) _, ?_, ?_, by simp⟩
 ·rw [Below.heap_alloc _ _ _ (by simp)]; exact heap_alloc_new w _
 ·have := heap_alloc_new (w.alloc (.cells X t)) (.cells Y s)
  rwa [show (w.alloc (.cells X t)).heap.size = w.heap.size + 1 by simp] at this
theorem row_new3 (w : World) (X Y Z : Array Value) (t s r : TypeId) : Below w.heap.size w (((w.alloc (.cells X t)).alloc (.cells Y s)).alloc (.cells Z r)) /\ (((w.alloc (.cells X t)).alloc (.cells Y s)).alloc (.cells Z r)).heap[w.heap.size]? = some (.cells X t (0, 0)) /\ (((w.alloc (.cells X t)).alloc (.cells Y s)).alloc (.cells Z r)).heap[w.heap.size + 1]? = some (.cells Y s (0, 0)) /\ (((w.alloc (.cells X t)).alloc (.cells Y s)).alloc (.cells Z r)).heap[w.heap.size + 2]? = some (.cells Z r (0, 0)) /\ (((w.alloc (.cells X t)).alloc (.cells Y s)).alloc (.cells Z r)).heap.size = w.heap.size + 3 := by
 obtain ⟨h1, h2, h3, h4⟩ := row_new2 w X Y t s
 obtain ⟨g1, g2, g3⟩ := row_new ((w.alloc (.cells X t)).alloc (.cells Y s)) Z r
 rw [h4] at g2 g3
 exact ⟨h1.trans (g1.mono h1.size), (g1.block _ (by omega)).trans h2, (g1.block _ (by omega)).trans h3, g2, g3⟩
theorem nw1 (w : World) (X : Array Value) (t : TypeId) : ∃ W, W = w.alloc (.cells X t) /\ Below w.heap.size w W /\ W.heap[w.heap.size]? = some (.cells X t (0, 0)) /\ W.heap.size = w.heap.size + 1 := ⟨_, rfl, row_new w X t⟩
theorem nw2 (w : World) (X Y : Array Value) (t s : TypeId) : ∃ W, W = (w.alloc (.cells X t)).alloc (.cells Y s) /\ Below w.heap.size w W /\ W.heap[w.heap.size]? = some (.cells X t (0, 0)) /\ W.heap[w.heap.size + 1]? = some (.cells Y s (0, 0)) /\ W.heap.size = w.heap.size + 2 := ⟨_, rfl, row_new2 w X Y t s⟩
def Mk (W0 W : World) (b : Bool) (v : Value) (p : Nat) (X : Array Value) (T : TypeId) : Prop :=
 b = true -> v = .pointer (some ⟨p, 0, none⟩) /\ W0.heap.size <= p /\ W.heap[p]? = some (.cells X T (0, 0))
theorem Mk.step {W0 W W' : World} {b : Bool} {v : Value} {p : Nat} {X : Array Value} {T : TypeId} (h : Mk W0 W b v p X T) (hB : Below W.heap.size W W') : Mk W0 W' b v p X T :=
 fun hb => ⟨(h hb).1, (h hb).2.1, gbox (h hb).2.2 hB (some_lt (h hb).2.2)⟩
theorem ropt {P : Program} {ops : Array Oper} {Q : Exit -> Act -> World -> Prop} {md : Region.Mode} {S : World -> Prop} {fuel : Nat} {listed : Array Bool} {a : Act} {w : World} {b : Bool} {i : Nat} {rs : List Nat}
  (h : b = false -> AllReadyH P md ops Q S fuel listed a w [i]) (hs : AllReadyH P md ops Q S fuel listed a w rs) : AllReadyH P md ops Q S fuel listed a w (cond b [] [i] ++ rs) := by
 cases b
 ·intro j hj
  rcases List.mem_cons.1 hj with rfl | hj
  ·exact h rfl _ (List.mem_cons_self ..)
  ·exact hs j hj
 ·exact hs
end Go.Proofs.YtccapfbblnnfjaaGreat
namespace Go.Proofs.YtccapfbblnnfjaaGreat
open Go.RowKit Go.Maps

def heldR (v : Value) : Option (DataW Value × List MemPlace) := some (.held v, [])

def MapAt (w : World) (P : Program) (k : TypeId) (b n : Nat) (f : Value -> Option Value) : Prop :=
 ∃ D : DataW Value, w.ownsMap P k heldR b n D /\ IsMap D /\ ∀ x kl, keyOf P k x = some kl -> ∀ z, D.atKey kl (.held z) = .held ((f x).getD z)

section
variable {w w' : World} {P : Program} {k t e : TypeId} {b n : Nat} {f : Value -> Option Value}
theorem MapAt.lt (h : MapAt w P k b n f) : b < w.heap.size := by obtain ⟨D, h, _⟩ := h; exact h.lt
theorem MapAt.made (w : World) (P : Program) (k : TypeId) : MapAt (w.alloc (.map #[] 0)) P k w.heap.size 0 (fun _ => none) :=
 ⟨_, World.ownsMap_made w P k heldR, isMap_empty, fun _ _ _ _ => rfl⟩
theorem MapAt.kept {row : Option Nat} (h : MapAt w P k b n f) (hg : w.grownBy w' row) (hne : some b ≠ row) : MapAt w' P k b n f := by
 obtain ⟨D, h, r⟩ := h; exact ⟨D, h.kept hg hne, r⟩
theorem MapAt.alloc (h : MapAt w P k b n f) (o : Obj) : MapAt (w.alloc o) P k b n f := by obtain ⟨D, h, r⟩ := h; exact ⟨D, h.alloc o, r⟩
theorem MapAt.drew (h : MapAt w P k b n f) : MapAt w.drew P k b n f := h
theorem MapAt.below {B : Nat} (h : MapAt w P k b n f) (hb : Below B w w') (hB : b < B) : MapAt w' P k b n f := by
 obtain ⟨D, ⟨es, clock, he, r⟩, r2⟩ := h
 exact ⟨D, ⟨es, clock, (hb.block b hB).trans he, r⟩, r2⟩
theorem MapAt.mono (h : MapAt w P k b n f) {n' : Nat} (hn : n <= n') : MapAt w P k b n' f := by obtain ⟨D, h, r⟩ := h; exact ⟨D, h.mono hn, r⟩
theorem MapAt.ext {g : Value -> Option Value} (h : MapAt w P k b n f) (e : ∀ x kl, keyOf P k x = some kl -> f x = g x) : MapAt w P k b n g := by
 obtain ⟨D, h, r, s⟩ := h; exact ⟨D, h, r, fun x kl hk z => by rw [<- e x kl hk]; exact s x kl hk z⟩
theorem MapAt.lookup (h : MapAt w P k b n f) (K : Keyed P k) (ht : P.underlying t = some (.map k e)) {z : Value} (hz : (zeroValue e).run P w = .ok z w)
  {key : Value} {kl : Lit} (hkey : keyOf P k key = some kl) : (Instr.lookup t (.map (some b)) key false).run P w = .ok ((f key).getD z) w := by
 obtain ⟨D, h, _, s⟩ := h
 obtain ⟨v, ps, hrun, hv⟩ := h.lookup K ht hz (zd := .held z) (zp := []) rfl hkey
 rw [s key kl hkey z] at hv
 simp only [heldR, Option.some.injEq, Prod.mk.injEq, DataW.held.injEq] at hv
 rw [hrun, hv.1]
open Classical in
theorem MapAt.update (h : MapAt w P k b n f) (K : Keyed P k) (ht : P.underlying t = some (.map k e)) (hn : n < maxLen) {key val : Value} {kl : Lit} (hkey : keyOf P k key = some kl) :
  ∃ w', (Instr.mapUpdate t (.map (some b)) key val).run P w = .ok () w' /\ MapAt w' P k b (n + 1) (fun x => if x = key then some val else f x) /\ w.grownBy w' (some b) := by
 obtain ⟨D, h, hm, s⟩ := h
 obtain ⟨w', hrun, ho, hg⟩ := h.update K ht hn hkey (d := .held val) (ps := []) rfl
 refine ⟨w', hrun, ⟨_, ho, hm.put _ _, fun x kl' hk z => ?_⟩, hg⟩
 by_cases hx : x = key
 ·subst hx
  rw [hkey] at hk; cases hk
  rw [atKey_put_same hm (K.key hkey)]
  show _ = DataW.held ((if x = x then some val else f x).getD z)
  rw [if_pos rfl]; rfl
 ·show _ = DataW.held ((if x = key then some val else f x).getD z)
  rw [if_neg hx, <- s x kl' hk z]
  exact atKey_put_other (fun e => hx (K.inj (by rw [hk, e]) hkey)) _ _

open Classical in
theorem wpList_mapUpdate_at {ops : Array Oper} {rest : List Oper} {o : Oper} {a : Act} {Q : Exit -> Act -> World -> Prop}
  (hg : o.guard = none) (m x v : Operand) (hop : o.op = Op.mapUpdate t m x v) (h : MapAt w P k b n f) (K : Keyed P k) (ht : P.underlying t = some (.map k e))
  (hm : a.eval m = .map (some b)) (hn : n < maxLen) (key val : Value) (kl : Lit) (hx : a.eval x = key) (hv : a.eval v = val) (hkey : keyOf P k key = some kl)
  (hK : ∀ w', MapAt w' P k b (n + 1) (fun x => if x = key then some val else f x) -> w.grownBy w' (some b) -> wpList P ops Q rest (a.put o.dst undef) w') :
  wpList P ops Q (o :: rest) a w := by
 refine wpList_plain hg fun K' hK' => ?_
 obtain ⟨w', hrun, r1, r2⟩ := h.update K ht hn (val := val) hkey
 unfold Oper.wp
 simp [execOp, hop, hm, hx, hv, hrun, Result.andThen]
 exact hK' _ _ (hK w' r1 r2)
end
end Go.Proofs.YtccapfbblnnfjaaGreat
namespace Go.Proofs.YtccapfbblnnfjaaGreat
open Go.RowKit

def RowsAt {α : Type} (f : α -> List Value) (sz : Nat) (w : World) (B : Nat) (A : Option Addr) (l : List α) : Prop :=
 l = [] ∨ ∃ b o, A = some ⟨b, o, none⟩ /\ b < B /\ ∀ k (h : k < l.length), w.rangeAt b (o + k * sz) (f l[k])
section
variable {α : Type} {f : α -> List Value} {sz : Nat} {w w' : World} {B C : Nat} {A : Option Addr} {l : List α}
theorem RowsAt.below (h : RowsAt f sz w B A l) (hb : Below C w w') (hC : B <= C) : RowsAt f sz w' B A l := by
 rcases h with h | ⟨b, o, e, hl, hc⟩
 ·exact .inl h
 ·exact .inr ⟨b, o, e, hl, fun k hk j v hv => (hb.cell (p := ⟨b, _, none⟩) (Nat.lt_of_lt_of_le hl hC)).trans (hc k hk j v hv)⟩
theorem RowsAt.more (h : RowsAt f sz w B A l) (hC : B <= C) : RowsAt f sz w C A l := by
 rcases h with h | ⟨b, o, e, hl, hc⟩
 ·exact .inl h
 ·exact .inr ⟨b, o, e, by omega, hc⟩
theorem RowsAt.kept {row : Option Nat} (h : RowsAt f sz w w.heap.size A l) (hg : w.grownBy w' row) (hne : ∀ b o, A = some ⟨b, o, none⟩ -> some b ≠ row) : RowsAt f sz w' w'.heap.size A l := by
 rcases h with h | ⟨b, o, e, hl, hc⟩
 ·exact .inl h
 ·exact .inr ⟨b, o, e, Nat.lt_of_lt_of_le hl hg.size, fun k hk j v hv => (World.cell?_of_block (w := w) (hg.block b hl (hne b o e))).trans (hc k hk j v hv)⟩
theorem RowsAt.at_ (h : RowsAt f sz w w.heap.size A l) (hb : Below w.heap.size w w') : RowsAt f sz w' w'.heap.size A l := (h.below hb (Nat.le_refl _)).more hb.size
theorem RowsAt.look (h : RowsAt f sz w B A l) {k : Nat} (hk : k < l.length) : ∃ b o, A = some ⟨b, o, none⟩ /\ b < B /\ w.rangeAt b (o + k * sz) (f l[k]) := by
 rcases h with h | ⟨b, o, e, hl, hc⟩
 ·subst h; simp at hk
 ·exact ⟨b, o, e, hl, hc k hk⟩
end
theorem take_mem_all {α : Type} {l : List α} {k : Nat} {P : α -> Prop} (hk : k < l.length) (h : ∀ a ∈ l.take k, P a) (hp : P l[k]) : ∀ a ∈ l.take (k + 1), P a := by
 intro a ha
 rw [List.take_succ_eq_append_getElem hk, List.mem_append, List.mem_singleton] at ha
 rcases ha with ha | rfl
 ·exact h a ha
 ·exact hp

open Go.Maps in
theorem intLaw : Maps.Keyed Tryz.prog 3 := int_keyed Tryz.underlying3
def SetAt (w : World) (b : Nat) (p : List Int) : Prop :=
 ∃ f, MapAt w Tryz.prog 3 b p.length f /\ ∀ x, f (.int .i64 x) = if x ∈ p then some (.bool true) else none
section
variable {w w' : World} {b B : Nat} {p : List Int}
theorem SetAt.lt (h : SetAt w b p) : b < w.heap.size := by obtain ⟨f, h, _⟩ := h; exact h.lt
theorem SetAt.below (h : SetAt w b p) (hb : Below B w w') (hB : b < B) : SetAt w' b p := by obtain ⟨f, h, r⟩ := h; exact ⟨f, h.below hb hB, r⟩
theorem SetAt.kept {row : Option Nat} (h : SetAt w b p) (hg : w.grownBy w' row) (hne : some b ≠ row) : SetAt w' b p := by obtain ⟨f, h, r⟩ := h; exact ⟨f, h.kept hg hne, r⟩
theorem SetAt.alloc (h : SetAt w b p) (o : Obj) : SetAt (w.alloc o) b p := by obtain ⟨f, h, r⟩ := h; exact ⟨f, h.alloc o, r⟩
theorem SetAt.made (w : World) : SetAt (w.alloc (.map #[] 0)) w.heap.size [] := ⟨_, MapAt.made w _ _, fun x => by simp⟩
open Go.Maps in
theorem SetAt.look (h : SetAt w b p) (x : Int) (hx : (Lit.int .i64 x).wf = true) : (Instr.lookup 171 (.map (some b)) (.int .i64 x) false).run Tryz.prog w = .ok (.bool (decide (x ∈ p))) w := by
 obtain ⟨f, hm, hf⟩ := h
 have hz : (zeroValue 4).run Tryz.prog w = .ok (.bool false) w := by kernel_rfl
 rw [hm.lookup intLaw Tryz.underlying171 hz (keyOf_int_mk Tryz.underlying3 hx), hf]
 by_cases h : x ∈ p <;> simp [h]
open Classical in
theorem set_step {f : Value -> Option Value} (hf : ∀ x, f (.int .i64 x) = if x ∈ p then some (.bool true) else none) (c : Int) :
  ∀ x, (fun v => if v = .int .i64 c then some (Value.bool true) else f v) (.int .i64 x) = if x ∈ p ++ [c] then some (.bool true) else none := by
 intro x
 show (if _ then _ else f _) = _
 by_cases h : x = c
 ·subst h; rw [if_pos rfl, if_pos (by simp)]
 ·rw [if_neg (by simp [h]), hf]
  by_cases h2 : x ∈ p <;> simp [h, h2]
end
end Go.Proofs.YtccapfbblnnfjaaGreat
namespace Go.Proofs.YtccapfbblnnfjaaGreat
namespace R1
open Go.RowKit

theorem of_less {x : Int} {k : Nat} (h : x < 10000 ^ (5 - k)) (h0 : 0 < x) : k < 5 /\ x / 10000 < 10000 ^ (5 - (k + 1)) := by
 have hk : k < 5 := by
  rcases Nat.lt_or_ge k 5 with h3 | h3
  ·exact h3
  ·rw [show 5 - k = 0 by omega, Int.pow_zero] at h; omega
 refine ⟨hk, Int.ediv_lt_of_lt_mul (by omega) ?_⟩
 rw [<- Int.pow_succ, show (5 - (k + 1)).succ = 5 - k by omega]; exact h
theorem of_step {P : List Int} {k : Nat} {x a : Int} (hv : Big.val 10000 P + 10000 ^ k * x = a) (hP : P.length = k) : Big.val 10000 (P ++ [x % 10000]) + 10000 ^ (k + 1) * (x / 10000) = a := by
 rw [Big.val_snoc, hP, Int.pow_succ, Int.mul_assoc]
 have h1 : (10000 : Int) ^ k * (x % 10000) + 10000 ^ k * (10000 * (x / 10000)) = 10000 ^ k * x := by rw [<- Int.mul_add, Int.emod_add_mul_ediv]
 omega
theorem neg_tmod (x : Int) (h : 0 <= x) : (-x).tmod 10000 = -(x % 10000) := by rw [Int.neg_tmod, Int.tmod_eq_emod_of_nonneg h]
theorem neg_tdiv (x : Int) (h : 0 <= x) : (-x).tdiv 10000 = -(x / 10000) := by rw [Int.neg_tdiv, Int.tdiv_eq_ediv_of_nonneg h]
section
variable (w : World)
theorem of_neg (n : Int) (h0 : n < 0) (h1 : -9223372036854775808 <= n) :
  Calls Tryz.prog 63 #[.int .i64 n] w fun e w' => (∃ r, e = .returned r /\ PI w' w'.heap.size 5 r n) /\ Below w.heap.size w w' := by
 obtain ⟨i0, hi, hz0, hz1, hz2⟩ := info_parts iinfo
 have hdn : decide (n < 0) = true := decide_eq_true h0
 have hB0 := (Below.refl w.heap.size w).alloc (Nat.le_refl _) (.cells #[.bool false, .slice none 0 0] 57)
 have hZ0 := heap_alloc_new w (.cells #[.bool false, .slice none 0 0] 57)
 go_enter Tryz.func63, Tryz.ntmps63
 go_wp2
 go_loopw [3, 4] (fun v u wr => ∃ (k : Nat) (P : List Int) (x : Int), k <= 5 /\ u = .int .i64 (-x) /\ 0 <= x /\ x <= 9223372036854775808 /\ x < 10000 ^ (5 - k) /\ P.length = k /\ Big.Lim 10000 P /\ Big.val 10000 P + 10000 ^ k * x = -n /\
  wr.ownsRow (w.heap.size + 1) 3 1 v k (P.map (Value.int .i64)) /\ Below w.heap.size w wr /\ wr.heap[w.heap.size]? = some (.cells #[.bool false, .slice none 0 0] 57 (0, 0))) (fun _ u _ => (intOf u).natAbs)
 case atStart => exact ⟨0, [], -n, by omega, by rw [Int.neg_neg], by omega, by omega, by omega, rfl, Big.Lim.nil, by simp [Big.val], World.ownsRow_nil _ _ _ _, hB0, hZ0⟩
 case round =>
  obtain ⟨k, P, x, hk, rfl, hx0, hxm, hx1, hPl, hPL, hv, hown, hb, hZ⟩ := hrel
  have HPl := Lib.hid hPl
  have HPL := Lib.hid hPL
  have Hv := Lib.hid hv
  have HZ := Lib.hid hZ
  have Hx1 := Lib.hid hx1
  have hgr : w.heap.size < wr.heap.size := (Array.getElem?_eq_some_iff.1 hZ).1
  clear hPl hPL hv hZ hZ0 hx1
  by_cases hx : 0 < x
  ·obtain ⟨h3, hd⟩ := of_less Hx1.out hx
   have Hd := Lib.hid hd
   have hne : ((-x) != 0) = true := by simp; omega
   have hX0 : 0 <= x % 10000 := by omega
   have hX1 : x % 10000 < 10000 := by omega
   have e1 := neg_tmod x hx0
   have e2 := neg_tdiv x hx0
   have Hnew := Lib.hid (one_cell (heap_alloc_new wr (.cells #[.int .i64 (x % 10000)] 3)))
   have Hown := Lib.hid (hown.alloc (.cells #[.int .i64 (x % 10000)] 3))
   have Hone : Hid (∀ u ∈ ([Value.int .i64 (x % 10000)] : List Value), u.oneCell' = true) := by show ∀ u ∈ _, _; simp [Value.oneCell']
   clear hd
   by_cases hl0 : x % 10000 = 0
   ·have hlt : ¬ -(x % 10000) < 0 := by omega
    rw [hl0] at e1 Hnew Hown Hone
    go_wp2_with (at_builtin; refine wpList_append_own _ rfl _ _ 55 rfl (w.heap.size + 1) 3 i0 (.int .i64 0) 1 8 Tryz.underlying55 hi hz0 hz1 hz2 rfl (by decide) _ _ _ rfl Hown.out ⟨wr.heap.size, 0, none⟩ 1 1 [.int .i64 0] rfl rfl Hnew.out Hone.out (by unfold maxLen; omega) (by omega) (by simp; omega) ?_)
    intro v' w9 hown' hgrow _
    have hb9 := (hb.alloc hb.size (.cells #[.int .i64 0] 3)).grown hgrow (by simp; omega) (fun q hq => by have := own_base hown q hq; omega)
    have HZ9 := Lib.hid ((hgrow.block w.heap.size (by simp; omega) (fun e => by have := own_base hown w.heap.size e.symm; omega)).trans ((Below.heap_alloc wr (.cells #[.int .i64 0] 3) _ hgr).trans HZ.out))
    go_wp2
    go_roundw
    case rel =>
     refine ⟨k + 1, P ++ [(x % 10000)], x / 10000, by omega, by go_num, by omega, by omega, Hd.out, by have := HPl.out; simp; omega, Big.Lim.append.2 ⟨HPL.out, fun a ha => ?_⟩, of_step Hv.out HPl.out, by rw [List.map_append]; rw [hl0]; exact hown', hb9, HZ9.out⟩
     rw [List.mem_singleton] at ha; subst ha; omega
    case measure => simp [intOf]; omega
   ·have hlt : -(x % 10000) < 0 := by omega
    go_wp2_with (at_builtin; refine wpList_append_own _ rfl _ _ 55 rfl (w.heap.size + 1) 3 i0 (.int .i64 0) 1 8 Tryz.underlying55 hi hz0 hz1 hz2 rfl (by decide) _ _ _ rfl Hown.out ⟨wr.heap.size, 0, none⟩ 1 1 [.int .i64 (x % 10000)] rfl rfl Hnew.out Hone.out (by unfold maxLen; omega) (by omega) (by simp; omega) ?_)
    intro v' w9 hown' hgrow _
    have hb9 := (hb.alloc hb.size (.cells #[.int .i64 (x % 10000)] 3)).grown hgrow (by simp; omega) (fun q hq => by have := own_base hown q hq; omega)
    have HZ9 := Lib.hid ((hgrow.block w.heap.size (by simp; omega) (fun e => by have := own_base hown w.heap.size e.symm; omega)).trans ((Below.heap_alloc wr (.cells #[.int .i64 (x % 10000)] 3) _ hgr).trans HZ.out))
    go_wp2
    go_roundw
    case rel =>
     refine ⟨k + 1, P ++ [(x % 10000)], x / 10000, by omega, by go_num, by omega, by omega, Hd.out, by have := HPl.out; simp; omega, Big.Lim.append.2 ⟨HPL.out, fun a ha => ?_⟩, of_step Hv.out HPl.out, by rw [List.map_append]; exact hown', hb9, HZ9.out⟩
     rw [List.mem_singleton] at ha; subst ha; omega
    case measure => simp [intOf]; omega
  ·obtain rfl : x = 0 := by omega
   have hval : Hid (Big.val 10000 P = -n) := by show _ = _; have := Hv.out; rwa [Int.mul_zero, Int.add_zero] at this
   obtain ⟨A, c, rfl, hkc, hlim⟩ := limbs_own hown HPl.out.symm
   have hAb := Lib.hid (fun b o (e : A = some ⟨b, o, none⟩) => own_base hown b (by rw [e]; rfl))
   have Hlim := Lib.hid hlim
   clear hlim hown
   go_wp2_with (fail)
   refine (signed_any wr true A k c P HPl.out (by omega) hkc Hlim.out).mono ?_
   rintro e w5 ⟨rfl, hB5⟩
   have hb5 := hb.trans (hB5.mono hb.size)
   have hZ5 := (hB5.block _ hgr).trans HZ.out
   have hq5 := hB5.size
   have hg5 : w.heap.size < w5.heap.size := by omega
   have z0 : w5.cell? ⟨w.heap.size, 0, none⟩ = some (.bool false) := by rw [cell_of_row _ _ _ _ _ _ hZ5]; rfl
   have z1 : w5.cell? ⟨w.heap.size, 1, none⟩ = some (.slice none 0 0) := by rw [cell_of_row _ _ _ _ _ _ hZ5]; rfl
   have zf : ∀ j, w5.frozen? ⟨w.heap.size, j, none⟩ = false := fun j => frozen_of_row _ _ _ _ _ hZ5
   have hBf := (hb5.setCell (p := ⟨w.heap.size, 0, none⟩) (by simp) (.bool (true && decide (0 < (Big.trim P).length)))).setCell (p := ⟨w.heap.size, 1, none⟩) (by simp) (.slice A (Big.trim P).length c)
   have HL2 := Lib.hid (((Hlim.out.at_ hB5 (Nat.le_refl _)).other (w' := (w5.setCell ⟨w.heap.size, 0, none⟩ (.bool (true && decide (0 < (Big.trim P).length)))).setCell ⟨w.heap.size, 1, none⟩ (.slice A (Big.trim P).length c)) (fun b o e => by
    have := hAb.out b o e
    exact (Below.heap_setCell _ _ _ b (fun e => by simp at e; omega)).trans (Below.heap_setCell _ _ _ b (fun e => by simp at e; omega)))).more (C := ((w5.setCell ⟨w.heap.size, 0, none⟩ (.bool (true && decide (0 < (Big.trim P).length)))).setCell ⟨w.heap.size, 1, none⟩ (.slice A (Big.trim P).length c)).heap.size) (by simp))
   have HP := Lib.hid (PI.mk (neg := true) HPl.out hk hkc HPL.out HL2.out)
   rw [hval.out] at HP
   clear hZ5
   simp only [Bool.true_and, Bool.false_and] at HP hBf ⊢
   go_wp2
   refine bodyPost_ret (v := .agg #[.bool (decide (0 < (Big.trim P).length)), .slice A (Big.trim P).length c]) (by simp [results, Tryz.results63, go_sem, z0, z1]) rfl ⟨⟨_, rfl, ?_⟩, hBf⟩
   have := HP.out
   simpa [Big.sgn] using this
theorem of_pos (n : Int) (h0 : 0 <= n) (h1 : n <= 9223372036854775807) :
  Calls Tryz.prog 63 #[.int .i64 n] w fun e w' => (∃ r, e = .returned r /\ PI w' w'.heap.size 5 r n) /\ Below w.heap.size w w' := by
 obtain ⟨i0, hi, hz0, hz1, hz2⟩ := info_parts iinfo
 have hdn : decide (n < 0) = false := decide_eq_false (by omega)
 have hB0 := (Below.refl w.heap.size w).alloc (Nat.le_refl _) (.cells #[.bool false, .slice none 0 0] 57)
 have hZ0 := heap_alloc_new w (.cells #[.bool false, .slice none 0 0] 57)
 go_enter Tryz.func63, Tryz.ntmps63
 go_wp2
 go_loopw [3, 4] (fun v u wr => ∃ (k : Nat) (P : List Int) (x : Int), k <= 5 /\ u = .int .i64 x /\ 0 <= x /\ x <= 9223372036854775807 /\ x < 10000 ^ (5 - k) /\ P.length = k /\ Big.Lim 10000 P /\ Big.val 10000 P + 10000 ^ k * x = n /\
  wr.ownsRow (w.heap.size + 1) 3 1 v k (P.map (Value.int .i64)) /\ Below w.heap.size w wr /\ wr.heap[w.heap.size]? = some (.cells #[.bool false, .slice none 0 0] 57 (0, 0))) (fun _ u _ => (intOf u).natAbs)
 case atStart => exact ⟨0, [], n, by omega, rfl, by omega, by omega, by omega, rfl, Big.Lim.nil, by simp [Big.val], World.ownsRow_nil _ _ _ _, hB0, hZ0⟩
 case round =>
  obtain ⟨k, P, x, hk, rfl, hx0, hxm, hx1, hPl, hPL, hv, hown, hb, hZ⟩ := hrel
  have HPl := Lib.hid hPl
  have HPL := Lib.hid hPL
  have Hv := Lib.hid hv
  have HZ := Lib.hid hZ
  have Hx1 := Lib.hid hx1
  have hgr : w.heap.size < wr.heap.size := (Array.getElem?_eq_some_iff.1 hZ).1
  clear hPl hPL hv hZ hZ0 hx1
  by_cases hx : 0 < x
  ·obtain ⟨h3, hd⟩ := of_less Hx1.out hx
   have Hd := Lib.hid hd
   have hne : (x != 0) = true := by simp; omega
   have hX0 : 0 <= x % 10000 := by omega
   have hX1 : x % 10000 < 10000 := by omega
   have Hnew := Lib.hid (one_cell (heap_alloc_new wr (.cells #[.int .i64 (x % 10000)] 3)))
   have Hown := Lib.hid (hown.alloc (.cells #[.int .i64 (x % 10000)] 3))
   have Hone : Hid (∀ u ∈ ([Value.int .i64 (x % 10000)] : List Value), u.oneCell' = true) := by show ∀ u ∈ _, _; simp [Value.oneCell']
   clear hd
   have hlt : ¬ x % 10000 < 0 := by omega
   go_wp2_with (at_builtin; refine wpList_append_own _ rfl _ _ 55 rfl (w.heap.size + 1) 3 i0 (.int .i64 0) 1 8 Tryz.underlying55 hi hz0 hz1 hz2 rfl (by decide) _ _ _ rfl Hown.out ⟨wr.heap.size, 0, none⟩ 1 1 [.int .i64 (x % 10000)] rfl rfl Hnew.out Hone.out (by unfold maxLen; omega) (by omega) (by simp; omega) ?_)
   intro v' w9 hown' hgrow _
   have hb9 := (hb.alloc hb.size (.cells #[.int .i64 (x % 10000)] 3)).grown hgrow (by simp; omega) (fun q hq => by have := own_base hown q hq; omega)
   have HZ9 := Lib.hid ((hgrow.block w.heap.size (by simp; omega) (fun e => by have := own_base hown w.heap.size e.symm; omega)).trans ((Below.heap_alloc wr (.cells #[.int .i64 (x % 10000)] 3) _ hgr).trans HZ.out))
   go_wp2
   go_roundw
   case rel =>
    refine ⟨k + 1, P ++ [(x % 10000)], x / 10000, by omega, by go_num, by omega, by omega, Hd.out, by have := HPl.out; simp; omega, Big.Lim.append.2 ⟨HPL.out, fun a ha => ?_⟩, of_step Hv.out HPl.out, by rw [List.map_append]; exact hown', hb9, HZ9.out⟩
    rw [List.mem_singleton] at ha; subst ha; omega
   case measure => simp [intOf]; omega
  ·obtain rfl : x = 0 := by omega
   have hval : Hid (Big.val 10000 P = n) := by show _ = _; have := Hv.out; rwa [Int.mul_zero, Int.add_zero] at this
   obtain ⟨A, c, rfl, hkc, hlim⟩ := limbs_own hown HPl.out.symm
   have hAb := Lib.hid (fun b o (e : A = some ⟨b, o, none⟩) => own_base hown b (by rw [e]; rfl))
   have Hlim := Lib.hid hlim
   clear hlim hown
   go_wp2_with (fail)
   refine (signed_any wr false A k c P HPl.out (by omega) hkc Hlim.out).mono ?_
   rintro e w5 ⟨rfl, hB5⟩
   have hb5 := hb.trans (hB5.mono hb.size)
   have hZ5 := (hB5.block _ hgr).trans HZ.out
   have hq5 := hB5.size
   have hg5 : w.heap.size < w5.heap.size := by omega
   have z0 : w5.cell? ⟨w.heap.size, 0, none⟩ = some (.bool false) := by rw [cell_of_row _ _ _ _ _ _ hZ5]; rfl
   have z1 : w5.cell? ⟨w.heap.size, 1, none⟩ = some (.slice none 0 0) := by rw [cell_of_row _ _ _ _ _ _ hZ5]; rfl
   have zf : ∀ j, w5.frozen? ⟨w.heap.size, j, none⟩ = false := fun j => frozen_of_row _ _ _ _ _ hZ5
   have hBf := (hb5.setCell (p := ⟨w.heap.size, 0, none⟩) (by simp) (.bool (false && decide (0 < (Big.trim P).length)))).setCell (p := ⟨w.heap.size, 1, none⟩) (by simp) (.slice A (Big.trim P).length c)
   have HL2 := Lib.hid (((Hlim.out.at_ hB5 (Nat.le_refl _)).other (w' := (w5.setCell ⟨w.heap.size, 0, none⟩ (.bool (false && decide (0 < (Big.trim P).length)))).setCell ⟨w.heap.size, 1, none⟩ (.slice A (Big.trim P).length c)) (fun b o e => by
    have := hAb.out b o e
    exact (Below.heap_setCell _ _ _ b (fun e => by simp at e; omega)).trans (Below.heap_setCell _ _ _ b (fun e => by simp at e; omega)))).more (C := ((w5.setCell ⟨w.heap.size, 0, none⟩ (.bool (false && decide (0 < (Big.trim P).length)))).setCell ⟨w.heap.size, 1, none⟩ (.slice A (Big.trim P).length c)).heap.size) (by simp))
   have HP := Lib.hid (PI.mk (neg := false) HPl.out hk hkc HPL.out HL2.out)
   rw [hval.out] at HP
   clear hZ5
   simp only [Bool.true_and, Bool.false_and] at HP hBf ⊢
   go_wp2
   refine bodyPost_ret (v := .agg #[.bool (false), .slice A (Big.trim P).length c]) (by simp [results, Tryz.results63, go_sem, z0, z1]) rfl ⟨⟨_, rfl, ?_⟩, hBf⟩
   have := HP.out
   simpa [Big.sgn] using this
theorem of_int (n : Int) (h1 : -9223372036854775808 <= n) (h2 : n <= 9223372036854775807) :
  Calls Tryz.prog 63 #[.int .i64 n] w fun e w' => (∃ r, e = .returned r /\ PI w' w'.heap.size 5 r n) /\ Below w.heap.size w w' := by
 by_cases h : n < 0
 ·exact of_neg w n h h1
 ·exact of_pos w n (by omega) h2
end
end R1
end Go.Proofs.YtccapfbblnnfjaaGreat
namespace Go.Proofs.YtccapfbblnnfjaaGreat
namespace R1
open Go.RowKit
theorem PI.open {w : World} {B k : Nat} {u : Value} {z : Int} (h : PI w B k u z) : ∃ (g : Bool) (A : Option Addr) (n c : Nat), u = .agg #[.bool g, .slice A n c] := by
 obtain ⟨g, A, n, c, l, e, _⟩ := h
 exact ⟨g, A, n, c, e⟩
theorem PI.other {w w' : World} {B k b : Nat} {v : Value} {z : Int} {cs : Array Value} {t : TypeId} {fr : Nat × Nat} (h : PI w B k v z) (hb : w.heap[b]? = some (.cells cs t fr)) (hcs : ∀ (j : Nat) (n : Int), cs[j]? ≠ some (.int .i64 n)) (hw : ∀ c, c ≠ b -> w'.heap[c]? = w.heap[c]?) : PI w' B k v z := by
 obtain ⟨g, A, n, c, l, h1, h2, h3, h4, h5, h6, h7, h8, h9⟩ := h
 refine ⟨g, A, n, c, l, h1, h2, h3, h4, h5, h6, h7, h8, ?_⟩
 rcases h9 with h | ⟨d, o, e, hl, hc⟩
 ·exact .inl h
 ·rcases Nat.eq_zero_or_pos l.length with h0 | h0
  ·exact .inl (List.length_eq_zero_iff.1 h0)
  ·have hne : d ≠ b := by
    rintro rfl
    have := hc.1 0 h0
    rw [cell_of_row _ _ _ _ _ _ hb] at this
    exact hcs _ _ this
   exact .inr ⟨d, o, e, hl, fun j hj => (World.cell?_of_block (w := w) (hw d hne)).trans (hc.1 j hj), hc.2.of_block (hw d hne)⟩
theorem PI.drw {W : World} {k : Nat} {v : Value} {z : Int} (h : PI W W.heap.size k v z) : PI W.drew W.drew.heap.size k v z := h.at_ (below_drawn (Below.refl _ _) 1)
theorem no_int2 (g : Bool) (A : Option Addr) (n c : Nat) : ∀ (j : Nat) (z : Int), (#[.bool g, .slice A n c] : Array Value)[j]? ≠ some (.int .i64 z) := by
 intro j z
 match j with
 | 0 => simp
 | 1 => simp
 | j + 2 => simp
section
variable (w : World)
theorem sub_int (k j : Nat) (u v : Value) (x y : Int) (hk : k <= 400000) (hj : j <= 400000) (hu : PI w w.heap.size k u x) (hv : PI w w.heap.size j v y) :
  Calls Tryz.prog 156 #[u, v] w fun e w' => (∃ r, e = .returned r /\ PI w' w'.heap.size (max k j + 1) r (x - y)) /\ Below w.heap.size w w' := by
 obtain ⟨g1, A1, n1, c1, rfl⟩ := hu.open
 obtain ⟨g2, A2, n2, c2, rfl⟩ := hv.open
 obtain ⟨hB0, hb0, hb1, hb2, hz⟩ := row_new3 w #[.bool g1, .slice A1 n1 c1] #[.bool g2, .slice A2 n2 c2] #[.bool false, .slice none 0 0] 57 57 57
 obtain ⟨W1, hW1⟩ : ∃ W1, W1 = (((w.alloc (.cells #[.bool g1, .slice A1 n1 c1] 57)).alloc (.cells #[.bool g2, .slice A2 n2 c2] 57)).alloc (.cells #[.bool false, .slice none 0 0] 57)) := ⟨_, rfl⟩
 rw [<- hW1] at hB0 hb0 hb1 hb2 hz
 have HW := Lib.hid hW1
 have hS0 : Reg w [(w.heap.size, #[.bool g1, .slice A1 n1 c1], 57), (w.heap.size + 1, #[.bool g2, .slice A2 n2 c2], 57)] W1 := ⟨hB0, by simp [hb0, hb1]⟩
 have hS := hS0.drew
 have Hb2 := Lib.hid hb2
 have hU := (hu.at_ hB0).drw
 have hV := (hv.at_ hB0).drw
 clear hW1 hz hb0 hb1 hb2
 go_enter Tryz.func156, Tryz.ntmps156
 go_upto_region 1 with (fail)
 rw [<- HW.out]
 refine wp_region_held (S := Reg w [(w.heap.size, #[.bool g1, .slice A1 n1 c1], 57), (w.heap.size + 1, #[.bool g2, .slice A2 n2 c2], 57)]) (by kernel_rfl) ?_
 change wpAnyH _ _ _ _ _ _ _ _ (World.drew _)
 refine tk (i := 0) (v := .agg #[.bool g1, .slice A1 n1 c1]) rfl (by kernel_rfl) (fun _ _ _ h => h) (yieldsIf_load_mid (by rfl) 57 _ rfl w.heap.size 0 rfl [.bool g1, .slice A1 n1 c1] _ (fun W' hS' => range2 (hS'.get (.head _))) Tryz.underlying57 rfl intSize) hS ?_
 try simp only [z]
 refine tk (i := 1) (v := .agg #[.bool g2, .slice A2 n2 c2]) rfl (by kernel_rfl) (fun _ _ _ h => h) (yieldsIf_load_mid (by rfl) 57 _ rfl (w.heap.size + 1) 0 rfl [.bool g2, .slice A2 n2 c2] _ (fun W' hS' => range2 (hS'.get (.tail _ (.head _)))) Tryz.underlying57 rfl intSize) hS ?_
 try simp only [z]
 refine wpAnyH_ready (rs := [2]) (by kernel_rfl) (by simp) (AllReadyH.cons rfl (fun K hK => ?_) AllReadyH.nil)
 go_simp
 refine (neg_any W1.drew j _ y (by omega) hV).mono ?_
 rintro e W2 ⟨⟨r2, rfl, hr2⟩, hB2⟩
 refine hK.out _ _ (hS.step hB2) (fun _ => ?_)
 clear hK K
 try simp only [z]
 refine wpAnyH_ready (rs := [3]) (by kernel_rfl) (by simp) (AllReadyH.cons rfl (fun K hK => ?_) AllReadyH.nil)
 go_simp
 refine (add_int W2 k j _ _ x (-y) (by omega) (by omega) (hU.at_ hB2) hr2).mono ?_
 rintro e W3 ⟨⟨r3, rfl, hr3⟩, hB3⟩
 obtain ⟨g3, A3, n3, c3, rfl⟩ := hr3.open
 have hS3 := (hS.step hB2).step hB3
 refine hK.out _ _ hS3 (fun _ => ?_)
 clear hK K
 try simp only [z]
 have hq2 := hB2.size
 have hd2 : W1.drew.heap[w.heap.size + 2]? = some (.cells #[.bool false, .slice none 0 0] 57 (0, 0)) := Hb2.out
 have hd3 := gbox (gbox hd2 hB2 (some_lt hd2)) hB3 (by have := some_lt hd2; omega)
 refine wpAnyH_ready (rs := [4]) (by kernel_rfl) (by simp) (AllReadyH.cons rfl (fun K hK => ?_) AllReadyH.nil)
 rw [if_pos (by rfl)]
 refine wp_store_row 57 _ _ none rfl rfl (w.heap.size + 2) 57 _ #[.bool g3, .slice A3 n3 c3] rfl rfl hd3 rfl intSize (by simp [Value.oneCell']) ?_
 have hR4 := setRow_heap W3 (w.heap.size + 2) _ #[.bool g3, .slice A3 n3 c3] _ _ hd3
 have hS4 := hS3.store (w.heap.size + 2) (by omega) (by simp) #[.bool g3, .slice A3 n3 c3]
 refine hK.out _ _ hS4 (fun _ => ?_)
 clear hK K
 try simp only [z]
 refine wpAnyH_done (by kernel_rfl) ?_ _
 have hload := run_loadVar_row (P := Tryz.prog) _ _ _ 57 _ _ _ hR4 Tryz.underlying57 rfl intSize
 have hp := (hr3.other (w' := W3.setRow (w.heap.size + 2) #[.bool g3, .slice A3 n3 c3]) hd3 (no_int2 _ _ _ _) (fun c hc => setRow_other _ _ _ _ hc)).more (C := (W3.setRow (w.heap.size + 2) #[.bool g3, .slice A3 n3 c3]).heap.size) (by simp) (Nat.le_refl _)
 go_wp2
 exact bodyPost_ret (v := .agg #[.bool g3, .slice A3 n3 c3]) (by simp [results, Tryz.results156, asAddr, Act.put, hload]) rfl ⟨⟨_, rfl, by rw [Int.sub_eq_add_neg]; exact hp⟩, hS4.1⟩
theorem cmp_int (k j : Nat) (u v : Value) (x y : Int) (hk : k <= 400000) (hj : j <= 400000) (hu : PI w w.heap.size k u x) (hv : PI w w.heap.size j v y) :
  Calls Tryz.prog 126 #[u, v] w fun e w' => e = .returned (.int .i64 (sg (x - y))) /\ Below w.heap.size w w' := by
 obtain ⟨g1, A1, n1, c1, rfl⟩ := hu.open
 obtain ⟨g2, A2, n2, c2, rfl⟩ := hv.open
 obtain ⟨W1, hW1, hB0, hb0, hb1, hz⟩ := nw2 w #[.bool g1, .slice A1 n1 c1] #[.bool g2, .slice A2 n2 c2] 57 57
 have HW := Lib.hid hW1
 have x0 := cell_of_row _ _ 0 _ _ _ hb0
 have x1 := cell_of_row _ _ 1 _ _ _ hb0
 have y0 := cell_of_row _ _ 0 _ _ _ hb1
 have y1 := cell_of_row _ _ 1 _ _ _ hb1
 simp at x0 x1 y0 y1
 have s1 : w.heap.size < W1.heap.size := by omega
 have s2 : w.heap.size + 1 < W1.heap.size := by omega
 have hU := hu.at_ hB0
 have hV := hv.at_ hB0
 clear hW1 hz hb0 hb1
 go_enter Tryz.func126, Tryz.ntmps126
 go_upto_region 1 with (fail)
 rw [<- HW.out]
 go_wp2_with (fail)
 refine (sub_int W1 k j _ _ x y hk hj hU hV).mono ?_
 rintro e W2 ⟨⟨r2, rfl, hr2⟩, hB2⟩
 clear x0 x1 y0 y1
 go_wp2_with (fail)
 refine (sign_any W2 _ _ (x - y) hr2).mono ?_
 rintro e W3 ⟨rfl, hB3⟩
 go_wp2
 go_ret
 exact ⟨rfl, (hB0.trans (hB2.mono hB0.size)).trans (hB3.mono (hB0.trans (hB2.mono hB0.size)).size)⟩
theorem abs_any (k : Nat) (v : Value) (z : Int) (hk : k <= 1000000) (h : PI w w.heap.size k v z) :
  Calls Tryz.prog 130 #[v] w fun e w' => (∃ u, e = .returned u /\ PI w' w'.heap.size k u (z.natAbs : Int)) /\ Below w.heap.size w w' := by
 obtain ⟨neg, A, n, c, l, rfl, hl, hn, hc, hL, hN, hz, hA, _⟩ := h.parts
 have E : Hid ((z.natAbs : Int) = Big.sgn false (Big.val 10000 l)) := by
  show _ = _
  have h0 := Big.val_nonneg (B := 10000) (by omega) hL
  rw [hz]; cases neg <;> simp [Big.sgn] <;> omega
 have H := Lib.hid ((hA.start (.cells #[.bool neg, .slice A n c] 57)).start (.cells #[.bool false, .slice none 0 0] 57))
 have hB0 := ((Below.refl w.heap.size w).alloc (Nat.le_refl _) (.cells #[.bool neg, .slice A n c] 57)).alloc (by simp) (.cells #[.bool false, .slice none 0 0] 57)
 have hZ := heap_alloc_new (w.alloc (.cells #[.bool neg, .slice A n c] 57)) (.cells #[.bool false, .slice none 0 0] 57)
 rw [show (w.alloc (.cells #[.bool neg, .slice A n c] 57)).heap.size = w.heap.size + 1 by simp] at hZ
 have hP := Lib.hid (PI.mk (neg := false) hl hn hc hL hA)
 clear hz hA h
 go_enter Tryz.func130, Tryz.ntmps130
 go_wp2_with (fail)
 refine (signed_any _ false A n c l hl (by omega) hc H.out).mono ?_
 rintro e w1 ⟨rfl, hB⟩
 have hq := hB.size
 simp at hq
 have hB1 := hB0.trans (hB.mono (by simp; omega))
 have hZ1 := (hB.block _ (by simp)).trans hZ
 have z0 := cell_of_row _ _ 0 _ _ _ hZ1
 have z1 := cell_of_row _ _ 1 _ _ _ hZ1
 have zf := fun j => frozen_of_row _ _ j _ _ hZ1
 simp at z0 z1
 clear hZ hZ1
 go_wp2
 have hBf := (hB1.setCell (p := ⟨w.heap.size + 1, 0, none⟩) (by simp) (.bool (false && decide (0 < (Big.trim l).length)))).setCell (p := ⟨w.heap.size + 1, 1, none⟩) (by simp) (.slice A (Big.trim l).length c)
 simp only [Bool.false_and] at hBf ⊢
 refine bodyPost_ret (v := .agg #[.bool (false), .slice A (Big.trim l).length c]) (by simp [results, Tryz.results130, go_sem, z0, z1]) rfl ⟨⟨_, rfl, ?_⟩, hBf⟩
 rw [E.out]
 exact hP.out.at_ hBf
end
end R1
end Go.Proofs.YtccapfbblnnfjaaGreat
