/- A map that the call makes, told by a plain function from keys to values: over any program. -/
import Derived.WalkKit
import Derived.Maps.Own
import Derived.Maps.OwnOps
import Derived.Maps.Views
namespace Go.Proofs.Ytbbbiioojgnpdaa
open Go.RowKit Go.Maps

/-- An element reads as itself. -/
def heldR (v : Value) : Option (DataW Value × List MemPlace) := some (.held v, [])

/-- Block b is a map of at most n entries; f says what each key leads to. -/
def MapAt (w : World) (P : Program) (k : TypeId) (b n : Nat) (f : Value → Option Value) : Prop :=
  ∃ D : DataW Value, w.ownsMap P k heldR b n D ∧ IsMap D ∧ ∀ x kl, keyOf P k x = some kl → ∀ z, D.atKey kl (.held z) = .held ((f x).getD z)

section
variable {w w' : World} {P : Program} {k t e : TypeId} {b n : Nat} {f : Value → Option Value}
theorem MapAt.lt (h : MapAt w P k b n f) : b < w.heap.size := by obtain ⟨D, h, _⟩ := h; exact h.lt
theorem MapAt.made (w : World) (P : Program) (k : TypeId) : MapAt (w.alloc (.map #[] 0)) P k w.heap.size 0 (fun _ => none) :=
  ⟨_, World.ownsMap_made w P k heldR, isMap_empty, fun _ _ _ _ => rfl⟩
theorem MapAt.kept {row : Option Nat} (h : MapAt w P k b n f) (hg : w.grownBy w' row) (hne : some b ≠ row) : MapAt w' P k b n f := by
  obtain ⟨D, h, r⟩ := h; exact ⟨D, h.kept hg hne, r⟩
theorem MapAt.alloc (h : MapAt w P k b n f) (o : Obj) : MapAt (w.alloc o) P k b n f := by obtain ⟨D, h, r⟩ := h; exact ⟨D, h.alloc o, r⟩
theorem MapAt.drew (h : MapAt w P k b n f) : MapAt w.drew P k b n f := h
theorem MapAt.below {B : Nat} (h : MapAt w P k b n f) (hb : Below B w w') (hB : b < B) : MapAt w' P k b n f := by
  obtain ⟨D, ⟨es, clock, he, r⟩, r2⟩ := h
  exact ⟨D, ⟨es, clock, (hb.block b hB).trans he, r⟩, r2⟩
theorem MapAt.mono (h : MapAt w P k b n f) {n' : Nat} (hn : n ≤ n') : MapAt w P k b n' f := by obtain ⟨D, h, r⟩ := h; exact ⟨D, h.mono hn, r⟩
theorem MapAt.ext {g : Value → Option Value} (h : MapAt w P k b n f) (e : ∀ x kl, keyOf P k x = some kl → f x = g x) : MapAt w P k b n g := by
  obtain ⟨D, h, r, s⟩ := h; exact ⟨D, h, r, fun x kl hk z => by rw [← e x kl hk]; exact s x kl hk z⟩
theorem MapAt.lookup (h : MapAt w P k b n f) (K : Keyed P k) (ht : P.underlying t = some (.map k e)) {z : Value} (hz : (zeroValue e).run P w = .ok z w)
    {key : Value} {kl : Lit} (hkey : keyOf P k key = some kl) : (Instr.lookup t (.map (some b)) key false).run P w = .ok ((f key).getD z) w := by
  obtain ⟨D, h, _, s⟩ := h
  obtain ⟨v, ps, hrun, hv⟩ := h.lookup K ht hz (zd := .held z) (zp := []) rfl hkey
  rw [s key kl hkey z] at hv
  simp only [heldR, Option.some.injEq, Prod.mk.injEq, DataW.held.injEq] at hv
  rw [hrun, hv.1]
open Classical in
theorem MapAt.update (h : MapAt w P k b n f) (K : Keyed P k) (ht : P.underlying t = some (.map k e)) (hn : n < maxLen) {key val : Value} {kl : Lit} (hkey : keyOf P k key = some kl) :
    ∃ w', (Instr.mapUpdate t (.map (some b)) key val).run P w = .ok () w' ∧ MapAt w' P k b (n + 1) (fun x => if x = key then some val else f x) ∧ w.grownBy w' (some b) := by
  obtain ⟨D, h, hm, s⟩ := h
  obtain ⟨w', hrun, ho, hg⟩ := h.update K ht hn hkey (d := .held val) (ps := []) rfl
  refine ⟨w', hrun, ⟨_, ho, hm.put _ _, fun x kl' hk z => ?_⟩, hg⟩
  by_cases hx : x = key
  · subst hx
    rw [hkey] at hk; cases hk
    rw [atKey_put_same hm (K.key hkey)]
    show _ = DataW.held ((if x = x then some val else f x).getD z)
    rw [if_pos rfl]; rfl
  · show _ = DataW.held ((if x = key then some val else f x).getD z)
    rw [if_neg hx, ← s x kl' hk z]
    exact atKey_put_other (fun e => hx (K.inj (by rw [hk, e]) hkey)) _ _

open Classical in
/-- 'm[k] = v', as a step of the walk. -/
theorem wpList_mapUpdate_at {ops : Array Oper} {rest : List Oper} {o : Oper} {a : Act} {Q : Exit → Act → World → Prop}
    (hg : o.guard = none) (m x v : Operand) (hop : o.op = Op.mapUpdate t m x v) (h : MapAt w P k b n f) (K : Keyed P k) (ht : P.underlying t = some (.map k e))
    (hm : a.eval m = .map (some b)) (hn : n < maxLen) (key val : Value) (kl : Lit) (hx : a.eval x = key) (hv : a.eval v = val) (hkey : keyOf P k key = some kl)
    (hK : ∀ w', MapAt w' P k b (n + 1) (fun x => if x = key then some val else f x) → w.grownBy w' (some b) → wpList P ops Q rest (a.put o.dst undef) w') :
    wpList P ops Q (o :: rest) a w := by
  refine wpList_plain hg fun K' hK' => ?_
  obtain ⟨w', hrun, r1, r2⟩ := h.update K ht hn (val := val) hkey
  unfold Oper.wp
  simp [execOp, hop, hm, hx, hv, hrun, Result.andThen]
  exact hK' _ _ (hK w' r1 r2)
end
end Go.Proofs.Ytbbbiioojgnpdaa
