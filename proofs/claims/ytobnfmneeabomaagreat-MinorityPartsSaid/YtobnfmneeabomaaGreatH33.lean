/- My texts ConW, ConC. -/
import Derived.Test.YtobnfmneeabomaaGreatH32
import Derived.Test.YtobnfmneeabomaaGreatG29
set_option linter.unusedVariables false
set_option linter.unusedSimpArgs false
set_option maxRecDepth 100000
set_option maxHeartbeats 8000000
namespace Go.Proofs.YtobnfmneeabomaaGreat
open Go.RowKit

structure Con where
 ent : Int
 meth : Int
 since : Int
 sg1 : Bool
 sA1 : Option Addr
 sn1 : Nat
 sc1 : Nat
 sg2 : Bool
 sA2 : Option Addr
 sn2 : Nat
 sc2 : Nat
 fg1 : Bool
 fA1 : Option Addr
 fn1 : Nat
 fc1 : Nat
 fg2 : Bool
 fA2 : Option Addr
 fn2 : Nat
 fc2 : Nat
 iA : Option Addr
 im : Nat
 ic : Nat
 hA : Option Addr
 hm : Nat
 hc : Nat
def Con.cells (x : Con) : List Value := [.int .i64 x.ent, .int .i64 x.meth, .int .i64 x.since, .bool x.sg1, .slice x.sA1 x.sn1 x.sc1, .bool x.sg2, .slice x.sA2 x.sn2 x.sc2, .bool x.fg1, .slice x.fA1 x.fn1 x.fc1, .bool x.fg2, .slice x.fA2 x.fn2 x.fc2, .slice x.iA x.im x.ic, .slice x.hA x.hm x.hc]
def Con.zero : Con := ⟨0, 0, 0, false, none, 0, 0, false, none, 0, 0, false, none, 0, 0, false, none, 0, 0, none, 0, 0, none, 0, 0⟩
abbrev ConsAt := RowsAt Con.cells 13
theorem conSized : (Tryz.prog.info? 92).map (·.size) = some 13 := by kernel_rfl
theorem conOne (x : Con) : (#[.int .i64 x.ent, .int .i64 x.meth, .int .i64 x.since, .bool x.sg1, .slice x.sA1 x.sn1 x.sc1, .bool x.sg2, .slice x.sA2 x.sn2 x.sc2, .bool x.fg1, .slice x.fA1 x.fn1 x.fc1, .bool x.fg2, .slice x.fA2 x.fn2 x.fc2, .slice x.iA x.im x.ic, .slice x.hA x.hm x.hc] : Array Value).all (·.oneCell') = true := by simp [Value.oneCell']
namespace Cn
def find (l : List Con) (c : Int) : Option Con := l.find? (fun a => a.ent == c)
def found (l : List Con) (c : Int) : Con := (find l c).getD Con.zero
def has (l : List Con) (c : Int) : Bool := (find l c).isSome
theorem find_take {l : List Con} {c : Int} {k : Nat} (hk : k < l.length) (h : find (l.take k) c = none) : find (l.take (k + 1)) c = if l[k].ent = c then some l[k] else none := by
 unfold find at *
 rw [List.take_succ_eq_append_getElem hk, List.find?_append, h]
 simp [List.find?_cons]
 split <;> simp_all
theorem find_hit {l : List Con} {c : Int} {k : Nat} (hk : k < l.length) (h : find (l.take k) c = none) (hc : l[k].ent = c) : find l c = some l[k] := by
 have h1 := find_take hk h
 rw [if_pos hc] at h1
 have h2 : find l c = find (l.take (k + 1) ++ l.drop (k + 1)) c := by rw [List.take_append_drop]
 rw [h2]
 unfold find at *
 rw [List.find?_append, h1]; rfl
theorem find_some {l : List Con} {c : Int} {a : Con} (h : find l c = some a) : a ∈ l /\ a.ent = c := by
 unfold find at h
 exact ⟨List.mem_of_find?_eq_some h, by simpa using List.find?_some h⟩
end Cn
section
variable (w : World)
theorem confd_any (A : Option Addr) (n c : Nat) (l : List Con) (x : Int) (hl : l.length = n) (hn : n <= 100000) (h : ConsAt w w.heap.size A l) :
  Calls Tryz.prog 22 #[.slice A n c, .int .i64 x] w fun e w' => e = .returned (.tuple #[.agg #[.int .i64 (Cn.found l x).ent, .int .i64 (Cn.found l x).meth, .int .i64 (Cn.found l x).since, .bool (Cn.found l x).sg1, .slice (Cn.found l x).sA1 (Cn.found l x).sn1 (Cn.found l x).sc1, .bool (Cn.found l x).sg2, .slice (Cn.found l x).sA2 (Cn.found l x).sn2 (Cn.found l x).sc2, .bool (Cn.found l x).fg1, .slice (Cn.found l x).fA1 (Cn.found l x).fn1 (Cn.found l x).fc1, .bool (Cn.found l x).fg2, .slice (Cn.found l x).fA2 (Cn.found l x).fn2 (Cn.found l x).fc2, .slice (Cn.found l x).iA (Cn.found l x).im (Cn.found l x).ic, .slice (Cn.found l x).hA (Cn.found l x).hm (Cn.found l x).hc], .bool (Cn.has l x)]) /\ Below w.heap.size w w' := by
 subst hl
 have hB0 := (Below.refl w.heap.size w).alloc (Nat.le_refl _) (.cells #[.int .i64 0, .int .i64 0, .int .i64 0, .bool false, .slice none 0 0, .bool false, .slice none 0 0, .bool false, .slice none 0 0, .bool false, .slice none 0 0, .slice none 0 0, .slice none 0 0] 92)
 have hZ0 := heap_alloc_new w (.cells #[.int .i64 0, .int .i64 0, .int .i64 0, .bool false, .slice none 0 0, .bool false, .slice none 0 0, .bool false, .slice none 0 0, .bool false, .slice none 0 0, .slice none 0 0, .slice none 0 0] 92)
 go_enter Tryz.func22, Tryz.ntmps22
 go_wp2
 go_loopw [10] (fun i wr => ∃ k : Nat, k <= l.length /\ i = .int .i64 k /\ Cn.find (l.take k) x = none /\ Below w.heap.size w wr /\ wr.heap[w.heap.size]? = some (.cells #[.int .i64 0, .int .i64 0, .int .i64 0, .bool false, .slice none 0 0, .bool false, .slice none 0 0, .bool false, .slice none 0 0, .bool false, .slice none 0 0, .slice none 0 0, .slice none 0 0] 92 (0, 0))) (fun i _ => l.length - (intOf i).toNat)
 case atStart => exact ⟨0, Nat.zero_le _, rfl, rfl, hB0, hZ0⟩
 case round =>
  obtain ⟨k, hk, rfl, hno, hb, hZ⟩ := hrel
  have Hno := Lib.hid hno
  have HZ := Lib.hid hZ
  clear hno hZ hB0 hZ0
  by_cases hlt : k < l.length
  ·obtain ⟨b, o, rfl, hbB, hr⟩ := RowsAt.look (h.below hb (Nat.le_refl _)) hlt
   obtain ⟨x0, hx0⟩ : ∃ x0, x0 = l[k] := ⟨_, rfl⟩
   rw [<- hx0] at hr
   have Hx0 := Lib.hid hx0
   have Hr := Lib.hid hr
   have c0 : wr.cell? ⟨b, o + k * 13, none⟩ = some (.int .i64 x0.ent) := hr 0 _ rfl
   have hbw : b < wr.heap.size := Nat.lt_of_lt_of_le hbB hb.size
   have hgr := some_lt HZ.out
   clear hr hx0
   by_cases hc : x0.ent = x
   ·have hf := Cn.find_hit hlt Hno.out (by rw [<- Hx0.out]; exact hc)
    rw [<- Hx0.out] at hf
    have HF : Hid (Cn.found l x = x0) := by show _ = _; simp [Cn.found, hf]
    have HH : Hid (Cn.has l x = true) := by show _ = _; simp [Cn.has, hf]
    have hbe : (x0.ent == x) = true := by simp [hc]
    have Ho := Lib.hid (conOne x0)
    have HZ1 := Lib.hid ((Below.heap_alloc wr (.cells #[.int .i64 x0.ent, .int .i64 x0.meth, .int .i64 x0.since, .bool x0.sg1, .slice x0.sA1 x0.sn1 x0.sc1, .bool x0.sg2, .slice x0.sA2 x0.sn2 x0.sc2, .bool x0.fg1, .slice x0.fA1 x0.fn1 x0.fc1, .bool x0.fg2, .slice x0.fA2 x0.fn2 x0.fc2, .slice x0.iA x0.im x0.ic, .slice x0.hA x0.hm x0.hc] 92) _ hgr).trans HZ.out)
    have hR := setRow_heap (wr.alloc (.cells #[.int .i64 x0.ent, .int .i64 x0.meth, .int .i64 x0.since, .bool x0.sg1, .slice x0.sA1 x0.sn1 x0.sc1, .bool x0.sg2, .slice x0.sA2 x0.sn2 x0.sc2, .bool x0.fg1, .slice x0.fA1 x0.fn1 x0.fc1, .bool x0.fg2, .slice x0.fA2 x0.fn2 x0.fc2, .slice x0.iA x0.im x0.ic, .slice x0.hA x0.hm x0.hc] 92)) w.heap.size _ #[.int .i64 x0.ent, .int .i64 x0.meth, .int .i64 x0.since, .bool x0.sg1, .slice x0.sA1 x0.sn1 x0.sc1, .bool x0.sg2, .slice x0.sA2 x0.sn2 x0.sc2, .bool x0.fg1, .slice x0.fA1 x0.fn1 x0.fc1, .bool x0.fg2, .slice x0.fA2 x0.fn2 x0.fc2, .slice x0.iA x0.im x0.ic, .slice x0.hA x0.hm x0.hc] _ _ HZ1.out
    have hload := Lib.hid (run_loadVar_row (P := Tryz.prog) _ _ _ 92 _ _ _ hR Tryz.underlying92 rfl conSized)
    have hBF := Lib.hid (below_setRow (hb.alloc hb.size (.cells #[.int .i64 x0.ent, .int .i64 x0.meth, .int .i64 x0.since, .bool x0.sg1, .slice x0.sA1 x0.sn1 x0.sc1, .bool x0.sg2, .slice x0.sA2 x0.sn2 x0.sc2, .bool x0.fg1, .slice x0.fA1 x0.fn1 x0.fc1, .bool x0.fg2, .slice x0.fA2 x0.fn2 x0.fc2, .slice x0.iA x0.im x0.ic, .slice x0.hA x0.hm x0.hc] 92)) (Nat.le_refl _) #[.int .i64 x0.ent, .int .i64 x0.meth, .int .i64 x0.since, .bool x0.sg1, .slice x0.sA1 x0.sn1 x0.sc1, .bool x0.sg2, .slice x0.sA2 x0.sn2 x0.sc2, .bool x0.fg1, .slice x0.fA1 x0.fn1 x0.fc1, .bool x0.fg2, .slice x0.fA2 x0.fn2 x0.fc2, .slice x0.iA x0.im x0.ic, .slice x0.hA x0.hm x0.hc])
    clear hf hc hR
    go_wp2_with (first | (refine wpList_load_mid rfl 92 (.tmp 12) rfl b (o + k * 13) rfl [.int .i64 x0.ent, .int .i64 x0.meth, .int .i64 x0.since, .bool x0.sg1, .slice x0.sA1 x0.sn1 x0.sc1, .bool x0.sg2, .slice x0.sA2 x0.sn2 x0.sc2, .bool x0.fg1, .slice x0.fA1 x0.fn1 x0.fc1, .bool x0.fg2, .slice x0.fA2 x0.fn2 x0.fc2, .slice x0.iA x0.im x0.ic, .slice x0.hA x0.hm x0.hc] _ Hr.out Tryz.underlying92 rfl conSized ?_) | (refine wpList_store_row rfl 92 (.tmp 4) (.tmp 18) none rfl rfl w.heap.size 92 _ #[.int .i64 x0.ent, .int .i64 x0.meth, .int .i64 x0.since, .bool x0.sg1, .slice x0.sA1 x0.sn1 x0.sc1, .bool x0.sg2, .slice x0.sA2 x0.sn2 x0.sc2, .bool x0.fg1, .slice x0.fA1 x0.fn1 x0.fc1, .bool x0.fg2, .slice x0.fA2 x0.fn2 x0.fc2, .slice x0.iA x0.im x0.ic, .slice x0.hA x0.hm x0.hc] rfl rfl HZ1.out rfl conSized Ho.out ?_))
    exact bodyPost_ret (v := .tuple #[.agg #[.int .i64 x0.ent, .int .i64 x0.meth, .int .i64 x0.since, .bool x0.sg1, .slice x0.sA1 x0.sn1 x0.sc1, .bool x0.sg2, .slice x0.sA2 x0.sn2 x0.sc2, .bool x0.fg1, .slice x0.fA1 x0.fn1 x0.fc1, .bool x0.fg2, .slice x0.fA2 x0.fn2 x0.fc2, .slice x0.iA x0.im x0.ic, .slice x0.hA x0.hm x0.hc], .bool true]) (by simp [results, Tryz.results22, asAddr, Act.put, hload.out]) rfl ⟨by rw [HF.out, HH.out], hBF.out⟩
   ·have hbe : (x0.ent == x) = false := by simp [hc]
    have hf : Hid (Cn.find (l.take (k + 1)) x = none) := by show _ = _; rw [Cn.find_take hlt Hno.out, <- Hx0.out, if_neg hc]
    clear hc
    go_wp2_with (refine wpList_load_mid rfl 92 (.tmp 12) rfl b (o + k * 13) rfl [.int .i64 x0.ent, .int .i64 x0.meth, .int .i64 x0.since, .bool x0.sg1, .slice x0.sA1 x0.sn1 x0.sc1, .bool x0.sg2, .slice x0.sA2 x0.sn2 x0.sc2, .bool x0.fg1, .slice x0.fA1 x0.fn1 x0.fc1, .bool x0.fg2, .slice x0.fA2 x0.fn2 x0.fc2, .slice x0.iA x0.im x0.ic, .slice x0.hA x0.hm x0.hc] _ Hr.out Tryz.underlying92 rfl conSized ?_)
    go_roundw
    case rel => exact ⟨k + 1, by omega, by go_num, hf.out, hb.alloc hb.size _, (Below.heap_alloc wr _ _ hgr).trans HZ.out⟩
    case measure => simp [intOf]; omega
  ·obtain rfl : k = l.length := by omega
   have hf : Cn.find l x = none := by have := Hno.out; rwa [List.take_length] at this
   have HF : Hid (Cn.found l x = Con.zero) := by show _ = _; simp [Cn.found, hf]
   have HH : Hid (Cn.has l x = false) := by show _ = _; simp [Cn.has, hf]
   have Ho := Lib.hid (conOne Con.zero)
   have hR := setRow_heap wr w.heap.size _ #[.int .i64 0, .int .i64 0, .int .i64 0, .bool false, .slice none 0 0, .bool false, .slice none 0 0, .bool false, .slice none 0 0, .bool false, .slice none 0 0, .slice none 0 0, .slice none 0 0] _ _ HZ.out
   have hload := Lib.hid (run_loadVar_row (P := Tryz.prog) _ _ _ 92 _ _ _ hR Tryz.underlying92 rfl conSized)
   have hBF := Lib.hid (below_setRow hb (Nat.le_refl _) #[.int .i64 0, .int .i64 0, .int .i64 0, .bool false, .slice none 0 0, .bool false, .slice none 0 0, .bool false, .slice none 0 0, .bool false, .slice none 0 0, .slice none 0 0, .slice none 0 0])
   clear hf hR h
   go_wp2_with (refine wpList_store_row rfl 92 (.tmp 4) (.tmp 20) none rfl rfl w.heap.size 92 _ #[.int .i64 0, .int .i64 0, .int .i64 0, .bool false, .slice none 0 0, .bool false, .slice none 0 0, .bool false, .slice none 0 0, .bool false, .slice none 0 0, .slice none 0 0, .slice none 0 0] rfl rfl HZ.out rfl conSized Ho.out ?_)
   exact bodyPost_ret (v := .tuple #[.agg #[.int .i64 0, .int .i64 0, .int .i64 0, .bool false, .slice none 0 0, .bool false, .slice none 0 0, .bool false, .slice none 0 0, .bool false, .slice none 0 0, .slice none 0 0, .slice none 0 0], .bool false]) (by simp [results, Tryz.results22, asAddr, Act.put, hload.out]) rfl ⟨by rw [HF.out, HH.out]; rfl, hBF.out⟩
end

structure Cnt where
 ent : Int
 meth : Int
 since : Int
 sN : Int
 sD : Int
 fN : Int
 fD : Int
 its : List Itm
 shs : List Itm
def ShareOk (N D : Int) : Prop := 0 < D /\ D <= 1000000 /\ -(10 * D) <= N /\ N <= 10 * D
structure Con.Holds (R : World -> Nat -> Value -> Int -> Int -> Prop) (w : World) (B : Nat) (x : Con) (y : Cnt) : Prop where
 he : x.ent = y.ent
 hm : x.meth = y.meth
 hs : x.since = y.since
 hsh : R w B (.agg #[.bool x.sg1, .slice x.sA1 x.sn1 x.sc1, .bool x.sg2, .slice x.sA2 x.sn2 x.sc2]) y.sN y.sD
 hfi : R w B (.agg #[.bool x.fg1, .slice x.fA1 x.fn1 x.fc1, .bool x.fg2, .slice x.fA2 x.fn2 x.fc2]) y.fN y.fD
 hso : ShareOk y.sN y.sD
 hfo : ShareOk y.fN y.fD
 hil : y.its.length = x.im
 hin : x.im <= 50
 hix : ∀ z ∈ y.its, z.small
 hiA : ItmsAt w B x.iA y.its
 hhl : y.shs.length = x.hm
 hhn : x.hm <= 50
 hhx : ∀ z ∈ y.shs, z.small
 hhA : ItmsAt w B x.hA y.shs
abbrev SR (w : World) (B : Nat) (v : Value) (N D : Int) : Prop := R1.RI w B 5 5 v N D
abbrev SD (w : World) (B : Nat) (v : Value) (N D : Int) : Prop := RI w B 3 1 v N D
theorem SR_below {w w' : World} {B C : Nat} {v : Value} {N D : Int} (h : SR w B v N D) (hb : Below C w w') (hC : B <= C) : SR w' B v N D := by
 obtain ⟨g1, A1, n1, c1, g2, A2, n2, c2, e, h1, h2⟩ := h
 exact ⟨g1, A1, n1, c1, g2, A2, n2, c2, e, h1.below hb hC, h2.below hb hC⟩
theorem SD_below {w w' : World} {B C : Nat} {v : Value} {N D : Int} (h : SD w B v N D) (hb : Below C w w') (hC : B <= C) : SD w' B v N D := by
 obtain ⟨g1, A1, n1, c1, g2, A2, n2, c2, e, h1, h2⟩ := h
 exact ⟨g1, A1, n1, c1, g2, A2, n2, c2, e, h1.below hb hC, h2.below hb hC⟩
section
variable {w w' : World} {B C : Nat} {x : Con} {y : Cnt}
theorem Con.Holds.belowR (h : x.Holds SR w B y) (hb : Below C w w') (hC : B <= C) : x.Holds SR w' B y :=
 ⟨h.he, h.hm, h.hs, SR_below h.hsh hb hC, SR_below h.hfi hb hC, h.hso, h.hfo, h.hil, h.hin, h.hix, RowsAt.below h.hiA hb hC, h.hhl, h.hhn, h.hhx, RowsAt.below h.hhA hb hC⟩
theorem Con.Holds.belowD (h : x.Holds SD w B y) (hb : Below C w w') (hC : B <= C) : x.Holds SD w' B y :=
 ⟨h.he, h.hm, h.hs, SD_below h.hsh hb hC, SD_below h.hfi hb hC, h.hso, h.hfo, h.hil, h.hin, h.hix, RowsAt.below h.hiA hb hC, h.hhl, h.hhn, h.hhx, RowsAt.below h.hhA hb hC⟩
theorem Con.Holds.moreR (h : x.Holds SR w B y) (hC : B <= C) : x.Holds SR w C y :=
 ⟨h.he, h.hm, h.hs, R1.RI.more h.hsh hC (Nat.le_refl _) (Nat.le_refl _), R1.RI.more h.hfi hC (Nat.le_refl _) (Nat.le_refl _), h.hso, h.hfo, h.hil, h.hin, h.hix, RowsAt.more h.hiA hC, h.hhl, h.hhn, h.hhx, RowsAt.more h.hhA hC⟩
theorem Con.Holds.moreD (h : x.Holds SD w B y) (hC : B <= C) : x.Holds SD w C y :=
 ⟨h.he, h.hm, h.hs, RI.more h.hsh hC (Nat.le_refl _) (Nat.le_refl _), RI.more h.hfi hC (Nat.le_refl _) (Nat.le_refl _), h.hso, h.hfo, h.hil, h.hin, h.hix, RowsAt.more h.hiA hC, h.hhl, h.hhn, h.hhx, RowsAt.more h.hhA hC⟩
theorem Con.Holds.atR (h : x.Holds SR w w.heap.size y) (hb : Below w.heap.size w w') : x.Holds SR w' w'.heap.size y := (h.belowR hb (Nat.le_refl _)).moreR hb.size
theorem Con.Holds.atD (h : x.Holds SD w w.heap.size y) (hb : Below w.heap.size w w') : x.Holds SD w' w'.heap.size y := (h.belowD hb (Nat.le_refl _)).moreD hb.size
end
def Hold (P : Con -> Cnt -> Prop) : List Con -> List Cnt -> Prop
 | [], [] => True
 | x :: l, y :: m => P x y /\ Hold P l m
 | _, _ => False
theorem Hold.imp {P Q : Con -> Cnt -> Prop} (h : ∀ x y, P x y -> Q x y) : ∀ {l : List Con} {m : List Cnt}, Hold P l m -> Hold Q l m
 | [], [], _ => trivial
 | _ :: _, _ :: _, ⟨h1, h2⟩ => ⟨h _ _ h1, Hold.imp h h2⟩
 | [], _ :: _, h' => h'.elim
 | _ :: _, [], h' => h'.elim
theorem Hold.len {P : Con -> Cnt -> Prop} : ∀ {l : List Con} {m : List Cnt}, Hold P l m -> l.length = m.length
 | [], [], _ => rfl
 | _ :: _, _ :: _, ⟨_, h2⟩ => by simp [Hold.len h2]
 | [], _ :: _, h' => h'.elim
 | _ :: _, [], h' => h'.elim
theorem Hold.snoc {P : Con -> Cnt -> Prop} {x : Con} {y : Cnt} (h : P x y) : ∀ {l : List Con} {m : List Cnt}, Hold P l m -> Hold P (l ++ [x]) (m ++ [y])
 | [], [], _ => ⟨h, trivial⟩
 | _ :: _, _ :: _, ⟨h1, h2⟩ => ⟨h1, Hold.snoc h h2⟩
 | [], _ :: _, h' => h'.elim
 | _ :: _, [], h' => h'.elim
namespace Cn
def cfind (m : List Cnt) (c : Int) : Option Cnt := m.find? (fun a => a.ent == c)
theorem find_hold {P : Con -> Cnt -> Prop} (hP : ∀ x y, P x y -> x.ent = y.ent) (c : Int) : ∀ {l : List Con} {m : List Cnt}, Hold P l m ->
  (find l c = none /\ cfind m c = none) ∨ ∃ x y, find l c = some x /\ cfind m c = some y /\ P x y
 | [], [], _ => .inl ⟨rfl, rfl⟩
 | x :: l, y :: m, ⟨h1, h2⟩ => by
  by_cases h : y.ent = c
  ·exact .inr ⟨x, y, by simp [find, hP _ _ h1, h], by simp [cfind, h], h1⟩
  ·have := find_hold hP c h2
   have e1 : find (x :: l) c = find l c := List.find?_cons_of_neg (by simp [hP _ _ h1, h])
   have e2 : cfind (y :: m) c = cfind m c := List.find?_cons_of_neg (by simp [h])
   rw [e1, e2]; exact this
 | [], _ :: _, h' => h'.elim
 | _ :: _, [], h' => h'.elim
end Cn
namespace Gr
def assoc (g : Grp) (m : List Cnt) (x : Int) : (Int × Int × Int × Int) × Int :=
 if check g x ≠ 0 then ((0, 0, 0, 0), check g x) else
 match Cn.cfind m x with
 | none => ((0, 0, 0, 0), 0)
 | some y => if x = 0 ∨ y.meth ≠ 1 then ((0, 0, 0, 0), 0) else
  ((sumOf (isResult g) y.shs, sumOf (isEquity g) y.shs, R1.rd (sumOf (isResult g) y.shs) y.sN y.sD, R1.rd (sumOf (isEquity g) y.shs) y.sN y.sD), 0)
end Gr
theorem sgn_bd (b : Bool) {z : Int} (h : 0 <= z) : -z <= Big.sgn b z /\ Big.sgn b z <= z := by
 cases b <;> simp [Big.sgn] <;> omega
theorem rd_small {n N D : Int} (h : ShareOk N D) (h0 : -100000000000000 <= n) (h1 : n <= 100000000000000) : -1000000000000001 <= R1.rd n N D /\ R1.rd n N D <= 1000000000000001 := by
 obtain ⟨hD, _, hl, hu⟩ := h
 unfold R1.rd
 rw [Int.one_mul]
 obtain ⟨q, hq⟩ := Int.gcd_dvd_right (n * N) D
 obtain ⟨p, hp⟩ := Int.gcd_dvd_left (n * N) D
 have hG0 : (0 : Int) <= (Int.gcd (n * N) D : Int) := Int.natCast_nonneg _
 obtain ⟨G, hG⟩ : ∃ G, G = (Int.gcd (n * N) D : Int) := ⟨_, rfl⟩
 rw [<- hG] at hp hq hG0 ⊢
 have hne : G ≠ 0 := by intro e; subst e; rw [Int.zero_mul] at hq; omega
 have hGp : 0 < G := by omega
 have e1 : Int.tdiv (n * N) G = p := by rw [hp, Int.mul_tdiv_cancel_left _ hne]
 have e2 : Int.tdiv D G = q := by rw [hq, Int.mul_tdiv_cancel_left _ hne]
 rw [e1, e2]
 have hqp : 0 < q := by
  rw [hq] at hD
  exact Int.pos_of_mul_pos_right hD (by omega)
 have hnN : (n * N).natAbs <= 100000000000000 * (10 * D.natAbs) := by
  rw [Int.natAbs_mul]
  exact Nat.mul_le_mul (by omega) (by omega)
 have hpq : p.natAbs <= 1000000000000000 * q.natAbs := by
  rw [hp, hq, Int.natAbs_mul, Int.natAbs_mul] at hnN
  have : G.natAbs * p.natAbs <= G.natAbs * (1000000000000000 * q.natAbs) := by
   calc G.natAbs * p.natAbs <= 100000000000000 * (10 * (G.natAbs * q.natAbs)) := hnN
    _ = G.natAbs * (1000000000000000 * q.natAbs) := by
     rw [Nat.mul_left_comm G.natAbs, <- Nat.mul_assoc 100000000000000 10]
  exact Nat.le_of_mul_le_mul_left this (by omega)
 have hz0 : 0 <= 2 * (p.natAbs : Int) + q := by omega
 have hd0 : 0 <= 2 * q := by omega
 have hb : Int.tdiv (2 * (p.natAbs : Int) + q) (2 * q) <= 1000000000000001 := by
  rw [Int.tdiv_eq_ediv_of_nonneg hz0]
  have : (2 * (p.natAbs : Int) + q) / (2 * q) < 1000000000000001 + 1 := by
   rw [Int.ediv_lt_iff_lt_mul (by omega)]
   omega
  omega
 have hb0 : 0 <= Int.tdiv (2 * (p.natAbs : Int) + q) (2 * q) := Int.tdiv_nonneg hz0 hd0
 obtain ⟨g1, g2⟩ := sgn_bd (decide (p < 0)) hb0
 omega
theorem rd_prog {n N D : Int} (hD : 0 < D) : Int.tdiv (2 * (Int.tdiv (n * N) (redBy (n * N) (1 * D))) + (if Int.tdiv (n * N) (redBy (n * N) (1 * D)) < 0 then -(Int.tdiv (1 * D) (redBy (n * N) (1 * D))) else Int.tdiv (1 * D) (redBy (n * N) (1 * D)))) (2 * Int.tdiv (1 * D) (redBy (n * N) (1 * D))) = R1.rd n N D := by
 have hr : redBy (n * N) (1 * D) = (Int.gcd (n * N) (1 * D) : Int) := by unfold redBy; rw [if_neg (by omega)]
 rw [hr]
 unfold R1.rd
 obtain ⟨p, hp⟩ : ∃ p, p = Int.tdiv (n * N) (Int.gcd (n * N) (1 * D)) := ⟨_, rfl⟩
 obtain ⟨q, hq⟩ : ∃ q, q = Int.tdiv (1 * D) (Int.gcd (n * N) (1 * D)) := ⟨_, rfl⟩
 rw [<- hp, <- hq]
 by_cases h : p < 0
 ·rw [if_pos h, decide_eq_true h]
  have : 2 * p + -q = -(2 * (p.natAbs : Int) + q) := by omega
  rw [this, Int.neg_tdiv]; simp [Big.sgn]
 ·rw [if_neg h, decide_eq_false h]
  have : 2 * p + q = 2 * (p.natAbs : Int) + q := by omega
  rw [this]; simp [Big.sgn]
end Go.Proofs.YtobnfmneeabomaaGreat
