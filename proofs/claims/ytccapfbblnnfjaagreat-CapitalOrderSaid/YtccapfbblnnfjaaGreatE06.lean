/- My texts OrdP, OrdM, PostX. -/
import Derived.Test.YtccapfbblnnfjaaGreatG14
import Derived.Test.YtccapfbblnnfjaaGreatG42
import Derived.Test.YtccapfbblnnfjaaGreatC46
import Derived.Test.YtccapfbblnnfjaaGreatG46
import Derived.Test.YtccapfbblnnfjaaGreatE05
set_option linter.unusedVariables false
set_option linter.unusedSimpArgs false
set_option maxRecDepth 100000
set_option maxHeartbeats 8000000
namespace Go.Proofs.YtccapfbblnnfjaaGreat
open Go.RowKit
def Cnt.rv (y : Cnt) : Cnt := { y with its := y.its.reverse }
theorem Cn.find_uniq : ∀ {m : List Cnt}, m.Pairwise (fun a b => a.ent ≠ b.ent) -> ∀ {y : Cnt}, y ∈ m -> Cn.cfind m y.ent = some y
 | z :: m, hd, y, hy => by
  rw [List.pairwise_cons] at hd
  unfold Cn.cfind
  rcases List.mem_cons.1 hy with rfl | hy
  ·rw [List.find?_cons_of_pos (by simp)]
  ·have := hd.1 y hy
   rw [List.find?_cons_of_neg (by simp [this])]
   exact Cn.find_uniq hd.2 hy
theorem Cn.find_no {m : List Cnt} {x : Int} : Cn.cfind m x = none ↔ ∀ y ∈ m, y.ent ≠ x := by
 unfold Cn.cfind
 rw [List.find?_eq_none]
 constructor <;> intro h y hy <;> simpa using h y hy
theorem Cn.find_yes {m : List Cnt} {x : Int} {y : Cnt} (h : Cn.cfind m x = some y) : y ∈ m /\ y.ent = x := by
 unfold Cn.cfind at h
 exact ⟨List.mem_of_find?_eq_some h, by simpa using List.find?_some h⟩
theorem Cn.cfind_rv {m : List Cnt} (hd : m.Pairwise (fun a b => a.ent ≠ b.ent)) (x : Int) : Cn.cfind (m.map Cnt.rv).reverse x = (Cn.cfind m x).map Cnt.rv := by
 have hd2 : ((m.map Cnt.rv).reverse).Pairwise (fun a b => a.ent ≠ b.ent) := by
  rw [List.pairwise_reverse, List.pairwise_map]
  exact hd.imp fun h => Ne.symm h
 cases hc : Cn.cfind m x with
 | none =>
  rw [Option.map_none, Cn.find_no]
  intro y hy
  obtain ⟨z, hz, rfl⟩ := List.mem_map.1 (List.mem_reverse.1 hy)
  exact Cn.find_no.1 hc z hz
 | some y =>
  obtain ⟨h1, h2⟩ := Cn.find_yes hc
  have h3 : Cnt.rv y ∈ (m.map Cnt.rv).reverse := List.mem_reverse.2 (List.mem_map.2 ⟨y, h1, rfl⟩)
  have h4 := Cn.find_uniq hd2 h3
  have h5 : (Cnt.rv y).ent = x := h2
  rw [h5] at h4
  rw [h4]; rfl
namespace Gr
theorem sumIf_rev (P : Itm -> Bool) : ∀ l : List Itm, sumIf P l.reverse = sumIf P l
 | [] => rfl
 | z :: l => by rw [List.reverse_cons, sumIf_append, sumIf_rev P l]; simp only [sumIf]; omega
theorem sumOf_rev (P : Int -> Bool) : ∀ l : List Itm, sumOf P l.reverse = sumOf P l := by
 have happ : ∀ l m : List Itm, sumOf P (l ++ m) = sumOf P l + sumOf P m := by
  intro l m
  induction l with
  | nil => simp [sumOf]
  | cons z l ih => simp only [List.cons_append, sumOf, ih]; omega
 intro l
 induction l with
 | nil => rfl
 | cons z l ih => rw [List.reverse_cons, happ, ih]; simp only [sumOf]; omega
theorem invest_rev (g : Grp) (p d : Int) (af : Bool) : ∀ m : List Cnt, invest g p d af (m.map Cnt.rv).reverse = invest g p d af m
 | [] => rfl
 | y :: m => by
  rw [List.map_cons, List.reverse_cons, invest_append, invest_rev g p d af m]
  have e1 : (Cnt.rv y).meth = y.meth := rfl
  have e2 : (Cnt.rv y).its = y.its.reverse := rfl
  simp only [invest, e1, e2, sumIf_rev]
  omega
theorem capital_rev {g : Grp} {m : List Cnt} (hd : m.Pairwise (fun a b => a.ent ≠ b.ent)) (x : Int) : capital g (m.map Cnt.rv).reverse x = capital g m x := by
 unfold capital elim
 rw [Cn.cfind_rv hd]
 split
 ·rfl
 ·cases Cn.cfind m x with
  | none => rfl
  | some y =>
   simp only [Option.map_some]
   have e1 : (Cnt.rv y).meth = y.meth := rfl
   rw [e1]
   by_cases hc : x ≠ 0 /\ (y.meth = 3 ∨ y.meth = 2)
   ·rw [if_pos hc, if_pos hc]
    simp only []
    have e2 : (Cnt.rv y).its = y.its.reverse := rfl
    have e3 : (Cnt.rv y).since = y.since := rfl
    have e4 : (Cnt.rv y).fN = y.fN := rfl
    have e5 : (Cnt.rv y).fD = y.fD := rfl
    rw [e2, e3, e4, e5, sumOf_rev, invest_rev, e1]
   ·rw [if_neg hc, if_neg hc]
theorem cpost_rev {g : Grp} {m : List Cnt} (hd : m.Pairwise (fun a b => a.ent ≠ b.ent)) (x : Int) : cpost g (m.map Cnt.rv).reverse x = cpost g m x := by
 unfold cpost
 rw [capital_rev hd]
end Gr
structure Rv (w : World) (x y : Raw) : Prop where
 h0 : y = { x with iA := y.iA, im := y.im, ic := y.ic, its := x.its.reverse }
 hl : y.its.length = y.im
 hA : ItmsAt w w.heap.size y.iA y.its
 hT : ItmsTy w y.iA y.its
theorem Rv.kept {w w' : World} {x y : Raw} {row : Option Nat} (h : Rv w x y) (hg : w.grownBy w' row) (hr : OtherRow w 82 row) : Rv w' x y := by
 obtain ⟨h1, h2⟩ := h.hT.kept h.hA hg hr
 exact ⟨h.h0, h.hl, h2, h1⟩
theorem Rv.below {w w' : World} {x y : Raw} (h : Rv w x y) (hb : Below w.heap.size w w') : Rv w' x y :=
 ⟨h.h0, h.hl, RowsAt.at_ h.hA hb, h.hT.below h.hA hb⟩
def Alls (P : Raw -> Raw -> Prop) : List Raw -> List Raw -> Prop
 | [], [] => True
 | x :: l, y :: m => P x y /\ Alls P l m
 | _, _ => False
theorem Alls.imp {P Q : Raw -> Raw -> Prop} (h : ∀ x y, P x y -> Q x y) : ∀ {l m : List Raw}, Alls P l m -> Alls Q l m
 | [], [], _ => trivial
 | _ :: _, _ :: _, ⟨h1, h2⟩ => ⟨h _ _ h1, Alls.imp h h2⟩
 | [], _ :: _, h => h.elim
 | _ :: _, [], h => h.elim
theorem Alls.snoc {P : Raw -> Raw -> Prop} {x y : Raw} (h : P x y) : ∀ {l m : List Raw}, Alls P l m -> Alls P (l ++ [x]) (m ++ [y])
 | [], [], _ => ⟨h, trivial⟩
 | _ :: _, _ :: _, ⟨h1, h2⟩ => ⟨h1, Alls.snoc h h2⟩
 | [], _ :: _, h => h.elim
 | _ :: _, [], h => h.elim
theorem Alls.len {P : Raw -> Raw -> Prop} : ∀ {l m : List Raw}, Alls P l m -> l.length = m.length
 | [], [], _ => rfl
 | _ :: l, _ :: m, ⟨_, h⟩ => by simp [Alls.len h]
 | [], _ :: _, h => h.elim
 | _ :: _, [], h => h.elim
theorem Alls.mem {P : Raw -> Raw -> Prop} : ∀ {l m : List Raw}, Alls P l m -> ∀ y ∈ m, ∃ x ∈ l, P x y
 | [], [], _, y, hy => by cases hy
 | x :: _, z :: _, ⟨h1, h2⟩, y, hy => by
  rcases List.mem_cons.1 hy with rfl | hy
  ·exact ⟨x, List.mem_cons_self, h1⟩
  ·obtain ⟨u, hu, hp⟩ := Alls.mem h2 y hy
   exact ⟨u, List.mem_cons_of_mem _ hu, hp⟩
 | [], _ :: _, h, _, _ => h.elim
theorem Alls.cnt {w : World} : ∀ {l m : List Raw}, Alls (Rv w) l m -> m.map Raw.cnt = (l.map Raw.cnt).map Cnt.rv
 | [], [], _ => rfl
 | x :: l, y :: m, ⟨h1, h2⟩ => by
  rw [List.map_cons, List.map_cons, List.map_cons, Alls.cnt h2, h1.h0]; rfl
 | [], _ :: _, h => h.elim
 | _ :: _, [], h => h.elim
theorem Rv.at_ {w : World} {x y : Raw} (h : Rv w x y) (hx : x.At w w.heap.size) : y.At w w.heap.size := by
 obtain ⟨a1, a2, a3, a4, a5, a6⟩ := hx
 have h1 : y.its = x.its.reverse := by rw [h.h0]
 have h3 := h.hl
 rw [h1, List.length_reverse] at h3
 refine ⟨h.hl, by omega, h.hA, ?_, ?_, ?_⟩
 ·rw [h.h0]; exact a4
 ·rw [h.h0]; exact a5
 ·rw [h.h0]; exact a6
theorem Rv.ok {w : World} {x y : Raw} (h : Rv w x y) (hx : x.ok = true) : y.ok = true := by
 unfold Raw.ok at hx ⊢
 simp only [Bool.and_eq_true] at hx ⊢
 rw [h.h0]
 refine ⟨⟨hx.1.1, ?_⟩, hx.2⟩
 have h6 := hx.1.2
 unfold Raw.few at h6 ⊢
 simp only [Bool.and_eq_true, List.all_eq_true, decide_eq_true_eq] at h6 ⊢
 exact ⟨fun z hz => h6.1 z (List.mem_reverse.1 hz), by show x.its.reverse.length <= 40; rw [List.length_reverse]; exact h6.2⟩
theorem raws_own {w : World} {base n : Nat} {v : Value} {R : List Raw} (h : w.ownsRow base 78 9 v n (rawRow R)) (hn : R.length = n) : ∃ A c, v = .slice A n c /\ RawsAt w w.heap.size A R := by
 subst hn
 obtain ⟨A, c, hv, hA⟩ := own_flat (f := Raw.cells) (by omega) (fun _ => rfl) h rfl
 exact ⟨A, c, hv, hA⟩
theorem rev_take {α : Type} {l : List α} {j : Nat} (hj : j < l.length) : (l.drop (l.length - (j + 1))).reverse = (l.drop (l.length - j)).reverse ++ [l[l.length - 1 - j]'(by omega)] := by
 have h : l.length - (j + 1) < l.length := by omega
 rw [List.drop_eq_getElem_cons h, List.reverse_cons]
 have e1 : l.length - (j + 1) + 1 = l.length - j := by omega
 have e2 : l[l.length - (j + 1)]'h = l[l.length - 1 - j]'(by omega) := by congr 1; omega
 rw [e1, e2]
theorem rev_its {l : List Itm} {j : Nat} (hj : j < l.length) : (l.drop (l.length - (j + 1))).reverse = (l.drop (l.length - j)).reverse ++ [l[l.length - 1 - j]'(by omega)] := rev_take hj
theorem wp_append_own {P : Program} {w : World} {o : Oper} {a : Act} {K : Act -> World -> Prop} {Q : Exit -> Act -> World -> Prop} (s x : Operand) (t : TypeId)
  (ho : o.op = .call { callee := .builtin .append, args := #[s, x], argTypes := #[t, t] })
  (base : Nat) (e : TypeId) (i : TypeInfo) (z : Value) (size bytes : Nat) (ht : P.underlying t = some (.slice e)) (hi : P.info? e = some i) (hz : i.zero = some z)
  (hsize : i.size = size) (hby : i.bytes = bytes) (hzs : z.cells.size = size) (hsz : 0 < size)
  (v : Value) (n : Nat) (xs : List Value) (hs : a.eval s = v) (hown : w.ownsRow base e size v n xs)
  (ad : Addr) (m c : Nat) (news : List Value) (hx : a.eval x = .slice (some ad) m c) (hl : news.length = m * size) (hnews : ∀ j u, news[j]? = some u -> w.cell? (ad.add j) = some u) (h1 : ∀ u ∈ news, u.oneCell' = true)
  (h63 : n + m <= maxLen) (hbytes : (n + m) * bytes <= 140737488355328) (hbase : base <= w.heap.size)
  (hK : ∀ v' w', w'.ownsRow base e size v' (n + m) (xs ++ news) -> w.grownBy w' v.ownBlock -> K (a.put o.dst v') w') : o.wp P a w K Q := by
 obtain ⟨v', w', hr, h2, h3, _⟩ := run_append_own (P := P) (w := w) base t o.type e i z size bytes ht hi hz hsize hby hzs hsz v n xs hown ad m c news hl hnews h1 h63 hbytes hbase
 unfold Oper.wp execOp
 simp only [ho, resolve, invoke, builtin, Sem.run_bind, Sem.run_pure, Result.andThen_ok, List.map_toArray, List.map_cons, List.map_nil, hs, hx, hr]
 exact hK _ _ h2 h3
section
variable (w : World)
theorem isnan_any (x : Int) : Calls Tryz.prog 134 #[.int .i64 x] w fun e w' => e = .returned (.bool false) /\ w' = w := by
 go_enter Tryz.func134, Tryz.ntmps134
 have hb : (x != x) = false := by simp
 go_wp2
 go_ret
 exact ⟨rfl, rfl⟩
theorem cmp_same (x : Int) : Calls Tryz.prog 100 #[.int .i64 x, .int .i64 x] w fun e w' => e = .returned (.int .i64 0) /\ w' = w := by
 go_enter Tryz.func100, Tryz.ntmps100
 go_wp2_with (fail)
 refine (isnan_any w x).mono ?_
 rintro e w2 ⟨rfl, hw2⟩
 subst w2
 go_wp2_with (fail)
 refine (isnan_any w x).mono ?_
 rintro e w2 ⟨rfl, hw2⟩
 subst w2
 have h1 : ¬ x < x := by omega
 go_wp2
 go_ret
 exact ⟨rfl, rfl⟩
theorem or_zero (b : Nat) (n c : Nat) (hb : b < w.heap.size) (hn : n <= 1000) (h : ∀ k, k < n -> w.cell? ⟨b, k, none⟩ = some (.int .i64 0)) :
  Calls Tryz.prog 99 #[.slice (some ⟨b, 0, none⟩) n c] w fun e w' => e = .returned (.int .i64 0) /\ w' = w := by
 have H := Lib.hid h
 clear h
 go_enter Tryz.func99, Tryz.ntmps99
 go_wp2
 go_loopw [8] (fun i wr => ∃ k : Nat, k <= n /\ i = .int .i64 k /\ wr = w) (fun i _ => n - (intOf i).toNat)
 case atStart => exact ⟨0, Nat.zero_le _, rfl, rfl⟩
 case round =>
  obtain ⟨k, hk, rfl, hwr⟩ := hrel
  subst wr
  by_cases hlt : k < n
  ·have hk0 : (0 : Int) <= (k : Int) := by omega
   have hkn : (k : Int) < n := by omega
   have hc := H.out k hlt
   go_wp2
   go_roundw
   case rel => exact ⟨k + 1, by omega, by go_num, by simp⟩
   case measure => simp [intOf]; omega
  ·obtain rfl : k = n := by omega
   go_wp2
   go_ret
   exact ⟨rfl, rfl⟩
theorem eqparts_same (A A' : Option Addr) (n c c' : Nat) (l : List Prt) (hl : l.length = n) (hn : n <= 100000) (h : PrtsAt w w.heap.size A l) (h' : PrtsAt w w.heap.size A' l) :
  Calls Tryz.prog 75 #[.slice A n c, .slice A' n c'] w fun e w' => e = .returned (.bool true) /\ Below w.heap.size w w' := by
 have H := Lib.hid h
 have H' := Lib.hid h'
 have Hl := Lib.hid hl
 clear h h' hl
 go_enter Tryz.func75, Tryz.ntmps75
 have hnn : ((n : Int) != (n : Int)) = false := by simp
 go_wp2
 go_loopw [13] (fun i wr => ∃ k : Nat, k <= n /\ i = .int .i64 k /\ Below w.heap.size w wr) (fun i _ => n - (intOf i).toNat)
 case atStart => exact ⟨0, Nat.zero_le _, rfl, Below.refl _ _⟩
 case round =>
  obtain ⟨k, hk, rfl, hbr⟩ := hrel
  have hq := hbr.size
  by_cases hlt : k < n
  ·have hkl : k < l.length := by have := Hl.out; omega
   obtain ⟨b, o, hAe, hbB, hr⟩ := RowsAt.look (RowsAt.below H.out hbr (Nat.le_refl _)) hkl
   obtain ⟨b', o', hAe', hbB', hr'⟩ := RowsAt.look (RowsAt.below H'.out hbr (Nat.le_refl _)) hkl
   have hk0 : (0 : Int) <= (k : Int) := by omega
   have hkn : (k : Int) < n := by omega
   obtain ⟨y, hy⟩ : ∃ y, y = l[k] := ⟨_, rfl⟩
   rw [<- hy] at hr hr'
   obtain ⟨u, hu⟩ : ∃ u, u = y.acct := ⟨_, rfl⟩
   obtain ⟨v, hv⟩ : ∃ v, v = y.amt := ⟨_, rfl⟩
   have hcells : y.cells = [.int .i64 u, .int .i64 v] := by rw [hu, hv]; rfl
   rw [hcells] at hr hr'
   have Hr := Lib.hid hr
   have Hr' := Lib.hid hr'
   have HA := Lib.hid hAe
   have HA' := Lib.hid hAe'
   clear hy hu hv hcells hr hr' hAe hAe'
   have hV0 : Below wr.heap.size wr wr.drew := below_drawn (Below.refl _ _) 1
   go_upto_region 6 with (fail)
   refine wp_region_held (S := Below wr.heap.size wr) (by kernel_rfl) ?_
   change wpAnyH _ _ _ _ _ _ _ _ (World.drew wr)
   obtain ⟨W0, hWd⟩ : ∃ W0, W0 = wr.drew := ⟨_, rfl⟩
   rw [<- hWd] at hV0 ⊢
   clear hWd
   refine tk (i := 0) (v := .slice A n c) rfl (by kernel_rfl) (fun _ _ _ h => h) (.inl ⟨by rfl, fun W' hS' => by go_simp⟩) hV0 ?_
   try simp only [z]
   refine tk (i := 1) (v := .int .i64 k) rfl (by kernel_rfl) (fun _ _ _ h => h) (.inl ⟨by rfl, fun W' hS' => by go_simp⟩) hV0 ?_
   try simp only [z]
   refine tk (i := 2) (v := .pointer (some ⟨b, o + k * 2, none⟩)) rfl (by kernel_rfl) (fun _ _ _ h => h) (.inl ⟨by rfl, fun W' hS' => by have he := HA.out; rw [he]; go_simp⟩) hV0 ?_
   try simp only [z]
   refine tk (i := 3) (v := .agg #[.int .i64 u, .int .i64 v]) rfl (by kernel_rfl) (fun _ _ _ h => h) (yieldsIf_load_mid (by rfl) 99 _ rfl b (o + k * 2) rfl [.int .i64 u, .int .i64 v] _ (fun W' hS' => range_below Hr.out hS' (show b < wr.heap.size by omega)) Tryz.underlying99 rfl prtSize) hV0 ?_
   try simp only [z]
   refine tk (i := 4) (v := .slice A' n c') rfl (by kernel_rfl) (fun _ _ _ h => h) (.inl ⟨by rfl, fun W' hS' => by go_simp⟩) hV0 ?_
   try simp only [z]
   refine tk (i := 5) (v := .int .i64 k) rfl (by kernel_rfl) (fun _ _ _ h => h) (.inl ⟨by rfl, fun W' hS' => by go_simp⟩) hV0 ?_
   try simp only [z]
   refine tk (i := 6) (v := .pointer (some ⟨b', o' + k * 2, none⟩)) rfl (by kernel_rfl) (fun _ _ _ h => h) (.inl ⟨by rfl, fun W' hS' => by have he := HA'.out; rw [he]; go_simp⟩) hV0 ?_
   try simp only [z]
   refine tk (i := 7) (v := .agg #[.int .i64 u, .int .i64 v]) rfl (by kernel_rfl) (fun _ _ _ h => h) (yieldsIf_load_mid (by rfl) 99 _ rfl b' (o' + k * 2) rfl [.int .i64 u, .int .i64 v] _ (fun W' hS' => range_below Hr'.out hS' (show b' < wr.heap.size by omega)) Tryz.underlying99 rfl prtSize) hV0 ?_
   try simp only [z]
   refine tk (i := 8) (v := .bool false) rfl (by kernel_rfl) (fun _ _ _ h => h) (.inl ⟨by rfl, fun W' hS' => by (go_simp; try simp)⟩) hV0 ?_
   try simp only [z]
   refine wpAnyH_done (by kernel_rfl) ?_ _
   try simp only [z]
   have hbz := hbr.trans (hV0.mono hq)
   go_wp2
   go_roundw
   case rel => exact ⟨k + 1, by omega, by go_num, hbz⟩
   case measure => simp [intOf]; omega
  ·obtain rfl : k = n := by omega
   go_wp2
   go_ret
   exact ⟨rfl, hbr⟩
theorem comparepost_same (k x o r : Int) (A A' : Option Addr) (n c c' : Nat) :
  Calls Tryz.prog 74 #[.agg #[.int .i64 k, .int .i64 x, .int .i64 o, .int .i64 r, .slice A n c], .agg #[.int .i64 k, .int .i64 x, .int .i64 o, .int .i64 r, .slice A' n c']] w fun e w' => e = .returned (.int .i64 0) /\ Below w.heap.size w w' := by
 obtain ⟨W1, hW1, hB0, hb0, hb1, hz⟩ := nw2 w #[.int .i64 k, .int .i64 x, .int .i64 o, .int .i64 r, .slice A n c] #[.int .i64 k, .int .i64 x, .int .i64 o, .int .i64 r, .slice A' n c'] 49 49
 have HW := Lib.hid hW1
 have s1 : w.heap.size < W1.heap.size := by omega
 have s1' : w.heap.size + 1 < W1.heap.size := by omega
 have hr0 := range_row (cs := [.int .i64 k, .int .i64 x, .int .i64 o, .int .i64 r, .slice A n c]) hb0
 have hr1 := range_row (cs := [.int .i64 k, .int .i64 x, .int .i64 o, .int .i64 r, .slice A' n c']) hb1
 have R0 := Lib.hid hr0
 have R1' := Lib.hid hr1
 clear hW1 hz hb0 hb1 hr0 hr1
 go_enter Tryz.func74, Tryz.ntmps74
 go_upto_region 1 with (fail)
 rw [<- HW.out]
 have hV0 : Below W1.heap.size W1 W1.drew := below_drawn (Below.refl _ _) 1
 refine wp_region_held (S := Below W1.heap.size W1) (by kernel_rfl) ?_
 change wpAnyH _ _ _ _ _ _ _ _ (World.drew W1)
 obtain ⟨W0, hWd⟩ : ∃ W0, W0 = W1.drew := ⟨_, rfl⟩
 rw [<- hWd] at hV0 ⊢
 clear hWd
 refine tk (i := 0) (v := .pointer (some ⟨w.heap.size, 0, none⟩)) rfl (by kernel_rfl) (fun _ _ _ h => h) (.inl ⟨by rfl, fun W' hS' => by go_simp⟩) hV0 ?_
 try simp only [z]
 refine tk (i := 1) (v := .int .i64 k) rfl (by kernel_rfl) (fun _ _ _ h => h) (.inl ⟨by rfl, fun W' hS' => by have hc := (hS'.cell (p := ⟨w.heap.size, 0, none⟩) s1).trans (R0.out 0 _ rfl); go_simp⟩) hV0 ?_
 try simp only [z]
 refine tk (i := 2) (v := .pointer (some ⟨w.heap.size + 1, 0, none⟩)) rfl (by kernel_rfl) (fun _ _ _ h => h) (.inl ⟨by rfl, fun W' hS' => by go_simp⟩) hV0 ?_
 try simp only [z]
 refine tk (i := 3) (v := .int .i64 k) rfl (by kernel_rfl) (fun _ _ _ h => h) (.inl ⟨by rfl, fun W' hS' => by have hc := (hS'.cell (p := ⟨w.heap.size + 1, 0, none⟩) s1').trans (R1'.out 0 _ rfl); go_simp⟩) hV0 ?_
 try simp only [z]
 refine tk (i := 5) (v := .pointer (some ⟨w.heap.size, 1, none⟩)) rfl (by kernel_rfl) (fun _ _ _ h => h) (.inl ⟨by rfl, fun W' hS' => by go_simp⟩) hV0 ?_
 try simp only [z]
 refine tk (i := 6) (v := .int .i64 x) rfl (by kernel_rfl) (fun _ _ _ h => h) (.inl ⟨by rfl, fun W' hS' => by have hc := (hS'.cell (p := ⟨w.heap.size, 1, none⟩) s1).trans (R0.out 1 _ rfl); go_simp⟩) hV0 ?_
 try simp only [z]
 refine tk (i := 7) (v := .pointer (some ⟨w.heap.size + 1, 1, none⟩)) rfl (by kernel_rfl) (fun _ _ _ h => h) (.inl ⟨by rfl, fun W' hS' => by go_simp⟩) hV0 ?_
 try simp only [z]
 refine tk (i := 8) (v := .int .i64 x) rfl (by kernel_rfl) (fun _ _ _ h => h) (.inl ⟨by rfl, fun W' hS' => by have hc := (hS'.cell (p := ⟨w.heap.size + 1, 1, none⟩) s1').trans (R1'.out 1 _ rfl); go_simp⟩) hV0 ?_
 try simp only [z]
 refine tk (i := 10) (v := .pointer (some ⟨w.heap.size, 2, none⟩)) rfl (by kernel_rfl) (fun _ _ _ h => h) (.inl ⟨by rfl, fun W' hS' => by go_simp⟩) hV0 ?_
 try simp only [z]
 refine tk (i := 11) (v := .int .i64 o) rfl (by kernel_rfl) (fun _ _ _ h => h) (.inl ⟨by rfl, fun W' hS' => by have hc := (hS'.cell (p := ⟨w.heap.size, 2, none⟩) s1).trans (R0.out 2 _ rfl); go_simp⟩) hV0 ?_
 try simp only [z]
 refine tk (i := 12) (v := .pointer (some ⟨w.heap.size + 1, 2, none⟩)) rfl (by kernel_rfl) (fun _ _ _ h => h) (.inl ⟨by rfl, fun W' hS' => by go_simp⟩) hV0 ?_
 try simp only [z]
 refine tk (i := 13) (v := .int .i64 o) rfl (by kernel_rfl) (fun _ _ _ h => h) (.inl ⟨by rfl, fun W' hS' => by have hc := (hS'.cell (p := ⟨w.heap.size + 1, 2, none⟩) s1').trans (R1'.out 2 _ rfl); go_simp⟩) hV0 ?_
 try simp only [z]
 refine tk (i := 15) (v := .pointer (some ⟨w.heap.size, 3, none⟩)) rfl (by kernel_rfl) (fun _ _ _ h => h) (.inl ⟨by rfl, fun W' hS' => by go_simp⟩) hV0 ?_
 try simp only [z]
 refine tk (i := 16) (v := .int .i64 r) rfl (by kernel_rfl) (fun _ _ _ h => h) (.inl ⟨by rfl, fun W' hS' => by have hc := (hS'.cell (p := ⟨w.heap.size, 3, none⟩) s1).trans (R0.out 3 _ rfl); go_simp⟩) hV0 ?_
 try simp only [z]
 refine tk (i := 17) (v := .pointer (some ⟨w.heap.size + 1, 3, none⟩)) rfl (by kernel_rfl) (fun _ _ _ h => h) (.inl ⟨by rfl, fun W' hS' => by go_simp⟩) hV0 ?_
 try simp only [z]
 refine tk (i := 18) (v := .int .i64 r) rfl (by kernel_rfl) (fun _ _ _ h => h) (.inl ⟨by rfl, fun W' hS' => by have hc := (hS'.cell (p := ⟨w.heap.size + 1, 3, none⟩) s1').trans (R1'.out 3 _ rfl); go_simp⟩) hV0 ?_
 try simp only [z]
 refine wpAnyH_ready (rs := [4]) (by kernel_rfl) (by simp) (AllReadyH.cons rfl (fun K hK => ?_) AllReadyH.nil)
 go_simp
 refine (cmp_same W0 k).mono ?_
 rintro e V ⟨rfl, hVW⟩
 subst V
 refine hK.out _ _ hV0 (fun _ => ?_)
 clear hK K
 try simp only [z]
 refine wpAnyH_ready (rs := [9]) (by kernel_rfl) (by simp) (AllReadyH.cons rfl (fun K hK => ?_) AllReadyH.nil)
 go_simp
 refine (cmp_same W0 x).mono ?_
 rintro e V ⟨rfl, hVW⟩
 subst V
 refine hK.out _ _ hV0 (fun _ => ?_)
 clear hK K
 try simp only [z]
 refine wpAnyH_ready (rs := [14]) (by kernel_rfl) (by simp) (AllReadyH.cons rfl (fun K hK => ?_) AllReadyH.nil)
 go_simp
 refine (cmp_same W0 o).mono ?_
 rintro e V ⟨rfl, hVW⟩
 subst V
 refine hK.out _ _ hV0 (fun _ => ?_)
 clear hK K
 try simp only [z]
 refine wpAnyH_ready (rs := [19]) (by kernel_rfl) (by simp) (AllReadyH.cons rfl (fun K hK => ?_) AllReadyH.nil)
 go_simp
 refine (cmp_same W0 r).mono ?_
 rintro e V ⟨rfl, hVW⟩
 subst V
 refine hK.out _ _ hV0 (fun _ => ?_)
 clear hK K
 try simp only [z]
 refine wpAnyH_ready (rs := [20]) (by kernel_rfl) (by simp) (AllReadyH.cons rfl (fun K hK => ?_) AllReadyH.nil)
 obtain ⟨hBa, hrw, hsz⟩ := row_new W0 #[.int .i64 0, .int .i64 0, .int .i64 0, .int .i64 0] 3
 go_simp
 obtain ⟨V1, hWn⟩ : ∃ V1, V1 = W0.alloc (.cells #[.int .i64 0, .int .i64 0, .int .i64 0, .int .i64 0] 3) := ⟨_, rfl⟩
 rw [<- hWn] at hBa hrw hsz ⊢
 clear hWn
 have hVa := hV0.trans (hBa.mono hV0.size)
 refine hK.out _ _ hVa (fun _ => ?_)
 clear hK K
 try simp only [z]
 refine wpAnyH_ready (rs := [21]) (by kernel_rfl) (by simp) (AllReadyH.cons rfl (fun K hK => ?_) AllReadyH.nil)
 go_simp
 have hcs : ∀ j, j < 4 -> V1.cell? ⟨W0.heap.size, j, none⟩ = some (.int .i64 0) := by
  intro j hj
  rw [cell_of_row _ _ _ _ _ _ hrw]
  match j, hj with
  | 0, _ => rfl
  | 1, _ => rfl
  | 2, _ => rfl
  | 3, _ => rfl
 refine (or_zero V1 W0.heap.size 4 4 (some_lt hrw) (by omega) hcs).mono ?_
 rintro e V ⟨rfl, hVW⟩
 subst V
 refine hK.out _ _ hVa (fun _ => ?_)
 clear hK K
 try simp only [z]
 refine wpAnyH_ready (rs := [22]) (by kernel_rfl) (by simp) (AllReadyH.cons rfl (fun K hK => ?_) AllReadyH.nil)
 go_simp
 refine hK.out _ _ hVa (fun _ => ?_)
 clear hK K
 try simp only [z]
 refine wpAnyH_done (by kernel_rfl) ?_ _
 try simp only [z]
 go_wp2
 go_ret
 exact ⟨rfl, hB0.trans (hVa.mono hB0.size)⟩
theorem equald_same (k x o r : Int) (A A' : Option Addr) (n c c' : Nat) (l : List Prt) (hl : l.length = n) (hn : n <= 100000) (h : PrtsAt w w.heap.size A l) (h' : PrtsAt w w.heap.size A' l) :
  Calls Tryz.prog 39 #[.agg #[.int .i64 k, .int .i64 x, .int .i64 o, .int .i64 r, .slice A n c], .agg #[.int .i64 k, .int .i64 x, .int .i64 o, .int .i64 r, .slice A' n c']] w fun e w' => e = .returned (.bool true) /\ Below w.heap.size w w' := by
 obtain ⟨W1, hW1, hB0, hb0, hb1, hz⟩ := nw2 w #[.int .i64 k, .int .i64 x, .int .i64 o, .int .i64 r, .slice A n c] #[.int .i64 k, .int .i64 x, .int .i64 o, .int .i64 r, .slice A' n c'] 49 49
 have HW := Lib.hid hW1
 have s1 : w.heap.size < W1.heap.size := by omega
 have s1' : w.heap.size + 1 < W1.heap.size := by omega
 have Hb0 := Lib.hid hb0
 have Hb1 := Lib.hid hb1
 have r0 := Lib.hid (range_row (cs := [.int .i64 k, .int .i64 x, .int .i64 o, .int .i64 r, .slice A n c]) hb0)
 have r1 := Lib.hid (range_row (cs := [.int .i64 k, .int .i64 x, .int .i64 o, .int .i64 r, .slice A' n c']) hb1)
 have H := Lib.hid (RowsAt.at_ h hB0)
 have H' := Lib.hid (RowsAt.at_ h' hB0)
 have Hl := Lib.hid hl
 clear hW1 hz hb0 hb1 h h' hl
 go_enter Tryz.func39, Tryz.ntmps39
 go_upto_region 1 with (fail)
 rw [<- HW.out]
 go_wp2_with (first | (refine wpList_load_mid rfl 49 (.tmp 2) rfl w.heap.size 0 rfl [.int .i64 k, .int .i64 x, .int .i64 o, .int .i64 r, .slice A n c] _ r0.out Tryz.underlying49 rfl postSize ?_) | (refine wpList_load_mid rfl 49 (.tmp 3) rfl (w.heap.size + 1) 0 rfl [.int .i64 k, .int .i64 x, .int .i64 o, .int .i64 r, .slice A' n c'] _ r1.out Tryz.underlying49 rfl postSize ?_))
 refine (comparepost_same W1 k x o r A A' n c c').mono ?_
 rintro e W2 ⟨rfl, hB2⟩
 have c0 := gbox Hb0.out hB2 s1
 have c1 := gbox Hb1.out hB2 s1'
 have a0 := cell_of_row _ _ 4 _ _ _ c0
 have a1 := cell_of_row _ _ 4 _ _ _ c1
 simp at a0 a1
 have s2 := some_lt c0
 have s2' := some_lt c1
 have hB02 := hB0.trans (hB2.mono hB0.size)
 clear c0 c1
 go_wp2_with (fail)
 refine (eqparts_same W2 A A' n c c' l Hl.out hn (RowsAt.at_ H.out hB2) (RowsAt.at_ H'.out hB2)).mono ?_
 rintro e W3 ⟨rfl, hB3⟩
 go_wp2
 go_ret
 exact ⟨rfl, hB02.trans (hB3.mono hB02.size)⟩
end
end Go.Proofs.YtccapfbblnnfjaaGreat
