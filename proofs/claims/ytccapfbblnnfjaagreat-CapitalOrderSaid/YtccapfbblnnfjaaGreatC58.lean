/- My texts LawO38. -/
import Derived.Test.YtccapfbblnnfjaaGreatC52
import Derived.Test.YtccapfbblnnfjaaGreatC53
import Derived.Test.YtccapfbblnnfjaaGreatE06
set_option linter.unusedVariables false
set_option linter.unusedSimpArgs false
set_option maxRecDepth 100000
set_option maxHeartbeats 8000000
namespace Go.Proofs.YtccapfbblnnfjaaGreat
open Go.RowKit
theorem grown_of_below_o {a b : World} (h : Below a.heap.size a b) : a.grownBy b none := ⟨h.os, h.tape, h.output, h.size, fun i hi _ => h.block i hi⟩
theorem grown_setCell_o (w : World) (X j : Nat) (v : Value) : w.grownBy (w.setCell ⟨X, j, none⟩ v) (some X) :=
 ⟨rfl, rfl, rfl, by simp [World.setCell], fun k hk hne => heap_setCell_other w _ _ _ (fun e => hne (by rw [e]))⟩
theorem itmsTy_own {w : World} {base m c : Nat} {A : Option Addr} {l : List Itm} (h : w.ownsRow base 82 7 (.slice A m c) l.length (l.flatMap Itm.cells)) : ItmsTy w A l := by
 rcases h.2 with ⟨_, h0⟩ | ⟨g, cap, cur, e, _, hg, _⟩
 ·exact .inl (List.length_eq_zero_iff.1 h0)
 ·cases e; exact .inr ⟨g, 0, cur, _, rfl, hg⟩
def Dis (l : List Raw) (j : Nat) : Prop := ∀ (a b : Nat) (hb : b < l.length) (ha : a < b), l.length - j <= b -> (l[a]'(by omega)).ent ≠ l[b].ent
theorem Dis.all {l : List Raw} (h : Dis l l.length) : (l.map Raw.cnt).Pairwise (fun a b => a.ent ≠ b.ent) := by
 rw [List.pairwise_map]
 exact List.pairwise_iff_getElem.2 fun a b ha hb hab => h a b hb hab (by omega)
section
variable (w : World)
theorem law_order38 (A : Option Addr) (n c : Nat) (l : List Raw) (x : Int) (hl : l.length = n) (hn : n <= maxLen) (hr : RawsAt w w.heap.size A l) (hx : ∀ a ∈ l, a.At w w.heap.size) :
  Calls Tryz.prog 10 #[.slice A n c, .int .i64 x] w fun e w' => e = .returned (.bool true) /\ Below w.heap.size w w' := by
 have Hl := Lib.hid hl
 have Hr := Lib.hid hr
 have Hx := Lib.hid hx
 unfold maxLen at hn
 have Hn := Lib.hid hn
 clear hl hr hx hn
 go_enter Tryz.func10, Tryz.ntmps10
 go_wp2_with (fail)
 refine (awake38_any w).mono ?_
 rintro e W2 ⟨rfl, hB2⟩
 have Hr2 := Lib.hid (RowsAt.at_ Hr.out hB2)
 have Hx2 := Lib.hid (fun a ha => ((Hx.out a ha).below hB2 (Nat.le_refl _)).more hB2.size : ∀ a ∈ l, a.At W2 W2.heap.size)
 go_wp2_with (fail)
 refine (contrr_any W2 A n c l Hl.out Hn.out Hr2.out Hx2.out).mono ?_
 rintro e W3 ⟨hB3, v, ok, rfl, hok⟩
 have hB03 := hB2.trans (hB3.mono hB2.size)
 have Hr3 := Lib.hid (RowsAt.at_ Hr2.out hB3)
 have Hx3 := Lib.hid (fun a ha => ((Hx2.out a ha).below hB3 (Nat.le_refl _)).more hB3.size : ∀ a ∈ l, a.At W3 W3.heap.size)
 cases ok with
 | false =>
  clear hok
  go_wp2
  go_ret
  exact ⟨rfl, hB03⟩
 | true =>
 obtain ⟨h8, hall, Ar, cr, cs, rfl, hcl, hcs, hho⟩ := hok rfl
 have H8 := Lib.hid h8
 have Hall := Lib.hid hall
 have Hcl := Lib.hid hcl
 have Hcs := Lib.hid hcs
 have Hho := Lib.hid hho
 have Hlr := Lib.hid (show l.length <= 100 by omega)
 clear hok h8 hall hcl hcs hho
 have hn8 : n <= 8 := by have := Hl.out; have := H8.out; omega
 have Hcur : Hid (Dis l 0) := Lib.hid (fun a b hb ha h => by omega)
 have own0 : W3.ownsRow W3.heap.size 78 9 (.slice none 0 0) 0 (rawRow []) := ⟨rfl, .inl ⟨rfl, rfl⟩⟩
 have Own0 := Lib.hid own0
 clear own0
 have Hrow' := Lib.hid rawInfo
 have Hit := Lib.hid itmInfo
 go_wp2
 go_loopw [7, 8, 9, 10, 11] (fun tv iv _ _ _ wr => ∃ (v' : Value) (j : Nat) (R : List Raw), tv = v' /\ j <= n /\ iv = .int .i64 ((n : Int) - 1 - (j : Int)) /\ R.length = j /\ wr.ownsRow W3.heap.size 78 9 v' j (rawRow R) /\ Alls (Rv wr) ((l.drop (l.length - j)).reverse) R /\ Dis l j /\ Below W3.heap.size W3 wr) (fun _ iv _ _ _ _ => (intOf iv + 1).toNat)
 case atStart => exact ⟨_, 0, [], rfl, Nat.zero_le _, by simp, rfl, Own0.out, by rw [Nat.sub_zero, List.drop_length]; exact trivial, Hcur.out, Below.refl _ _⟩
 case round =>
  obtain ⟨v', j, R, hv, hj, rfl, hRl, hown, halls, hdis, hbr⟩ := hrel
  subst hv
  have Hown := Lib.hid hown
  have Halls := Lib.hid halls
  have Hdis := Lib.hid hdis
  have HRl := Lib.hid hRl
  have hqr := hbr.size
  clear hown halls hdis hRl
  by_cases hlt : j < n
  ·obtain ⟨q, hq⟩ : ∃ q : Nat, q = n - 1 - j := ⟨_, rfl⟩
   have hqi : (n : Int) - 1 - (j : Int) = (q : Int) := by omega
   have hq0 : (0 : Int) <= (q : Int) := by omega
   have hql : q < l.length := by have := Hl.out; omega
   have hqn : (q : Int) < n := by omega
   have Hjq : Hid (j = n - 1 - q) := by show _ = _; omega
   have hjl : j < l.length := by have := Hl.out; omega
   have hj8 : j + 1 <= 8 := by omega
   have hjn : j + 1 <= n := by omega
   rw [hqi]
   have Hqi := Lib.hid hqi
   clear hqi hq hlt
   go_upto_region 10 with (fail)
   go_wp2
   go_loopw [9] (fun kv wq => ∃ k : Nat, k <= q /\ kv = .int .i64 k /\ (∀ a (ha : a < k) (hq2 : k <= q), (l[a]'(by omega)).ent ≠ l[q].ent) /\ Below wr.heap.size wr wq) (fun kv _ => q - (intOf kv).toNat)
   case atStart => exact ⟨0, Nat.zero_le _, rfl, fun a ha _ => by omega, Below.refl _ _⟩
   case round =>
    obtain ⟨k, hk, rfl, hne, hbq⟩ := hrel
    have Hne := Lib.hid hne
    have hb3q := hbr.trans (hbq.mono hqr)
    have hqq := hbq.size
    obtain ⟨b, o, hAe, hbB, hrq⟩ := RowsAt.look (RowsAt.below Hr3.out hb3q (Nat.le_refl _)) hql
    subst hAe
    obtain ⟨xq, hxq⟩ : ∃ xq, xq = l[q] := ⟨_, rfl⟩
    rw [<- hxq] at hrq
    have Hxq := Lib.hid hxq
    have hbw : b < wr.heap.size := by have := hb3q.size; omega
    clear hne
    by_cases hkq : k < q
    ·have hkl : k < l.length := by omega
     obtain ⟨b', o', hAe', _, hrk⟩ := RowsAt.look (RowsAt.below Hr3.out hb3q (Nat.le_refl _)) hkl
     cases hAe'
     obtain ⟨ek, hek⟩ : ∃ ek, ek = l[k].ent := ⟨_, rfl⟩
     obtain ⟨eq, heq⟩ : ∃ eq, eq = xq.ent := ⟨_, rfl⟩
     have c1 : wr.cell? ⟨b, o + k * 9, none⟩ = some (.int .i64 ek) := by rw [hek]; exact hrk 0 _ rfl
     have c2 : wr.cell? ⟨b, o + q * 9, none⟩ = some (.int .i64 eq) := by rw [heq]; exact hrq 0 _ rfl
     have C1 := Lib.hid c1
     have C2 := Lib.hid c2
     have Hek := Lib.hid hek
     have Heq := Lib.hid heq
     have hk0 : (0 : Int) <= (k : Int) := by omega
     have hkn : (k : Int) < n := by omega
     have hkq2 : (k : Int) < q := by omega
     have hS : Below wr.heap.size wr wr.drew := below_drawn (Below.refl _ _) 1
     clear hrk hrq c1 c2 hek heq hxq
     go_upto_region 13 with (fail)
     refine wp_region_held (S := Below wr.heap.size wr) (by kernel_rfl) ?_
     change wpAnyH _ _ _ _ _ _ _ _ (World.drew wr)
     obtain ⟨Wz, hWd⟩ : ∃ W0, W0 = wr.drew := ⟨_, rfl⟩
     rw [<- hWd] at hS ⊢
     clear hWd
     refine tk (i := 0) (v := .slice (some ⟨b, o, none⟩) n c) rfl (by kernel_rfl) (fun _ _ _ h => h) (.inl ⟨by rfl, fun W' hS' => by go_simp⟩) hS ?_
     try simp only [z]
     refine tk (i := 1) (v := .int .i64 k) rfl (by kernel_rfl) (fun _ _ _ h => h) (.inl ⟨by rfl, fun W' hS' => by go_simp⟩) hS ?_
     try simp only [z]
     refine tk (i := 2) (v := .pointer (some ⟨b, o + k * 9, none⟩)) rfl (by kernel_rfl) (fun _ _ _ h => h) (.inl ⟨by rfl, fun W' hS' => by go_simp⟩) hS ?_
     try simp only [z]
     refine tk (i := 3) (v := .pointer (some ⟨b, o + k * 9, none⟩)) rfl (by kernel_rfl) (fun _ _ _ h => h) (.inl ⟨by rfl, fun W' hS' => by go_simp⟩) hS ?_
     try simp only [z]
     refine tk (i := 4) (v := .int .i64 ek) rfl (by kernel_rfl) (fun _ _ _ h => h) (.inl ⟨by rfl, fun W' hS' => by have hc := (hS'.cell (p := ⟨b, o + k * 9, none⟩) hbw).trans C1.out; have hl9 := Nat.lt_of_lt_of_le hbw hS'.size; go_simp⟩) hS ?_
     try simp only [z]
     refine tk (i := 5) (v := .slice (some ⟨b, o, none⟩) n c) rfl (by kernel_rfl) (fun _ _ _ h => h) (.inl ⟨by rfl, fun W' hS' => by go_simp⟩) hS ?_
     try simp only [z]
     refine tk (i := 6) (v := .int .i64 q) rfl (by kernel_rfl) (fun _ _ _ h => h) (.inl ⟨by rfl, fun W' hS' => by go_simp⟩) hS ?_
     try simp only [z]
     refine tk (i := 7) (v := .pointer (some ⟨b, o + q * 9, none⟩)) rfl (by kernel_rfl) (fun _ _ _ h => h) (.inl ⟨by rfl, fun W' hS' => by go_simp⟩) hS ?_
     try simp only [z]
     refine tk (i := 8) (v := .pointer (some ⟨b, o + q * 9, none⟩)) rfl (by kernel_rfl) (fun _ _ _ h => h) (.inl ⟨by rfl, fun W' hS' => by go_simp⟩) hS ?_
     try simp only [z]
     refine tk (i := 9) (v := .int .i64 eq) rfl (by kernel_rfl) (fun _ _ _ h => h) (.inl ⟨by rfl, fun W' hS' => by have hc := (hS'.cell (p := ⟨b, o + q * 9, none⟩) hbw).trans C2.out; have hl9 := Nat.lt_of_lt_of_le hbw hS'.size; go_simp⟩) hS ?_
     try simp only [z]
     refine wpAnyH_ready (rs := [10]) (by kernel_rfl) (by simp) (AllReadyH.cons rfl (fun K hK => ?_) AllReadyH.nil)
     go_simp
     refine hK.out _ _ hS (fun _ => ?_)
     clear hK K
     try simp only [z]
     refine wpAnyH_done (by kernel_rfl) ?_ _
     try simp only [z]
     have HbZ := Lib.hid (hbq.trans (hS.mono hqq))
     clear hS
     by_cases he : ek = eq
     ·have heb : (ek == eq) = true := by simp [he]
      have hB09 := Lib.hid (hB03.trans ((hbr.trans (HbZ.out.mono hqr)).mono hB03.size))
      clear he
      go_upto_region 14 with (fail)
      go_wp2
      go_ret
      exact ⟨rfl, hB09.out⟩
     ·have heb : (ek == eq) = false := by simp [he]
      have HNE : Hid (∀ a (ha : a < k + 1) (hq2 : k + 1 <= q), (l[a]'(by omega)).ent ≠ l[q].ent) := Lib.hid fun a ha _ => by
       by_cases hak : a = k
       ·subst hak
        rw [<- Hek.out, <- Hxq.out, <- Heq.out]; exact he
       ·exact Hne.out a (by omega) hk
      clear he
      go_upto_region 12 with (fail)
      go_wp2
      go_roundw
      case rel => exact ⟨k + 1, by omega, by go_num, HNE.out, HbZ.out⟩
      case measure => simp [intOf]; omega
    ·obtain rfl : k = q := by omega
     obtain ⟨Wq, hWq⟩ : ∃ V, V = wr := ⟨_, rfl⟩
     subst hWq
     have Hrq := Lib.hid hrq
     obtain ⟨W6, hW6, hB6, hb6, hz6⟩ := nw1 Wq #[.int .i64 xq.ent, .int .i64 xq.meth, .int .i64 xq.since, .int .i64 xq.s0, .int .i64 xq.s1, .int .i64 xq.f0, .int .i64 xq.f1, .slice xq.iA xq.im xq.ic, .slice xq.hA xq.hm xq.hc] 78
     have HW6 := Lib.hid hW6
     have Hb6 := Lib.hid hb6
     have s6 : Wq.heap.size < W6.heap.size := by omega
     have hz7 := cell_of_row _ _ 7 _ _ _ hb6
     have hzf := fun j => frozen_of_row _ _ j _ _ hb6
     simp at hz7
     clear hrq hxq hb6 hz6 hW6
     go_upto_region 16 with (refine wpList_load_mid rfl 78 (.tmp 51) rfl b (o + k * 9) rfl [.int .i64 xq.ent, .int .i64 xq.meth, .int .i64 xq.since, .int .i64 xq.s0, .int .i64 xq.s1, .int .i64 xq.f0, .int .i64 xq.f1, .slice xq.iA xq.im xq.ic, .slice xq.hA xq.hm xq.hc] _ Hrq.out Tryz.underlying78 rfl rawSize ?_)
     rw [<- HW6.out]
     have hrow7 := heap_setCell_same W6 Wq.heap.size 7 _ _ (.slice none 0 0) Hb6.out
     simp at hrow7
     have hB7 := hB6.setCell (p := ⟨Wq.heap.size, 7, none⟩) (Nat.le_refl _) (.slice none 0 0)
     have hsz7 : (W6.setCell ⟨Wq.heap.size, 7, none⟩ (.slice none 0 0)).heap.size = W6.heap.size := by simp [World.setCell]
     have Hrow7 := Lib.hid hrow7
     have HB7 := Lib.hid hB7
     clear hrow7 hB7
     go_upto_region 17 with (fail)
     obtain ⟨W7, hW7⟩ : ∃ W7, W7 = W6.setCell ⟨Wq.heap.size, 7, none⟩ (.slice none 0 0) := ⟨_, rfl⟩
     have hrow7 := Hrow7.out
     have hB7 := HB7.out
     rw [<- hW7] at hrow7 hB7 hsz7 ⊢
     clear hW7 Hrow7 HB7 hz7 hzf
     have Hrow7 := Lib.hid hrow7
     have hb7r := hbq.trans (hB7.mono hqq)
     have hb37 := hbr.trans (hb7r.mono hqr)
     have hxat := ((Hx3.out l[k] (List.getElem_mem hql)).below hb37 (Nat.le_refl _)).more hb37.size
     rw [<- Hxq.out] at hxat
     have Hxa := Lib.hid hxat
     have hfew : xq.its.length <= 40 := by rw [Hxq.out]; exact (Raw.few_ok (Raw.ok_parts (Hall.out l[k] (List.getElem_mem hql))).2.2.1).1
     have him := hxat.hil
     have r7 : W7.cell? ⟨b, o + k * 9 + 7, none⟩ = some (.slice xq.iA xq.im xq.ic) := (hB7.cell (p := ⟨b, o + k * 9 + 7, none⟩) hbw).trans (Hrq.out 7 _ rfl)
     have R7 := Lib.hid r7
     have sX7 : Wq.heap.size < W7.heap.size := by omega
     have sb7 : b < W7.heap.size := by omega
     have Hb7r := Lib.hid hb7r
     have HB7 := Lib.hid hB7
     have own2 : W7.ownsRow W7.heap.size 82 7 (.slice none 0 0) 0 (((xq.its.drop (xq.its.length - 0)).reverse).flatMap Itm.cells) := ⟨by simp, .inl ⟨rfl, rfl⟩⟩
     have Own2 := Lib.hid own2
     clear hxat own2 hrow7 hb37
     go_wp2
     clear r7
     have HX3 := Lib.hid (Hx3.out l[k] (List.getElem_mem hql))
     rw [<- Hxq.out] at HX3
     have hb3q0 := hbr.trans (hbq.mono hqr)
     have Hb3q := Lib.hid hb3q0
     have hqq2 := hb3q0.size
     obtain ⟨i0, hi9, hz0, hz1, hz2⟩ := info_parts Hit.out
     go_loopw [11] (fun sv wz => ∃ (v2 : Value) (j2 : Nat), j2 <= xq.im /\ sv = .int .i64 ((xq.im : Int) - 1 - (j2 : Int)) /\ wz.heap[Wq.heap.size]? = some (.cells #[.int .i64 xq.ent, .int .i64 xq.meth, .int .i64 xq.since, .int .i64 xq.s0, .int .i64 xq.s1, .int .i64 xq.f0, .int .i64 xq.f1, v2, .slice xq.hA xq.hm xq.hc] 78 (0, 0)) /\ wz.ownsRow W7.heap.size 82 7 v2 j2 (((xq.its.drop (xq.its.length - j2)).reverse).flatMap Itm.cells) /\ W7.heap.size <= wz.heap.size /\ Below Wq.heap.size Wq wz) (fun sv _ => (intOf sv + 1).toNat)
     case atStart => exact ⟨_, 0, Nat.zero_le _, by simp, Hrow7.out, Own2.out, Nat.le_refl _, HB7.out⟩
     case round =>
      obtain ⟨v2, j2, hj2, rfl, hrow, hown2, hw7, hbz⟩ := hrel
      have Hrow := Lib.hid hrow
      have Hown2 := Lib.hid hown2
      have hqz := hbz.size
      have hXl := some_lt hrow
      have Hbz := Lib.hid hbz
      clear hrow hown2 hbz
      by_cases hlt2 : j2 < xq.im
      ·obtain ⟨q2, hq2⟩ : ∃ q2 : Nat, q2 = xq.im - 1 - j2 := ⟨_, rfl⟩
       have hqi2 : (xq.im : Int) - 1 - (j2 : Int) = (q2 : Int) := by omega
       have hj41 : j2 + 1 <= 41 := by omega
       have Hq2 := Lib.hid hq2
       have hq20 : (0 : Int) <= (q2 : Int) := by omega
       have hq2l : q2 < xq.its.length := by omega
       have hq2n : (q2 : Int) < xq.im := by omega
       rw [hqi2]
       obtain ⟨b2, o2, hA2, hb2B, hr2⟩ := RowsAt.look (RowsAt.below HX3.out.hiA Hb3q.out (Nat.le_refl _)) hq2l
       obtain ⟨zi, hzi⟩ : ∃ zi, zi = xq.its[q2] := ⟨_, rfl⟩
       rw [<- hzi] at hr2
       have hrt : (xq.its.drop (xq.its.length - (j2 + 1))).reverse = (xq.its.drop (xq.its.length - j2)).reverse ++ [zi] := by
        rw [rev_its (by omega), hzi]
        congr 2
        congr 1
        omega
       have HRT := Lib.hid hrt
       have Hr2 := Lib.hid hr2
       have hb2w : b2 < Wq.heap.size := by omega
       have c7 : Wq.cell? ⟨b, o + k * 9 + 7, none⟩ = some (.slice xq.iA xq.im xq.ic) := Hrq.out 7 _ rfl
       rw [hA2] at c7
       have C7 := Lib.hid c7
       have hS : Below Wq.heap.size Wq wr.drew := below_drawn Hbz.out 1
       have hrowz : wr.drew.heap[Wq.heap.size]? = some (.cells #[.int .i64 xq.ent, .int .i64 xq.meth, .int .i64 xq.since, .int .i64 xq.s0, .int .i64 xq.s1, .int .i64 xq.f0, .int .i64 xq.f1, v2, .slice xq.hA xq.hm xq.hc] 78 (0, 0)) := Hrow.out
       have hownz : wr.drew.ownsRow W7.heap.size 82 7 v2 j2 (((xq.its.drop (xq.its.length - j2)).reverse).flatMap Itm.cells) := Hown2.out.kept (grown_of_below_o (below_drawn (Below.refl _ _) 1)) (by cases v2.ownBlock <;> simp)
       have Hqi2 := Lib.hid hqi2
       clear hzi hr2 hA2 c7 hrt hqi2 hq2
       go_upto_region 20 with (fail)
       refine wp_region_held (S := Below Wq.heap.size Wq) (by kernel_rfl) ?_
       change wpAnyH _ _ _ _ _ _ _ _ (World.drew wr)
       obtain ⟨Wz, hWd⟩ : ∃ W0, W0 = wr.drew := ⟨_, rfl⟩
       have hzz : wr.heap.size = Wz.heap.size := by rw [hWd]; rfl
       rw [<- hWd] at hS hrowz hownz ⊢
       clear hWd
       refine tk (i := 0) (v := .pointer (some ⟨Wq.heap.size, 7, none⟩)) rfl (by kernel_rfl) (fun _ _ _ h => h) (.inl ⟨by rfl, fun W' hS' => by go_simp⟩) hS ?_
       try simp only [z]
       refine tk (i := 2) (v := .slice (some ⟨b, o, none⟩) n c) rfl (by kernel_rfl) (fun _ _ _ h => h) (.inl ⟨by rfl, fun W' hS' => by go_simp⟩) hS ?_
       try simp only [z]
       refine tk (i := 3) (v := .int .i64 k) rfl (by kernel_rfl) (fun _ _ _ h => h) (.inl ⟨by rfl, fun W' hS' => by go_simp⟩) hS ?_
       try simp only [z]
       refine tk (i := 4) (v := .pointer (some ⟨b, o + k * 9, none⟩)) rfl (by kernel_rfl) (fun _ _ _ h => h) (.inl ⟨by rfl, fun W' hS' => by go_simp⟩) hS ?_
       try simp only [z]
       refine tk (i := 5) (v := .pointer (some ⟨b, o + k * 9 + 7, none⟩)) rfl (by kernel_rfl) (fun _ _ _ h => h) (.inl ⟨by rfl, fun W' hS' => by go_simp⟩) hS ?_
       try simp only [z]
       refine tk (i := 6) (v := .slice (some ⟨b2, o2, none⟩) xq.im xq.ic) rfl (by kernel_rfl) (fun _ _ _ h => h) (.inl ⟨by rfl, fun W' hS' => by have hc := (hS'.cell (p := ⟨b, o + k * 9 + 7, none⟩) hbw).trans C7.out; have hl9 := Nat.lt_of_lt_of_le hbw hS'.size; go_simp⟩) hS ?_
       try simp only [z]
       refine tk (i := 7) (v := .int .i64 q2) rfl (by kernel_rfl) (fun _ _ _ h => h) (.inl ⟨by rfl, fun W' hS' => by go_simp⟩) hS ?_
       try simp only [z]
       refine tk (i := 8) (v := .pointer (some ⟨b2, o2 + q2 * 7, none⟩)) rfl (by kernel_rfl) (fun _ _ _ h => h) (.inl ⟨by rfl, fun W' hS' => by go_simp⟩) hS ?_
       try simp only [z]
       refine tk (i := 9) (v := .agg #[.int .i64 zi.ent0, .int .i64 zi.lin, .int .i64 zi.ent, .int .i64 zi.acct, .int .i64 zi.partner, .int .i64 zi.date, .int .i64 zi.amt]) rfl (by kernel_rfl) (fun _ _ _ h => h) (yieldsIf_load_mid (by rfl) 82 _ rfl b2 (o2 + q2 * 7) rfl [.int .i64 zi.ent0, .int .i64 zi.lin, .int .i64 zi.ent, .int .i64 zi.acct, .int .i64 zi.partner, .int .i64 zi.date, .int .i64 zi.amt] _ (fun W' hS' => range_below Hr2.out hS' hb2w) Tryz.underlying82 rfl itmSize38) hS ?_
       try simp only [z]
       refine wpAnyH_letters fun md' ops' Q' a' hlm hlo hlq hla => ?_
       have fin : Below Wq.heap.size Wq (Wz.alloc (.cells #[.int .i64 zi.ent0, .int .i64 zi.lin, .int .i64 zi.ent, .int .i64 zi.acct, .int .i64 zi.partner, .int .i64 zi.date, .int .i64 zi.amt] 82)) -> wpAnyH Tryz.prog md' ops' Q' (Below Wq.heap.size Wq) 3 #[true, true, true, true, true, true, true, true, true, true, true, false, false, false] ((a'.put (some 66) v2).put (some 75) (.slice (some ⟨Wz.heap.size, 0, none⟩) 1 1)) (Wz.alloc (.cells #[.int .i64 zi.ent0, .int .i64 zi.lin, .int .i64 zi.ent, .int .i64 zi.acct, .int .i64 zi.partner, .int .i64 zi.date, .int .i64 zi.amt] 82)) := by
        intro hS1
        subst hlm hlo hlq hla
        try simp only [z]
        have hownd := hownz.alloc (.cells #[.int .i64 zi.ent0, .int .i64 zi.lin, .int .i64 zi.ent, .int .i64 zi.acct, .int .i64 zi.partner, .int .i64 zi.date, .int .i64 zi.amt] 82)
        have hnew := cells_new Wz (Itm.cells zi) 82
        have hone : ∀ u ∈ Itm.cells zi, u.oneCell' = true := by
         intro u hu
         simp [Itm.cells] at hu
         rcases hu with h | h | h | h | h | h | h <;> (rw [h]; rfl)
        refine wpAnyH_ready (rs := [11]) (by kernel_rfl) (by simp) (AllReadyH.cons rfl (fun K hK => ?_) AllReadyH.nil)
        rw [if_pos (by rfl)]
        refine wp_append_own _ _ 60 rfl W7.heap.size 82 i0 (.agg #[.int .i64 0, .int .i64 0, .int .i64 0, .int .i64 0, .int .i64 0, .int .i64 0, .int .i64 0]) 7 56 Tryz.underlying60 hi9 hz0 hz1 hz2 rfl (by decide) v2 j2 _ rfl hownd ⟨Wz.heap.size, 0, none⟩ 1 1 (Itm.cells zi) rfl rfl hnew hone (by unfold maxLen; omega) (by omega) (by simp; omega) ?_
        intro v3 w9 hown' hgrow
        have hown3 : w9.ownsRow W7.heap.size 82 7 v3 (j2 + 1) (((xq.its.drop (xq.its.length - j2)).reverse ++ [zi]).flatMap Itm.cells) := by rw [List.flatMap_append]; simpa using hown'
        obtain ⟨A3, c3, hv3, _⟩ := own_flat (f := Itm.cells) (by omega) (fun _ => rfl) hown3 (by simp; omega)
        subst hv3
        have hw79 : W7.heap.size <= w9.heap.size := by have := hgrow.size; simp at this; omega
        have hS9 : Below Wq.heap.size Wq w9 := hS1.grown hgrow (by have := hS.size; simp; omega) (fun g hg => by have := own_base hownz g hg; omega)
        have hrow9 : w9.heap[Wq.heap.size]? = some (.cells #[.int .i64 xq.ent, .int .i64 xq.meth, .int .i64 xq.since, .int .i64 xq.s0, .int .i64 xq.s1, .int .i64 xq.f0, .int .i64 xq.f1, v2, .slice xq.hA xq.hm xq.hc] 78 (0, 0)) := by
         rw [hgrow.block _ (by simp; omega) (fun e => by have := own_base hownz _ e.symm; omega), Below.heap_alloc _ _ _ (by omega)]
         exact hrowz
        refine hK.out _ _ hS9 (fun _ => ?_)
        clear hK K
        try simp only [z]
        refine tk (i := 12) (v := .pointer (some ⟨Wq.heap.size, 7, none⟩)) rfl (by kernel_rfl) (fun _ _ _ h => h) (.inl ⟨by rfl, fun W' hS' => by go_simp⟩) hS9 ?_
        try simp only [z]
        refine wpAnyH_ready (rs := [13]) (by kernel_rfl) (by simp) (AllReadyH.cons rfl (fun K hK => ?_) AllReadyH.nil)
        have z7 := cell_of_row _ _ 7 _ _ _ hrow9
        have zf := fun j => frozen_of_row _ _ j _ _ hrow9
        have zl := some_lt hrow9
        simp at z7
        go_simp
        have hrowA := heap_setCell_same w9 Wq.heap.size 7 _ _ (.slice A3 (j2 + 1) c3) hrow9
        simp at hrowA
        have hS10 := hS9.setCell (p := ⟨Wq.heap.size, 7, none⟩) (Nat.le_refl _) (.slice A3 (j2 + 1) c3)
        have hownA := hown3.kept (grown_setCell_o w9 Wq.heap.size 7 (.slice A3 (j2 + 1) c3)) (by
         cases hv : (Value.slice A3 (j2 + 1) c3).ownBlock with
         | none => exact .inl rfl
         | some g => exact .inr (by have := own_base hown3 g hv; intro e; cases e; omega))
        refine hK.out _ _ hS10 (fun _ => ?_)
        clear hK K
        try simp only [z]
        refine wpAnyH_done (by kernel_rfl) ?_ _
        try simp only [z]
        have HrowA := Lib.hid hrowA
        have HownA := Lib.hid hownA
        have HS10 := Lib.hid hS10
        have hw7a : W7.heap.size <= (w9.setCell ⟨Wq.heap.size, 7, none⟩ (.slice A3 (j2 + 1) c3)).heap.size := by simpa [World.setCell] using hw79
        have HW7a := Lib.hid hw7a
        clear hw7a hrowA hownA hown3 hown' hS10 hS9 hrow9 z7 zf hS1 hS hrowz hownz
        go_upto_region 19 with (fail)
        go_wp2
        go_roundw
        case rel => exact ⟨_, j2 + 1, by omega, by rw [show (xq.im : Int) - 1 - ((j2 + 1 : Nat) : Int) = (q2 : Int) - 1 by have := Hqi2.out; omega], HrowA.out, by rw [HRT.out]; exact HownA.out, HW7a.out, HS10.out⟩
        case measure => have := Hqi2.out; have := Hq2.out; (simp [intOf]; try omega)
       have hSa : Below Wq.heap.size Wq (Wz.alloc (.cells #[.int .i64 zi.ent0, .int .i64 zi.lin, .int .i64 zi.ent, .int .i64 zi.acct, .int .i64 zi.partner, .int .i64 zi.date, .int .i64 zi.amt] 82)) := hS.alloc hS.size _
       have fin2 := fin hSa
       subst hlm hlo hlq hla
       try simp only [z] at fin2
       refine wpAnyH_ready (rs := [1, 10]) (by kernel_rfl) (by simp) (AllReadyH.cons rfl (fun K hK => ?_) (AllReadyH.cons rfl (fun K hK => ?_) AllReadyH.nil))
       ·skip
        have z7 := cell_of_row _ _ 7 _ _ _ hrowz
        have zl := some_lt hrowz
        simp at z7
        go_simp
        clear z7 zl
        refine hK.out _ _ hS (fun _ => ?_)
        clear hK K
        try simp only [z]
        refine wpAnyH_ready (rs := [10]) (by kernel_rfl) (by simp) (AllReadyH.cons rfl (fun K hK => ?_) AllReadyH.nil)
        go_simp
        refine hK.out _ _ hSa (fun _ => ?_)
        clear hK K
        try simp only [z]
        exact fin2
       ·skip
        go_simp
        refine hK.out _ _ hSa (fun _ => ?_)
        clear hK K
        try simp only [z]
        refine wpAnyH_ready (rs := [1]) (by kernel_rfl) (by simp) (AllReadyH.cons rfl (fun K hK => ?_) AllReadyH.nil)
        have hrowb : (Wz.alloc (.cells #[.int .i64 zi.ent0, .int .i64 zi.lin, .int .i64 zi.ent, .int .i64 zi.acct, .int .i64 zi.partner, .int .i64 zi.date, .int .i64 zi.amt] 82)).heap[Wq.heap.size]? = some (.cells #[.int .i64 xq.ent, .int .i64 xq.meth, .int .i64 xq.since, .int .i64 xq.s0, .int .i64 xq.s1, .int .i64 xq.f0, .int .i64 xq.f1, v2, .slice xq.hA xq.hm xq.hc] 78 (0, 0)) := by rw [Below.heap_alloc _ _ _ (by omega)]; exact hrowz
        have z7 := cell_of_row _ _ 7 _ _ _ hrowb
        have zl := some_lt hrowb
        simp at z7
        go_simp
        clear z7 zl
        refine hK.out _ _ hSa (fun _ => ?_)
        clear hK K
        try simp only [z]
        exact fin2
      ·obtain rfl : j2 = xq.im := by omega
       have hm1 : (xq.im : Int) - 1 - (xq.im : Int) = -1 := by omega
       rw [hm1]
       have hown := Hown2.out
       have htk : (xq.its.drop (xq.its.length - xq.im)).reverse = xq.its.reverse := by rw [him, Nat.sub_self, List.drop_zero]
       rw [htk] at hown
       obtain ⟨A2, c2, hve, hA2⟩ := own_flat (f := Itm.cells) (by omega) (fun _ => rfl) hown (by rw [List.length_reverse]; exact him.symm)
       subst hve
       have hty : ItmsTy wr A2 xq.its.reverse := itmsTy_own (by rw [List.length_reverse, him]; exact hown)
       obtain ⟨y, hy⟩ : ∃ y : Raw, y = { xq with iA := A2, im := xq.im, ic := c2, its := xq.its.reverse } := ⟨_, rfl⟩
       have hrv : Rv wr xq y := by rw [hy]; exact ⟨rfl, by rw [List.length_reverse]; exact him, hA2, hty⟩
       have hyc : Raw.cells y = [.int .i64 xq.ent, .int .i64 xq.meth, .int .i64 xq.since, .int .i64 xq.s0, .int .i64 xq.s1, .int .i64 xq.f0, .int .i64 xq.f1, .slice A2 xq.im c2, .slice xq.hA xq.hm xq.hc] := by rw [hy]; rfl
       have HRX := Lib.hid (range_row (cs := [.int .i64 xq.ent, .int .i64 xq.meth, .int .i64 xq.since, .int .i64 xq.s0, .int .i64 xq.s1, .int .i64 xq.f0, .int .i64 xq.f1, .slice A2 xq.im c2, .slice xq.hA xq.hm xq.hc]) Hrow.out)
       have hbow := hbq.trans (Hbz.out.mono hqq)
       have hownT := pOwns_below Hown.out hbow
       have hallT := Halls.out.imp (Q := Rv wr) fun _ _ h => h.below hbow
       have hSB := Lib.hid (hbr.trans (hbow.mono hqr))
       have hownU := hownT.alloc (.cells #[.int .i64 xq.ent, .int .i64 xq.meth, .int .i64 xq.since, .int .i64 xq.s0, .int .i64 xq.s1, .int .i64 xq.f0, .int .i64 xq.f1, .slice A2 xq.im c2, .slice xq.hA xq.hm xq.hc] 78)
       have hallU := hallT.imp (Q := Rv (wr.alloc (.cells #[.int .i64 xq.ent, .int .i64 xq.meth, .int .i64 xq.since, .int .i64 xq.s0, .int .i64 xq.s1, .int .i64 xq.f0, .int .i64 xq.f1, .slice A2 xq.im c2, .slice xq.hA xq.hm xq.hc] 78))) fun _ _ h => h.below ((Below.refl _ _).alloc (Nat.le_refl _) _)
       have hrvU : Rv (wr.alloc (.cells #[.int .i64 xq.ent, .int .i64 xq.meth, .int .i64 xq.since, .int .i64 xq.s0, .int .i64 xq.s1, .int .i64 xq.f0, .int .i64 xq.f1, .slice A2 xq.im c2, .slice xq.hA xq.hm xq.hc] 78)) xq y := hrv.below ((Below.refl _ _).alloc (Nat.le_refl _) _)
       have hnew := cells_new wr (Raw.cells y) 78
       rw [hyc] at hnew
       have hone : ∀ u ∈ Raw.cells y, u.oneCell' = true := by
        intro u hu
        rw [hyc] at hu
        simp only [List.mem_cons, List.not_mem_nil, or_false] at hu
        rcases hu with h | h | h | h | h | h | h | h | h <;> (rw [h]; rfl)
       rw [hyc] at hone
       have hq3r := hSB.out.size
       have HY := Lib.hid hyc
       have HownU := Lib.hid hownU
       have HallU := Lib.hid hallU
       have HrvU := Lib.hid hrvU
       obtain ⟨ir, hir, hr0, hr1, hr2⟩ := info_parts Hrow'.out
       clear hown htk hA2 hty hy hrv hyc hownT hallT hallU hrvU hm1
       go_upto_region 21 with (fail)
       go_wp2_with (first | (refine wpList_load_mid rfl 78 (.tmp 10) rfl Wq.heap.size 0 rfl [.int .i64 xq.ent, .int .i64 xq.meth, .int .i64 xq.since, .int .i64 xq.s0, .int .i64 xq.s1, .int .i64 xq.f0, .int .i64 xq.f1, .slice A2 xq.im c2, .slice xq.hA xq.hm xq.hc] _ HRX.out Tryz.underlying78 rfl rawSize ?_) | (at_builtin; refine wpList_append_own _ rfl _ _ 30 rfl W3.heap.size 78 ir (.agg #[.int .i64 0, .int .i64 0, .int .i64 0, .int .i64 0, .int .i64 0, .int .i64 0, .int .i64 0, .slice none 0 0, .slice none 0 0]) 9 104 Tryz.underlying30 hir hr0 hr1 hr2 rfl (by decide) _ _ _ rfl hownU ⟨wr.heap.size, 0, none⟩ 1 1 [.int .i64 xq.ent, .int .i64 xq.meth, .int .i64 xq.since, .int .i64 xq.s0, .int .i64 xq.s1, .int .i64 xq.f0, .int .i64 xq.f1, .slice A2 xq.im c2, .slice xq.hA xq.hm xq.hc] rfl rfl hnew hone (by unfold maxLen; omega) (by omega) (by simp; omega) ?_))
       intro v4 w9 hownN hgrow _
       have hoth := row_of_own HownU.out 82 (by decide)
       have hall9 := HallU.out.imp (Q := Rv w9) fun _ _ h => h.kept hgrow hoth
       have hrv9 := HrvU.out.kept hgrow hoth
       have hb9 := (hSB.out.alloc hSB.out.size (.cells #[.int .i64 xq.ent, .int .i64 xq.meth, .int .i64 xq.since, .int .i64 xq.s0, .int .i64 xq.s1, .int .i64 xq.f0, .int .i64 xq.f1, .slice A2 xq.im c2, .slice xq.hA xq.hm xq.hc] 78)).grown hgrow (by simp; omega) (fun g hg => own_base HownU.out g hg)
       have hAll : Alls (Rv w9) ((l.drop (l.length - (j + 1))).reverse) (R ++ [y]) := by
        rw [rev_take (show j < l.length by have := Hl.out; omega)]
        refine Alls.snoc ?_ hall9
        have e : l[l.length - 1 - j]'(by omega) = xq := by rw [Hxq.out]; congr 1; have := Hl.out; have := Hqi.out; omega
        rw [e]; exact hrv9
       have hOwn : w9.ownsRow W3.heap.size 78 9 v4 (j + 1) (rawRow (R ++ [y])) := by
        unfold rawRow
        rw [List.flatMap_append, List.flatMap_cons, List.flatMap_nil, List.append_nil, HY.out]
        exact hownN
       have hDis : Dis l (j + 1) := fun a b' hb' ha hle => by
        by_cases hbk : b' = k
        ·subst hbk; exact Hne.out a ha (Nat.le_refl _)
        ·exact Hdis.out a b' hb' ha (by have := Hl.out; have := Hqi.out; omega)
       have HAll := Lib.hid hAll
       have HOwn := Lib.hid hOwn
       have HDis := Lib.hid hDis
       have Hb9 := Lib.hid hb9
       clear hAll hOwn hDis hb9 hall9 hrv9 hoth hownN hgrow
       go_upto_region 9 with (fail)
       go_wp2
       go_roundw
       case rel => exact ⟨v4, j + 1, R ++ [y], rfl, by omega, by rw [show (n : Int) - 1 - ((j + 1 : Nat) : Int) = (k : Int) - 1 by have := Hqi.out; omega], by simp [HRl.out], HOwn.out, HAll.out, HDis.out, Hb9.out⟩
       case measure => have := Hqi.out; (simp [intOf]; try omega)
  ·obtain rfl : j = n := by omega
   have hm1 : (j : Int) - 1 - (j : Int) = -1 := by omega
   rw [hm1]
   have hdj : l.drop (l.length - j) = l := by have := Hl.out; rw [<- this, Nat.sub_self, List.drop_zero]
   have hall := Halls.out
   rw [hdj] at hall
   obtain ⟨At', ct, hve, hRR⟩ := raws_own Hown.out HRl.out
   subst hve
   have hdis : Dis l l.length := by have := Hdis.out; rw [<- Hl.out] at this; exact this
   have hpw := hdis.all
   have hx9 := (fun a ha => ((Hx3.out a ha).below hbr (Nat.le_refl _)).more hbr.size : ∀ a ∈ l, a.At wr wr.heap.size)
   have hRx : ∀ a ∈ R, a.At wr wr.heap.size := fun a ha => by
    obtain ⟨u, hu, hp⟩ := hall.mem a ha
    exact hp.at_ (hx9 u (List.mem_reverse.1 hu))
   have hRo : ∀ a ∈ R, a.ok = true := fun a ha => by
    obtain ⟨u, hu, hp⟩ := hall.mem a ha
    exact hp.ok (Hall.out u (List.mem_reverse.1 hu))
   have hRc : R.map Raw.cnt = ((l.map Raw.cnt).map Cnt.rv).reverse := by
    rw [hall.cnt, List.map_reverse, List.map_reverse]
   have HRc := Lib.hid hRc
   have Hpw := Lib.hid hpw
   have HRR := Lib.hid hRR
   have HRx := Lib.hid hRx
   have HRo := Lib.hid hRo
   have Hl9 := Lib.hid (RowsAt.below Hr3.out hbr (Nat.le_refl _))
   have Hlx := Lib.hid hx9
   have HB0r := Lib.hid (hB03.trans (hbr.mono hB03.size))
   have hszw := hbr.size
   clear hall hdj hdis hpw hx9 hRx hRo hRc hRR
   go_upto_region 22 with (fail)
   go_wp2_with (fail)
   refine (sample_any wr).mono ?_
   rintro e Y4 ⟨hD4, g, rfl, hg, hgs⟩
   obtain ⟨Y5, hY5, hD5, hg5, hy5⟩ := nw1 Y4 #[.string g.cur, .int .i64 g.Y, .int .i64 g.M, .int .i64 g.N, .slice g.cA g.cn g.cc, .int .i64 g.r0, .int .i64 g.r1, .int .i64 g.r2, .int .i64 g.r3, .int .i64 g.r4, .int .i64 g.r5, .int .i64 g.r6, .int .i64 g.r7, .int .i64 g.r8, .int .i64 g.r9, .int .i64 g.r10, .int .i64 g.r11, .int .i64 g.r12, .int .i64 g.r13, .int .i64 g.r14, .slice g.eA g.en g.ec] 29
   have HY5 := Lib.hid hY5
   have hDr5 := hD4.trans (hD5.mono hD4.size)
   have HB05 := Lib.hid (HB0r.out.trans (hDr5.mono HB0r.out.size))
   have Hga := Lib.hid (hg.at_ hD5)
   have Hg5 := Lib.hid hg5
   have sg5 := some_lt hg5
   have hrg5 := Lib.hid (grp_range hg5)
   have Hr5 := Lib.hid ((RowsAt.below Hl9.out (hDr5.mono hszw) (Nat.le_refl _)).more (Nat.le_trans hszw hDr5.size))
   have Hx5 := Lib.hid (fun a ha => ((Hlx.out a ha).below hDr5 (Nat.le_refl _)).more hDr5.size : ∀ a ∈ l, a.At Y5 Y5.heap.size)
   have HRR5 := Lib.hid (RowsAt.at_ HRR.out hDr5)
   have HRx5 := Lib.hid (fun a ha => ((HRx.out a ha).below hDr5 (Nat.le_refl _)).more hDr5.size : ∀ a ∈ R, a.At Y5 Y5.heap.size)
   have H8R := Lib.hid (show R.length <= 8 by have := HRl.out; have := Hl.out; have := H8.out; omega)
   obtain ⟨ln, hln⟩ : ∃ ln, ln = l.length := ⟨_, rfl⟩
   have Hln := Lib.hid hln
   rw [<- hln]
   obtain ⟨rn, hrn⟩ : ∃ rn, rn = R.length := ⟨_, rfl⟩
   have Hrn := Lib.hid hrn
   have HPQ : Hid (Gr.cpost g (R.map Raw.cnt) x = Gr.cpost g (l.map Raw.cnt) x) := by show _ = _; rw [HRc.out, Gr.cpost_rev Hpw.out]
   obtain ⟨kk, hkk⟩ : ∃ kk, kk = Po.pk 4 (Gr.cpost g (l.map Raw.cnt) x) := ⟨_, rfl⟩
   obtain ⟨ee, hee⟩ : ∃ ee, ee = Po.pk x (Gr.cpost g (l.map Raw.cnt) x) := ⟨_, rfl⟩
   obtain ⟨oo, hoo⟩ : ∃ oo, oo = Po.pk (-1) (Gr.cpost g (l.map Raw.cnt) x) := ⟨_, rfl⟩
   obtain ⟨ep, hep⟩ : ∃ ep, ep = (Gr.cpost g (l.map Raw.cnt) x).2 := ⟨_, rfl⟩
   obtain ⟨ps, hps⟩ : ∃ ps, ps = Po.pl (Gr.cpost g (l.map Raw.cnt) x) := ⟨_, rfl⟩
   obtain ⟨np, hnp⟩ : ∃ np, np = ps.length := ⟨_, rfl⟩
   have HKK := Lib.hid hkk
   have HEE := Lib.hid hee
   have HOO := Lib.hid hoo
   have HEP := Lib.hid hep
   have HPS := Lib.hid hps
   have HNP := Lib.hid hnp
   clear hkk hee hoo hep hps hnp
   obtain ⟨kkq, hkk⟩ : ∃ kk, kk = Po.pk 4 (Gr.cpost g (R.map Raw.cnt) x) := ⟨_, rfl⟩
   obtain ⟨eeq, hee⟩ : ∃ ee, ee = Po.pk x (Gr.cpost g (R.map Raw.cnt) x) := ⟨_, rfl⟩
   obtain ⟨ooq, hoo⟩ : ∃ oo, oo = Po.pk (-1) (Gr.cpost g (R.map Raw.cnt) x) := ⟨_, rfl⟩
   obtain ⟨epq, hep⟩ : ∃ ep, ep = (Gr.cpost g (R.map Raw.cnt) x).2 := ⟨_, rfl⟩
   obtain ⟨psq, hps⟩ : ∃ ps, ps = Po.pl (Gr.cpost g (R.map Raw.cnt) x) := ⟨_, rfl⟩
   obtain ⟨npq, hnp⟩ : ∃ np, np = psq.length := ⟨_, rfl⟩
   have HKKq := Lib.hid hkk
   have HEEq := Lib.hid hee
   have HOOq := Lib.hid hoo
   have HEPq := Lib.hid hep
   have HPSq := Lib.hid hps
   have HNPq := Lib.hid hnp
   clear hkk hee hoo hep hps hnp
   have HN4 : Hid (np <= 4) := by show _ <= _; rw [HNP.out, HPS.out]; exact Nat.le_trans (Po.pl_length _) (Gr.cpost_len _ _ _)
   have h1c : ∀ v ∈ (#[.string g.cur, .int .i64 g.Y, .int .i64 g.M, .int .i64 g.N, .slice g.cA g.cn g.cc, .int .i64 g.r0, .int .i64 g.r1, .int .i64 g.r2, .int .i64 g.r3, .int .i64 g.r4, .int .i64 g.r5, .int .i64 g.r6, .int .i64 g.r7, .int .i64 g.r8, .int .i64 g.r9, .int .i64 g.r10, .int .i64 g.r11, .int .i64 g.r12, .int .i64 g.r13, .int .i64 g.r14, .slice g.eA g.en g.ec] : Array Value).toList, v.oneCell' = true := by simp [Value.oneCell']
   clear hg hgs hY5 hg5 hy5 hln hrn
   go_upto_region 23 with (refine wpList_store_new rfl 29 _ _ rfl 29 _ #[.string g.cur, .int .i64 g.Y, .int .i64 g.M, .int .i64 g.N, .slice g.cA g.cn g.cc, .int .i64 g.r0, .int .i64 g.r1, .int .i64 g.r2, .int .i64 g.r3, .int .i64 g.r4, .int .i64 g.r5, .int .i64 g.r6, .int .i64 g.r7, .int .i64 g.r8, .int .i64 g.r9, .int .i64 g.r10, .int .i64 g.r11, .int .i64 g.r12, .int .i64 g.r13, .int .i64 g.r14, .slice g.eA g.en g.ec] rfl rfl rfl h1c grpSize ?_)
   clear h1c
   rw [<- HY5.out]
   have hS : Below Y5.heap.size Y5 Y5.drew := below_drawn (Below.refl _ _) 1
   refine wp_region_held (S := Below Y5.heap.size Y5) (by kernel_rfl) ?_
   change wpAnyH _ _ _ _ _ _ _ _ (World.drew Y5)
   obtain ⟨W_0, hWd⟩ : ∃ W0, W0 = Y5.drew := ⟨_, rfl⟩
   rw [<- hWd] at hS ⊢
   clear hWd
   refine tk (i := 0) (v := .agg #[.string g.cur, .int .i64 g.Y, .int .i64 g.M, .int .i64 g.N, .slice g.cA g.cn g.cc, .int .i64 g.r0, .int .i64 g.r1, .int .i64 g.r2, .int .i64 g.r3, .int .i64 g.r4, .int .i64 g.r5, .int .i64 g.r6, .int .i64 g.r7, .int .i64 g.r8, .int .i64 g.r9, .int .i64 g.r10, .int .i64 g.r11, .int .i64 g.r12, .int .i64 g.r13, .int .i64 g.r14, .slice g.eA g.en g.ec]) rfl (by kernel_rfl) (fun _ _ _ h => h) (yieldsIf_load_mid (by rfl) 29 _ rfl Y4.heap.size 0 rfl [.string g.cur, .int .i64 g.Y, .int .i64 g.M, .int .i64 g.N, .slice g.cA g.cn g.cc, .int .i64 g.r0, .int .i64 g.r1, .int .i64 g.r2, .int .i64 g.r3, .int .i64 g.r4, .int .i64 g.r5, .int .i64 g.r6, .int .i64 g.r7, .int .i64 g.r8, .int .i64 g.r9, .int .i64 g.r10, .int .i64 g.r11, .int .i64 g.r12, .int .i64 g.r13, .int .i64 g.r14, .slice g.eA g.en g.ec] _ (fun W' hS' => range_below hrg5.out hS' sg5) Tryz.underlying29 rfl grpSize) hS ?_
   try simp only [z]
   refine tk (i := 1) (v := .slice A j c) rfl (by kernel_rfl) (fun _ _ _ h => h) (.inl ⟨by rfl, fun W' hS' => by go_simp⟩) hS ?_
   try simp only [z]
   refine tk (i := 3) (v := .int .i64 x) rfl (by kernel_rfl) (fun _ _ _ h => h) (.inl ⟨by rfl, fun W' hS' => by go_simp⟩) hS ?_
   try simp only [z]
   have hV0 := hS.size
   refine wpAnyH_letters fun md' ops' Q' a' hlm hlo hlq hla => ?_
   obtain ⟨RG, hRG⟩ : ∃ R : World -> Prop, R = Below Y5.heap.size Y5 := ⟨_, rfl⟩
   rw [<- hRG] at hS ⊢
   have n2 : ∀ (m : Nat) (W : World) (Ao : Option Addr) (co : Nat) (ds : List Con) (Ap : Option Addr) (cp : Nat) (bp : Bool) (vp : Value) (pp : Nat), 2 + cond bp 0 1 <= m -> RG W -> W_0.heap.size <= W.heap.size -> (PrtsAt W W.heap.size Ap ps) -> (bp = true -> ps ≠ [] -> ∀ ad, Ap = some ad -> ad.block ≠ pp) -> Mk W_0 W bp vp pp #[.int .i64 0, .int .i64 0, .int .i64 0, .int .i64 0, .slice none 0 0] 49 -> wpAnyH Tryz.prog md' ops' Q' RG m #[true, true, true, true, true, true, true, true, bp, false, false] ((((((a'.put (some 86) (.slice Ao ln co)).put (some 88) (.tuple #[.agg #[.int .i64 kk, .int .i64 ee, .int .i64 oo, .int .i64 0, .slice Ap np cp], .int .i64 ep])).put (some 83) (.tuple #[.agg #[.int .i64 kk, .int .i64 ee, .int .i64 oo, .int .i64 0, .slice Ap np cp], .int .i64 ep])).put (some 89) (.agg #[.int .i64 kk, .int .i64 ee, .int .i64 oo, .int .i64 0, .slice Ap np cp])).put (some 90) (.int .i64 ep)).put (some 13) vp) W := by
    intro m
    induction m with
    | zero => intros; omega
    | succ m ih =>
    intro W Ao co ds Ap cp bp vp pp hm hS hz hPp hq Hp
    subst hlm hlo hlq hla hRG
    try simp only [z]
    by_cases hb : bp = true
    rotate_left
    ·refine wpAnyH_ready (rs := (cond bp [] [8] ++ [])) (by revert hb; cases bp <;> intro hb <;> first | exact absurd (by decide) hb | kernel_rfl) (by revert hb; cases bp <;> decide) (ropt (fun hp => .cons rfl (fun K hK => ?_) .nil) .nil)
     ·subst hp
      obtain ⟨W', hWn, hB, hrow, _⟩ := nw1 W #[.int .i64 0, .int .i64 0, .int .i64 0, .int .i64 0, .slice none 0 0] 49
      go_simp
      rw [<- hWn]
      clear hWn
      have hS' := hS.trans (hB.mono hS.size)
      refine hK.out _ _ hS' (fun _ => ?_)
      clear hK K
      try simp only [z]
      have hn := ih W' Ao co ds Ap cp true (.pointer (some ⟨W.heap.size, 0, none⟩)) W.heap.size (by simp only [cond_true, cond_false] at hm ⊢; omega) hS' (Nat.le_trans hz hB.size) (RowsAt.at_ hPp hB) (fun _ h ad e => Nat.ne_of_lt (RowsAt.lt hPp h ad e)) (fun _ => ⟨rfl, hz, hrow⟩) 
      try simp only [z] at hn
      exact hn
    subst hb
    obtain ⟨rfl, gp, hp⟩ := Hp rfl
    obtain ⟨m, rfl⟩ : ∃ k, m = k + 1 := ⟨m - 1, by simp only [cond_true] at hm; omega⟩
    clear ih hm
    refine wpAnyH_ready (rs := [9]) (by kernel_rfl) (by simp) (AllReadyH.cons rfl (fun K hK => ?_) AllReadyH.nil)
    rw [if_pos (by rfl)]
    refine wp_store_row 49 _ _ none rfl rfl pp 49 _ #[.int .i64 kk, .int .i64 ee, .int .i64 oo, .int .i64 0, .slice Ap np cp] rfl rfl hp rfl postSize (by simp [Value.oneCell']) ?_
    have hPb := RowsAt.stored hPp (hq rfl) #[.int .i64 kk, .int .i64 ee, .int .i64 oo, .int .i64 0, .slice Ap np cp]
    have hrw := setRow_heap W pp _ #[.int .i64 kk, .int .i64 ee, .int .i64 oo, .int .i64 0, .slice Ap np cp] _ _ hp
    have hS2 := below_setRow hS (Nat.le_trans (show Y5.heap.size <= W_0.heap.size from hV0) gp) #[.int .i64 kk, .int .i64 ee, .int .i64 oo, .int .i64 0, .slice Ap np cp]
    refine hK.out _ _ hS2 (fun _ => ?_)
    clear hK K
    try simp only [z]
    refine wpAnyH_ready (rs := [10]) (by kernel_rfl) (by simp) (AllReadyH.cons rfl (fun K hK => ?_) AllReadyH.nil)
    go_simp
    refine hK.out _ _ hS2 (fun _ => ?_)
    clear hK K
    try simp only [z]
    refine wpAnyH_done (by kernel_rfl) ?_ _
    try simp only [z]
    obtain ⟨W6, hWn⟩ : ∃ W6, W6 = W.setRow pp #[.int .i64 kk, .int .i64 ee, .int .i64 oo, .int .i64 0, .slice Ap np cp] := ⟨_, rfl⟩
    rw [<- hWn] at hrw hS2 hPb ⊢
    clear hWn hS hp hPp hq hz gp
    have hB06 := HB05.out.trans (hS2.mono HB05.out.size)
    have HP6 := Lib.hid hPb
    have Hp6 := Lib.hid hrw
    have sp6 := some_lt hrw
    have hgb6 := (hS2.block _ sg5).trans Hg5.out
    have hrg6 := Lib.hid (grp_range hgb6)
    have s6 := some_lt hgb6
    have Hga6 := Lib.hid (Hga.out.at_ hS2)
    have Hr6 := Lib.hid (RowsAt.at_ HRR5.out hS2)
    have Hx6 := Lib.hid (fun a ha => ((HRx5.out a ha).below hS2 (Nat.le_refl _)).more hS2.size : ∀ a ∈ R, a.At W6 W6.heap.size)
    have HB06 := Lib.hid hB06
    clear hrw hS2 hPb hB06 hgb6
    go_upto_region 24 with (fail)
    have hS : Below W6.heap.size W6 W6.drew := below_drawn (Below.refl _ _) 1
    refine wp_region_held (S := Below W6.heap.size W6) (by kernel_rfl) ?_
    change wpAnyH _ _ _ _ _ _ _ _ (World.drew W6)
    obtain ⟨W_0, hWd⟩ : ∃ W0, W0 = W6.drew := ⟨_, rfl⟩
    rw [<- hWd] at hS ⊢
    clear hWd
    refine tk (i := 0) (v := .agg #[.string g.cur, .int .i64 g.Y, .int .i64 g.M, .int .i64 g.N, .slice g.cA g.cn g.cc, .int .i64 g.r0, .int .i64 g.r1, .int .i64 g.r2, .int .i64 g.r3, .int .i64 g.r4, .int .i64 g.r5, .int .i64 g.r6, .int .i64 g.r7, .int .i64 g.r8, .int .i64 g.r9, .int .i64 g.r10, .int .i64 g.r11, .int .i64 g.r12, .int .i64 g.r13, .int .i64 g.r14, .slice g.eA g.en g.ec]) rfl (by kernel_rfl) (fun _ _ _ h => h) (yieldsIf_load_mid (by rfl) 29 _ rfl Y4.heap.size 0 rfl [.string g.cur, .int .i64 g.Y, .int .i64 g.M, .int .i64 g.N, .slice g.cA g.cn g.cc, .int .i64 g.r0, .int .i64 g.r1, .int .i64 g.r2, .int .i64 g.r3, .int .i64 g.r4, .int .i64 g.r5, .int .i64 g.r6, .int .i64 g.r7, .int .i64 g.r8, .int .i64 g.r9, .int .i64 g.r10, .int .i64 g.r11, .int .i64 g.r12, .int .i64 g.r13, .int .i64 g.r14, .slice g.eA g.en g.ec] _ (fun W' hS' => range_below hrg6.out hS' s6) Tryz.underlying29 rfl grpSize) hS ?_
    try simp only [z]
    refine tk (i := 1) (v := .slice At' j ct) rfl (by kernel_rfl) (fun _ _ _ h => h) (.inl ⟨by rfl, fun W' hS' => by go_simp⟩) hS ?_
    try simp only [z]
    refine tk (i := 3) (v := .int .i64 x) rfl (by kernel_rfl) (fun _ _ _ h => h) (.inl ⟨by rfl, fun W' hS' => by go_simp⟩) hS ?_
    try simp only [z]
    have hV0 := hS.size
    refine wpAnyH_letters fun md' ops' Q' a' hlm hlo hlq hla => ?_
    obtain ⟨RG, hRG⟩ : ∃ R : World -> Prop, R = Below W6.heap.size W6 := ⟨_, rfl⟩
    rw [<- hRG] at hS ⊢
    have n2 : ∀ (m : Nat) (W : World) (Ao : Option Addr) (co : Nat) (ds : List Con) (Aq : Option Addr) (cq : Nat) (bu : Bool) (vu : Value) (pu : Nat), 2 + cond bu 0 1 <= m -> RG W -> W_0.heap.size <= W.heap.size -> (PrtsAt W W.heap.size Aq psq) -> (bu = true -> psq ≠ [] -> ∀ ad, Aq = some ad -> ad.block ≠ pu) -> Mk W_0 W bu vu pu #[.int .i64 0, .int .i64 0, .int .i64 0, .int .i64 0, .slice none 0 0] 49 -> wpAnyH Tryz.prog md' ops' Q' RG m #[true, true, true, true, true, true, true, true, bu, false, false] ((((((a'.put (some 94) (.slice Ao rn co)).put (some 96) (.tuple #[.agg #[.int .i64 kkq, .int .i64 eeq, .int .i64 ooq, .int .i64 0, .slice Aq npq cq], .int .i64 epq])).put (some 91) (.tuple #[.agg #[.int .i64 kkq, .int .i64 eeq, .int .i64 ooq, .int .i64 0, .slice Aq npq cq], .int .i64 epq])).put (some 97) (.agg #[.int .i64 kkq, .int .i64 eeq, .int .i64 ooq, .int .i64 0, .slice Aq npq cq])).put (some 98) (.int .i64 epq)).put (some 15) vu) W := by
     intro m
     induction m with
     | zero => intros; omega
     | succ m ih =>
     intro W Ao co ds Aq cq bu vu pu hm hS hz hPp hq Hu
     subst hlm hlo hlq hla hRG
     try simp only [z]
     by_cases hb : bu = true
     rotate_left
     ·refine wpAnyH_ready (rs := (cond bu [] [8] ++ [])) (by revert hb; cases bu <;> intro hb <;> first | exact absurd (by decide) hb | kernel_rfl) (by revert hb; cases bu <;> decide) (ropt (fun hu => .cons rfl (fun K hK => ?_) .nil) .nil)
      ·subst hu
       obtain ⟨W', hWn, hB, hrow, _⟩ := nw1 W #[.int .i64 0, .int .i64 0, .int .i64 0, .int .i64 0, .slice none 0 0] 49
       go_simp
       rw [<- hWn]
       clear hWn
       have hS' := hS.trans (hB.mono hS.size)
       refine hK.out _ _ hS' (fun _ => ?_)
       clear hK K
       try simp only [z]
       have hn := ih W' Ao co ds Aq cq true (.pointer (some ⟨W.heap.size, 0, none⟩)) W.heap.size (by simp only [cond_true, cond_false] at hm ⊢; omega) hS' (Nat.le_trans hz hB.size) (RowsAt.at_ hPp hB) (fun _ h ad e => Nat.ne_of_lt (RowsAt.lt hPp h ad e)) (fun _ => ⟨rfl, hz, hrow⟩) 
       try simp only [z] at hn
       exact hn
     subst hb
     obtain ⟨rfl, gu, hu⟩ := Hu rfl
     obtain ⟨m, rfl⟩ : ∃ k, m = k + 1 := ⟨m - 1, by simp only [cond_true] at hm; omega⟩
     clear ih hm
     refine wpAnyH_ready (rs := [9]) (by kernel_rfl) (by simp) (AllReadyH.cons rfl (fun K hK => ?_) AllReadyH.nil)
     rw [if_pos (by rfl)]
     refine wp_store_row 49 _ _ none rfl rfl pu 49 _ #[.int .i64 kkq, .int .i64 eeq, .int .i64 ooq, .int .i64 0, .slice Aq npq cq] rfl rfl hu rfl postSize (by simp [Value.oneCell']) ?_
     have hPb := RowsAt.stored hPp (hq rfl) #[.int .i64 kkq, .int .i64 eeq, .int .i64 ooq, .int .i64 0, .slice Aq npq cq]
     have hrw := setRow_heap W pu _ #[.int .i64 kkq, .int .i64 eeq, .int .i64 ooq, .int .i64 0, .slice Aq npq cq] _ _ hu
     have hS2 := below_setRow hS (Nat.le_trans (show W6.heap.size <= W_0.heap.size from hV0) gu) #[.int .i64 kkq, .int .i64 eeq, .int .i64 ooq, .int .i64 0, .slice Aq npq cq]
     refine hK.out _ _ hS2 (fun _ => ?_)
     clear hK K
     try simp only [z]
     refine wpAnyH_ready (rs := [10]) (by kernel_rfl) (by simp) (AllReadyH.cons rfl (fun K hK => ?_) AllReadyH.nil)
     go_simp
     refine hK.out _ _ hS2 (fun _ => ?_)
     clear hK K
     try simp only [z]
     refine wpAnyH_done (by kernel_rfl) ?_ _
     try simp only [z]
     obtain ⟨W6q, hWn⟩ : ∃ W6, W6 = W.setRow pu #[.int .i64 kkq, .int .i64 eeq, .int .i64 ooq, .int .i64 0, .slice Aq npq cq] := ⟨_, rfl⟩
     rw [<- hWn] at hrw hS2 hPb ⊢
     clear hWn hS hu hPp hq hz gu
     have hB07 := HB06.out.trans (hS2.mono HB06.out.size)
     have Hp7 := Lib.hid (range_row (cs := [.int .i64 kk, .int .i64 ee, .int .i64 oo, .int .i64 0, .slice Ap np cp]) (gbox Hp6.out hS2 sp6))
     have HP7 := Lib.hid ((HP6.out.below hS2 (Nat.le_refl _)).more hS2.size)
     have eps : ps = psq := by rw [HPS.out, HPSq.out, HPQ.out]
     have enp : np = npq := by rw [HNP.out, HNPq.out, eps]
     have ekk : kk = kkq := by rw [HKK.out, HKKq.out, HPQ.out]
     have eee : ee = eeq := by rw [HEE.out, HEEq.out, HPQ.out]
     have eoo : oo = ooq := by rw [HOO.out, HOOq.out, HPQ.out]
     have eep : ep = epq := by rw [HEP.out, HEPq.out, HPQ.out]
     subst eps enp ekk eee eoo eep
     have Hq7 := Lib.hid (range_row (cs := [.int .i64 kk, .int .i64 ee, .int .i64 oo, .int .i64 0, .slice Aq np cq]) hrw)
     have HQ7 := Lib.hid (equald_same W6q kk ee oo 0 Ap Aq np cp cq ps HNP.out.symm (by have := HN4.out; omega) HP7.out hPb)
     have sp7 := some_lt (gbox Hp6.out hS2 sp6)
     have sq7 := some_lt hrw
     clear hrw hS2 hPb
     go_upto_region 25 with (fail)
     go_wp2_with (first | (refine wpList_load_want (by rfl) 49 (.tmp 13) rfl pp 0 rfl [.int .i64 kk, .int .i64 ee, .int .i64 oo, .int .i64 0, .slice Ap np cp] _ Hp7.out Tryz.underlying49 rfl postSize ?_) | (refine wpList_load_want (by rfl) 49 (.tmp 15) rfl pu 0 rfl [.int .i64 kk, .int .i64 ee, .int .i64 oo, .int .i64 0, .slice Aq np cq] _ Hq7.out Tryz.underlying49 rfl postSize ?_))
     refine HQ7.out.mono ?_
     rintro e Wz ⟨rfl, hBz⟩
     go_wp2
     go_ret
     exact ⟨rfl, hB07.trans (hBz.mono hB07.size)⟩
    have n1 : ∀ (m : Nat) (W : World) (Ao : Option Addr) (co : Nat) (ds : List Con) (bu : Bool) (vu : Value) (pu : Nat), 6 + cond bu 0 1 <= m -> RG W -> W_0.heap.size <= W.heap.size -> (ds.length = R.length) -> (ConsAt W W.heap.size Ao ds) -> (Hold (fun a b => a.Holds SD W W.heap.size b) ds (R.map Raw.cnt)) -> Mk W_0 W bu vu pu #[.int .i64 0, .int .i64 0, .int .i64 0, .int .i64 0, .slice none 0 0] 49 -> wpAnyH Tryz.prog md' ops' Q' RG m #[true, true, true, true, false, false, false, false, bu, false, false] ((a'.put (some 94) (.slice Ao rn co)).put (some 15) vu) W := by
     intro m
     induction m with
     | zero => intros; omega
     | succ m ih =>
     intro W Ao co ds bu vu pu hm hS hz hdl hds hdo Hu
     subst hlm hlo hlq hla hRG
     try simp only [z]
     refine wpAnyH_ready (rs := 4 :: (cond bu [] [8] ++ [])) (by cases bu <;> kernel_rfl) (by simp) (.cons rfl (fun K hK => ?_) (ropt (fun hu => .cons rfl (fun K hK => ?_) .nil) .nil))
     ·clear ih
      have Hof := Lib.hid (cpostd_any W g Ao rn co ds (R.map Raw.cnt) x (hdl.trans Hrn.out.symm) (by have := Hrn.out; have := H8R.out; omega) hds hdo (Hga6.out.at_ hS))
      go_simp
      refine Hof.out.mono ?_
      rintro e W' hpp
      obtain ⟨hB, Aq, cq, hfp, rfl, hPp⟩ := PostingPost.one hpp
      clear hpp
      rw [<- HPSq.out] at hPp
      rw [<- HKKq.out, <- HEEq.out, <- HOOq.out, <- HEPq.out, <- HPSq.out, <- HNPq.out]
      have hS' := hS.trans (hB.mono hS.size)
      refine hK.out _ _ hS' (fun _ => ?_)
      clear hK K
      try simp only [z]
      obtain ⟨m, rfl⟩ : ∃ k, m = k + 3 := ⟨m - 3, by omega⟩
      refine wpAnyH_take (i := 5) (v := .tuple #[.agg #[.int .i64 kkq, .int .i64 eeq, .int .i64 ooq, .int .i64 0, .slice Aq npq cq], .int .i64 epq]) rfl (by kernel_rfl) (by cases bu <;> kernel_rfl) (by cases bu <;> kernel_rfl) (fun _ _ _ h => h) (.inl ⟨by rfl, fun W' hS' => by go_simp⟩) hS' ?_
      try simp only [z]
      refine wpAnyH_take (i := 6) (v := .agg #[.int .i64 kkq, .int .i64 eeq, .int .i64 ooq, .int .i64 0, .slice Aq npq cq]) rfl (by kernel_rfl) (by cases bu <;> kernel_rfl) (by cases bu <;> kernel_rfl) (fun _ _ _ h => h) (.inl ⟨by rfl, fun W' hS' => by go_simp⟩) hS' ?_
      try simp only [z]
      refine wpAnyH_take (i := 7) (v := .int .i64 epq) rfl (by kernel_rfl) (by cases bu <;> kernel_rfl) (by cases bu <;> kernel_rfl) (fun _ _ _ h => h) (.inl ⟨by rfl, fun W' hS' => by go_simp⟩) hS' ?_
      try simp only [z]
      have hn := n2 m W' Ao co ds Aq cq bu vu pu (by omega) hS' (Nat.le_trans hz hB.size) (hPp) (fun hb _ ad e => Nat.ne_of_gt (Nat.lt_of_lt_of_le (some_lt (Hu hb).2.2) (hfp ad e))) (Hu.step hB)
      try simp only [z] at hn
      exact hn
     ·subst hu
      obtain ⟨W', hWn, hB, hrow, _⟩ := nw1 W #[.int .i64 0, .int .i64 0, .int .i64 0, .int .i64 0, .slice none 0 0] 49
      go_simp
      rw [<- hWn]
      clear hWn
      have hS' := hS.trans (hB.mono hS.size)
      refine hK.out _ _ hS' (fun _ => ?_)
      clear hK K
      try simp only [z]
      have hn := ih W' Ao co ds true (.pointer (some ⟨W.heap.size, 0, none⟩)) W.heap.size (by simp only [cond_true, cond_false] at hm ⊢; omega) hS' (Nat.le_trans hz hB.size) (hdl) (RowsAt.at_ hds hB) (hdo.imp (Q := fun a b => a.Holds SD W' W'.heap.size b) fun _ _ h => h.atD hB) (fun _ => ⟨rfl, hz, hrow⟩) 
      try simp only [z] at hn
      exact hn
    have n0 : ∀ (m : Nat) (W : World) (bu : Bool) (vu : Value) (pu : Nat), 7 + cond bu 0 1 <= m -> RG W -> W_0.heap.size <= W.heap.size -> Mk W_0 W bu vu pu #[.int .i64 0, .int .i64 0, .int .i64 0, .int .i64 0, .slice none 0 0] 49 -> wpAnyH Tryz.prog md' ops' Q' RG m #[true, true, false, true, false, false, false, false, bu, false, false] (a'.put (some 15) vu) W := by
     intro m
     induction m with
     | zero => intros; omega
     | succ m ih =>
     intro W bu vu pu hm hS hz Hu
     subst hlm hlo hlq hla hRG
     try simp only [z]
     refine wpAnyH_ready (rs := 2 :: (cond bu [] [8] ++ [])) (by cases bu <;> kernel_rfl) (by simp) (.cons rfl (fun K hK => ?_) (ropt (fun hu => .cons rfl (fun K hK => ?_) .nil) .nil))
     ·clear ih
      have Hown := Lib.hid (own38_any W At' j ct R HRl.out (by have := HRl.out; have := H8R.out; omega) (RowsAt.at_ Hr6.out hS) (fun a ha => ((Hx6.out a ha).below hS (Nat.le_refl _)).more hS.size) HRo.out)
      go_simp
      refine Hown.out.mono ?_
      rintro e W' ⟨hB, Ao, co, ds, rfl, hdl, hds, hdo⟩
      rw [<- Hrn.out]
      have hS' := hS.trans (hB.mono hS.size)
      refine hK.out _ _ hS' (fun _ => ?_)
      clear hK K
      try simp only [z]
      have hn := n1 m W' Ao co ds bu vu pu (by omega) hS' (Nat.le_trans hz hB.size) (hdl) (hds) (hdo) (Hu.step hB)
      try simp only [z] at hn
      exact hn
     ·subst hu
      obtain ⟨W', hWn, hB, hrow, _⟩ := nw1 W #[.int .i64 0, .int .i64 0, .int .i64 0, .int .i64 0, .slice none 0 0] 49
      go_simp
      rw [<- hWn]
      clear hWn
      have hS' := hS.trans (hB.mono hS.size)
      refine hK.out _ _ hS' (fun _ => ?_)
      clear hK K
      try simp only [z]
      have hn := ih W' true (.pointer (some ⟨W.heap.size, 0, none⟩)) W.heap.size (by simp only [cond_true, cond_false] at hm ⊢; omega) hS' (Nat.le_trans hz hB.size) (fun _ => ⟨rfl, hz, hrow⟩) 
      try simp only [z] at hn
      exact hn
    have hn := n0 _ W_0 false undef 0 (Nat.le_refl _) hS (Nat.le_refl _)  (fun h => nomatch h)
    subst hlm hlo hlq hla hRG
    exact hn
   have n1 : ∀ (m : Nat) (W : World) (Ao : Option Addr) (co : Nat) (ds : List Con) (bp : Bool) (vp : Value) (pp : Nat), 6 + cond bp 0 1 <= m -> RG W -> W_0.heap.size <= W.heap.size -> (ds.length = l.length) -> (ConsAt W W.heap.size Ao ds) -> (Hold (fun a b => a.Holds SD W W.heap.size b) ds (l.map Raw.cnt)) -> Mk W_0 W bp vp pp #[.int .i64 0, .int .i64 0, .int .i64 0, .int .i64 0, .slice none 0 0] 49 -> wpAnyH Tryz.prog md' ops' Q' RG m #[true, true, true, true, false, false, false, false, bp, false, false] ((a'.put (some 86) (.slice Ao ln co)).put (some 13) vp) W := by
    intro m
    induction m with
    | zero => intros; omega
    | succ m ih =>
    intro W Ao co ds bp vp pp hm hS hz hdl hds hdo Hp
    subst hlm hlo hlq hla hRG
    try simp only [z]
    refine wpAnyH_ready (rs := 4 :: (cond bp [] [8] ++ [])) (by cases bp <;> kernel_rfl) (by simp) (.cons rfl (fun K hK => ?_) (ropt (fun hp => .cons rfl (fun K hK => ?_) .nil) .nil))
    ·clear ih
     have Hof := Lib.hid (cpostd_any W g Ao ln co ds (l.map Raw.cnt) x (hdl.trans Hln.out.symm) (by have := Hln.out; have := H8.out; omega) hds hdo (Hga.out.at_ hS))
     go_simp
     refine Hof.out.mono ?_
     rintro e W' hpp
     obtain ⟨hB, Ap, cp, hfp, rfl, hPp⟩ := PostingPost.one hpp
     clear hpp
     rw [<- HPS.out] at hPp
     rw [<- HKK.out, <- HEE.out, <- HOO.out, <- HEP.out, <- HPS.out, <- HNP.out]
     have hS' := hS.trans (hB.mono hS.size)
     refine hK.out _ _ hS' (fun _ => ?_)
     clear hK K
     try simp only [z]
     obtain ⟨m, rfl⟩ : ∃ k, m = k + 3 := ⟨m - 3, by omega⟩
     refine wpAnyH_take (i := 5) (v := .tuple #[.agg #[.int .i64 kk, .int .i64 ee, .int .i64 oo, .int .i64 0, .slice Ap np cp], .int .i64 ep]) rfl (by kernel_rfl) (by cases bp <;> kernel_rfl) (by cases bp <;> kernel_rfl) (fun _ _ _ h => h) (.inl ⟨by rfl, fun W' hS' => by go_simp⟩) hS' ?_
     try simp only [z]
     refine wpAnyH_take (i := 6) (v := .agg #[.int .i64 kk, .int .i64 ee, .int .i64 oo, .int .i64 0, .slice Ap np cp]) rfl (by kernel_rfl) (by cases bp <;> kernel_rfl) (by cases bp <;> kernel_rfl) (fun _ _ _ h => h) (.inl ⟨by rfl, fun W' hS' => by go_simp⟩) hS' ?_
     try simp only [z]
     refine wpAnyH_take (i := 7) (v := .int .i64 ep) rfl (by kernel_rfl) (by cases bp <;> kernel_rfl) (by cases bp <;> kernel_rfl) (fun _ _ _ h => h) (.inl ⟨by rfl, fun W' hS' => by go_simp⟩) hS' ?_
     try simp only [z]
     have hn := n2 m W' Ao co ds Ap cp bp vp pp (by omega) hS' (Nat.le_trans hz hB.size) (hPp) (fun hb _ ad e => Nat.ne_of_gt (Nat.lt_of_lt_of_le (some_lt (Hp hb).2.2) (hfp ad e))) (Hp.step hB)
     try simp only [z] at hn
     exact hn
    ·subst hp
     obtain ⟨W', hWn, hB, hrow, _⟩ := nw1 W #[.int .i64 0, .int .i64 0, .int .i64 0, .int .i64 0, .slice none 0 0] 49
     go_simp
     rw [<- hWn]
     clear hWn
     have hS' := hS.trans (hB.mono hS.size)
     refine hK.out _ _ hS' (fun _ => ?_)
     clear hK K
     try simp only [z]
     have hn := ih W' Ao co ds true (.pointer (some ⟨W.heap.size, 0, none⟩)) W.heap.size (by simp only [cond_true, cond_false] at hm ⊢; omega) hS' (Nat.le_trans hz hB.size) (hdl) (RowsAt.at_ hds hB) (hdo.imp (Q := fun a b => a.Holds SD W' W'.heap.size b) fun _ _ h => h.atD hB) (fun _ => ⟨rfl, hz, hrow⟩) 
     try simp only [z] at hn
     exact hn
   have n0 : ∀ (m : Nat) (W : World) (bp : Bool) (vp : Value) (pp : Nat), 7 + cond bp 0 1 <= m -> RG W -> W_0.heap.size <= W.heap.size -> Mk W_0 W bp vp pp #[.int .i64 0, .int .i64 0, .int .i64 0, .int .i64 0, .slice none 0 0] 49 -> wpAnyH Tryz.prog md' ops' Q' RG m #[true, true, false, true, false, false, false, false, bp, false, false] (a'.put (some 13) vp) W := by
    intro m
    induction m with
    | zero => intros; omega
    | succ m ih =>
    intro W bp vp pp hm hS hz Hp
    subst hlm hlo hlq hla hRG
    try simp only [z]
    refine wpAnyH_ready (rs := 2 :: (cond bp [] [8] ++ [])) (by cases bp <;> kernel_rfl) (by simp) (.cons rfl (fun K hK => ?_) (ropt (fun hp => .cons rfl (fun K hK => ?_) .nil) .nil))
    ·clear ih
     have Hown := Lib.hid (own38_any W A j c l Hl.out (by have := Hl.out; have := H8.out; omega) (RowsAt.at_ Hr5.out hS) (fun a ha => ((Hx5.out a ha).below hS (Nat.le_refl _)).more hS.size) Hall.out)
     go_simp
     refine Hown.out.mono ?_
     rintro e W' ⟨hB, Ao, co, ds, rfl, hdl, hds, hdo⟩
     rw [<- Hln.out]
     have hS' := hS.trans (hB.mono hS.size)
     refine hK.out _ _ hS' (fun _ => ?_)
     clear hK K
     try simp only [z]
     have hn := n1 m W' Ao co ds bp vp pp (by omega) hS' (Nat.le_trans hz hB.size) (hdl) (hds) (hdo) (Hp.step hB)
     try simp only [z] at hn
     exact hn
    ·subst hp
     obtain ⟨W', hWn, hB, hrow, _⟩ := nw1 W #[.int .i64 0, .int .i64 0, .int .i64 0, .int .i64 0, .slice none 0 0] 49
     go_simp
     rw [<- hWn]
     clear hWn
     have hS' := hS.trans (hB.mono hS.size)
     refine hK.out _ _ hS' (fun _ => ?_)
     clear hK K
     try simp only [z]
     have hn := ih W' true (.pointer (some ⟨W.heap.size, 0, none⟩)) W.heap.size (by simp only [cond_true, cond_false] at hm ⊢; omega) hS' (Nat.le_trans hz hB.size) (fun _ => ⟨rfl, hz, hrow⟩) 
     try simp only [z] at hn
     exact hn
   have hn := n0 _ W_0 false undef 0 (Nat.le_refl _) hS (Nat.le_refl _)  (fun h => nomatch h)
   subst hlm hlo hlq hla hRG
   exact hn
end
end Go.Proofs.YtccapfbblnnfjaaGreat
