/- My texts MnNet, OnR, LawN39. -/
import Derived.Test.YtcblobokjhhboaaGreatK34
import Derived.Test.YtcblobokjhhboaaGreatK48
set_option linter.unusedVariables false
set_option linter.unusedSimpArgs false
set_option maxRecDepth 100000
set_option maxHeartbeats 8000000
namespace Go.Proofs.YtcblobokjhhboaaGreat
namespace Gr
def isNet (g : Grp) (a : Int) : Bool := decide (kind g a = 1) || decide (kind g a = 2)
def isOn (c : Int) (a : Int) : Bool := decide (a = c)
theorem net (g : Grp) (h5 : ∀ a, 0 <= kind g a /\ kind g a <= 5) (h7 : kind g g.r7 = 3) : ∀ its : List Itm, (∀ z ∈ its, kind g z.acct ≠ 0) -> sumOf (isResult g) its + (sumOf (isEquity g) its + -(sumAll its)) + sumOf (isOn g.r7) its = -(sumOf (isNet g) its)
 | [], _ => by simp [sumOf, sumAll]
 | z :: l, h => by
  have ih := net g h5 h7 l fun y hy => h y (List.mem_cons_of_mem _ hy)
  have hz := h z List.mem_cons_self
  have k5 := h5 z.acct
  have hs : sumAll (z :: l) = z.amt + sumAll l := by simp [sumAll, sumOf]
  rw [hs]
  simp only [sumOf]
  have e : (if isResult g z.acct = true then z.amt else 0) + ((if isEquity g z.acct = true then z.amt else 0) + -z.amt) + (if isOn g.r7 z.acct = true then z.amt else 0) = -(if isNet g z.acct = true then z.amt else 0) := by
   by_cases hr : z.acct = g.r7
   ·have hk : kind g z.acct = 3 := by rw [hr]; exact h7
    simp [isResult, isEquity, isOn, isNet, hk, hr, hr ▸ hk]
    try omega
   ·obtain ⟨k, hk⟩ : ∃ k, k = kind g z.acct := ⟨_, rfl⟩
    rw [<- hk] at hz k5
    have : k = 1 ∨ k = 2 ∨ k = 3 ∨ k = 4 ∨ k = 5 := by omega
    rcases this with e | e | e | e | e <;> subst e <;> simp [isResult, isEquity, isOn, isNet, <- hk, hr] <;> omega
  omega
end Gr
end Go.Proofs.YtcblobokjhhboaaGreat
namespace Go.Proofs.YtcblobokjhhboaaGreat
open Go.RowKit
section
variable (w : World)
theorem on38_any (A : Option Addr) (n c : Nat) (l : List Itm) (y : Int) (hl : l.length = n) (hn : n <= 1000) (hx : ∀ x ∈ l, x.small) (hA : ItmsAt w w.heap.size A l) :
  Calls Tryz.prog 33 #[.slice A n c, .int .i64 y] w fun e w' => e = .returned (.int .i64 (Gr.sumOf (Gr.isOn y) l)) /\ Below w.heap.size w w' := by
 have HA := Lib.hid hA
 have HX := Lib.hid hx
 have Hl := Lib.hid hl
 clear hA hx hl
 go_enter Tryz.func33, Tryz.ntmps33
 go_wp2
 go_loopw [5, 6] (fun s i wr => ∃ k : Nat, k <= n /\ i = .int .i64 k /\ s = .int .i64 (Gr.sumOf (Gr.isOn y) (l.take k)) /\ Below w.heap.size w wr) (fun _ i _ => n - (intOf i).toNat)
 case atStart => exact ⟨0, Nat.zero_le _, rfl, rfl, Below.refl _ _⟩
 case round =>
  obtain ⟨k, hk, rfl, rfl, hbr⟩ := hrel
  obtain ⟨s, hs⟩ : ∃ s, s = Gr.sumOf (Gr.isOn y) (l.take k) := ⟨_, rfl⟩
  obtain ⟨lo, hi⟩ := Gr.sumOf_take_small (P := Gr.isOn y) k Hl.out hn HX.out
  rw [<- hs] at lo hi ⊢
  have Hs := Lib.hid hs
  have hq := hbr.size
  clear hs
  by_cases hlt : k < n
  ·have hkl : k < l.length := by have := Hl.out; omega
   obtain ⟨b, o, hAe, hbB, hr, c3, c6⟩ := ItmsAt.seven (RowsAt.below HA.out hbr (Nat.le_refl _)) hkl
   cases hAe
   have hbw : b < wr.heap.size := by omega
   have hk0 : (0 : Int) <= (k : Int) := by omega
   have hkn : (k : Int) < n := by omega
   have hsm := HX.out _ (List.getElem_mem hkl)
   obtain ⟨sl, sh⟩ := hsm
   obtain ⟨am, ham⟩ : ∃ am, am = l[k].amt := ⟨_, rfl⟩
   obtain ⟨ac, hac⟩ : ∃ ac, ac = l[k].acct := ⟨_, rfl⟩
   rw [<- ham] at c6 sl sh
   rw [<- hac] at c3
   have HN : Hid (Gr.sumOf (Gr.isOn y) (l.take (k + 1)) = s + (if ac = y then am else 0)) := by
    show _ = _; rw [Gr.sumOf_take _ hkl, <- Hs.out, <- ham, <- hac]; simp [Gr.isOn]
   clear ham hac hr
   by_cases hay : ac = y
   ·have hb : (ac == y) = true := by simp [hay]
    have HN2 : Hid (Gr.sumOf (Gr.isOn y) (l.take (k + 1)) = s + am) := by show _ = _; rw [HN.out, if_pos hay]
    clear hay
    go_wp2
    go_roundw
    case rel => exact ⟨k + 1, by omega, by go_num, by rw [HN2.out], hbr⟩
    case measure => simp [intOf]; omega
   ·have hb : (ac == y) = false := by simp [hay]
    have HN2 : Hid (Gr.sumOf (Gr.isOn y) (l.take (k + 1)) = s) := by show _ = _; rw [HN.out, if_neg hay, Int.add_zero]
    clear hay
    go_wp2
    go_roundw
    case rel => exact ⟨k + 1, by omega, by go_num, by rw [HN2.out], hbr⟩
    case measure => simp [intOf]; omega
  ·obtain rfl : k = n := by omega
   have HV : Hid (Gr.sumOf (Gr.isOn y) l = s) := by
    show _ = _
    have := Hs.out
    rw [<- Hl.out, List.take_length] at this
    exact this.symm
   go_wp2
   go_ret
   exact ⟨by rw [HV.out]; rfl, hbr⟩
end
end Go.Proofs.YtcblobokjhhboaaGreat
namespace Go.Proofs.YtcblobokjhhboaaGreat
open Go.RowKit
theorem Smp.kinds5 {g : Grp} (h : Smp.Is g) : (∀ a, 0 <= Gr.kind g a /\ Gr.kind g a <= 5) /\ Gr.kind g g.r7 = 3 := by
 obtain ⟨A, c, eA, ec, x0, x1, x2, x3, rfl⟩ := h
 refine ⟨fun a => ?_, by kernel_rfl⟩
 have hall : ((Smp.grp A c eA ec x0 x1 x2 x3).chart.all fun b => decide (0 <= b.kind) && decide (b.kind <= 5)) = true := by kernel_rfl
 unfold Gr.kind Ch.found
 cases he : Ch.find (Smp.grp A c eA ec x0 x1 x2 x3).chart a with
 | none => simp [Acc.zero]
 | some b =>
  have := List.all_eq_true.1 hall b (Ch.find_some he).1
  simpa using this
theorem Gr.minor_zero {g : Grp} {m : List Cnt} {x fa fb fc fd er : Int} (h : Gr.minor g m x = ((fa, fb, fc, fd), er)) (hn : er ≠ 0 ∨ Cn.cfind m x = none ∨ x = 0 ∨ ∃ y, Cn.cfind m x = some y /\ y.meth ≠ 3) : fa = 0 /\ fb = 0 /\ fc = 0 /\ fd = 0 := by
 unfold Gr.minor at h
 split at h
 ·cases h; simp
 ·cases hf : Cn.cfind m x with
  | none => rw [hf] at h; cases h; simp
  | some y =>
   rw [hf] at h
   simp only [] at h
   split at h
   ·cases h; simp
   ·rename_i hc
    cases h
    rcases hn with h1 | h1 | h1 | ⟨z, h1, h2⟩
    ·exact absurd rfl h1
    ·rw [hf] at h1; cases h1
    ·exact absurd (.inl h1) hc
    ·rw [hf] at h1; cases h1; exact absurd (.inr h2) hc
theorem Gr.minor_some {g : Grp} {m : List Cnt} {x fa fb fc fd : Int} {y : Cnt} (h : Gr.minor g m x = ((fa, fb, fc, fd), 0)) (hc : Gr.check g x = 0) (hy : Cn.cfind m x = some y) (hx : x ≠ 0) (hm : y.meth = 3) : fa = Gr.sumOf (Gr.isResult g) y.its /\ fb = Gr.sumOf (Gr.isEquity g) y.its + -(Gr.sumAll y.its) := by
 unfold Gr.minor at h
 rw [if_neg (by rw [hc]; simp), hy] at h
 simp only [] at h
 rw [if_neg (by simp [hx, hm])] at h
 cases h; exact ⟨rfl, rfl⟩
theorem Gr.minor_check {g : Grp} {m : List Cnt} {x fa fb fc fd : Int} (h : Gr.minor g m x = ((fa, fb, fc, fd), 0)) : Gr.check g x = 0 := by
 unfold Gr.minor at h
 split at h
 ·exact congrArg (fun r => r.2) h
 ·rename_i hc; simpa using hc
section
variable (w : World)
theorem law_net (A : Option Addr) (n c : Nat) (l : List Raw) (x : Int) (hl : l.length = n) (hn : n <= maxLen) (hr : RawsAt w w.heap.size A l) (hx : ∀ a ∈ l, a.At w w.heap.size) (hwa : ∀ a ∈ l, ∀ z ∈ a.its, (Lit.int .i64 z.acct).wf = true) :
  Calls Tryz.prog 9 #[.slice A n c, .int .i64 x] w fun e w' => e = .returned (.bool true) /\ Below w.heap.size w w' := by
 have Hl := Lib.hid hl
 have Hr := Lib.hid hr
 have Hx := Lib.hid hx
 have Hwf : Hid (∀ y ∈ l.map Raw.cnt, ∀ z ∈ y.its, (Lit.int .i64 z.acct).wf = true) := Lib.hid fun y hy => by obtain ⟨a, ha, rfl⟩ := List.mem_map.1 hy; exact hwa a ha
 unfold maxLen at hn
 have Hn := Lib.hid hn
 clear hl hr hx hn hwa
 go_enter Tryz.func9, Tryz.ntmps9
 go_wp2_with (fail)
 refine (awake39_any w).mono ?_
 rintro e W2 ⟨rfl, hB2⟩
 have Hr2 := Lib.hid (RowsAt.at_ Hr.out hB2)
 have Hx2 := Lib.hid (fun a ha => ((Hx.out a ha).below hB2 (Nat.le_refl _)).more hB2.size : ∀ a ∈ l, a.At W2 W2.heap.size)
 go_wp2_with (fail)
 refine (contrr_any W2 A n c l Hl.out Hn.out Hr2.out Hx2.out).mono ?_
 rintro e W3 ⟨hB3, v, ok, rfl, hok⟩
 have hB03 := hB2.trans (hB3.mono hB2.size)
 have Hr3 := Lib.hid (RowsAt.at_ Hr2.out hB3)
 have Hx3 := Lib.hid (fun a ha => ((Hx2.out a ha).below hB3 (Nat.le_refl _)).more hB3.size : ∀ a ∈ l, a.At W3 W3.heap.size)
 cases ok with
 | false =>
  clear hok
  go_wp2
  go_ret
  exact ⟨rfl, hB03⟩
 | true =>
 obtain ⟨h8, hall, Ar, cr, cs, rfl, hcl, hcs, hho⟩ := hok rfl
 have H8 := Lib.hid h8
 have Hall := Lib.hid hall
 have Hcl := Lib.hid hcl
 have Hcs := Lib.hid hcs
 have Hho := Lib.hid hho
 have Hlr := Lib.hid (show l.length <= 1000 by omega)
 clear hok h8 hall hcl hcs hho
 go_wp2_with (fail)
 refine (sample_any W3).mono ?_
 rintro e W4 ⟨hB4, g, rfl, hg, hgs⟩
 have HGS := Lib.hid hgs
 have hB04 := hB03.trans (hB4.mono hB03.size)
 obtain ⟨hB5, hb5, hz5⟩ := row_new W4 #[.string g.cur, .int .i64 g.Y, .int .i64 g.M, .int .i64 g.N, .slice g.cA g.cn g.cc, .int .i64 g.r0, .int .i64 g.r1, .int .i64 g.r2, .int .i64 g.r3, .int .i64 g.r4, .int .i64 g.r5, .int .i64 g.r6, .int .i64 g.r7, .int .i64 g.r8, .int .i64 g.r9, .int .i64 g.r10, .int .i64 g.r11, .int .i64 g.r12, .int .i64 g.r13, .int .i64 g.r14, .slice g.eA g.en g.ec] 29
 obtain ⟨W5, hW5⟩ : ∃ W5, W5 = W4.alloc (.cells #[.string g.cur, .int .i64 g.Y, .int .i64 g.M, .int .i64 g.N, .slice g.cA g.cn g.cc, .int .i64 g.r0, .int .i64 g.r1, .int .i64 g.r2, .int .i64 g.r3, .int .i64 g.r4, .int .i64 g.r5, .int .i64 g.r6, .int .i64 g.r7, .int .i64 g.r8, .int .i64 g.r9, .int .i64 g.r10, .int .i64 g.r11, .int .i64 g.r12, .int .i64 g.r13, .int .i64 g.r14, .slice g.eA g.en g.ec] 29) := ⟨_, rfl⟩
 rw [<- hW5] at hB5 hb5 hz5
 have HW5 := Lib.hid hW5
 have hB35 := hB4.trans (hB5.mono hB4.size)
 have hB05 := hB04.trans (hB5.mono hB04.size)
 have Hga := Lib.hid (hg.at_ hB5)
 have Hb5 := Lib.hid hb5
 have s5 : W4.heap.size < W5.heap.size := by omega
 have Hr5 := Lib.hid (RowsAt.at_ Hr3.out hB35)
 have Hx5 := Lib.hid (fun a ha => ((Hx3.out a ha).below hB35 (Nat.le_refl _)).more hB35.size : ∀ a ∈ l, a.At W5 W5.heap.size)
 have Hcs5 := Lib.hid (RowsAt.at_ Hcs.out hB35)
 have Hho5 := Lib.hid (Hho.out.imp (Q := fun a b => a.Holds SR W5 W5.heap.size b) fun _ _ h => h.atR hB35)
 have hrg5 := Lib.hid (grp_range hb5)
 obtain ⟨⟨⟨fa, fb, fc, fd⟩, er⟩, has⟩ : ∃ r, Gr.minor g (l.map Raw.cnt) x = r := ⟨_, rfl⟩
 have HAS := Lib.hid has
 obtain ⟨ln, hln⟩ : ∃ ln, ln = l.length := ⟨_, rfl⟩
 have Hln := Lib.hid hln
 rw [<- hln]
 have h1c : ∀ v ∈ (#[.string g.cur, .int .i64 g.Y, .int .i64 g.M, .int .i64 g.N, .slice g.cA g.cn g.cc, .int .i64 g.r0, .int .i64 g.r1, .int .i64 g.r2, .int .i64 g.r3, .int .i64 g.r4, .int .i64 g.r5, .int .i64 g.r6, .int .i64 g.r7, .int .i64 g.r8, .int .i64 g.r9, .int .i64 g.r10, .int .i64 g.r11, .int .i64 g.r12, .int .i64 g.r13, .int .i64 g.r14, .slice g.eA g.en g.ec] : Array Value).toList, v.oneCell' = true := by simp [Value.oneCell']
 clear hg hgs hW5 hb5 hz5 has hln
 go_upto_region 7 with (refine wpList_store_new rfl 29 _ _ rfl 29 _ #[.string g.cur, .int .i64 g.Y, .int .i64 g.M, .int .i64 g.N, .slice g.cA g.cn g.cc, .int .i64 g.r0, .int .i64 g.r1, .int .i64 g.r2, .int .i64 g.r3, .int .i64 g.r4, .int .i64 g.r5, .int .i64 g.r6, .int .i64 g.r7, .int .i64 g.r8, .int .i64 g.r9, .int .i64 g.r10, .int .i64 g.r11, .int .i64 g.r12, .int .i64 g.r13, .int .i64 g.r14, .slice g.eA g.en g.ec] rfl rfl rfl h1c grpSize ?_)
 clear h1c
 rw [<- HW5.out]
 have hV0 : Below W5.heap.size W5 W5.drew := below_drawn (Below.refl _ _) 1
 refine wp_region_held (S := Below W5.heap.size W5) (by kernel_rfl) ?_
 change wpAnyH _ _ _ _ _ _ _ _ (World.drew W5)
 obtain ⟨W0, hWd⟩ : ∃ W0, W0 = W5.drew := ⟨_, rfl⟩
 rw [<- hWd] at hV0 ⊢
 clear hWd
 refine wpAnyH_take (i := 0) (v := .agg #[.string g.cur, .int .i64 g.Y, .int .i64 g.M, .int .i64 g.N, .slice g.cA g.cn g.cc, .int .i64 g.r0, .int .i64 g.r1, .int .i64 g.r2, .int .i64 g.r3, .int .i64 g.r4, .int .i64 g.r5, .int .i64 g.r6, .int .i64 g.r7, .int .i64 g.r8, .int .i64 g.r9, .int .i64 g.r10, .int .i64 g.r11, .int .i64 g.r12, .int .i64 g.r13, .int .i64 g.r14, .slice g.eA g.en g.ec]) rfl (by kernel_rfl) (by kernel_rfl) (by kernel_rfl) (fun _ _ _ h => h) (yieldsIf_load_mid (by rfl) 29 _ rfl W4.heap.size 0 rfl [.string g.cur, .int .i64 g.Y, .int .i64 g.M, .int .i64 g.N, .slice g.cA g.cn g.cc, .int .i64 g.r0, .int .i64 g.r1, .int .i64 g.r2, .int .i64 g.r3, .int .i64 g.r4, .int .i64 g.r5, .int .i64 g.r6, .int .i64 g.r7, .int .i64 g.r8, .int .i64 g.r9, .int .i64 g.r10, .int .i64 g.r11, .int .i64 g.r12, .int .i64 g.r13, .int .i64 g.r14, .slice g.eA g.en g.ec] _ (fun W' hS' => range_below hrg5.out hS' s5) Tryz.underlying29 rfl grpSize) hV0 ?_
 try simp only [Act.put, z]
 refine wpAnyH_take (i := 1) (v := .slice A n c) rfl (by kernel_rfl) (by kernel_rfl) (by kernel_rfl) (fun _ _ _ h => h) (.inl ⟨by rfl, fun W' hS' => by go_simp⟩) hV0 ?_
 try simp only [Act.put, z]
 refine wpAnyH_take (i := 3) (v := .int .i64 x) rfl (by kernel_rfl) (by kernel_rfl) (by kernel_rfl) (fun _ _ _ h => h) (.inl ⟨by rfl, fun W' hS' => by go_simp⟩) hV0 ?_
 try simp only [Act.put, z]
 refine wpAnyH_letters fun md' ops' Q' a' hlm hlo hlq hla => ?_
 have fin : ∀ (W' : World) (Ao : Option Addr) (co p : Nat), Below W5.heap.size W5 W' -> W5.heap.size <= p -> W'.heap[p]? = some (.cells #[.int .i64 0, .int .i64 0, .int .i64 0, .int .i64 0] 62 (0, 0)) -> wpAnyH Tryz.prog md' ops' Q' (Below W5.heap.size W5) 2 #[true, true, true, true, true, true, true, true, true, false, false] ((((((a'.put (some 29) (.slice Ao ln co)).put (some 31) (.tuple #[.agg #[.int .i64 fa, .int .i64 fb, .int .i64 fc, .int .i64 fd], .int .i64 er])).put (some 26) (.tuple #[.agg #[.int .i64 fa, .int .i64 fb, .int .i64 fc, .int .i64 fd], .int .i64 er])).put (some 32) (.agg #[.int .i64 fa, .int .i64 fb, .int .i64 fc, .int .i64 fd])).put (some 33) (.int .i64 er)).put (some 8) (.pointer (some ⟨p, 0, none⟩))) W' := by
  intro W' Ao co p hS hp hrw
  subst hlm hlo hlq hla
  try simp only [Act.put, z]
  refine wpAnyH_ready (rs := [9]) (by kernel_rfl) (by simp) (AllReadyH.cons rfl (fun K hK => ?_) AllReadyH.nil)
  rw [if_pos (by rfl)]
  refine wp_store_row 62 _ _ none rfl rfl p 62 _ #[.int .i64 fa, .int .i64 fb, .int .i64 fc, .int .i64 fd] rfl rfl hrw rfl figmSize (by simp [Value.oneCell']) ?_
  have hrw2 := setRow_heap W' p _ #[.int .i64 fa, .int .i64 fb, .int .i64 fc, .int .i64 fd] _ _ hrw
  have hS2 := below_setRow hS hp #[.int .i64 fa, .int .i64 fb, .int .i64 fc, .int .i64 fd]
  refine hK.out _ _ hS2 (fun _ => ?_)
  clear hK K
  try simp only [Act.put, z]
  refine wpAnyH_ready (rs := [10]) (by kernel_rfl) (by simp) (AllReadyH.cons rfl (fun K hK => ?_) AllReadyH.nil)
  go_simp
  refine hK.out _ _ hS2 (fun _ => ?_)
  clear hK K
  try simp only [Act.put, z]
  refine wpAnyH_done (by kernel_rfl) ?_ _
  try simp only [Act.put, z]
  obtain ⟨W6, hW6⟩ : ∃ W6, W6 = W'.setRow p #[.int .i64 fa, .int .i64 fb, .int .i64 fc, .int .i64 fd] := ⟨_, rfl⟩
  rw [<- hW6] at hrw2 hS2 ⊢
  clear hW6 hS hrw
  have hB06 := hB05.trans (hS2.mono hB05.size)
  have Hg6 := Lib.hid ((hS2.block _ s5).trans Hb5.out)
  have Hf6 := Lib.hid hrw2
  have spl := some_lt hrw2
  have Hga6 := Lib.hid (Hga.out.at_ hS2)
  have Hcs6 := Lib.hid (RowsAt.at_ Hcs5.out hS2)
  have Hho6 := Lib.hid (Hho5.out.imp (Q := fun a b => a.Holds SR W6 W6.heap.size b) fun _ _ h => h.atR hS2)
  clear hrw2
  go_wp2_with (fail)
  refine (confr_any W6 Ar ln cr cs x (Hcl.out.trans Hln.out.symm) (by have := Hln.out; have := Hlr.out; omega) Hcs6.out).mono ?_
  rintro e W7 ⟨rfl, hB7⟩
  have hB07 := hB06.trans (hB7.mono hB06.size)
  have HF := Lib.hid (Cn.find_hold (P := fun a b => a.Holds SR W6 W6.heap.size b) (fun _ _ h => h.he) x Hho6.out)
  obtain ⟨x0, hx0⟩ : ∃ x0, x0 = Cn.found cs x := ⟨_, rfl⟩
  obtain ⟨ok, hok⟩ : ∃ ok, ok = Cn.has cs x := ⟨_, rfl⟩
  rw [<- hx0, <- hok]
  have HX := Lib.hid hx0
  have HK := Lib.hid hok
  obtain ⟨hB8, hb8, hz8⟩ := row_new W7 #[.int .i64 x0.ent, .int .i64 x0.meth, .int .i64 x0.since, .bool x0.sg1, .slice x0.sA1 x0.sn1 x0.sc1, .bool x0.sg2, .slice x0.sA2 x0.sn2 x0.sc2, .bool x0.fg1, .slice x0.fA1 x0.fn1 x0.fc1, .bool x0.fg2, .slice x0.fA2 x0.fn2 x0.fc2, .slice x0.iA x0.im x0.ic, .slice x0.hA x0.hm x0.hc] 80
  obtain ⟨W8, hW8⟩ : ∃ W8, W8 = W7.alloc (.cells #[.int .i64 x0.ent, .int .i64 x0.meth, .int .i64 x0.since, .bool x0.sg1, .slice x0.sA1 x0.sn1 x0.sc1, .bool x0.sg2, .slice x0.sA2 x0.sn2 x0.sc2, .bool x0.fg1, .slice x0.fA1 x0.fn1 x0.fc1, .bool x0.fg2, .slice x0.fA2 x0.fn2 x0.fc2, .slice x0.iA x0.im x0.ic, .slice x0.hA x0.hm x0.hc] 80) := ⟨_, rfl⟩
  rw [<- hW8] at hB8 hb8 hz8
  have HW8 := Lib.hid hW8
  have hB68 := hB7.trans (hB8.mono hB7.size)
  have hB08 := hB07.trans (hB8.mono hB07.size)
  have Hf8 := Lib.hid (gbox Hf6.out hB68 spl)
  have Hg8 := Lib.hid (gbox Hg6.out hB68 (some_lt Hg6.out))
  have Hb8 := Lib.hid hb8
  have Hga8 := Lib.hid (Hga6.out.at_ hB68)
  have r1 := Lib.hid (range_row (cs := [.int .i64 fa, .int .i64 fb, .int .i64 fc, .int .i64 fd]) Hf8.out)
  have x1 := cell_of_row _ _ 1 _ _ _ hb8
  simp at x1
  have s8 : W7.heap.size < W8.heap.size := by omega
  have s8p := some_lt Hf8.out
  clear hx0 hok hb8 hz8 hW8
  go_upto_region 9 with (fail)
  rw [<- HW8.out]
  by_cases he : er = 0
  case neg =>
   have heb : (er != 0) = true := by simp [he]
   obtain ⟨rfl, rfl, rfl, rfl⟩ := Gr.minor_zero HAS.out (.inl he)
   clear he
   go_wp2_with (refine wpList_load_mid rfl 62 (.tmp 8) rfl p 0 rfl [.int .i64 0, .int .i64 0, .int .i64 0, .int .i64 0] _ r1.out Tryz.underlying62 rfl figmSize ?_)
   go_ret
   exact ⟨by simp, hB08⟩
  subst he
  by_cases hko : ok = true
  case neg =>
   have hko' : ok = false := by simpa using hko
   have hnf : Cn.cfind (l.map Raw.cnt) x = none := by
    rcases HF.out with ⟨h1, h2⟩ | ⟨a, b, h1, h2, h3⟩
    ·exact h2
    ·have := HK.out; rw [hko', Cn.has, h1] at this; simp at this
   rw [hko']
   obtain ⟨rfl, rfl, rfl, rfl⟩ := Gr.minor_zero HAS.out (.inr (.inl hnf))
   clear hko hko' hnf
   go_wp2_with (refine wpList_load_mid rfl 62 (.tmp 8) rfl p 0 rfl [.int .i64 0, .int .i64 0, .int .i64 0, .int .i64 0] _ r1.out Tryz.underlying62 rfl figmSize ?_)
   go_ret
   exact ⟨by simp, hB08⟩
  subst hko
  obtain ⟨y, hyf, hyh⟩ : ∃ y, Cn.cfind (l.map Raw.cnt) x = some y /\ x0.Holds SR W8 W8.heap.size y := by
   rcases HF.out with ⟨h1, h2⟩ | ⟨a, b, h1, h2, h3⟩
   ·have := HK.out; rw [Cn.has, h1] at this; simp at this
   ·refine ⟨b, h2, ?_⟩
    have e : x0 = a := by rw [HX.out, Cn.found, h1]; rfl
    rw [e]
    exact h3.atR hB68
  have HYF := Lib.hid hyf
  have HY := Lib.hid hyh
  have hme := hyh.hm
  clear hyf hyh
  by_cases hx : x = 0
  case pos =>
   have hxb : (x == 0) = true := by simp [hx]
   obtain ⟨rfl, rfl, rfl, rfl⟩ := Gr.minor_zero HAS.out (.inr (.inr (.inl hx)))
   clear hx hme
   go_wp2_with (refine wpList_load_mid rfl 62 (.tmp 8) rfl p 0 rfl [.int .i64 0, .int .i64 0, .int .i64 0, .int .i64 0] _ r1.out Tryz.underlying62 rfl figmSize ?_)
   go_ret
   exact ⟨by simp, hB08⟩
  have hxb : (x == 0) = false := by simp [hx]
  by_cases hmt : x0.meth = 3
  case neg =>
   have hmb : (x0.meth != 3) = true := by simp [hmt]
   obtain ⟨rfl, rfl, rfl, rfl⟩ := Gr.minor_zero HAS.out (.inr (.inr (.inr ⟨y, HYF.out, by rw [<- hme]; exact hmt⟩)))
   clear hx hmt hme
   go_wp2_with (refine wpList_load_mid rfl 62 (.tmp 8) rfl p 0 rfl [.int .i64 0, .int .i64 0, .int .i64 0, .int .i64 0] _ r1.out Tryz.underlying62 rfl figmSize ?_)
   go_ret
   exact ⟨by simp, hB08⟩
  have hmb : (x0.meth != 3) = false := by simp [hmt]
  obtain ⟨hfa, hfb⟩ := Gr.minor_some HAS.out (Gr.minor_check HAS.out) HYF.out hx (by rw [<- hme]; exact hmt)
  have HFA := Lib.hid hfa
  have HFB := Lib.hid hfb
  obtain ⟨k5, k7⟩ := Smp.kinds5 HGS.out
  have HK5 := Lib.hid k5
  have HK7 := Lib.hid k7
  have hilen := Lib.hid HY.out.hil
  have hin := HY.out.hin
  have g4 := cell_of_row _ _ 4 _ _ _ Hg8.out
  simp at g4
  have x11 := Lib.hid (show W8.cell? ⟨W7.heap.size, 11, none⟩ = some (.slice x0.iA x0.im x0.ic) by have := cell_of_row _ _ 11 _ _ _ Hb8.out; simpa using this)
  have G4 := Lib.hid g4
  have s8g := some_lt Hg8.out
  have hcn := Hga8.out.hcn
  have Hcl8 := Lib.hid Hga8.out.hcl
  clear hx hmt hme hfa hfb k5 k7 g4
  go_wp2
  clear x1
  go_loopw [12, 13] (fun s i wr => ∃ k : Nat, k <= x0.im /\ i = .int .i64 k /\ s = .int .i64 (Gr.sumOf (Gr.isNet g) (y.its.take k)) /\ (∀ z ∈ y.its.take k, Gr.kind g z.acct ≠ 0) /\ Below W8.heap.size W8 wr) (fun _ i _ => x0.im - (intOf i).toNat)
  case atStart => exact ⟨0, Nat.zero_le _, rfl, rfl, by simp, Below.refl _ _⟩
  case round =>
   obtain ⟨k, hk, rfl, rfl, hnz, hbr⟩ := hrel
   have Hnz := Lib.hid hnz
   have hqr := hbr.size
   have hyr := Lib.hid (HY.out.belowR hbr (Nat.le_refl _))
   obtain ⟨s, hs⟩ : ∃ s, s = Gr.sumOf (Gr.isNet g) (y.its.take k) := ⟨_, rfl⟩
   obtain ⟨lo, hi⟩ := Gr.sumOf_take_small (P := Gr.isNet g) k hilen.out (by omega) HY.out.hix
   rw [<- hs] at lo hi ⊢
   have Hs := Lib.hid hs
   have x11r := (hbr.cell (p := ⟨W7.heap.size, 11, none⟩) s8).trans x11.out
   have X11 := Lib.hid x11r
   have G4r := Lib.hid ((hbr.cell (p := ⟨W4.heap.size, 4, none⟩) s8g).trans G4.out)
   have swx : W7.heap.size < wr.heap.size := by omega
   have swg : W4.heap.size < wr.heap.size := by omega
   clear hnz hs
   by_cases hlt : k < x0.im
   ·have hkl : k < y.its.length := by have := hilen.out; omega
    obtain ⟨b, o, hAe, hbB, hr, c3, c6⟩ := ItmsAt.seven hyr.out.hiA hkl
    have hix0 : (k : Int) < x0.im := by omega
    have hk0 : (0 : Int) <= (k : Int) := by omega
    obtain ⟨zi, hzz⟩ : ∃ zi, zi = y.its[k] := ⟨_, rfl⟩
    rw [<- hzz] at c3 c6
    have Hzz := Lib.hid hzz
    obtain ⟨zl, zh⟩ : zi.small := by rw [hzz]; exact HY.out.hix _ (List.getElem_mem hkl)
    have HN : Hid (Gr.sumOf (Gr.isNet g) (y.its.take (k + 1)) = s + (if Gr.isNet g zi.acct = true then zi.amt else 0)) := by show _ = _; rw [Gr.sumOf_take _ hkl, <- Hzz.out, <- Hs.out]
    have HNZ : Hid (Gr.kind g zi.acct ≠ 0 -> ∀ u ∈ y.its.take (k + 1), Gr.kind g u.acct ≠ 0) := Lib.hid fun h u hu => by
     rw [List.take_succ_eq_append_getElem hkl, List.mem_append, List.mem_singleton] at hu
     rcases hu with hu | hu
     ·exact Hnz.out u hu
     ·rw [hu, <- Hzz.out]; exact h
    obtain ⟨ac, hac⟩ : ∃ ac, ac = zi.acct := ⟨_, rfl⟩
    obtain ⟨am, ham⟩ : ∃ am, am = zi.amt := ⟨_, rfl⟩
    obtain ⟨f, hf⟩ : ∃ f, f = Ch.found g.chart ac := ⟨_, rfl⟩
    obtain ⟨fh, hfh⟩ : ∃ fh, fh = Ch.has g.chart ac := ⟨_, rfl⟩
    rw [<- hac] at c3
    rw [<- ham] at c6 zl zh
    have HE : Hid (Gr.kind g zi.acct = f.kind) := by show _ = _; rw [Gr.kind, <- hac, <- hf]
    have HNE : Hid (Gr.isNet g zi.acct = (decide (f.kind = 1) || decide (f.kind = 2))) := by show _ = _; rw [Gr.isNet, HE.out]
    rw [<- ham] at HN
    have Hfe := Lib.hid hf
    have Hfhe := Lib.hid hfh
    have C3 := Lib.hid c3
    have C6 := Lib.hid c6
    have hAr := Lib.hid hAe
    have Hgr := Lib.hid (Hga8.out.below hbr (Nat.le_refl _))
    clear hr hzz hac ham hf hfh c3 c6 hAe
    have hV0 : Below wr.heap.size wr wr.drew := below_drawn (Below.refl _ _) 1
    go_upto_region 15 with (fail)
    refine wp_region_held (S := Below wr.heap.size wr) (by kernel_rfl) ?_
    change wpAnyH _ _ _ _ _ _ _ _ (World.drew wr)
    obtain ⟨W0, hWd⟩ : ∃ W0, W0 = wr.drew := ⟨_, rfl⟩
    rw [<- hWd] at hV0 ⊢
    clear hWd
    refine wpAnyH_take (i := 0) (v := .pointer (some ⟨W4.heap.size, 4, none⟩)) rfl (by kernel_rfl) (by kernel_rfl) (by kernel_rfl) (fun _ _ _ h => h) (.inl ⟨by rfl, fun W' hS' => by go_simp⟩) hV0 ?_
    try simp only [Act.put, z]
    refine wpAnyH_take (i := 1) (v := .slice g.cA g.cn g.cc) rfl (by kernel_rfl) (by kernel_rfl) (by kernel_rfl) (fun _ _ _ h => h) (.inl ⟨by rfl, fun W' hS' => by have hc := (hS'.cell (p := ⟨W4.heap.size, 4, none⟩) swg).trans G4r.out; go_simp⟩) hV0 ?_
    try simp only [Act.put, z]
    refine wpAnyH_take (i := 2) (v := .pointer (some ⟨W7.heap.size, 11, none⟩)) rfl (by kernel_rfl) (by kernel_rfl) (by kernel_rfl) (fun _ _ _ h => h) (.inl ⟨by rfl, fun W' hS' => by go_simp⟩) hV0 ?_
    try simp only [Act.put, z]
    refine wpAnyH_take (i := 3) (v := .slice x0.iA x0.im x0.ic) rfl (by kernel_rfl) (by kernel_rfl) (by kernel_rfl) (fun _ _ _ h => h) (.inl ⟨by rfl, fun W' hS' => by have hc := (hS'.cell (p := ⟨W7.heap.size, 11, none⟩) swx).trans X11.out; go_simp⟩) hV0 ?_
    try simp only [Act.put, z]
    refine wpAnyH_take (i := 4) (v := .int .i64 k) rfl (by kernel_rfl) (by kernel_rfl) (by kernel_rfl) (fun _ _ _ h => h) (.inl ⟨by rfl, fun W' hS' => by go_simp⟩) hV0 ?_
    try simp only [Act.put, z]
    refine wpAnyH_take (i := 5) (v := .pointer (some ⟨b, o + k * 7, none⟩)) rfl (by kernel_rfl) (by kernel_rfl) (by kernel_rfl) (fun _ _ _ h => h) (.inl ⟨by rfl, fun W' hS' => by have he := hAr.out; rw [he]; go_simp⟩) hV0 ?_
    try simp only [Act.put, z]
    refine wpAnyH_take (i := 6) (v := .pointer (some ⟨b, o + k * 7 + 3, none⟩)) rfl (by kernel_rfl) (by kernel_rfl) (by kernel_rfl) (fun _ _ _ h => h) (.inl ⟨by rfl, fun W' hS' => by go_simp⟩) hV0 ?_
    try simp only [Act.put, z]
    refine wpAnyH_take (i := 7) (v := .int .i64 ac) rfl (by kernel_rfl) (by kernel_rfl) (by kernel_rfl) (fun _ _ _ h => h) (.inl ⟨by rfl, fun W' hS' => by have hc := (hS'.cell (p := ⟨b, o + k * 7 + 3, none⟩) (show b < wr.heap.size by omega)).trans C3.out; go_simp⟩) hV0 ?_
    try simp only [Act.put, z]
    refine wpAnyH_letters fun md2 ops2 Q2 a2 hlm2 hlo2 hlq2 hla2 => ?_
    have fin2 : ∀ (W' : World) (p2 : Nat), Below wr.heap.size wr W' -> wr.heap.size <= p2 -> W'.heap[p2]? = some (.cells #[.int .i64 0, .int .i64 0, .int .i64 0, .int .i64 0] 84 (0, 0)) -> wpAnyH Tryz.prog md2 ops2 Q2 (Below wr.heap.size wr) 2 #[true, true, true, true, true, true, true, true, true, true, true, true, true, false, false] (((((a2.put (some 74) (.tuple #[.agg #[.int .i64 (f).code, .int .i64 (f).kind, .int .i64 (f).basis, .int .i64 (f).parent], .bool fh])).put (some 65) (.tuple #[.agg #[.int .i64 (f).code, .int .i64 (f).kind, .int .i64 (f).basis, .int .i64 (f).parent], .bool fh])).put (some 75) (.agg #[.int .i64 (f).code, .int .i64 (f).kind, .int .i64 (f).basis, .int .i64 (f).parent])).put (some 76) (.bool fh)).put (some 14) (.pointer (some ⟨p2, 0, none⟩))) W' := by
     intro W' p2 hS hp hrw
     subst hlm2 hlo2 hlq2 hla2
     try simp only [Act.put, z]
     refine wpAnyH_ready (rs := [13]) (by kernel_rfl) (by simp) (AllReadyH.cons rfl (fun K hK => ?_) AllReadyH.nil)
     rw [if_pos (by rfl)]
     refine wp_store_row 84 _ _ none rfl rfl p2 84 _ #[.int .i64 (f).code, .int .i64 (f).kind, .int .i64 (f).basis, .int .i64 (f).parent] rfl rfl hrw rfl accSize (by simp [Value.oneCell']) ?_
     have hrw2 := setRow_heap W' p2 _ #[.int .i64 (f).code, .int .i64 (f).kind, .int .i64 (f).basis, .int .i64 (f).parent] _ _ hrw
     have hS2 := below_setRow hS hp #[.int .i64 (f).code, .int .i64 (f).kind, .int .i64 (f).basis, .int .i64 (f).parent]
     refine hK.out _ _ hS2 (fun _ => ?_)
     clear hK K
     try simp only [Act.put, z]
     refine wpAnyH_ready (rs := [14]) (by kernel_rfl) (by simp) (AllReadyH.cons rfl (fun K hK => ?_) AllReadyH.nil)
     go_simp
     refine hK.out _ _ hS2 (fun _ => ?_)
     clear hK K
     try simp only [Act.put, z]
     refine wpAnyH_done (by kernel_rfl) ?_ _
     try simp only [Act.put, z]
     obtain ⟨W9, hW9⟩ : ∃ W9, W9 = W'.setRow p2 #[.int .i64 (f).code, .int .i64 (f).kind, .int .i64 (f).basis, .int .i64 (f).parent] := ⟨_, rfl⟩
     rw [<- hW9] at hrw2 hS2 ⊢
     clear hW9 hS hrw
     have hb9 := hbr.trans (hS2.mono hqr)
     have f1 := cell_of_row _ _ 1 _ _ _ hrw2
     have sp2 := some_lt hrw2
     simp at f1
     have x11n := (hS2.cell (p := ⟨W7.heap.size, 11, none⟩) swx).trans X11.out
     have c6n := (hS2.cell (p := ⟨b, o + k * 7 + 6, none⟩) (show b < wr.heap.size by omega)).trans C6.out
     have s9x : W7.heap.size < W9.heap.size := by have := hS2.size; omega
     have s9b : b < W9.heap.size := by have := hS2.size; omega
     have hAe := hAr.out
     rw [hAe] at x11n
     obtain ⟨kd, hkd⟩ : ∃ kd, kd = f.kind := ⟨_, rfl⟩
     rw [<- hkd] at f1 HE HNE
     clear hkd hrw2 hAe
     have Hb9 := Lib.hid hb9
     by_cases h1 : kd = 1
     ·have h1b : (kd == 1) = true := by simp [h1]
      have h0b : (kd == 0) = false := by simp [h1]
      have HB : Hid (Gr.isNet g zi.acct = true) := by show _ = _; rw [HNE.out]; simp [h1]
      have Hne : Hid (kd ≠ 0) := Lib.hid (by omega)
      clear h1
      go_wp2
      go_roundw
      case rel => exact ⟨k + 1, by omega, by go_num, by rw [HN.out, HB.out]; simp only [Bool.false_eq_true, if_true, if_false, Int.add_zero], HNZ.out (by rw [HE.out]; exact Hne.out), Hb9.out⟩
      case measure => simp [intOf]; omega
     have h1b : (kd == 1) = false := by simp [h1]
     by_cases h2 : kd = 2
     ·have h2b : (kd == 2) = true := by simp [h2]
      have h0b : (kd == 0) = false := by simp [h2]
      have HB : Hid (Gr.isNet g zi.acct = true) := by show _ = _; rw [HNE.out]; simp [h2]
      have Hne : Hid (kd ≠ 0) := Lib.hid (by omega)
      clear h1 h2
      go_wp2
      go_roundw
      case rel => exact ⟨k + 1, by omega, by go_num, by rw [HN.out, HB.out]; simp only [Bool.false_eq_true, if_true, if_false, Int.add_zero], HNZ.out (by rw [HE.out]; exact Hne.out), Hb9.out⟩
      case measure => simp [intOf]; omega
     have h2b : (kd == 2) = false := by simp [h2]
     have HB : Hid (Gr.isNet g zi.acct = false) := by show _ = _; rw [HNE.out]; simp [h1, h2]
     by_cases h0 : kd = 0
     ·have h0b : (kd == 0) = true := by simp [h0]
      clear h0 h1 h2
      go_wp2
      go_ret
      exact ⟨rfl, hB08.trans (Hb9.out.mono hB08.size)⟩
     have h0b : (kd == 0) = false := by simp [h0]
     have Hne : Hid (kd ≠ 0) := Lib.hid h0
     clear h0 h1 h2
     go_wp2
     go_roundw
     case rel => exact ⟨k + 1, by omega, by go_num, by rw [HN.out, HB.out]; simp only [Bool.false_eq_true, if_true, if_false, Int.add_zero], HNZ.out (by rw [HE.out]; exact Hne.out), Hb9.out⟩
     case measure => simp [intOf]; omega
    subst hlm2 hlo2 hlq2 hla2
    refine wpAnyH_ready (rs := [8, 12]) (by kernel_rfl) (by simp) (AllReadyH.cons rfl (fun K hK => ?_) (AllReadyH.cons rfl (fun K hK => ?_) AllReadyH.nil))
    ·skip
     have hA := RowsAt.at_ (RowsAt.below Hgr.out.hc (Below.refl _ _) (Nat.le_refl _) |>.more hqr) hV0
     go_simp
     refine (findr_any W0 g.cA g.cn g.cc g.chart ac Hcl8.out (by omega) hA).mono ?_
     rw [<- Hfe.out, <- Hfhe.out]
     rintro e V1 ⟨rfl, hBf⟩
     have hVf := hV0.trans (hBf.mono hV0.size)
     clear hA
     refine hK.out _ _ hVf (fun _ => ?_)
     clear hK K
     try simp only [Act.put, z]
     refine wpAnyH_take (i := 9) (v := .tuple #[.agg #[.int .i64 (f).code, .int .i64 (f).kind, .int .i64 (f).basis, .int .i64 (f).parent], .bool fh]) rfl (by kernel_rfl) (by kernel_rfl) (by kernel_rfl) (fun _ _ _ h => h) (.inl ⟨by rfl, fun W' hS' => by go_simp⟩) hVf ?_
     try simp only [Act.put, z]
     refine wpAnyH_take (i := 10) (v := .agg #[.int .i64 (f).code, .int .i64 (f).kind, .int .i64 (f).basis, .int .i64 (f).parent]) rfl (by kernel_rfl) (by kernel_rfl) (by kernel_rfl) (fun _ _ _ h => h) (.inl ⟨by rfl, fun W' hS' => by go_simp⟩) hVf ?_
     try simp only [Act.put, z]
     refine wpAnyH_take (i := 11) (v := .bool fh) rfl (by kernel_rfl) (by kernel_rfl) (by kernel_rfl) (fun _ _ _ h => h) (.inl ⟨by rfl, fun W' hS' => by go_simp⟩) hVf ?_
     try simp only [Act.put, z]
     refine wpAnyH_ready (rs := [12]) (by kernel_rfl) (by simp) (AllReadyH.cons rfl (fun K hK => ?_) AllReadyH.nil)
     obtain ⟨hBa, hrw, _⟩ := row_new V1 #[.int .i64 0, .int .i64 0, .int .i64 0, .int .i64 0] 84
     go_simp
     obtain ⟨V2, hWn⟩ : ∃ V2, V2 = V1.alloc (.cells #[.int .i64 0, .int .i64 0, .int .i64 0, .int .i64 0] 84) := ⟨_, rfl⟩
     rw [<- hWn] at hBa hrw ⊢
     clear hWn
     have hVa := hVf.trans (hBa.mono hVf.size)
     refine hK.out _ _ hVa (fun _ => ?_)
     clear hK K
     try simp only [Act.put, z]
     have hn := fin2 V2 V1.heap.size hVa hVf.size hrw
     try simp only [Act.put, z] at hn
     exact hn
    ·skip
     obtain ⟨hBa, hrw, _⟩ := row_new W0 #[.int .i64 0, .int .i64 0, .int .i64 0, .int .i64 0] 84
     go_simp
     obtain ⟨V1, hWn⟩ : ∃ V1, V1 = W0.alloc (.cells #[.int .i64 0, .int .i64 0, .int .i64 0, .int .i64 0] 84) := ⟨_, rfl⟩
     rw [<- hWn] at hBa hrw ⊢
     clear hWn
     have hVa := hV0.trans (hBa.mono hV0.size)
     refine hK.out _ _ hVa (fun _ => ?_)
     clear hK K
     try simp only [Act.put, z]
     refine wpAnyH_ready (rs := [8]) (by kernel_rfl) (by simp) (AllReadyH.cons rfl (fun K hK => ?_) AllReadyH.nil)
     have hA := RowsAt.at_ (RowsAt.below Hgr.out.hc (Below.refl _ _) (Nat.le_refl _) |>.more hqr) hVa
     go_simp
     refine (findr_any V1 g.cA g.cn g.cc g.chart ac Hcl8.out (by omega) hA).mono ?_
     rw [<- Hfe.out, <- Hfhe.out]
     rintro e V2 ⟨rfl, hBf⟩
     have hVf := hVa.trans (hBf.mono hVa.size)
     clear hA
     refine hK.out _ _ hVf (fun _ => ?_)
     clear hK K
     try simp only [Act.put, z]
     refine wpAnyH_take (i := 9) (v := .tuple #[.agg #[.int .i64 (f).code, .int .i64 (f).kind, .int .i64 (f).basis, .int .i64 (f).parent], .bool fh]) rfl (by kernel_rfl) (by kernel_rfl) (by kernel_rfl) (fun _ _ _ h => h) (.inl ⟨by rfl, fun W' hS' => by go_simp⟩) hVf ?_
     try simp only [Act.put, z]
     refine wpAnyH_take (i := 10) (v := .agg #[.int .i64 (f).code, .int .i64 (f).kind, .int .i64 (f).basis, .int .i64 (f).parent]) rfl (by kernel_rfl) (by kernel_rfl) (by kernel_rfl) (fun _ _ _ h => h) (.inl ⟨by rfl, fun W' hS' => by go_simp⟩) hVf ?_
     try simp only [Act.put, z]
     refine wpAnyH_take (i := 11) (v := .bool fh) rfl (by kernel_rfl) (by kernel_rfl) (by kernel_rfl) (fun _ _ _ h => h) (.inl ⟨by rfl, fun W' hS' => by go_simp⟩) hVf ?_
     try simp only [Act.put, z]
     have hn := fin2 V2 W0.heap.size hVf hV0.size (gbox hrw hBf (some_lt hrw))
     try simp only [Act.put, z] at hn
     exact hn
   ·obtain rfl : k = x0.im := by omega
    have htk : y.its.take x0.im = y.its := List.take_of_length_le (by have := hilen.out; omega)
    have hz := Hnz.out
    rw [htk] at hz
    have hnet := Gr.net g HK5.out HK7.out y.its hz
    have hse := Hs.out
    rw [htk] at hse
    rw [<- hse, <- HFB.out, <- HFA.out] at hnet
    obtain ⟨on, hon⟩ : ∃ on, on = Gr.sumOf (Gr.isOn g.r7) y.its := ⟨_, rfl⟩
    rw [<- hon] at hnet
    have Hon := Lib.hid hon
    have rb := Gr.sumOf_bd (Gr.isResult g) y.its HY.out.hix
    have eb := Gr.sumOf_bd (Gr.isEquity g) y.its HY.out.hix
    have tb := Gr.sumOf_bd (fun _ => true) y.its HY.out.hix
    have ob := Gr.sumOf_bd (Gr.isOn g.r7) y.its HY.out.hix
    have te : Gr.sumOf (fun _ => true) y.its = Gr.sumAll y.its := rfl
    rw [te] at tb
    rw [<- hon] at ob
    obtain ⟨ba, bb⟩ : (-100000000000000 <= fa /\ fa <= 100000000000000) /\ -100000000000000 <= fb /\ fb <= 100000000000000 := by have h1 := HFA.out; have h2 := HFB.out; have h3 := hilen.out; omega
    have bo : -100000000000000 <= on /\ on <= 100000000000000 := by have h3 := hilen.out; omega
    have HEQ : Hid (fa + fb + on = -s) := Lib.hid hnet
    have hbs : (fa + fb + on == -s) = true := by simp [hnet]
    have Hbs := Lib.hid hbs
    have hfr := gbox Hf8.out hbr s8p
    have hgr := gbox Hg8.out hbr s8g
    have p0 := Lib.hid (show wr.cell? ⟨p, 0, none⟩ = some (.int .i64 fa) by have := cell_of_row _ _ 0 _ _ _ hfr; simpa using this)
    have p1 := Lib.hid (show wr.cell? ⟨p, 1, none⟩ = some (.int .i64 fb) by have := cell_of_row _ _ 1 _ _ _ hfr; simpa using this)
    have g12 := Lib.hid (show wr.cell? ⟨W4.heap.size, 12, none⟩ = some (.int .i64 g.r7) by have := cell_of_row _ _ 12 _ _ _ hgr; simpa using this)
    have spr : p < wr.heap.size := some_lt hfr
    have hB0r := hB08.trans (hbr.mono hB08.size)
    have hV0 : Below wr.heap.size wr wr.drew := below_drawn (Below.refl _ _) 1
    clear hz hnet hse hon rb eb tb ob te hfr hgr htk hbs
    go_upto_region 20 with (fail)
    refine wp_region_held (S := Below wr.heap.size wr) (by kernel_rfl) ?_
    change wpAnyH _ _ _ _ _ _ _ _ (World.drew wr)
    obtain ⟨W0, hWd⟩ : ∃ W0, W0 = wr.drew := ⟨_, rfl⟩
    rw [<- hWd] at hV0 ⊢
    clear hWd
    refine wpAnyH_take (i := 0) (v := .pointer (some ⟨p, 0, none⟩)) rfl (by kernel_rfl) (by kernel_rfl) (by kernel_rfl) (fun _ _ _ h => h) (.inl ⟨by rfl, fun W' hS' => by go_simp⟩) hV0 ?_
    try simp only [Act.put, z]
    refine wpAnyH_take (i := 1) (v := .int .i64 fa) rfl (by kernel_rfl) (by kernel_rfl) (by kernel_rfl) (fun _ _ _ h => h) (.inl ⟨by rfl, fun W' hS' => by have hc := (hS'.cell (p := ⟨p, 0, none⟩) spr).trans p0.out; go_simp⟩) hV0 ?_
    try simp only [Act.put, z]
    refine wpAnyH_take (i := 2) (v := .pointer (some ⟨p, 1, none⟩)) rfl (by kernel_rfl) (by kernel_rfl) (by kernel_rfl) (fun _ _ _ h => h) (.inl ⟨by rfl, fun W' hS' => by go_simp⟩) hV0 ?_
    try simp only [Act.put, z]
    refine wpAnyH_take (i := 3) (v := .int .i64 fb) rfl (by kernel_rfl) (by kernel_rfl) (by kernel_rfl) (fun _ _ _ h => h) (.inl ⟨by rfl, fun W' hS' => by have hc := (hS'.cell (p := ⟨p, 1, none⟩) spr).trans p1.out; go_simp⟩) hV0 ?_
    try simp only [Act.put, z]
    refine wpAnyH_take (i := 4) (v := .int .i64 (fa + fb)) rfl (by kernel_rfl) (by kernel_rfl) (by kernel_rfl) (fun _ _ _ h => h) (.inl ⟨by rfl, fun W' hS' => by have hw : wrap64 (fa + fb) = fa + fb := IntWalk.wrap64_in _ (by omega); (go_simp; rw [IntKind.wrap_i64]; clear hw; omega)⟩) hV0 ?_
    try simp only [Act.put, z]
    refine wpAnyH_take (i := 5) (v := .pointer (some ⟨W7.heap.size, 11, none⟩)) rfl (by kernel_rfl) (by kernel_rfl) (by kernel_rfl) (fun _ _ _ h => h) (.inl ⟨by rfl, fun W' hS' => by go_simp⟩) hV0 ?_
    try simp only [Act.put, z]
    refine wpAnyH_take (i := 6) (v := .slice x0.iA x0.im x0.ic) rfl (by kernel_rfl) (by kernel_rfl) (by kernel_rfl) (fun _ _ _ h => h) (.inl ⟨by rfl, fun W' hS' => by have hc := (hS'.cell (p := ⟨W7.heap.size, 11, none⟩) swx).trans X11.out; go_simp⟩) hV0 ?_
    try simp only [Act.put, z]
    refine wpAnyH_take (i := 7) (v := .pointer (some ⟨W4.heap.size, 5, none⟩)) rfl (by kernel_rfl) (by kernel_rfl) (by kernel_rfl) (fun _ _ _ h => h) (.inl ⟨by rfl, fun W' hS' => by go_simp⟩) hV0 ?_
    try simp only [Act.put, z]
    refine wpAnyH_take (i := 8) (v := .pointer (some ⟨W4.heap.size, 12, none⟩)) rfl (by kernel_rfl) (by kernel_rfl) (by kernel_rfl) (fun _ _ _ h => h) (.inl ⟨by rfl, fun W' hS' => by go_simp⟩) hV0 ?_
    try simp only [Act.put, z]
    refine wpAnyH_take (i := 9) (v := .int .i64 g.r7) rfl (by kernel_rfl) (by kernel_rfl) (by kernel_rfl) (fun _ _ _ h => h) (.inl ⟨by rfl, fun W' hS' => by have hc := (hS'.cell (p := ⟨W4.heap.size, 12, none⟩) swg).trans g12.out; go_simp⟩) hV0 ?_
    try simp only [Act.put, z]
    refine wpAnyH_take (i := 12) (v := .int .i64 s) rfl (by kernel_rfl) (by kernel_rfl) (by kernel_rfl) (fun _ _ _ h => h) (.inl ⟨by rfl, fun W' hS' => by go_simp⟩) hV0 ?_
    try simp only [Act.put, z]
    refine wpAnyH_take (i := 13) (v := .int .i64 (-s)) rfl (by kernel_rfl) (by kernel_rfl) (by kernel_rfl) (fun _ _ _ h => h) (.inl ⟨by rfl, fun W' hS' => by have hw : wrap64 (-s) = -s := IntWalk.wrap64_in _ (by omega); (go_simp; rw [IntKind.wrap_i64]; clear hw; omega)⟩) hV0 ?_
    try simp only [Act.put, z]
    refine wpAnyH_ready (rs := [10]) (by kernel_rfl) (by simp) (AllReadyH.cons rfl (fun K hK => ?_) AllReadyH.nil)
    go_simp
    refine (on38_any W0 x0.iA x0.im x0.ic y.its g.r7 hilen.out (by omega) HY.out.hix (RowsAt.at_ (hyr.out.hiA.more hqr) hV0)).mono ?_
    rw [<- Hon.out]
    rintro e V1 ⟨rfl, hBo⟩
    have hVo := hV0.trans (hBo.mono hV0.size)
    refine hK.out _ _ hVo (fun _ => ?_)
    clear hK K
    try simp only [Act.put, z]
    refine wpAnyH_take (i := 11) (v := .int .i64 (fa + fb + on)) rfl (by kernel_rfl) (by kernel_rfl) (by kernel_rfl) (fun _ _ _ h => h) (.inl ⟨by rfl, fun W' hS' => by have hw : wrap64 (fa + fb + on) = fa + fb + on := IntWalk.wrap64_in _ (by omega); (go_simp; rw [IntKind.wrap_i64]; clear hw; omega)⟩) hVo ?_
    try simp only [Act.put, z]
    refine wpAnyH_take (i := 14) (v := .bool true) rfl (by kernel_rfl) (by kernel_rfl) (by kernel_rfl) (fun _ _ _ h => h) (.inl ⟨by rfl, fun W' hS' => by have he := Hbs.out; go_simp⟩) hVo ?_
    try simp only [Act.put, z]
    refine wpAnyH_ready (rs := [15]) (by kernel_rfl) (by simp) (AllReadyH.cons rfl (fun K hK => ?_) AllReadyH.nil)
    go_simp
    refine hK.out _ _ hVo (fun _ => ?_)
    clear hK K
    try simp only [Act.put, z]
    refine wpAnyH_done (by kernel_rfl) ?_ _
    try simp only [Act.put, z]
    go_wp2
    go_ret
    exact ⟨rfl, hB0r.trans (hVo.mono hB0r.size)⟩
 subst hlm hlo hlq hla
 refine wpAnyH_ready (rs := [2, 8]) (by kernel_rfl) (by simp) (AllReadyH.cons rfl (fun K hK => ?_) (AllReadyH.cons rfl (fun K hK => ?_) AllReadyH.nil))
 ·skip
  have Hown := Lib.hid (own39_any W0 A n c l Hl.out (by have := Hl.out; have := H8.out; omega) (RowsAt.at_ Hr5.out hV0) (fun a ha => ((Hx5.out a ha).below hV0 (Nat.le_refl _)).more hV0.size) Hall.out)
  go_simp
  refine Hown.out.mono ?_
  rintro e V1 ⟨hBo, Ao, co, ds, rfl, hdl, hds, hdo⟩
  rw [<- Hln.out]
  have hVo := hV0.trans (hBo.mono hV0.size)
  clear Hown
  refine hK.out _ _ hVo (fun _ => ?_)
  clear hK K
  try simp only [Act.put, z]
  refine wpAnyH_ready (rs := [4, 8]) (by kernel_rfl) (by simp) (AllReadyH.cons rfl (fun K hK => ?_) (AllReadyH.cons rfl (fun K hK => ?_) AllReadyH.nil))
  ·skip
   have Hof := Lib.hid (minord_any V1 g Ao ln co ds (l.map Raw.cnt) x (hdl.trans Hln.out.symm) (by rw [Hln.out]; exact Hlr.out) hds hdo (Hga.out.at_ hVo) Hwf.out)
   go_simp
   refine Hof.out.mono ?_
   rintro e V2 ⟨ra, rb, rc, rd, re, hra, rfl, hBf⟩
   rw [HAS.out] at hra
   cases hra
   have hVf := hVo.trans (hBf.mono hVo.size)
   clear Hof
   refine hK.out _ _ hVf (fun _ => ?_)
   clear hK K
   try simp only [Act.put, z]
   refine wpAnyH_take (i := 5) (v := .tuple #[.agg #[.int .i64 fa, .int .i64 fb, .int .i64 fc, .int .i64 fd], .int .i64 er]) rfl (by kernel_rfl) (by kernel_rfl) (by kernel_rfl) (fun _ _ _ h => h) (.inl ⟨by rfl, fun W' hS' => by go_simp⟩) hVf ?_
   try simp only [Act.put, z]
   refine wpAnyH_take (i := 6) (v := .agg #[.int .i64 fa, .int .i64 fb, .int .i64 fc, .int .i64 fd]) rfl (by kernel_rfl) (by kernel_rfl) (by kernel_rfl) (fun _ _ _ h => h) (.inl ⟨by rfl, fun W' hS' => by go_simp⟩) hVf ?_
   try simp only [Act.put, z]
   refine wpAnyH_take (i := 7) (v := .int .i64 er) rfl (by kernel_rfl) (by kernel_rfl) (by kernel_rfl) (fun _ _ _ h => h) (.inl ⟨by rfl, fun W' hS' => by go_simp⟩) hVf ?_
   try simp only [Act.put, z]
   refine wpAnyH_ready (rs := [8]) (by kernel_rfl) (by simp) (AllReadyH.cons rfl (fun K hK => ?_) AllReadyH.nil)
   obtain ⟨hBa, hrw, _⟩ := row_new V2 #[.int .i64 0, .int .i64 0, .int .i64 0, .int .i64 0] 62
   go_simp
   obtain ⟨V3, hWn⟩ : ∃ V3, V3 = V2.alloc (.cells #[.int .i64 0, .int .i64 0, .int .i64 0, .int .i64 0] 62) := ⟨_, rfl⟩
   rw [<- hWn] at hBa hrw ⊢
   clear hWn
   have hVa := hVf.trans (hBa.mono hVf.size)
   refine hK.out _ _ hVa (fun _ => ?_)
   clear hK K
   try simp only [Act.put, z]
   have hn := fin V3 Ao co V2.heap.size hVa hVf.size hrw
   try simp only [Act.put, z] at hn
   exact hn
  ·skip
   obtain ⟨hBa, hrw, _⟩ := row_new V1 #[.int .i64 0, .int .i64 0, .int .i64 0, .int .i64 0] 62
   go_simp
   obtain ⟨V2, hWn⟩ : ∃ V2, V2 = V1.alloc (.cells #[.int .i64 0, .int .i64 0, .int .i64 0, .int .i64 0] 62) := ⟨_, rfl⟩
   rw [<- hWn] at hBa hrw ⊢
   clear hWn
   have hVa := hVo.trans (hBa.mono hVo.size)
   refine hK.out _ _ hVa (fun _ => ?_)
   clear hK K
   try simp only [Act.put, z]
   refine wpAnyH_ready (rs := [4]) (by kernel_rfl) (by simp) (AllReadyH.cons rfl (fun K hK => ?_) AllReadyH.nil)
   have Hof := Lib.hid (minord_any V2 g Ao ln co ds (l.map Raw.cnt) x (hdl.trans Hln.out.symm) (by rw [Hln.out]; exact Hlr.out) (RowsAt.at_ hds hBa) (hdo.imp (Q := fun a b => a.Holds SD V2 V2.heap.size b) fun _ _ h => h.atD hBa) (Hga.out.at_ hVa) Hwf.out)
   go_simp
   refine Hof.out.mono ?_
   rintro e V3 ⟨ra, rb, rc, rd, re, hra, rfl, hBf⟩
   rw [HAS.out] at hra
   cases hra
   have hVf := hVa.trans (hBf.mono hVa.size)
   clear Hof
   refine hK.out _ _ hVf (fun _ => ?_)
   clear hK K
   try simp only [Act.put, z]
   refine wpAnyH_take (i := 5) (v := .tuple #[.agg #[.int .i64 fa, .int .i64 fb, .int .i64 fc, .int .i64 fd], .int .i64 er]) rfl (by kernel_rfl) (by kernel_rfl) (by kernel_rfl) (fun _ _ _ h => h) (.inl ⟨by rfl, fun W' hS' => by go_simp⟩) hVf ?_
   try simp only [Act.put, z]
   refine wpAnyH_take (i := 6) (v := .agg #[.int .i64 fa, .int .i64 fb, .int .i64 fc, .int .i64 fd]) rfl (by kernel_rfl) (by kernel_rfl) (by kernel_rfl) (fun _ _ _ h => h) (.inl ⟨by rfl, fun W' hS' => by go_simp⟩) hVf ?_
   try simp only [Act.put, z]
   refine wpAnyH_take (i := 7) (v := .int .i64 er) rfl (by kernel_rfl) (by kernel_rfl) (by kernel_rfl) (fun _ _ _ h => h) (.inl ⟨by rfl, fun W' hS' => by go_simp⟩) hVf ?_
   try simp only [Act.put, z]
   have hn := fin V3 Ao co V1.heap.size hVf hVo.size (gbox hrw hBf (some_lt hrw))
   try simp only [Act.put, z] at hn
   exact hn
 ·skip
  obtain ⟨hBa, hrw, _⟩ := row_new W0 #[.int .i64 0, .int .i64 0, .int .i64 0, .int .i64 0] 62
  go_simp
  obtain ⟨V1, hWn⟩ : ∃ V1, V1 = W0.alloc (.cells #[.int .i64 0, .int .i64 0, .int .i64 0, .int .i64 0] 62) := ⟨_, rfl⟩
  rw [<- hWn] at hBa hrw ⊢
  clear hWn
  have hVa := hV0.trans (hBa.mono hV0.size)
  refine hK.out _ _ hVa (fun _ => ?_)
  clear hK K
  try simp only [Act.put, z]
  refine wpAnyH_ready (rs := [2]) (by kernel_rfl) (by simp) (AllReadyH.cons rfl (fun K hK => ?_) AllReadyH.nil)
  have Hown := Lib.hid (own39_any V1 A n c l Hl.out (by have := Hl.out; have := H8.out; omega) (RowsAt.at_ Hr5.out hVa) (fun a ha => ((Hx5.out a ha).below hVa (Nat.le_refl _)).more hVa.size) Hall.out)
  go_simp
  refine Hown.out.mono ?_
  rintro e V2 ⟨hBo, Ao, co, ds, rfl, hdl, hds, hdo⟩
  rw [<- Hln.out]
  have hVo := hVa.trans (hBo.mono hVa.size)
  clear Hown
  refine hK.out _ _ hVo (fun _ => ?_)
  clear hK K
  try simp only [Act.put, z]
  refine wpAnyH_ready (rs := [4]) (by kernel_rfl) (by simp) (AllReadyH.cons rfl (fun K hK => ?_) AllReadyH.nil)
  have Hof := Lib.hid (minord_any V2 g Ao ln co ds (l.map Raw.cnt) x (hdl.trans Hln.out.symm) (by rw [Hln.out]; exact Hlr.out) hds hdo (Hga.out.at_ hVo) Hwf.out)
  go_simp
  refine Hof.out.mono ?_
  rintro e V3 ⟨ra, rb, rc, rd, re, hra, rfl, hBf⟩
  rw [HAS.out] at hra
  cases hra
  have hVf := hVo.trans (hBf.mono hVo.size)
  clear Hof
  refine hK.out _ _ hVf (fun _ => ?_)
  clear hK K
  try simp only [Act.put, z]
  refine wpAnyH_take (i := 5) (v := .tuple #[.agg #[.int .i64 fa, .int .i64 fb, .int .i64 fc, .int .i64 fd], .int .i64 er]) rfl (by kernel_rfl) (by kernel_rfl) (by kernel_rfl) (fun _ _ _ h => h) (.inl ⟨by rfl, fun W' hS' => by go_simp⟩) hVf ?_
  try simp only [Act.put, z]
  refine wpAnyH_take (i := 6) (v := .agg #[.int .i64 fa, .int .i64 fb, .int .i64 fc, .int .i64 fd]) rfl (by kernel_rfl) (by kernel_rfl) (by kernel_rfl) (fun _ _ _ h => h) (.inl ⟨by rfl, fun W' hS' => by go_simp⟩) hVf ?_
  try simp only [Act.put, z]
  refine wpAnyH_take (i := 7) (v := .int .i64 er) rfl (by kernel_rfl) (by kernel_rfl) (by kernel_rfl) (fun _ _ _ h => h) (.inl ⟨by rfl, fun W' hS' => by go_simp⟩) hVf ?_
  try simp only [Act.put, z]
  have hn := fin V3 Ao co W0.heap.size hVf hV0.size (gbox (gbox hrw hBo (some_lt hrw)) hBf (some_lt (gbox hrw hBo (some_lt hrw))))
  try simp only [Act.put, z] at hn
  exact hn
end
end Go.Proofs.YtcblobokjhhboaaGreat
