/- My texts BooksR, FindR. -/
import Derived.Test.YtccapfbblnnfjaaGreatG25
import Derived.Test.YtccapfbblnnfjaaGreatG26
set_option linter.unusedVariables false
set_option linter.unusedSimpArgs false
set_option maxRecDepth 100000
set_option maxHeartbeats 8000000
namespace Go.Proofs.YtccapfbblnnfjaaGreat
open Go.RowKit
section
variable (w : World)
theorem booksr_any (g : Grp) (hg : g.At w w.heap.size) :
  Calls Tryz.prog 123 #[.agg #[.string g.cur, .int .i64 g.Y, .int .i64 g.M, .int .i64 g.N, .slice g.cA g.cn g.cc, .int .i64 g.r0, .int .i64 g.r1, .int .i64 g.r2, .int .i64 g.r3, .int .i64 g.r4, .int .i64 g.r5, .int .i64 g.r6, .int .i64 g.r7, .int .i64 g.r8, .int .i64 g.r9, .int .i64 g.r10, .int .i64 g.r11, .int .i64 g.r12, .int .i64 g.r13, .int .i64 g.r14, .slice g.eA g.en g.ec]] w fun e w' => e = .returned (.bool (Gr.books g)) /\ Below w.heap.size w w' := by
 obtain ⟨W1, hW1, hB0, hb0, hz⟩ := nw1 w #[.string g.cur, .int .i64 g.Y, .int .i64 g.M, .int .i64 g.N, .slice g.cA g.cn g.cc, .int .i64 g.r0, .int .i64 g.r1, .int .i64 g.r2, .int .i64 g.r3, .int .i64 g.r4, .int .i64 g.r5, .int .i64 g.r6, .int .i64 g.r7, .int .i64 g.r8, .int .i64 g.r9, .int .i64 g.r10, .int .i64 g.r11, .int .i64 g.r12, .int .i64 g.r13, .int .i64 g.r14, .slice g.eA g.en g.ec] 29
 have HW := Lib.hid hW1
 have hg1 := hg.at_ hB0
 have x0 := cell_of_row _ _ 0 _ _ _ hb0
 have x1 := cell_of_row _ _ 1 _ _ _ hb0
 have x2 := cell_of_row _ _ 2 _ _ _ hb0
 have x3 := cell_of_row _ _ 3 _ _ _ hb0
 simp at x0 x1 x2 x3
 have s1 : w.heap.size < W1.heap.size := by omega
 have Hb0 := Lib.hid hb0
 have Hnm := Lib.hid hg.hn
 have Hcl := Lib.hid hg.hcl
 have hcn := hg.hcn
 clear hW1 hz hb0 hg
 go_enter Tryz.func123, Tryz.ntmps123
 go_upto_region 1 with (fail)
 rw [<- HW.out]
 go_wp2_with (fail)
 refine (curr_any W1 g.cur Hnm.out).mono ?_
 rintro e W2 ⟨rfl, rfl⟩
 by_cases h1 : Gr.isCur g.cur = true
 case neg =>
  have h1' : Gr.isCur g.cur = false := by simpa using h1
  have HV : Hid (Gr.books g = false) := by show _ = _; rw [Gr.books, h1']; rfl
  rw [h1']
  clear h1 h1' hg1
  go_wp2
  go_ret
  exact ⟨by rw [HV.out]; rfl, hB0⟩
 have H1 := Lib.hid h1
 rw [h1]
 clear h1
 go_wp2_with (fail)
 refine (rcvalid_any g.Y g.M g.N W1).mono ?_
 rintro e W2 ⟨rfl, hB2⟩
 have hB02 := hB0.trans (hB2.mono hB0.size)
 have hb2 := gbox Hb0.out hB2 s1
 have hg2 := hg1.at_ hB2
 clear x0 x1 x2 x3 hg1
 by_cases h2 : Cal.ok g.Y g.M g.N = true
 case neg =>
  have h2' : Cal.ok g.Y g.M g.N = false := by simpa using h2
  have HV : Hid (Gr.books g = false) := by show _ = _; rw [Gr.books, h2']; simp
  rw [h2']
  clear h2 h2' hg2 hb2
  go_wp2
  go_ret
  exact ⟨by rw [HV.out]; rfl, hB02⟩
 have H2 := Lib.hid h2
 rw [h2]
 have Hb2 := Lib.hid hb2
 have x4 := cell_of_row _ _ 4 _ _ _ hb2
 simp at x4
 have s2 : w.heap.size < W2.heap.size := some_lt hb2
 have hc2 := hg2.hc
 have Hg2 := Lib.hid hg2
 clear h2 hb2 hg2
 go_wp2_with (fail)
 refine (validr_any W2 g.cA g.cn g.cc g.chart true Hcl.out hcn hc2).mono ?_
 rintro e W3 ⟨rfl, hB3⟩
 have hB03 := hB02.trans (hB3.mono hB02.size)
 have hb3 := gbox Hb2.out hB3 s2
 have hg3 := Hg2.out.at_ hB3
 clear x4 hc2
 by_cases h3 : Ch.valid true g.chart = true
 case neg =>
  have h3' : Ch.valid true g.chart = false := by simpa using h3
  have HV : Hid (Gr.books g = false) := by show _ = _; rw [Gr.books, Gr.accounts, h3']; simp
  rw [h3']
  clear h3 h3' hg3 hb3
  go_wp2
  go_ret
  exact ⟨by rw [HV.out]; rfl, hB03⟩
 have H3 := Lib.hid h3
 rw [h3]
 have Hb3 := Lib.hid hb3
 have Hg3 := Lib.hid hg3
 have s3 : w.heap.size < W3.heap.size := some_lt hb3
 clear h3 hb3 hg3
 go_wp2
 go_loopw [3] (fun i wr => ∃ k : Nat, k <= g.cn /\ i = .int .i64 k /\ (g.chart.take k).all Gr.based = true /\ Below W3.heap.size W3 wr) (fun i _ => g.cn - (intOf i).toNat)
 case atStart => exact ⟨0, Nat.zero_le _, rfl, rfl, Below.refl _ _⟩
 case round =>
  obtain ⟨k, hk, rfl, ha, hbr⟩ := hrel
  have Ha := Lib.hid ha
  have hq := hbr.size
  have hbx := gbox Hb3.out hbr s3
  have x4 := cell_of_row _ _ 4 _ _ _ hbx
  simp at x4
  have sw : w.heap.size < wr.heap.size := some_lt hbx
  have hbF := hB03.trans (hbr.mono hB03.size)
  have Hbx := Lib.hid hbx
  clear ha hbx
  by_cases hlt : k < g.cn
  ·have hkl : k < g.chart.length := by have := Hcl.out; omega
   obtain ⟨b, o, hAe, hbB, c0, c1, c2, c3⟩ := AccsAt.four (RowsAt.below Hg3.out.hc hbr (Nat.le_refl _)) hkl
   have hbw : b < wr.heap.size := by omega
   rw [hAe] at x4
   clear hAe
   by_cases h4 : Gr.based g.chart[k] = true
   ·have hf := Lib.hid (all_take hkl Ha.out h4)
    go_wp2_with (fail)
    refine (basis_any wr g.chart[k]).mono ?_
    rw [h4]
    rintro e w4 ⟨rfl, hB4⟩
    clear h4 x4 c0 c1 c2 c3
    go_wp2
    go_roundw
    case rel => exact ⟨k + 1, by omega, by go_num, hf.out, hbr.trans (hB4.mono hq)⟩
    case measure => simp [intOf]; omega
   ·have h4' : Gr.based g.chart[k] = false := by simpa using h4
    have hf := all_miss (P := Gr.based) hkl h4'
    have HV : Hid (Gr.books g = false) := by show _ = _; rw [Gr.books, Gr.accounts, hf]; simp
    go_wp2_with (fail)
    refine (basis_any wr g.chart[k]).mono ?_
    rw [h4']
    rintro e w4 ⟨rfl, hB4⟩
    clear h4 h4' hf x4 c0 c1 c2 c3
    go_wp2
    go_ret
    exact ⟨by rw [HV.out]; rfl, hbF.trans (hB4.mono hbF.size)⟩
  ·obtain rfl : k = g.cn := by omega
   have hball : g.chart.all Gr.based = true := by have := Ha.out; rwa [<- Hcl.out, List.take_length] at this
   have HV : Hid (Gr.books g = (List.range (Gr.roles g).length).all (Gr.roleAt g.chart (Gr.roles g))) := by
    show _ = _; rw [Gr.books, Gr.accounts, H1.out, H2.out, H3.out, hball]; rfl
   have hrr := Lib.hid (roles_range Hbx.out)
   have hgr := (Hg3.out.below hbr (Nat.le_refl _)).more hq
   clear hball
   obtain ⟨W4, rfl⟩ : ∃ W4 : World, W4 = wr := ⟨_, rfl⟩
   go_wp2_with (refine wpList_load_mid rfl 26 (.tmp 39) rfl w.heap.size 5 rfl [.int .i64 g.r0, .int .i64 g.r1, .int .i64 g.r2, .int .i64 g.r3, .int .i64 g.r4, .int .i64 g.r5, .int .i64 g.r6, .int .i64 g.r7, .int .i64 g.r8, .int .i64 g.r9, .int .i64 g.r10, .int .i64 g.r11, .int .i64 g.r12, .int .i64 g.r13, .int .i64 g.r14] _ hrr.out Tryz.underlying26 rfl rolesSize ?_)
   refine (rolesr_any W4 g).mono ?_
   rintro e W5 ⟨hB5, rb, rfl, hrb, hrows⟩
   have hB05 := hbF.trans (hB5.mono hbF.size)
   have hq5 := hB5.size
   have hb5 := gbox Hbx.out hB5 sw
   have Hb5 := Lib.hid hb5
   have Hg5 := Lib.hid (hgr.at_ hB5)
   have hrl := roles_len g
   have HR := Lib.hid hrows
   have s5 : w.heap.size < W5.heap.size := by omega
   obtain ⟨L, hL⟩ : ∃ L, L = Gr.roles g := ⟨_, rfl⟩
   rw [<- hL] at hrl HR HV
   have HL := Lib.hid hL
   have Hrl := Lib.hid hrl
   clear hrows hb5 hgr hrr hrl hL
   go_wp2
   go_loopw [5] (fun i wr => ∃ k : Nat, k <= 15 /\ i = .int .i64 k /\ (List.range k).all (Gr.roleAt g.chart L) = true /\ Below W5.heap.size W5 wr) (fun i _ => 15 - (intOf i).toNat)
   case atStart => exact ⟨0, Nat.zero_le _, rfl, rfl, Below.refl _ _⟩
   case round =>
    obtain ⟨k, hk, rfl, hall, hbr⟩ := hrel
    have Hall := Lib.hid hall
    have hq := hbr.size
    have hbF := hB05.trans (hbr.mono hB05.size)
    clear hall
    by_cases hlt : k < 15
    ·have hkl : k < L.length := by have := Hrl.out; omega
     obtain ⟨b, o, hAe, hbB, c0, c1, c2, c3, c4⟩ := RolesAt.five (RowsAt.below HR.out hbr (Nat.le_refl _)) hkl
     cases hAe
     simp only [Nat.zero_add] at c0 c1 c2 c3 c4
     have hrbw : rb < wr.heap.size := by omega
     have hbx := gbox Hb5.out hbr s5
     have hgx := Lib.hid (grp_range hbx)
     have swx : w.heap.size < wr.heap.size := some_lt hbx
     have hk0 : (0 : Int) <= (k : Int) := by omega
     have hk15 : (k : Int) < 15 := by omega
     have hS : Below wr.heap.size wr wr.drew := below_drawn (Below.refl _ _) 1
     have hgr := (Hg5.out.below hbr (Nat.le_refl _)).more hq
     have Hrt := Lib.hid (rat_lt hkl)
     obtain ⟨q, hqq⟩ : ∃ q, q = Ch.found g.chart L[k].code := ⟨_, rfl⟩
     obtain ⟨hh, hhh⟩ : ∃ hh, hh = Ch.has g.chart L[k].code := ⟨_, rfl⟩
     have Hq := Lib.hid hqq
     have Hh := Lib.hid hhh
     clear hbx c0 c2 c3 c4 hqq hhh
     go_upto_region 12 with (fail)
     refine wp_region_held (S := Below wr.heap.size wr) (by kernel_rfl) ?_
     change wpAnyH _ _ _ _ _ _ _ _ (World.drew _)
     obtain ⟨W0, hWd⟩ : ∃ W0, W0 = wr.drew := ⟨_, rfl⟩
     rw [<- hWd] at hS ⊢
     clear hWd
     refine tk (i := 0) (v := .agg #[.string g.cur, .int .i64 g.Y, .int .i64 g.M, .int .i64 g.N, .slice g.cA g.cn g.cc, .int .i64 g.r0, .int .i64 g.r1, .int .i64 g.r2, .int .i64 g.r3, .int .i64 g.r4, .int .i64 g.r5, .int .i64 g.r6, .int .i64 g.r7, .int .i64 g.r8, .int .i64 g.r9, .int .i64 g.r10, .int .i64 g.r11, .int .i64 g.r12, .int .i64 g.r13, .int .i64 g.r14, .slice g.eA g.en g.ec]) rfl (by kernel_rfl) (fun _ _ _ h => h) (yieldsIf_load_mid (by rfl) 29 _ rfl w.heap.size 0 rfl [.string g.cur, .int .i64 g.Y, .int .i64 g.M, .int .i64 g.N, .slice g.cA g.cn g.cc, .int .i64 g.r0, .int .i64 g.r1, .int .i64 g.r2, .int .i64 g.r3, .int .i64 g.r4, .int .i64 g.r5, .int .i64 g.r6, .int .i64 g.r7, .int .i64 g.r8, .int .i64 g.r9, .int .i64 g.r10, .int .i64 g.r11, .int .i64 g.r12, .int .i64 g.r13, .int .i64 g.r14, .slice g.eA g.en g.ec] _ (fun W' hS' => range_below hgx.out hS' swx) Tryz.underlying29 rfl grpSize) hS ?_
     try simp only [z]
     refine tk (i := 1) (v := .slice (some ⟨rb, 0, none⟩) 15 15) rfl (by kernel_rfl) (fun _ _ _ h => h) (.inl ⟨by rfl, fun W' hS' => by go_simp⟩) hS ?_
     try simp only [z]
     refine tk (i := 2) (v := .int .i64 k) rfl (by kernel_rfl) (fun _ _ _ h => h) (.inl ⟨by rfl, fun W' hS' => by go_simp⟩) hS ?_
     try simp only [z]
     refine tk (i := 3) (v := .pointer (some ⟨rb, k * 5, none⟩)) rfl (by kernel_rfl) (fun _ _ _ h => h) (.inl ⟨by rfl, fun W' hS' => by go_simp⟩) hS ?_
     try simp only [z]
     refine tk (i := 4) (v := .pointer (some ⟨rb, k * 5 + 1, none⟩)) rfl (by kernel_rfl) (fun _ _ _ h => h) (.inl ⟨by rfl, fun W' hS' => by go_simp⟩) hS ?_
     try simp only [z]
     refine tk (i := 5) (v := .int .i64 L[k].code) rfl (by kernel_rfl) (fun _ _ _ h => h) (.inl ⟨by rfl, fun W' hS' => by have hc := (hS'.cell (p := ⟨rb, k * 5 + 1, none⟩) hrbw).trans c1; go_simp⟩) hS ?_
     try simp only [z]
     refine wpAnyH_letters fun md' ops' Q' a' hlm hlo hlq hla => ?_
     have fin : ∀ (W' : World) (p : Nat), Below wr.heap.size wr W' -> W'.heap[p]? = some (.cells #[.int .i64 (q).code, .int .i64 (q).kind, .int .i64 (q).basis, .int .i64 (q).parent] 132 (0, 0)) -> wr.heap.size <= p -> Q' .normal ((((((a'.put (some 55) (.tuple #[.agg #[.int .i64 (q).code, .int .i64 (q).kind, .int .i64 (q).basis, .int .i64 (q).parent], .bool hh])).put (some 48) (.tuple #[.agg #[.int .i64 (q).code, .int .i64 (q).kind, .int .i64 (q).basis, .int .i64 (q).parent], .bool hh])).put (some 56) (.agg #[.int .i64 (q).code, .int .i64 (q).kind, .int .i64 (q).basis, .int .i64 (q).parent])).put (some 57) (.bool hh)).put (some 6) (.pointer (some ⟨p, 0, none⟩))).put (some 7) (.bool hh)) W' := by
      intro W' p hbW hrow hp
      subst hlm hlo hlq hla
      simp only [z]
      simp only [Exit.then]
      have q1 := cell_of_row _ _ 1 _ _ _ hrow
      have q2 := cell_of_row _ _ 2 _ _ _ hrow
      simp at q1 q2
      have hbF' := hbF.trans (hbW.mono hbF.size)
      have hbr' := hbr.trans (hbW.mono hq)
      obtain ⟨b, o, hAe, hbB, c0, c1', c2, c3, c4⟩ := RolesAt.five (RowsAt.below HR.out hbr' (Nat.le_refl _)) hkl
      cases hAe
      simp only [Nat.zero_add] at c0 c1' c2 c3 c4
      have hrbw' : rb < W'.heap.size := Nat.lt_of_lt_of_le hrbw hbW.size
      have hpw : p < W'.heap.size := some_lt hrow
      have hq' := hbr'.size
      have hbad : Gr.roleAt g.chart L k = false -> Hid (Gr.books g = false) := fun h => Lib.hid (by rw [HV.out]; exact Ch.all_not hkl h)
      clear hrow c1
      cases hh
      case false =>
       have HV2 := hbad (by rw [Gr.roleAt, Hrt.out, <- Hh.out]; rfl)
       clear hbad
       go_wp2_with (go_quiet (fail))
       go_ret
       exact ⟨by rw [HV2.out]; rfl, below_drawn hbF' _⟩
      by_cases g3 : q.kind = L[k].kind
      case neg =>
       have g3b : (q.kind != L[k].kind) = true := by simp [g3]
       have HV2 := hbad (by rw [Gr.roleAt, Hrt.out, <- Hq.out, decide_eq_false g3]; simp)
       clear g3 hbad
       go_wp2_with (go_quiet (fail))
       go_ret
       exact ⟨by rw [HV2.out]; rfl, below_drawn hbF' _⟩
      have g3b : (q.kind != L[k].kind) = false := by simp [g3]
      by_cases g4 : q.basis = L[k].basis
      case neg =>
       have g4b : (q.basis != L[k].basis) = true := by simp [g4]
       have HV2 := hbad (by rw [Gr.roleAt, Hrt.out, <- Hq.out, decide_eq_false g4]; simp)
       clear g3 g4 hbad
       go_wp2_with (go_quiet (fail))
       go_ret
       exact ⟨by rw [HV2.out]; rfl, below_drawn hbF' _⟩
      have g4b : (q.basis != L[k].basis) = false := by simp [g4]
      have Hpre : Hid ((List.take k L).any (fun y => decide (y.code = L[k].code)) = false -> Gr.roleAt g.chart L k = true) := by
       show _ -> _
       intro hh
       rw [Gr.roleAt, Hrt.out, <- Hh.out, <- Hq.out, decide_eq_true g3, decide_eq_true g4, hh]; rfl
      clear g3 g4
      go_wp2_with (fail)
      go_quiet (fail)
      go_wp2
      clear q1 q2
      have hbF2 := below_drawn hbF' nq
      have hbr2 := below_drawn hbr' nq
      obtain ⟨wo, hwo⟩ : ∃ wo : World, wo = W'.drewN nq := ⟨_, rfl⟩
      rw [<- hwo] at hbF2 hbr2 ⊢
      clear hwo c0 c1' c2 c3 c4
      go_loopw [8] (fun j wr => ∃ m : Nat, m <= k /\ j = .int .i64 m /\ (L.take m).any (fun y => decide (y.code = L[k].code)) = false /\ Below W5.heap.size W5 wr) (fun j _ => k - (intOf j).toNat)
      case atStart => exact ⟨0, Nat.zero_le _, rfl, rfl, hbr2⟩
      case round =>
       obtain ⟨m, hm, rfl, hno, hbi⟩ := hrel
       have Hno := Lib.hid hno
       have hqi := hbi.size
       have hbFi := hB05.trans (hbi.mono hB05.size)
       clear hno
       by_cases hmk : m < k
       ·have hml : m < L.length := by omega
        obtain ⟨b, o, hAe, hbB, c0, c1, c2, c3, c4⟩ := RolesAt.five (RowsAt.below HR.out hbi (Nat.le_refl _)) hkl
        cases hAe
        obtain ⟨b, o, hAe, hbB', d0, d1, d2, d3, d4⟩ := RolesAt.five (RowsAt.below HR.out hbi (Nat.le_refl _)) hml
        cases hAe
        simp only [Nat.zero_add] at c1 d1
        have hrbi : rb < wr.heap.size := by omega
        have i0 : (0 : Int) <= (m : Int) := by omega
        have i1 : (m : Int) < 15 := by omega
        clear c0 c2 c3 c4 d0 d2 d3 d4
        obtain ⟨f1, hf1⟩ : ∃ f1, f1 = L[m].code := ⟨_, rfl⟩
        rw [<- hf1] at d1
        have Hf1 := Lib.hid hf1
        clear hf1
        by_cases g1 : f1 = L[k].code
        ·have g1b : (f1 == L[k].code) = true := by simp [g1]
         have HV2 := hbad (by
          rw [Gr.roleAt, Hrt.out]
          have : (L.take k).any (fun y => decide (y.code = L[k].code)) = true := by
           rw [List.any_eq_true]
           exact ⟨L[m], List.mem_take_iff_getElem.2 ⟨m, by omega, rfl⟩, by rw [<- Hf1.out, g1]; simp⟩
          rw [this]; simp)
         clear g1 hbad
         go_wp2_with (go_quiet (fail))
         go_ret
         exact ⟨by rw [HV2.out]; rfl, below_drawn hbFi _⟩
        ·have g1b : (f1 == L[k].code) = false := by simp [g1]
         have Hno2 : Hid ((L.take (m + 1)).any (fun y => decide (y.code = L[k].code)) = false) := by
          show _ = _
          rw [List.take_succ_eq_append_getElem hml, List.any_append, Hno.out]
          simp [<- Hf1.out, g1]
         clear g1 hbad
         go_wp2_with (go_quiet (fail))
         go_roundw
         case rel => exact ⟨m + 1, by omega, by go_num, Hno2.out, below_drawn hbi _⟩
         case measure => simp [intOf]; omega
       ·obtain rfl : m = k := by omega
        have Hall2 := Lib.hid (Gr.range_all Hall.out (Hpre.out Hno.out))
        clear hbad
        go_wp2
        go_roundw
        case rel => exact ⟨m + 1, by omega, by go_num, Hall2.out, hbi⟩
        case measure => simp [intOf]; omega
     subst hlm hlo hlq hla
     refine wpAnyH_ready (rs := [6, 10]) (by kernel_rfl) (by simp) (AllReadyH.cons rfl (fun K hK => ?_) (AllReadyH.cons rfl (fun K hK => ?_) AllReadyH.nil))
     ·skip
      go_simp
      refine (acctr_any W0 g L[k].code (hgr.at_ hS)).mono ?_
      rw [<- Hq.out, <- Hh.out]
      rintro e W6 ⟨rfl, hB6⟩
      have hS6 : Below wr.heap.size wr W6 := hS.trans (hB6.mono hS.size)
      have hq6 := hS6.size
      refine hK.out _ _ hS6 (fun _ => ?_)
      clear hK K
      try simp only [z]
      refine tk (i := 7) (v := .tuple #[.agg #[.int .i64 (q).code, .int .i64 (q).kind, .int .i64 (q).basis, .int .i64 (q).parent], .bool hh]) rfl (by kernel_rfl) (fun _ _ _ h => h) (.inl ⟨by rfl, fun W' hS' => by go_simp⟩) hS6 ?_
      try simp only [z]
      refine tk (i := 8) (v := .agg #[.int .i64 (q).code, .int .i64 (q).kind, .int .i64 (q).basis, .int .i64 (q).parent]) rfl (by kernel_rfl) (fun _ _ _ h => h) (.inl ⟨by rfl, fun W' hS' => by go_simp⟩) hS6 ?_
      try simp only [z]
      refine tk (i := 9) (v := .bool hh) rfl (by kernel_rfl) (fun _ _ _ h => h) (.inl ⟨by rfl, fun W' hS' => by go_simp⟩) hS6 ?_
      try simp only [z]
      refine wpAnyH_ready (rs := [10]) (by kernel_rfl) (by simp) (AllReadyH.cons rfl (fun K hK => ?_) AllReadyH.nil)
      obtain ⟨hB7, hrow, _⟩ := row_new W6 #[.int .i64 0, .int .i64 0, .int .i64 0, .int .i64 0] 132
      go_simp
      obtain ⟨W7, hW7⟩ : ∃ W7, W7 = W6.alloc (.cells #[.int .i64 0, .int .i64 0, .int .i64 0, .int .i64 0] 132) := ⟨_, rfl⟩
      rw [<- hW7] at hB7 hrow ⊢
      clear hW7
      have hS7 : Below wr.heap.size wr W7 := hS6.trans (hB7.mono hq6)
      refine hK.out _ _ hS7 (fun _ => ?_)
      clear hK K
      try simp only [z]
      refine wpAnyH_ready (rs := [11]) (by kernel_rfl) (by simp) (AllReadyH.cons rfl (fun K hK => ?_) AllReadyH.nil)
      rw [if_pos (by rfl)]
      refine wp_store_row 132 _ _ none rfl rfl W6.heap.size 132 _ #[.int .i64 (q).code, .int .i64 (q).kind, .int .i64 (q).basis, .int .i64 (q).parent] rfl rfl hrow rfl accSize (accOne _ _ _ _) ?_
      have hR := setRow_heap W7 W6.heap.size _ #[.int .i64 (q).code, .int .i64 (q).kind, .int .i64 (q).basis, .int .i64 (q).parent] _ _ hrow
      have hSs := below_setRow hS7 (show wr.heap.size <= W6.heap.size by omega) #[.int .i64 (q).code, .int .i64 (q).kind, .int .i64 (q).basis, .int .i64 (q).parent]
      refine hK.out _ _ hSs (fun _ => ?_)
      clear hK K
      try simp only [z]
      refine wpAnyH_ready (rs := [12]) (by kernel_rfl) (by simp) (AllReadyH.cons rfl (fun K hK => ?_) AllReadyH.nil)
      go_simp
      refine hK.out _ _ hSs (fun _ => ?_)
      clear hK K
      try simp only [z]
      refine wpAnyH_done (by kernel_rfl) ?_ _
      have hn := fin _ W6.heap.size hSs hR (by omega)
      simp only [z] at hn
      exact hn
     ·skip
      obtain ⟨hB6, hrow, _⟩ := row_new W0 #[.int .i64 0, .int .i64 0, .int .i64 0, .int .i64 0] 132
      go_simp
      obtain ⟨W6, hW6⟩ : ∃ W6, W6 = W0.alloc (.cells #[.int .i64 0, .int .i64 0, .int .i64 0, .int .i64 0] 132) := ⟨_, rfl⟩
      rw [<- hW6] at hB6 hrow ⊢
      clear hW6
      have hS6 : Below wr.heap.size wr W6 := hS.trans (hB6.mono hS.size)
      have hq6 := hS6.size
      have hlt6 := some_lt hrow
      have hq0 := hS.size
      refine hK.out _ _ hS6 (fun _ => ?_)
      clear hK K
      try simp only [z]
      refine wpAnyH_ready (rs := [6]) (by kernel_rfl) (by simp) (AllReadyH.cons rfl (fun K hK => ?_) AllReadyH.nil)
      go_simp
      refine (acctr_any W6 g L[k].code ((hgr.below hS6 (Nat.le_refl _)).more hq6)).mono ?_
      rw [<- Hq.out, <- Hh.out]
      rintro e W7 ⟨rfl, hB7⟩
      have hS7 : Below wr.heap.size wr W7 := hS6.trans (hB7.mono hq6)
      have hrow7 := gbox hrow hB7 hlt6
      refine hK.out _ _ hS7 (fun _ => ?_)
      clear hK K
      try simp only [z]
      refine tk (i := 7) (v := .tuple #[.agg #[.int .i64 (q).code, .int .i64 (q).kind, .int .i64 (q).basis, .int .i64 (q).parent], .bool hh]) rfl (by kernel_rfl) (fun _ _ _ h => h) (.inl ⟨by rfl, fun W' hS' => by go_simp⟩) hS7 ?_
      try simp only [z]
      refine tk (i := 8) (v := .agg #[.int .i64 (q).code, .int .i64 (q).kind, .int .i64 (q).basis, .int .i64 (q).parent]) rfl (by kernel_rfl) (fun _ _ _ h => h) (.inl ⟨by rfl, fun W' hS' => by go_simp⟩) hS7 ?_
      try simp only [z]
      refine tk (i := 9) (v := .bool hh) rfl (by kernel_rfl) (fun _ _ _ h => h) (.inl ⟨by rfl, fun W' hS' => by go_simp⟩) hS7 ?_
      try simp only [z]
      refine wpAnyH_ready (rs := [11]) (by kernel_rfl) (by simp) (AllReadyH.cons rfl (fun K hK => ?_) AllReadyH.nil)
      rw [if_pos (by rfl)]
      refine wp_store_row 132 _ _ none rfl rfl W0.heap.size 132 _ #[.int .i64 (q).code, .int .i64 (q).kind, .int .i64 (q).basis, .int .i64 (q).parent] rfl rfl hrow7 rfl accSize (accOne _ _ _ _) ?_
      have hR := setRow_heap W7 W0.heap.size _ #[.int .i64 (q).code, .int .i64 (q).kind, .int .i64 (q).basis, .int .i64 (q).parent] _ _ hrow7
      have hSs := below_setRow hS7 (show wr.heap.size <= W0.heap.size by omega) #[.int .i64 (q).code, .int .i64 (q).kind, .int .i64 (q).basis, .int .i64 (q).parent]
      refine hK.out _ _ hSs (fun _ => ?_)
      clear hK K
      try simp only [z]
      refine wpAnyH_ready (rs := [12]) (by kernel_rfl) (by simp) (AllReadyH.cons rfl (fun K hK => ?_) AllReadyH.nil)
      go_simp
      refine hK.out _ _ hSs (fun _ => ?_)
      clear hK K
      try simp only [z]
      refine wpAnyH_done (by kernel_rfl) ?_ _
      have hn := fin _ W0.heap.size hSs hR (by omega)
      simp only [z] at hn
      exact hn
    ·obtain rfl : k = 15 := by omega
     have HV2 : Hid (Gr.books g = true) := by show _ = _; rw [HV.out, Hrl.out]; exact Hall.out
     go_wp2
     go_ret
     exact ⟨by rw [HV2.out]; rfl, hbF⟩
end

def NamePost (l : List Ent) (s : ByteArray) (w : World) (e : Ending) (w' : World) : Prop :=
 Below w.heap.size w w' /\ ((e = .returned (.tuple #[.int .i64 0, .bool false]) /\ l.any (fun y => decide (y.name = s)) = false) ∨
  ∃ (k : Nat) (h : k < l.length), e = .returned (.tuple #[.int .i64 k, .bool true]) /\ l[k].name = s /\ (l.take k).any (fun y => decide (y.name = s)) = false)
section
variable (w : World)
theorem fname_any (g : Grp) (s : ByteArray) (hg : g.At w w.heap.size) :
  Calls Tryz.prog 124 #[.agg #[.string g.cur, .int .i64 g.Y, .int .i64 g.M, .int .i64 g.N, .slice g.cA g.cn g.cc, .int .i64 g.r0, .int .i64 g.r1, .int .i64 g.r2, .int .i64 g.r3, .int .i64 g.r4, .int .i64 g.r5, .int .i64 g.r6, .int .i64 g.r7, .int .i64 g.r8, .int .i64 g.r9, .int .i64 g.r10, .int .i64 g.r11, .int .i64 g.r12, .int .i64 g.r13, .int .i64 g.r14, .slice g.eA g.en g.ec], .string s] w (NamePost g.ents s w) := by
 obtain ⟨W1, hW1, hB0, hb0, hz⟩ := nw1 w #[.string g.cur, .int .i64 g.Y, .int .i64 g.M, .int .i64 g.N, .slice g.cA g.cn g.cc, .int .i64 g.r0, .int .i64 g.r1, .int .i64 g.r2, .int .i64 g.r3, .int .i64 g.r4, .int .i64 g.r5, .int .i64 g.r6, .int .i64 g.r7, .int .i64 g.r8, .int .i64 g.r9, .int .i64 g.r10, .int .i64 g.r11, .int .i64 g.r12, .int .i64 g.r13, .int .i64 g.r14, .slice g.eA g.en g.ec] 29
 have HW := Lib.hid hW1
 have Hg1 := Lib.hid (hg.at_ hB0)
 have s1 : w.heap.size < W1.heap.size := by omega
 have Hb0 := Lib.hid hb0
 have Hel := Lib.hid hg.hel
 have hen := hg.hen
 have x20 := cell_of_row _ _ 20 _ _ _ hb0
 simp at x20
 clear hW1 hz hb0 hg
 go_enter Tryz.func124, Tryz.ntmps124
 go_upto_region 1 with (fail)
 rw [<- HW.out]
 go_wp2
 go_loop [6] (fun i => ∃ k : Nat, k <= g.en /\ i = .int .i64 k /\ (g.ents.take k).any (fun y => decide (y.name = s)) = false) (fun i => g.en - (intOf i).toNat)
 case atStart => exact ⟨0, Nat.zero_le _, rfl, rfl⟩
 case round =>
  obtain ⟨k, hk, rfl, ha⟩ := hrel
  have Ha := Lib.hid ha
  clear ha
  by_cases hlt : k < g.en
  ·have hkl : k < g.ents.length := by have := Hel.out; omega
   obtain ⟨b, o, hAe, hbB, c0, c1, c2, c3, c4⟩ := EntsAt.five Hg1.out.he hkl
   rw [hAe] at x20
   clear hAe c1 c2 c3 c4
   by_cases h1 : g.ents[k].name = s
   ·have hbe : (g.ents[k].name.toList == s.toList) = true := by rw [h1]; simp
    have H1 := Lib.hid h1
    clear h1
    go_wp2
    go_ret2
    exact ⟨hB0, .inr ⟨k, hkl, rfl, H1.out, Ha.out⟩⟩
   ·have hbe : (g.ents[k].name.toList == s.toList) = false := by
     rw [beq_eq_false_iff_ne]
     intro e
     rw [ByteArray.toList_eq, ByteArray.toList_eq] at e
     exact h1 (ByteArray.ext (Array.toList_inj.mp e))
    have Ha2 : Hid ((g.ents.take (k + 1)).any (fun y => decide (y.name = s)) = false) := by
     show _ = _
     rw [List.take_succ_eq_append_getElem hkl, List.any_append, Ha.out]
     simp [h1]
    clear h1
    go_wp2
    go_round
    case rel => exact ⟨k + 1, by omega, by go_num, Ha2.out⟩
    case measure => simp [intOf]; omega
  ·obtain rfl : k = g.en := by omega
   have Ha2 : Hid (g.ents.any (fun y => decide (y.name = s)) = false) := by show _ = _; have := Ha.out; rwa [<- Hel.out, List.take_length] at this
   go_wp2
   go_ret2
   exact ⟨hB0, .inl ⟨rfl, Ha2.out⟩⟩
theorem entr_any (g : Grp) (x : Ent) (hg : g.At w w.heap.size) (hx : x.At w w.heap.size) :
  Calls Tryz.prog 125 #[.agg #[.string g.cur, .int .i64 g.Y, .int .i64 g.M, .int .i64 g.N, .slice g.cA g.cn g.cc, .int .i64 g.r0, .int .i64 g.r1, .int .i64 g.r2, .int .i64 g.r3, .int .i64 g.r4, .int .i64 g.r5, .int .i64 g.r6, .int .i64 g.r7, .int .i64 g.r8, .int .i64 g.r9, .int .i64 g.r10, .int .i64 g.r11, .int .i64 g.r12, .int .i64 g.r13, .int .i64 g.r14, .slice g.eA g.en g.ec], .agg #[.string x.name, .string x.cur, .slice x.cA x.cn x.cc, .slice x.lA x.ln x.lc, .bool x.joint]] w fun e w' => e = .returned (.bool (Gr.entity g x)) /\ Below w.heap.size w w' := by
 obtain ⟨W1, hW1, hB0, hb0, hb1, hz⟩ := nw2 w #[.string g.cur, .int .i64 g.Y, .int .i64 g.M, .int .i64 g.N, .slice g.cA g.cn g.cc, .int .i64 g.r0, .int .i64 g.r1, .int .i64 g.r2, .int .i64 g.r3, .int .i64 g.r4, .int .i64 g.r5, .int .i64 g.r6, .int .i64 g.r7, .int .i64 g.r8, .int .i64 g.r9, .int .i64 g.r10, .int .i64 g.r11, .int .i64 g.r12, .int .i64 g.r13, .int .i64 g.r14, .slice g.eA g.en g.ec] #[.string x.name, .string x.cur, .slice x.cA x.cn x.cc, .slice x.lA x.ln x.lc, .bool x.joint] 29 106
 have HW := Lib.hid hW1
 have hA1 := RowsAt.at_ hg.hc hB0
 have hx1 := hx.at_ hB0
 have x4 := cell_of_row _ _ 4 _ _ _ hb0
 have y0 := cell_of_row _ _ 0 _ _ _ hb1
 have y1 := cell_of_row _ _ 1 _ _ _ hb1
 have y2 := cell_of_row _ _ 2 _ _ _ hb1
 have y3 := cell_of_row _ _ 3 _ _ _ hb1
 have y4 := cell_of_row _ _ 4 _ _ _ hb1
 simp at x4 y0 y1 y2 y3 y4
 have s1 : w.heap.size < W1.heap.size := by omega
 have s1' : w.heap.size + 1 < W1.heap.size := by omega
 have Hb0 := Lib.hid hb0
 have Hb1 := Lib.hid hb1
 have Hcl := Lib.hid hg.hcl
 have hcn := hg.hcn
 have Hcw := Lib.hid hg.hcw
 have Hnm := Lib.hid hx.hn
 have Hcu := Lib.hid hx.hu
 have Hll := Lib.hid hx.hll
 have hln := hx.hln
 clear hW1 hz hb0 hb1 hg hx
 go_enter Tryz.func125, Tryz.ntmps125
 go_upto_region 1 with (fail)
 rw [<- HW.out]
 go_wp2_with (fail)
 refine (namer_any W1 x.name Hnm.out).mono ?_
 rintro e W2 ⟨rfl, rfl⟩
 by_cases h1 : Gr.isName x.name = true
 case neg =>
  have h1' : Gr.isName x.name = false := by simpa using h1
  have HV : Hid (Gr.entity g x = false) := by show _ = _; rw [Gr.entity, h1']; rfl
  rw [h1']
  clear h1 h1' hA1 hx1
  go_wp2
  go_ret
  exact ⟨by rw [HV.out]; rfl, hB0⟩
 have H1 := Lib.hid h1
 rw [h1]
 clear h1
 go_wp2_with (fail)
 refine (curr_any W1 x.cur Hcu.out).mono ?_
 rintro e W2 ⟨rfl, rfl⟩
 by_cases h2 : Gr.isCur x.cur = true
 case neg =>
  have h2' : Gr.isCur x.cur = false := by simpa using h2
  have HV : Hid (Gr.entity g x = false) := by show _ = _; rw [Gr.entity, h2']; simp
  rw [h2']
  clear h2 h2' hA1 hx1
  go_wp2
  go_ret
  exact ⟨by rw [HV.out]; rfl, hB0⟩
 have H2 := Lib.hid h2
 rw [h2]
 clear h2
 go_wp2_with (fail)
 refine (mapr_any W1 x g.cA g.cn g.cc g.chart Hcl.out hcn Hcw.out hx1 hA1).mono ?_
 rintro e W3 ⟨rfl, hB3⟩
 have hB03 := hB0.trans (hB3.mono hB0.size)
 have hb3 := gbox Hb0.out hB3 s1
 have he3 := gbox Hb1.out hB3 s1'
 have hx3 := hx1.at_ hB3
 by_cases h3 : Gr.mapping x.chart g.chart x.links = true
 case neg =>
  have h3' : Gr.mapping x.chart g.chart x.links = false := by simpa using h3
  have HV : Hid (Gr.entity g x = false) := by show _ = _; rw [Gr.entity, h3']; simp
  rw [h3']
  clear h3 h3' hA1 hx1 x4 y0 y1 y2 y3 y4 hx3 hb3 he3
  go_wp2
  go_ret
  exact ⟨by rw [HV.out]; rfl, hB03⟩
 have HV : Hid (Gr.entity g x = x.links.all (Gr.openTo (Gr.roles g))) := by show _ = _; rw [Gr.entity, H1.out, H2.out, h3]; rfl
 rw [h3]
 have s3 : w.heap.size < W3.heap.size := some_lt hb3
 have hrr := Lib.hid (roles_range hb3)
 have He3 := Lib.hid he3
 have Hl3 := Lib.hid hx3.hl
 clear h3 x4 y0 y1 y2 y3 y4 hb3 he3 hA1 hx1 hx3
 go_wp2_with (refine wpList_load_mid rfl 26 (.tmp 25) rfl w.heap.size 5 rfl [.int .i64 g.r0, .int .i64 g.r1, .int .i64 g.r2, .int .i64 g.r3, .int .i64 g.r4, .int .i64 g.r5, .int .i64 g.r6, .int .i64 g.r7, .int .i64 g.r8, .int .i64 g.r9, .int .i64 g.r10, .int .i64 g.r11, .int .i64 g.r12, .int .i64 g.r13, .int .i64 g.r14] _ hrr.out Tryz.underlying26 rfl rolesSize ?_)
 refine (rolesr_any W3 g).mono ?_
 rintro e W5 ⟨hB5, rb, rfl, hrb, hrows⟩
 have hq5 := hB5.size
 have hB05 := hB03.trans (hB5.mono hB03.size)
 have hrl := roles_len g
 obtain ⟨L, hL⟩ : ∃ L, L = Gr.roles g := ⟨_, rfl⟩
 rw [<- hL] at hrl hrows HV
 have HR := Lib.hid hrows
 have Hrl := Lib.hid hrl
 have He5 := Lib.hid (gbox He3.out hB5 (some_lt He3.out))
 have Hl5 := Lib.hid ((RowsAt.below Hl3.out hB5 (Nat.le_refl _)).more hq5)
 clear hL hrows hrl hrr
 go_wp2
 go_loopw [6] (fun i wr => ∃ k : Nat, k <= x.ln /\ i = .int .i64 k /\ (x.links.take k).all (Gr.openTo L) = true /\ Below W5.heap.size W5 wr) (fun i _ => x.ln - (intOf i).toNat)
 case atStart => exact ⟨0, Nat.zero_le _, rfl, rfl, Below.refl _ _⟩
 case round =>
  obtain ⟨k, hk, rfl, hall, hbr⟩ := hrel
  have Hall := Lib.hid hall
  have hq := hbr.size
  have hbF := hB05.trans (hbr.mono hB05.size)
  have he := gbox He5.out hbr (some_lt He5.out)
  have y3 := cell_of_row _ _ 3 _ _ _ he
  simp at y3
  have t1 : w.heap.size + 1 < wr.heap.size := some_lt he
  clear hall he
  by_cases hlt : k < x.ln
  ·have hkl : k < x.links.length := by have := Hll.out; omega
   go_wp2
   obtain ⟨wo, rfl⟩ : ∃ wo : World, wo = wr := ⟨_, rfl⟩
   clear y3
   go_loopw [7] (fun j wr => ∃ m : Nat, m <= 15 /\ j = .int .i64 m /\ (L.take m).any (fun y => decide (y.code = x.links[k].to) && !y.mapped) = false /\ Below W5.heap.size W5 wr) (fun j _ => 15 - (intOf j).toNat)
   case atStart => exact ⟨0, Nat.zero_le _, rfl, rfl, hbr⟩
   case round =>
    obtain ⟨m, hm, rfl, hno, hbi⟩ := hrel
    have Hno := Lib.hid hno
    have hqi := hbi.size
    have hbFi := hB05.trans (hbi.mono hB05.size)
    clear hno
    by_cases hmk : m < 15
    ·have hml : m < L.length := by have := Hrl.out; omega
     have he := gbox He5.out hbi (some_lt He5.out)
     have y3 := cell_of_row _ _ 3 _ _ _ he
     simp at y3
     have t2 : w.heap.size + 1 < wr.heap.size := some_lt he
     obtain ⟨b, o, hAe, hbB, c0, c1, c2⟩ := LnksAt.three (RowsAt.below Hl5.out hbi (Nat.le_refl _)) hkl
     rw [hAe] at y3
     obtain ⟨b', o', hAe', hbB', d0, d1, d2, d3, d4⟩ := RolesAt.five (RowsAt.below HR.out hbi (Nat.le_refl _)) hml
     cases hAe'
     simp only [Nat.zero_add] at d1 d4
     have hbi' : b < wr.heap.size := by omega
     have hrbi : rb < wr.heap.size := by omega
     have i0 : (0 : Int) <= (m : Int) := by omega
     have i1 : (m : Int) < 15 := by omega
     have i2 : (0 : Int) <= (k : Int) := by omega
     have i3 : (k : Int) < (x.ln : Int) := by omega
     obtain ⟨f1, hf1⟩ : ∃ f1, f1 = L[m].code := ⟨_, rfl⟩
     obtain ⟨f2, hf2⟩ : ∃ f2, f2 = L[m].mapped := ⟨_, rfl⟩
     rw [<- hf1] at d1
     rw [<- hf2] at d4
     have Hf1 := Lib.hid hf1
     have Hf2 := Lib.hid hf2
     have Hstep : Hid (∀ q, (decide (f1 = x.links[k].to) && !f2) = q -> (L.take (m + 1)).any (fun y => decide (y.code = x.links[k].to) && !y.mapped) = q) := by
      show ∀ q, _
      intro q hq
      rw [List.take_succ_eq_append_getElem hml, List.any_append, Hno.out, <- hq]
      simp [<- Hf1.out, <- Hf2.out]
     clear hAe he c0 c2 d0 d2 d3 hf1 hf2
     by_cases g1 : f1 = x.links[k].to
     ·have g1b : (x.links[k].to == f1) = true := by simp [g1]
      cases f2
      case false =>
       have HV2 : Hid (Gr.entity g x = false) := by
        show _ = _
        rw [HV.out]
        refine all_miss hkl ?_
        have h1 := Hstep.out true (by simp [g1])
        rw [Gr.openTo]
        have : L.any (fun y => decide (y.code = x.links[k].to) && !y.mapped) = true := by
         rw [List.any_eq_true] at h1 ⊢
         obtain ⟨y, hy, hy2⟩ := h1
         exact ⟨y, List.mem_of_mem_take hy, hy2⟩
        rw [this]; rfl
       clear g1
       go_wp2_with (go_quiet (fail))
       go_ret
       exact ⟨by rw [HV2.out]; rfl, below_drawn hbFi _⟩
      case true =>
       have Hno2 := Lib.hid (Hstep.out false (by simp))
       clear g1
       go_wp2_with (go_quiet (fail))
       go_roundw
       case rel => exact ⟨m + 1, by omega, by go_num, Hno2.out, below_drawn hbi _⟩
       case measure => simp [intOf]; omega
     ·have g1b : (x.links[k].to == f1) = false := by simp; exact fun e => g1 e.symm
      have Hno2 := Lib.hid (Hstep.out false (by simp [g1]))
      clear g1
      go_wp2_with (go_quiet (fail))
      go_roundw
      case rel => exact ⟨m + 1, by omega, by go_num, Hno2.out, below_drawn hbi _⟩
      case measure => simp [intOf]; omega
    ·obtain rfl : m = 15 := by omega
     have Hall2 := Lib.hid (all_take (P := Gr.openTo L) hkl Hall.out (by
      have := Hno.out
      rw [<- Hrl.out, List.take_length] at this
      rw [Gr.openTo, this]; rfl))
     go_wp2
     go_roundw
     case rel => exact ⟨k + 1, by omega, by go_num, Hall2.out, hbi⟩
     case measure => simp [intOf]; omega
  ·obtain rfl : k = x.ln := by omega
   have HV2 : Hid (Gr.entity g x = true) := by show _ = _; rw [HV.out]; have := Hall.out; rwa [<- Hll.out, List.take_length] at this
   go_wp2
   go_ret
   exact ⟨by rw [HV2.out]; rfl, hbF⟩
end
end Go.Proofs.YtccapfbblnnfjaaGreat
