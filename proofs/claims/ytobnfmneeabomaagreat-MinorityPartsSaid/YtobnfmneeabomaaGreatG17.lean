/- My texts ChartP. -/
import Derived.Test.YtobnfmneeabomaaGreatG16
set_option linter.unusedVariables false
set_option linter.unusedSimpArgs false
set_option maxRecDepth 100000
set_option maxHeartbeats 8000000
namespace Go.Proofs.YtobnfmneeabomaaGreat
open Go.RowKit
def ProperPost (gr : Bool) (l : List Acc) (a : Acc) (w : World) (e : Ending) (w' : World) : Prop :=
 Below w.heap.size w w' /\ ∃ b : Bool, e = .returned (.bool b) /\ ((Ch.basic gr l a = false /\ b = false) ∨ (Ch.basic gr l a = true /\ a.parent = 0 /\ b = true) ∨
  (Ch.basic gr l a = true /\ ∃ p c, Ch.Up l a.code p c /\ Ch.Ends l p c /\ b = decide (c = 0)))
theorem basic_parent {gr : Bool} {l : List Acc} {a : Acc} (h1 : ¬ a.code < 1) (h2 : ¬ 99999 < a.code) (h3 : ¬ a.kind < 1) (h4 : ¬ 5 < a.kind) (h5 : if gr = true then 1 <= a.basis /\ a.basis <= 3 else a.basis = 0) :
  Ch.basic gr l a = (decide (a.parent = 0) || (Ch.has l a.parent && decide ((Ch.found l a.parent).code ≠ a.code) && decide ((Ch.found l a.parent).kind = a.kind))) := by
 unfold Ch.basic Ch.has Ch.found
 rw [decide_eq_true (show 1 <= a.code by omega), decide_eq_true (show a.code <= 99999 by omega), decide_eq_true (show 1 <= a.kind by omega), decide_eq_true (show a.kind <= 5 by omega)]
 have h6 : (if gr = true then decide (1 <= a.basis) && decide (a.basis <= 3) else decide (a.basis = 0)) = true := by
  cases gr
  ·simp at h5; simp [h5]
  ·simp at h5; simp [h5]
 rw [h6]
 cases Ch.find l a.parent with
 | none => simp
 | some p => simp
theorem basic_no {gr : Bool} {l : List Acc} {a : Acc} (h : a.code < 1 ∨ 99999 < a.code ∨ a.kind < 1 ∨ 5 < a.kind ∨ (gr = true /\ (a.basis < 1 ∨ 3 < a.basis)) ∨ (gr = false /\ a.basis ≠ 0)) : Ch.basic gr l a = false := by
 unfold Ch.basic
 rcases h with h | h | h | h | ⟨rfl, h⟩ | ⟨rfl, h⟩
 ·rw [decide_eq_false (show ¬ 1 <= a.code by omega)]; simp
 ·rw [decide_eq_false (show ¬ a.code <= 99999 by omega)]; simp
 ·rw [decide_eq_false (show ¬ 1 <= a.kind by omega)]; simp
 ·rw [decide_eq_false (show ¬ a.kind <= 5 by omega)]; simp
 ·rcases h with h | h
  ·rw [decide_eq_false (show ¬ 1 <= a.basis by omega)]; simp
  ·rw [decide_eq_false (show ¬ a.basis <= 3 by omega)]; simp
 ·simp [h]
section
variable (w : World)
theorem properd_any (A : Option Addr) (n c : Nat) (l : List Acc) (a : Acc) (gr : Bool) (hl : l.length = n) (hn : n <= 100000) (hwf : ∀ a ∈ l, a.wf) (hin : a ∈ l) (h : AccsAt w w.heap.size A l) :
  Calls Tryz.prog 77 #[.slice A n c, .agg #[.int .i64 (a).code, .int .i64 (a).kind, .int .i64 (a).basis, .int .i64 (a).parent], .bool gr] w (ProperPost gr l a w) := by
 have hB0 := (Below.refl w.heap.size w).alloc (Nat.le_refl _) (.cells #[.int .i64 (a).code, .int .i64 (a).kind, .int .i64 (a).basis, .int .i64 (a).parent] 111)
 have Hwf := Lib.hid hwf
 have Hw := Lib.hid (hwf a hin)
 have Hin := Lib.hid hin
 have hup := True.intro
 clear hwf hin
 by_cases h1 : a.code < 1
 ·have Hno := Lib.hid (basic_no (gr := gr) (l := l) (a := a) (.inl h1))
  clear h
  go_enter Tryz.func77, Tryz.ntmps77
  go_wp2
  go_ret
  exact ⟨hB0, false, rfl, .inl ⟨Hno.out, rfl⟩⟩
 by_cases h2 : 99999 < a.code
 ·have Hno := Lib.hid (basic_no (gr := gr) (l := l) (a := a) (.inr (.inl h2)))
  clear h
  go_enter Tryz.func77, Tryz.ntmps77
  go_wp2
  go_ret
  exact ⟨hB0, false, rfl, .inl ⟨Hno.out, rfl⟩⟩
 by_cases h3 : a.kind < 1
 ·have Hno := Lib.hid (basic_no (gr := gr) (l := l) (a := a) (.inr (.inr (.inl h3))))
  clear h
  go_enter Tryz.func77, Tryz.ntmps77
  go_wp2
  go_ret
  exact ⟨hB0, false, rfl, .inl ⟨Hno.out, rfl⟩⟩
 by_cases h4 : 5 < a.kind
 ·have Hno := Lib.hid (basic_no (gr := gr) (l := l) (a := a) (.inr (.inr (.inr (.inl h4)))))
  clear h
  go_enter Tryz.func77, Tryz.ntmps77
  go_wp2
  go_ret
  exact ⟨hB0, false, rfl, .inl ⟨Hno.out, rfl⟩⟩
 cases gr
 ·by_cases h5 : a.basis = 0
  ·have hb5 : (a.basis != 0) = false := by simp [h5]
   have Hb := Lib.hid (basic_parent (gr := false) (l := l) h1 h2 h3 h4 (by simp [h5]))
   clear h5
   by_cases h0 : a.parent = 0
   ·have hp0 : (a.parent == 0) = true := by simp [h0]
    have Hv := Hb.out
    rw [decide_eq_true h0, Bool.true_or] at Hv
    have HV := Lib.hid Hv
    have H00 := Lib.hid h0
    clear h0 Hv h hup
    go_enter Tryz.func77, Tryz.ntmps77
    go_wp2
    go_ret
    exact ⟨hB0, true, rfl, .inr (.inl ⟨HV.out, H00.out, rfl⟩)⟩
   ·have hp0 : (a.parent == 0) = false := by simp [h0]
    have Hv := Hb.out
    rw [decide_eq_false h0, Bool.false_or] at Hv
    have HV := Lib.hid Hv
    have H0 := Lib.hid (RowsAt.at_ h hB0)
    clear h0 Hv h
    go_enter Tryz.func77, Tryz.ntmps77
    go_wp2_with (fail)
    refine (findd_any _ A n c l a.parent hl hn H0.out).mono ?_
    rintro e w4 ⟨rfl, hB4⟩
    obtain ⟨hc4, hf4⟩ := bcell hB4
    have hz4 := hB4.size
    simp at hz4
    have hz4' : w.heap.size < w4.heap.size := by omega
    have hbw := hB0.trans (hB4.mono (by simp))
    have h4 := RowsAt.at_ H0.out hB4
    obtain ⟨q, hq⟩ : ∃ q, q = Ch.found l a.parent := ⟨_, rfl⟩
    rw [<- hq] at HV ⊢
    clear hq
    have hBF := hbw.alloc hbw.size (.cells #[.int .i64 (q).code, .int .i64 (q).kind, .int .i64 (q).basis, .int .i64 (q).parent] 111)
    by_cases hh : Ch.has l a.parent = true
    ·rw [hh] at HV ⊢
     by_cases hqc : q.code = a.code
     ·have hbe : (q.code == a.code) = true := by simp [hqc]
      have Hv := HV.out
      simp only [hqc, ne_eq, not_true_eq_false, decide_false, Bool.and_false, Bool.false_and] at Hv
      have HV' := Lib.hid Hv
      clear Hv hqc hh hup h4
      go_wp2
      go_ret
      exact ⟨hBF, false, rfl, .inl ⟨HV'.out, rfl⟩⟩
     ·have hbe : (q.code == a.code) = false := by simp [hqc]
      by_cases hqk : q.kind = a.kind
      ·have hbk : (q.kind != a.kind) = false := by simp [hqk]
       have Hv := HV.out
       simp only [hqc, hqk, ne_eq, not_false_eq_true, decide_true, Bool.true_and] at Hv
       have HV' := Lib.hid Hv
       have h5' := RowsAt.at_ h4 ((Below.refl w4.heap.size w4).alloc (Nat.le_refl _) (.cells #[.int .i64 (q).code, .int .i64 (q).kind, .int .i64 (q).basis, .int .i64 (q).parent] 111))
       clear Hv hqc hqk hh h4
       go_wp2_with (fail)
       refine (climbd_any _ A n c l a.code hl hn Hw.out.1 Hwf.out h5').mono ?_
       rintro e w5 ⟨hB5, p, x, A5, n5, c5, rfl, hpl, hu, hE, hl5⟩
       have hbw5 := hBF.trans (hB5.mono hBF.size)
       have hpos : 0 < p.length := by
        rcases hu.start with ⟨e1, e2⟩ | hm
        ·obtain ⟨b, hf⟩ := Ch.find_mem Hin.out
         rcases hE with hE | hE
         ·rw [e2, hf] at hE; cases hE
         ·rw [e1] at hE; cases hE
        ·exact List.length_pos_of_mem hm
       obtain ⟨b6, hf6, hp6⟩ := hu.last hpos
       obtain ⟨bk, o, rfl, hbk5, hc5⟩ := hl5.look (show p.length - 1 < p.length by omega)
       have hxw : (Lit.int .i64 (p[p.length - 1]'(by omega))).wf = true := by
        rw [<- (Ch.find_some hf6).2]; exact (Hwf.out b6 (Ch.find_some hf6).1).1
       have hF6 : Hid (Ch.found l (p[p.length - 1]'(by omega)) = b6) := by show _ = _; unfold Ch.found; rw [hf6]; rfl
       obtain ⟨lst, hlst⟩ : ∃ lst, lst = p[p.length - 1]'(by omega) := ⟨_, rfl⟩
       rw [<- hlst] at hc5 hF6
       have Hu := Lib.hid hu
       have HE := Lib.hid hE
       have hnn : n5 = p.length - 1 + 1 := by omega
       subst hnn
       have Hp6 := Lib.hid hp6
       have hi1 : (0 : Int) <= (p.length : Int) - 1 := by omega
       have hi2 : ((p.length - 1 : Nat) : Int) = (p.length : Int) - 1 := by omega
       have h6 := RowsAt.at_ h5' hB5
       clear hu hE hf6 hp6 hlst hpl hxw
       obtain ⟨m, hm⟩ : ∃ m, m = p.length - 1 := ⟨_, rfl⟩
       rw [<- hm] at hc5 ⊢
       have hm9 : m <= 100000 := by have := Hu.out.length; omega
       clear hm hi1 hi2 hpos
       go_wp2_with (fail)
       refine (findd_any w5 A n c l lst hl hn h6).mono ?_
       rintro e w6 ⟨rfl, hB6⟩
       rw [hF6.out]
       have hbw6 := hbw5.trans (hB6.mono hbw5.size)
       have hBG := hbw6.alloc hbw6.size (.cells #[.int .i64 (b6).code, .int .i64 (b6).kind, .int .i64 (b6).basis, .int .i64 (b6).parent] 111)
       clear hc5 h5' h6
       by_cases hb6 : b6.parent = 0
       ·have hb60 : (b6.parent == 0) = true := by simp [hb6]
        have Hb6 := Lib.hid hb6
        clear hb6
        go_wp2
        go_ret
        exact ⟨hBG, true, rfl, .inr (.inr ⟨HV'.out, p, x, Hu.out, HE.out, by rw [<- Hp6.out, Hb6.out]; rfl⟩)⟩
       ·have hb60 : (b6.parent == 0) = false := by simp [hb6]
        have Hb6 := Lib.hid hb6
        clear hb6
        go_wp2
        go_ret
        exact ⟨hBG, false, rfl, .inr (.inr ⟨HV'.out, p, x, Hu.out, HE.out, by rw [decide_eq_false (by rw [<- Hp6.out]; exact Hb6.out)]⟩)⟩
      ·have hbk : (q.kind != a.kind) = true := by simp [hqk]
       have Hv := HV.out
       simp only [hqk, decide_false, Bool.and_false] at Hv
       have HV' := Lib.hid Hv
       clear Hv hqc hqk hh hup h4
       go_wp2
       go_ret
       exact ⟨hBF, false, rfl, .inl ⟨HV'.out, rfl⟩⟩
    ·have hh' : Ch.has l a.parent = false := by simpa using hh
     rw [hh'] at HV ⊢
     have Hv := HV.out
     simp only [Bool.false_and] at Hv
     have HV' := Lib.hid Hv
     clear Hv hh hh' hup h4
     go_wp2
     go_ret
     exact ⟨hBF, false, rfl, .inl ⟨HV'.out, rfl⟩⟩
  ·have hb5 : (a.basis != 0) = true := by simp [h5]
   have Hno := Lib.hid (basic_no (gr := false) (l := l) (a := a) (.inr (.inr (.inr (.inr (.inr ⟨rfl, h5⟩))))))
   clear h5 h
   go_enter Tryz.func77, Tryz.ntmps77
   go_wp2
   go_ret
   exact ⟨hB0, false, rfl, .inl ⟨Hno.out, rfl⟩⟩
 ·by_cases h5 : a.basis < 1
  ·have Hno := Lib.hid (basic_no (gr := true) (l := l) (a := a) (.inr (.inr (.inr (.inr (.inl ⟨rfl, .inl h5⟩))))))
   clear h
   go_enter Tryz.func77, Tryz.ntmps77
   go_wp2
   go_ret
   exact ⟨hB0, false, rfl, .inl ⟨Hno.out, rfl⟩⟩
  by_cases h6 : 3 < a.basis
  ·have Hno := Lib.hid (basic_no (gr := true) (l := l) (a := a) (.inr (.inr (.inr (.inr (.inl ⟨rfl, .inr h6⟩))))))
   clear h
   go_enter Tryz.func77, Tryz.ntmps77
   go_wp2
   go_ret
   exact ⟨hB0, false, rfl, .inl ⟨Hno.out, rfl⟩⟩
  have Hb := Lib.hid (basic_parent (gr := true) (l := l) h1 h2 h3 h4 (by simp; omega))
  by_cases h0 : a.parent = 0
  ·have hp0 : (a.parent == 0) = true := by simp [h0]
   have Hv := Hb.out
   rw [decide_eq_true h0, Bool.true_or] at Hv
   have HV := Lib.hid Hv
   have H00 := Lib.hid h0
   clear h0 Hv h hup
   go_enter Tryz.func77, Tryz.ntmps77
   go_wp2
   go_ret
   exact ⟨hB0, true, rfl, .inr (.inl ⟨HV.out, H00.out, rfl⟩)⟩
  ·have hp0 : (a.parent == 0) = false := by simp [h0]
   have Hv := Hb.out
   rw [decide_eq_false h0, Bool.false_or] at Hv
   have HV := Lib.hid Hv
   have H0 := Lib.hid (RowsAt.at_ h hB0)
   clear h0 Hv h
   go_enter Tryz.func77, Tryz.ntmps77
   go_wp2_with (fail)
   refine (findd_any _ A n c l a.parent hl hn H0.out).mono ?_
   rintro e w4 ⟨rfl, hB4⟩
   obtain ⟨hc4, hf4⟩ := bcell hB4
   have hz4 := hB4.size
   simp at hz4
   have hz4' : w.heap.size < w4.heap.size := by omega
   have hbw := hB0.trans (hB4.mono (by simp))
   have h4 := RowsAt.at_ H0.out hB4
   obtain ⟨q, hq⟩ : ∃ q, q = Ch.found l a.parent := ⟨_, rfl⟩
   rw [<- hq] at HV ⊢
   clear hq
   have hBF := hbw.alloc hbw.size (.cells #[.int .i64 (q).code, .int .i64 (q).kind, .int .i64 (q).basis, .int .i64 (q).parent] 111)
   by_cases hh : Ch.has l a.parent = true
   ·rw [hh] at HV ⊢
    by_cases hqc : q.code = a.code
    ·have hbe : (q.code == a.code) = true := by simp [hqc]
     have Hv := HV.out
     simp only [hqc, ne_eq, not_true_eq_false, decide_false, Bool.and_false, Bool.false_and] at Hv
     have HV' := Lib.hid Hv
     clear Hv hqc hh hup h4
     go_wp2
     go_ret
     exact ⟨hBF, false, rfl, .inl ⟨HV'.out, rfl⟩⟩
    ·have hbe : (q.code == a.code) = false := by simp [hqc]
     by_cases hqk : q.kind = a.kind
     ·have hbk : (q.kind != a.kind) = false := by simp [hqk]
      have Hv := HV.out
      simp only [hqc, hqk, ne_eq, not_false_eq_true, decide_true, Bool.true_and] at Hv
      have HV' := Lib.hid Hv
      have h5' := RowsAt.at_ h4 ((Below.refl w4.heap.size w4).alloc (Nat.le_refl _) (.cells #[.int .i64 (q).code, .int .i64 (q).kind, .int .i64 (q).basis, .int .i64 (q).parent] 111))
      clear Hv hqc hqk hh h4
      go_wp2_with (fail)
      refine (climbd_any _ A n c l a.code hl hn Hw.out.1 Hwf.out h5').mono ?_
      rintro e w5 ⟨hB5, p, x, A5, n5, c5, rfl, hpl, hu, hE, hl5⟩
      have hbw5 := hBF.trans (hB5.mono hBF.size)
      have hpos : 0 < p.length := by
       rcases hu.start with ⟨e1, e2⟩ | hm
       ·obtain ⟨b, hf⟩ := Ch.find_mem Hin.out
        rcases hE with hE | hE
        ·rw [e2, hf] at hE; cases hE
        ·rw [e1] at hE; cases hE
       ·exact List.length_pos_of_mem hm
      obtain ⟨b6, hf6, hp6⟩ := hu.last hpos
      obtain ⟨bk, o, rfl, hbk5, hc5⟩ := hl5.look (show p.length - 1 < p.length by omega)
      have hxw : (Lit.int .i64 (p[p.length - 1]'(by omega))).wf = true := by
       rw [<- (Ch.find_some hf6).2]; exact (Hwf.out b6 (Ch.find_some hf6).1).1
      have hF6 : Hid (Ch.found l (p[p.length - 1]'(by omega)) = b6) := by show _ = _; unfold Ch.found; rw [hf6]; rfl
      obtain ⟨lst, hlst⟩ : ∃ lst, lst = p[p.length - 1]'(by omega) := ⟨_, rfl⟩
      rw [<- hlst] at hc5 hF6
      have Hu := Lib.hid hu
      have HE := Lib.hid hE
      have hnn : n5 = p.length - 1 + 1 := by omega
      subst hnn
      have Hp6 := Lib.hid hp6
      have hi1 : (0 : Int) <= (p.length : Int) - 1 := by omega
      have hi2 : ((p.length - 1 : Nat) : Int) = (p.length : Int) - 1 := by omega
      have h6 := RowsAt.at_ h5' hB5
      clear hu hE hf6 hp6 hlst hpl hxw
      obtain ⟨m, hm⟩ : ∃ m, m = p.length - 1 := ⟨_, rfl⟩
      rw [<- hm] at hc5 ⊢
      have hm9 : m <= 100000 := by have := Hu.out.length; omega
      clear hm hi1 hi2 hpos
      go_wp2_with (fail)
      refine (findd_any w5 A n c l lst hl hn h6).mono ?_
      rintro e w6 ⟨rfl, hB6⟩
      rw [hF6.out]
      have hbw6 := hbw5.trans (hB6.mono hbw5.size)
      have hBG := hbw6.alloc hbw6.size (.cells #[.int .i64 (b6).code, .int .i64 (b6).kind, .int .i64 (b6).basis, .int .i64 (b6).parent] 111)
      clear hc5 h5' h6
      by_cases hb6 : b6.parent = 0
      ·have hb60 : (b6.parent == 0) = true := by simp [hb6]
       have Hb6 := Lib.hid hb6
       clear hb6
       go_wp2
       go_ret
       exact ⟨hBG, true, rfl, .inr (.inr ⟨HV'.out, p, x, Hu.out, HE.out, by rw [<- Hp6.out, Hb6.out]; rfl⟩)⟩
      ·have hb60 : (b6.parent == 0) = false := by simp [hb6]
       have Hb6 := Lib.hid hb6
       clear hb6
       go_wp2
       go_ret
       exact ⟨hBG, false, rfl, .inr (.inr ⟨HV'.out, p, x, Hu.out, HE.out, by rw [decide_eq_false (by rw [<- Hp6.out]; exact Hb6.out)]⟩)⟩
     ·have hbk : (q.kind != a.kind) = true := by simp [hqk]
      have Hv := HV.out
      simp only [hqk, decide_false, Bool.and_false] at Hv
      have HV' := Lib.hid Hv
      clear Hv hqc hqk hh hup h4
      go_wp2
      go_ret
      exact ⟨hBF, false, rfl, .inl ⟨HV'.out, rfl⟩⟩
   ·have hh' : Ch.has l a.parent = false := by simpa using hh
    rw [hh'] at HV ⊢
    have Hv := HV.out
    simp only [Bool.false_and] at Hv
    have HV' := Lib.hid Hv
    clear Hv hh hh' hup h4
    go_wp2
    go_ret
    exact ⟨hBF, false, rfl, .inl ⟨HV'.out, rfl⟩⟩
end
end Go.Proofs.YtobnfmneeabomaaGreat
