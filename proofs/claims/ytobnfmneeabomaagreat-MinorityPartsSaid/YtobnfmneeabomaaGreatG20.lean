/- My texts Date2, LinkW. -/
import Derived.DeepKeys4
import Derived.Test.YtobnfmneeabomaaGreatG01
import Derived.Test.YtobnfmneeabomaaGreatG19
set_option linter.unusedVariables false
set_option linter.unusedSimpArgs false
set_option maxRecDepth 100000
set_option maxHeartbeats 8000000
namespace Go.Proofs.YtobnfmneeabomaaGreat
open Go.RowKit

section
variable (y m d : Int) (w : World)
end
section
variable (Y M N p : Int) (w : World)

theorem dfirst_bad (h : 1 <= M /\ M <= 12 /\ 1900 <= Y /\ Y <= 2199 /\ 0 <= p /\ p <= 120) (hp : 2199 < Cal.py Y M p) : Calls Tryz.prog 51 #[.agg #[.int .i64 Y, .int .i64 M, .int .i64 N], .int .i64 p] w fun e w' => e = .returned (.tuple #[.int .i64 0, .int .i64 2]) /\ Below w.heap.size w w' := by
 obtain ⟨h1, h2, h3, h4, h5, h6⟩ := h
 have hv : Hid (¬ Cal.vld ((12 * Y + M - 1 + p) / 12) ((12 * Y + M - 1 + p) % 12 + 1) 1) := by
  show ¬ _
  rintro ⟨_, a, _⟩; unfold Cal.py at hp; omega
 clear hp
 go_enter Tryz.func51, Tryz.ntmps51
 go_wp2_with (go_at_call 76; refine (dof_bad _ _ _ _ hv.out).mono ?_; rintro e w4 ⟨rfl, hB⟩)
 go_ret2
 exact ⟨rfl, ((Below.refl _ _).alloc (Nat.le_refl _) _).trans (hB.mono (by simp))⟩
theorem dfirst_any (h : 1 <= M /\ M <= 12 /\ 1900 <= Y /\ Y <= 2199 /\ 0 <= p /\ p <= 120) (hp : Cal.py Y M p <= 2199) : Calls Tryz.prog 51 #[.agg #[.int .i64 Y, .int .i64 M, .int .i64 N], .int .i64 p] w fun e w' => e = .returned (.tuple #[.int .i64 (Cal.first Y M p), .int .i64 0]) /\ Below w.heap.size w w' := by
 obtain ⟨h1, h2, h3, h4, h5, h6⟩ := h
 have hv : Hid (Cal.vld ((12 * Y + M - 1 + p) / 12) ((12 * Y + M - 1 + p) % 12 + 1) 1) := by
  have := Cal.mlen_bd ((12 * Y + M - 1 + p) / 12) ((12 * Y + M - 1 + p) % 12 + 1)
  unfold Cal.py at hp
  exact ⟨by omega, by omega, by omega, by omega, by omega, by omega⟩
 clear hp
 unfold Cal.first Cal.py Cal.pm
 go_enter Tryz.func51, Tryz.ntmps51
 go_wp2_with (go_at_call 76; refine (dof_any _ _ _ _ hv.out).mono ?_; rintro e w4 ⟨rfl, hB⟩)
 go_ret2
 exact ⟨rfl, ((Below.refl _ _).alloc (Nat.le_refl _) _).trans (hB.mono (by simp))⟩

theorem dcvalid_any : Calls Tryz.prog 34 #[.agg #[.int .i64 Y, .int .i64 M, .int .i64 N]] w fun e w' => e = .returned (.bool (Cal.ok Y M N)) /\ Below w.heap.size w w' := by
 rcases (show M < 1 ∨ (1 <= M /\ 12 < M) ∨ (1 <= M /\ M <= 12 /\ N < 1) ∨ (1 <= M /\ M <= 12 /\ 1 <= N /\ 120 < N) ∨ (1 <= M /\ M <= 12 /\ 1 <= N /\ N <= 120 /\ Y < 1900) ∨ (1 <= M /\ M <= 12 /\ 1 <= N /\ N <= 120 /\ 1900 <= Y /\ 2199 < Y) ∨ (1 <= M /\ M <= 12 /\ 1 <= N /\ N <= 120 /\ 1900 <= Y /\ Y <= 2199) by omega) with h | ⟨h1, h2⟩ | ⟨h1, h2, h3⟩ | ⟨h1, h2, h3, h4⟩ | ⟨h1, h2, h3, h4, h5⟩ | ⟨h1, h2, h3, h4, h5, h6⟩ | ⟨h1, h2, h3, h4, h5, h6⟩
 case inr.inr.inr.inr.inr.inr =>
  by_cases hp : Cal.py Y M (N - 1) <= 2199
  ·have H : Hid (Cal.ok Y M N = true) := (Cal.ok_iff Y M N).2 ⟨h1, h2, h3, h4, h5, h6, hp⟩
   have Hp := Lib.hid hp
   clear hp
   go_enter Tryz.func34, Tryz.ntmps34
   go_wp2_with (go_at_call 51; refine (dfirst_any _ _ _ _ _ ⟨h1, h2, h5, h6, by omega, by omega⟩ Hp.out).mono ?_; rintro e w4 ⟨rfl, hB⟩)
   go_ret
   exact ⟨ret_bool H.out.symm, ((Below.refl _ _).alloc (Nat.le_refl _) _).trans (hB.mono (by simp))⟩
  ·have H : Hid (Cal.ok Y M N = false) := by show Cal.ok Y M N = false; simp [Cal.ok]; omega
   have Hp : Hid (2199 < Cal.py Y M (N - 1)) := by show _ < _; omega
   clear hp
   go_enter Tryz.func34, Tryz.ntmps34
   go_wp2_with (go_at_call 51; refine (dfirst_bad _ _ _ _ _ ⟨h1, h2, h5, h6, by omega, by omega⟩ Hp.out).mono ?_; rintro e w4 ⟨rfl, hB⟩)
   go_ret
   exact ⟨ret_bool H.out.symm, ((Below.refl _ _).alloc (Nat.le_refl _) _).trans (hB.mono (by simp))⟩
 all_goals
  have H : Hid (Cal.ok Y M N = false) := by show Cal.ok Y M N = false; simp [Cal.ok]; omega
  go_enter Tryz.func34, Tryz.ntmps34
  go_wp2
  go_ret
  exact ⟨ret_bool H.out.symm, (Below.refl _ _).alloc (Nat.le_refl _) _⟩

end

def Lnk.wf (x : Lnk) : Prop := (Lit.int .i64 x.frm).wf = true /\ (Lit.int .i64 x.to).wf = true /\ (Lit.int .i64 x.since).wf = true
abbrev LnksAt := RowsAt Lnk.cells 3
structure Ent.At (w : World) (B : Nat) (e : Ent) : Prop where
 hcl : e.chart.length = e.cn
 hcn : e.cn <= 100000
 hc : AccsAt w B e.cA e.chart
 hcw : ∀ a ∈ e.chart, a.wf
 hll : e.links.length = e.ln
 hln : e.ln <= 100000
 hl : LnksAt w B e.lA e.links
 hlw : ∀ x ∈ e.links, x.wf
 hn : e.name.size <= maxLen
 hu : e.cur.size <= maxLen
theorem Ent.At.below {w w' : World} {B C : Nat} {e : Ent} (h : e.At w B) (hb : Below C w w') (hC : B <= C) : e.At w' B :=
 ⟨h.hcl, h.hcn, RowsAt.below h.hc hb hC, h.hcw, h.hll, h.hln, RowsAt.below h.hl hb hC, h.hlw, h.hn, h.hu⟩
theorem Ent.At.more {w : World} {B C : Nat} {e : Ent} (h : e.At w B) (hC : B <= C) : e.At w C :=
 ⟨h.hcl, h.hcn, RowsAt.more h.hc hC, h.hcw, h.hll, h.hln, RowsAt.more h.hl hC, h.hlw, h.hn, h.hu⟩
theorem Ent.At.at_ {w w' : World} {e : Ent} (h : e.At w w.heap.size) (hb : Below w.heap.size w w') : e.At w' w'.heap.size := (h.below hb (Nat.le_refl _)).more hb.size
theorem LnksAt.three {w : World} {B : Nat} {A : Option Addr} {l : List Lnk} (h : LnksAt w B A l) {k : Nat} (hk : k < l.length) : ∃ b o, A = some ⟨b, o, none⟩ /\ b < B /\ w.cell? ⟨b, o + k * 3, none⟩ = some (.int .i64 l[k].frm) /\ w.cell? ⟨b, o + k * 3 + 1, none⟩ = some (.int .i64 l[k].to) /\ w.cell? ⟨b, o + k * 3 + 2, none⟩ = some (.int .i64 l[k].since) := by
 obtain ⟨b, o, e, hb, hr⟩ := RowsAt.look h hk
 exact ⟨b, o, e, hb, hr 0 _ rfl, hr 1 _ rfl, hr 2 _ rfl⟩
section
variable (w : World)
theorem linkd_any (e : Ent) (A : Option Addr) (n c : Nat) (gch : List Acc) (x : Lnk) (hl : gch.length = n) (hn : n <= 100000) (he : e.At w w.heap.size) (hg : AccsAt w w.heap.size A gch) :
  Calls Tryz.prog 80 #[.agg #[.string e.name, .string e.cur, .slice e.cA e.cn e.cc, .slice e.lA e.ln e.lc, .bool e.joint], .slice A n c, .agg #[.int .i64 x.frm, .int .i64 x.to, .int .i64 x.since]] w fun r w' => r = .returned (.bool (Gr.linkOk e.chart gch x)) /\ Below w.heap.size w w' := by
 obtain ⟨W1, hW1, hB0, hb0, hb1, hz⟩ := nw2 w #[.string e.name, .string e.cur, .slice e.cA e.cn e.cc, .slice e.lA e.ln e.lc, .bool e.joint] #[.int .i64 x.frm, .int .i64 x.to, .int .i64 x.since] 83 113
 have HW := Lib.hid hW1
 have he1 := he.at_ hB0
 have hg1 := RowsAt.at_ hg hB0
 have hl1 := RowsAt.at_ he.hc hB0
 have x2 := cell_of_row _ _ 2 _ _ _ hb0
 have y0 := cell_of_row _ _ 0 _ _ _ hb1
 simp at x2 y0
 have s1 : w.heap.size < W1.heap.size := by omega
 have s1' : w.heap.size + 1 < W1.heap.size := by omega
 have Hb1 := Lib.hid hb1
 have Hcl := Lib.hid he.hcl
 have Hcn := Lib.hid he.hcn
 clear hW1 hz hb0 hb1 he he1 hg
 go_enter Tryz.func80, Tryz.ntmps80
 go_upto_region 1 with (fail)
 rw [<- HW.out]
 go_wp2_with (fail)
 refine (findd_any W1 e.cA e.cn e.cc e.chart x.frm Hcl.out Hcn.out hl1).mono ?_
 rintro r W2 ⟨rfl, hB2⟩
 have hb12 := gbox Hb1.out hB2 s1'
 obtain ⟨q, hq⟩ : ∃ q, q = Ch.found e.chart x.frm := ⟨_, rfl⟩
 rw [<- hq]
 have Hq := Lib.hid hq
 obtain ⟨hBa, hra, hza⟩ := row_new W2 #[.int .i64 (q).code, .int .i64 (q).kind, .int .i64 (q).basis, .int .i64 (q).parent] 111
 have hb13 := gbox hb12 hBa (some_lt hb12)
 obtain ⟨W3, hW3⟩ : ∃ W3, W3 = (W2.alloc (.cells #[.int .i64 (q).code, .int .i64 (q).kind, .int .i64 (q).basis, .int .i64 (q).parent] 111)) := ⟨_, rfl⟩
 rw [<- hW3] at hBa hra hza hb13
 have HW3 := Lib.hid hW3
 have hB02 := hB0.trans (hB2.mono hB0.size)
 have hB03 := hB02.trans (hBa.mono hB02.size)
 have hg3 := RowsAt.at_ (RowsAt.at_ hg1 hB2) hBa
 clear x2 y0 hW3 hq hb12
 have y1 := cell_of_row _ _ 1 _ _ _ hb13
 simp at y1
 have s3 : w.heap.size + 1 < W3.heap.size := some_lt hb13
 have Hb13 := Lib.hid hb13
 have Hra := Lib.hid hra
 clear hb13 hra
 go_upto_region 2 with (fail)
 rw [<- HW3.out]
 go_wp2_with (fail)
 refine (findd_any W3 A n c gch x.to hl hn hg3).mono ?_
 rintro r W4 ⟨rfl, hB4⟩
 obtain ⟨p, hp⟩ : ∃ p, p = Ch.found gch x.to := ⟨_, rfl⟩
 rw [<- hp]
 have Hp := Lib.hid hp
 have hb14 := gbox Hb13.out hB4 s3
 have hr4 := gbox Hra.out hB4 (some_lt Hra.out)
 have hB04 := hB03.trans (hB4.mono hB03.size)
 obtain ⟨hBc, hrc, hzc⟩ := row_new W4 #[.int .i64 (p).code, .int .i64 (p).kind, .int .i64 (p).basis, .int .i64 (p).parent] 111
 have hb15 := gbox hb14 hBc (some_lt hb14)
 have hr5 := gbox hr4 hBc (some_lt hr4)
 obtain ⟨W5, hW5⟩ : ∃ W5, W5 = (W4.alloc (.cells #[.int .i64 (p).code, .int .i64 (p).kind, .int .i64 (p).basis, .int .i64 (p).parent] 111)) := ⟨_, rfl⟩
 rw [<- hW5] at hBc hrc hzc hb15 hr5
 have HW5 := Lib.hid hW5
 have hBF := hB04.trans (hBc.mono hB04.size)
 clear y1 hW5 hp hb14 hr4
 have y2 := cell_of_row _ _ 2 _ _ _ hb15
 have q1 := cell_of_row _ _ 1 _ _ _ hr5
 have p1 := cell_of_row _ _ 1 _ _ _ hrc
 simp at y2 q1 p1
 have s5 : w.heap.size + 1 < W5.heap.size := some_lt hb15
 have s5' : W2.heap.size < W5.heap.size := some_lt hr5
 have s5'' : W4.heap.size < W5.heap.size := some_lt hrc
 clear hb15 hr5 hrc hg3 hg1 hl1
 go_upto_region 3 with (fail)
 rw [<- HW5.out]
 by_cases h1 : Ch.has e.chart x.frm = true
 ·by_cases h2 : Ch.has gch x.to = true
  ·by_cases h3 : q.kind = p.kind
   ·have h3b : (q.kind == p.kind) = true := by simp [h3]
    have HV : Hid (Gr.linkOk e.chart gch x = Gr.date x.since) := by show _ = _; rw [Gr.linkOk, h1, h2, <- Hq.out, <- Hp.out, decide_eq_true h3]; rfl
    rw [h1, h2]
    clear h1 h2 h3
    go_wp2_with (fail)
    refine (dvalid_any x.since W5).mono ?_
    rintro r W6 ⟨rfl, rfl⟩
    go_wp2
    go_ret
    exact ⟨by rw [HV.out]; unfold Gr.date; rw [Bool.decide_and]; rfl, hBF⟩
   ·have h3b : (q.kind == p.kind) = false := by simp [h3]
    have HV : Hid (Gr.linkOk e.chart gch x = false) := by show _ = _; rw [Gr.linkOk, h1, h2, <- Hq.out, <- Hp.out, decide_eq_false h3]; rfl
    rw [h1, h2]
    clear h1 h2 h3
    go_wp2
    go_ret
    exact ⟨by rw [HV.out]; rfl, hBF⟩
  ·have h2' : Ch.has gch x.to = false := by simpa using h2
   have HV : Hid (Gr.linkOk e.chart gch x = false) := by show _ = _; rw [Gr.linkOk, h1, h2']; rfl
   rw [h1, h2']
   clear h1 h2 h2'
   go_wp2
   go_ret
   exact ⟨by rw [HV.out]; rfl, hBF⟩
 ·have h1' : Ch.has e.chart x.frm = false := by simpa using h1
  have HV : Hid (Gr.linkOk e.chart gch x = false) := by show _ = _; rw [Gr.linkOk, h1']; rfl
  rw [h1']
  clear h1 h1'
  go_wp2
  go_ret
  exact ⟨by rw [HV.out]; rfl, hBF⟩
end
end Go.Proofs.YtobnfmneeabomaaGreat
