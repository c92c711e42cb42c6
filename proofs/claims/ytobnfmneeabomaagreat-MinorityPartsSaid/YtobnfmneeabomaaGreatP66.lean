/- My texts LawA39. -/
import Derived.Test.YtobnfmneeabomaaGreatK46
import Derived.Test.YtobnfmneeabomaaGreatK48
import Derived.Test.YtobnfmneeabomaaGreatP62
set_option linter.unusedVariables false
set_option linter.unusedSimpArgs false
set_option maxRecDepth 100000
set_option maxHeartbeats 8000000
namespace Go.Proofs.YtobnfmneeabomaaGreat
open Go.RowKit
theorem Smp.ok39 {g : Grp} (h : Smp.Is g) : Gr.valid g = true /\ g.en = 4 := by
 obtain ⟨A, c, eA, ec, x0, x1, x2, x3, rfl⟩ := h
 exact ⟨by kernel_rfl, rfl⟩
theorem Raw.ok_sh {x : Raw} {p q : Int} (h : x.ok = true) (hq : 0 < q) (hm : q <= 1000000) (h0 : 0 <= p) (h1 : p <= q) : (x.sh p q).ok = true := by
 unfold Raw.ok at h ⊢
 simp only [Bool.and_eq_true] at h ⊢
 refine ⟨⟨⟨?_, h.1.1.2⟩, h.1.2⟩, h.2⟩
 unfold Raw.quot Raw.sh
 simp only [Bool.and_eq_true, decide_eq_true_eq]
 omega
def shP (p0 p1 : Int) (k : Nat) : Int := if k = 0 then p0 else if k = 1 then p1 else 1
def shQ (k : Nat) : Int := if k < 2 then 10000 else 1
theorem sh_cells {W : World} {b : Nat} {t : TypeId} {p0 p1 : Int} {k : Nat} (hk : k < 3) (h : W.heap[b]? = some (.cells #[.int .i64 p0, .int .i64 10000, .int .i64 p1, .int .i64 10000, .int .i64 1, .int .i64 1] t (0, 0))) : W.cell? ⟨b, k * 2, none⟩ = some (.int .i64 (shP p0 p1 k)) /\ W.cell? ⟨b, k * 2 + 1, none⟩ = some (.int .i64 (shQ k)) := by
 have c := fun j => cell_of_row _ _ j _ _ _ h
 match k, hk with
 | 0, _ => exact ⟨c 0, c 1⟩
 | 1, _ => exact ⟨c 2, c 3⟩
 | 2, _ => exact ⟨c 4, c 5⟩

theorem sh_swap {W : World} {b : Nat} {q0 q1 : Int} (h : W.heap[b]? = some (.cells #[.int .i64 q0, .int .i64 10000, .int .i64 q1, .int .i64 10000, .int .i64 1, .int .i64 1] 42 (0, 0))) : ((((W.setCell ⟨b, 0, none⟩ (.int .i64 q1)).setCell ⟨b, 1, none⟩ (.int .i64 10000)).setCell ⟨b, 2, none⟩ (.int .i64 q0)).setCell ⟨b, 3, none⟩ (.int .i64 10000)).heap[b]? = some (.cells #[.int .i64 q1, .int .i64 10000, .int .i64 q0, .int .i64 10000, .int .i64 1, .int .i64 1] 42 (0, 0)) /\
  Below b W ((((W.setCell ⟨b, 0, none⟩ (.int .i64 q1)).setCell ⟨b, 1, none⟩ (.int .i64 10000)).setCell ⟨b, 2, none⟩ (.int .i64 q0)).setCell ⟨b, 3, none⟩ (.int .i64 10000)) := by
 have e1 := heap_setCell_same W b 0 _ _ (.int .i64 q1) h
 have e2 := heap_setCell_same _ b 1 _ _ (.int .i64 10000) e1
 have e3 := heap_setCell_same _ b 2 _ _ (.int .i64 q0) e2
 have e4 := heap_setCell_same _ b 3 _ _ (.int .i64 10000) e3
 refine ⟨e4, rfl, rfl, rfl, by simp [World.setCell], fun k hk => ?_⟩
 have hne : k ≠ b := by omega
 rw [heap_setCell_other _ _ _ _ hne, heap_setCell_other _ _ _ _ hne, heap_setCell_other _ _ _ _ hne, heap_setCell_other _ _ _ _ hne]
theorem wrap_small {a b : Int} (h0 : (a.natAbs : Int) < 1000000) (h1 : (b.natAbs : Int) < 1000000) : wrap64 (a * b) = a * b := by
 apply IntWalk.wrap64_in
 have h : ((a * b).natAbs : Int) = (a.natAbs : Int) * (b.natAbs : Int) := by rw [Int.natAbs_mul, Int.natCast_mul]
 have h2 : (a.natAbs : Int) * (b.natAbs : Int) <= 1000000 * 1000000 := Int.mul_le_mul (by omega) (by omega) (Int.natCast_nonneg _) (by omega)
 omega
section
variable (w : World)
theorem law_parts39 (A : Option Addr) (n c : Nat) (l : List Raw) (x u0 u1 : Int) (hu0 : 0 <= u0 /\ u0 < 65536) (hu1 : 0 <= u1 /\ u1 < 65536) (hl : l.length = n) (hn : n <= maxLen) (hr : RawsAt w w.heap.size A l) (hx : ∀ a ∈ l, a.At w w.heap.size) (hwa : ∀ a ∈ l, ∀ z ∈ a.its, (Lit.int .i64 z.acct).wf = true) :
  Calls Tryz.prog 3 #[.slice A n c, .int .i64 x, .agg #[.int .u16 u0, .int .u16 u1]] w fun e w' => e = .returned (.bool true) /\ Below w.heap.size w w' := by
 obtain ⟨W1, hW1, hB01, hb1, hz1⟩ := nw1 w #[.int .u16 u0, .int .u16 u1] 24
 have HW1 := Lib.hid hW1
 have Hb1 := Lib.hid hb1
 have s1 : w.heap.size < W1.heap.size := by omega
 have Hl := Lib.hid hl
 have Hr := Lib.hid (RowsAt.at_ hr hB01)
 have Hx := Lib.hid (fun a ha => ((hx a ha).below hB01 (Nat.le_refl _)).more hB01.size : ∀ a ∈ l, a.At W1 W1.heap.size)
 have Hwa := Lib.hid hwa
 unfold maxLen at hn
 have Hn := Lib.hid hn
 clear hl hr hx hn hwa hW1 hb1 hz1
 go_enter Tryz.func3, Tryz.ntmps3
 go_upto_region 1 with (fail)
 rw [<- HW1.out]
 go_wp2_with (fail)
 refine (awake39_any W1).mono ?_
 rintro e W2 ⟨rfl, hB2⟩
 have hB02 := hB01.trans (hB2.mono hB01.size)
 have Hr2 := Lib.hid (RowsAt.at_ Hr.out hB2)
 have Hx2 := Lib.hid (fun a ha => ((Hx.out a ha).below hB2 (Nat.le_refl _)).more hB2.size : ∀ a ∈ l, a.At W2 W2.heap.size)
 go_wp2_with (fail)
 refine (contrr_any W2 A n c l Hl.out Hn.out Hr2.out Hx2.out).mono ?_
 rintro e W3 ⟨hB3, v, ok, rfl, hok⟩
 have hB03 := hB02.trans (hB3.mono hB02.size)
 have hB13 := hB2.trans (hB3.mono hB2.size)
 have Hr3 := Lib.hid (RowsAt.at_ Hr2.out hB3)
 have Hx3 := Lib.hid (fun a ha => ((Hx2.out a ha).below hB3 (Nat.le_refl _)).more hB3.size : ∀ a ∈ l, a.At W3 W3.heap.size)
 cases ok with
 | false =>
  clear hok
  go_wp2
  go_ret
  exact ⟨rfl, hB03⟩
 | true =>
 obtain ⟨h8, hall, Ar, cr, cs, rfl, hcl, hcs, hho⟩ := hok rfl
 have H8 := Lib.hid h8
 have Hall0 := Lib.hid hall
 clear hok h8 hall hcl hcs hho
 go_wp2_with (fail)
 refine (sample_any W3).mono ?_
 rintro e W4 ⟨hB4, g, rfl, hg, hgs⟩
 have HGS := Lib.hid (Smp.ok39 hgs)
 have hB04 := hB03.trans (hB4.mono hB03.size)
 have hB14 := hB13.trans (hB4.mono hB13.size)
 obtain ⟨W5, hW5, hB5, hb5, hz5⟩ := nw1 W4 #[.string g.cur, .int .i64 g.Y, .int .i64 g.M, .int .i64 g.N, .slice g.cA g.cn g.cc, .int .i64 g.r0, .int .i64 g.r1, .int .i64 g.r2, .int .i64 g.r3, .int .i64 g.r4, .int .i64 g.r5, .int .i64 g.r6, .int .i64 g.r7, .int .i64 g.r8, .int .i64 g.r9, .int .i64 g.r10, .int .i64 g.r11, .int .i64 g.r12, .int .i64 g.r13, .int .i64 g.r14, .slice g.eA g.en g.ec] 36
 have HW5 := Lib.hid hW5
 have hB35 := hB4.trans (hB5.mono hB4.size)
 have hB05 := hB04.trans (hB5.mono hB04.size)
 have hB15 := hB14.trans (hB5.mono hB14.size)
 have Hga := Lib.hid (hg.at_ hB5)
 have Hb5 := Lib.hid hb5
 have s5 : W4.heap.size < W5.heap.size := by omega
 have Hr5 := Lib.hid (RowsAt.at_ Hr3.out hB35)
 have Hx5 := Lib.hid (fun a ha => ((Hx3.out a ha).below hB35 (Nat.le_refl _)).more hB35.size : ∀ a ∈ l, a.At W5 W5.heap.size)
 have Hbx5 := Lib.hid (gbox Hb1.out hB15 s1)
 have hrg5 := Lib.hid (grp_range hb5)
 obtain ⟨ln, hln⟩ : ∃ ln, ln = n := ⟨_, rfl⟩
 obtain ⟨⟨⟨fa, fb, _, _⟩, er⟩, hfe⟩ : ∃ r, Gr.minor g (l.map Raw.cnt) x = r := ⟨_, rfl⟩
 have HFE := Lib.hid hfe
 have HBD : Hid ((-100000000000000 <= fa /\ fa <= 100000000000000) /\ -100000000000000 <= fb /\ fb <= 100000000000000) := Lib.hid (by
  have h := Gr.minor_bd (g := g) (m := l.map Raw.cnt) (x := x) (by
   intro y hy
   rw [List.mem_map] at hy
   obtain ⟨a, ha, rfl⟩ := hy
   have k := Raw.few_ok (Raw.ok_parts (Hall0.out a ha)).2.2.1
   exact ⟨Nat.le_trans k.1 (by omega), k.2⟩)
  rw [hfe] at h; exact h)
 have HER : Hid (er ≠ 0 -> er = 2 /\ (x < 0 ∨ 4 <= x)) := Lib.hid fun h => by
  have h2 := Gr.minor_err (g := g) (m := l.map Raw.cnt) (x := x) HGS.out.1 (by rw [hfe]; exact h)
  rw [hfe, HGS.out.2] at h2; exact h2
 have h1c : ∀ v ∈ (#[.string g.cur, .int .i64 g.Y, .int .i64 g.M, .int .i64 g.N, .slice g.cA g.cn g.cc, .int .i64 g.r0, .int .i64 g.r1, .int .i64 g.r2, .int .i64 g.r3, .int .i64 g.r4, .int .i64 g.r5, .int .i64 g.r6, .int .i64 g.r7, .int .i64 g.r8, .int .i64 g.r9, .int .i64 g.r10, .int .i64 g.r11, .int .i64 g.r12, .int .i64 g.r13, .int .i64 g.r14, .slice g.eA g.en g.ec] : Array Value).toList, v.oneCell' = true := by simp [Value.oneCell']
 clear hg hgs hW5 hb5 hz5 hfe
 go_upto_region 7 with (refine wpList_store_new rfl 36 _ _ rfl 36 _ #[.string g.cur, .int .i64 g.Y, .int .i64 g.M, .int .i64 g.N, .slice g.cA g.cn g.cc, .int .i64 g.r0, .int .i64 g.r1, .int .i64 g.r2, .int .i64 g.r3, .int .i64 g.r4, .int .i64 g.r5, .int .i64 g.r6, .int .i64 g.r7, .int .i64 g.r8, .int .i64 g.r9, .int .i64 g.r10, .int .i64 g.r11, .int .i64 g.r12, .int .i64 g.r13, .int .i64 g.r14, .slice g.eA g.en g.ec] rfl rfl rfl h1c grpSize ?_)
 clear h1c
 rw [<- HW5.out]
 obtain ⟨W6, hW6, hB6, hb6, hz6⟩ := nw1 W5 #[.int .i64 0, .int .i64 0, .int .i64 0, .int .i64 0, .int .i64 0, .int .i64 0, .int .i64 0, .int .i64 0, .int .i64 0, .int .i64 0, .int .i64 0, .int .i64 0] 40
 have HW6 := Lib.hid hW6
 have Hb6 := Lib.hid hb6
 have c0 := cell_of_row _ _ 0 _ _ _ (gbox Hbx5.out hB6 (some_lt Hbx5.out))
 have c1 := cell_of_row _ _ 1 _ _ _ (gbox Hbx5.out hB6 (some_lt Hbx5.out))
 simp at c0 c1
 have s6 : w.heap.size < W6.heap.size := by have := some_lt Hbx5.out; omega
 have z6 : W5.heap.size < W6.heap.size := by omega
 clear hW6 hb6 hz6
 go_upto_region 8 with (fail)
 rw [<- HW6.out]
 go_upto_region 9 with (fail)
 obtain ⟨q0, hq0⟩ : ∃ q0, q0 = min u0 u1 % 10001 := ⟨_, rfl⟩
 obtain ⟨q1, hq1⟩ : ∃ q1, q1 = max u0 u1 % 10001 := ⟨_, rfl⟩
 rw [<- hq0, <- hq1]
 have hqb : (0 <= q0 /\ q0 <= 10000) /\ 0 <= q1 /\ q1 <= 10000 := by omega
 clear hq0 hq1
 obtain ⟨W7, hW7, hB7, hb7, hz7⟩ := nw1 W6 #[.int .i64 q0, .int .i64 10000, .int .i64 q1, .int .i64 10000, .int .i64 1, .int .i64 1] 42
 have HW7 := Lib.hid hW7
 rw [<- hW7]
 clear hz7
 have hB57 := hB6.trans (hB7.mono hB6.size)
 have Hb67 := Lib.hid (gbox Hb6.out hB7 z6)
 have Hb7 := Lib.hid hb7
 have d0 := cell_of_row _ _ 0 _ _ _ hb7
 have d1 := cell_of_row _ _ 1 _ _ _ hb7
 have d2 := cell_of_row _ _ 2 _ _ _ hb7
 have d3 := cell_of_row _ _ 3 _ _ _ hb7
 simp at d0 d1 d2 d3
 have fz := fun j => frozen_of_row _ _ j _ _ hb7
 have z7 : W6.heap.size < W7.heap.size := some_lt hb7
 have HSW := Lib.hid (sh_swap hb7)
 have HQB := Lib.hid hqb
 clear hW7 hb7 c0 c1 hqb
 rename_i K1 hK1 K0 hK0
 have key : ∀ (W8 : World) (p0 p1 : Int) (b2 b3 b4 b5 b6 b7 b8 t19 t20 t21 t22 t23 t24 t25 t26 t27 t28 t29 t30 t31 t32 t33 t34 t35 t36 t37 t38 t39 t40 t41 t42 t43 t44 t45 t46 t47 t48 t49 t50 t51 t52 t53 t54 t55 t56 t57 t58 t59 : Value), Below W6.heap.size W7 W8 -> W8.heap[W6.heap.size]? = some (.cells #[.int .i64 p0, .int .i64 10000, .int .i64 p1, .int .i64 10000, .int .i64 1, .int .i64 1] 42 (0, 0)) -> ((0 <= p0 /\ p0 <= p1) /\ p1 <= 10000) -> K1 ⟨#[.slice A n c, .int .i64 x, b2, b3, b4, b5, b6, b7, b8, .pointer (some ⟨W4.heap.size, 0, none⟩), .pointer (some ⟨W5.heap.size, 0, none⟩), .pointer (some ⟨W6.heap.size, 0, none⟩), undef, undef, undef, undef, undef, undef, undef, t19, t20, t21, t22, t23, t24, t25, t26, t27, t28, t29, t30, t31, t32, t33, t34, t35, t36, t37, t38, t39, t40, t41, t42, t43, t44, t45, t46, t47, t48, t49, t50, t51, t52, t53, t54, t55, t56, t57, t58, t59, undef, undef, undef, undef, undef, undef, undef, undef, undef, undef, undef, undef, undef, undef, undef, undef, undef, undef, undef, undef, undef, undef, undef, undef, undef, undef, undef, undef, undef, undef, undef, undef, undef, undef, undef, undef, undef, undef, undef, undef, undef, undef, undef, undef, undef, undef, undef, undef, undef, undef, undef, undef, undef, undef, undef, undef, undef, undef, undef, undef, undef, undef, undef, undef, undef, undef, undef, undef, undef, undef, undef, undef, undef, undef, undef, undef, undef, undef, undef, undef, undef, undef, undef, undef, undef, undef, undef, undef, undef, undef, undef, undef, undef, undef, undef, undef, undef, undef, undef, undef, undef, undef, undef, undef, undef, undef, undef, undef, undef, undef, undef, undef, undef, undef, undef, undef, undef, undef, undef, undef, undef, undef, undef, undef, undef, undef, undef, undef, undef, undef, undef, undef, undef, undef, undef, undef, undef, undef, undef, undef, undef], []⟩ W8 := by
  intro W8 p0 p1 b2 b3 b4 b5 b6 b7 b8 t19 t20 t21 t22 t23 t24 t25 t26 t27 t28 t29 t30 t31 t32 t33 t34 t35 t36 t37 t38 t39 t40 t41 t42 t43 t44 t45 t46 t47 t48 t49 t50 t51 t52 t53 t54 t55 t56 t57 t58 t59 hB78 hsh hpb
  refine hK1 _ _ ?_
  clear hK0 hK1 HSW HQB d0 d1 d2 d3 fz
  have hB58 : Below W5.heap.size W5 W8 := hB57.trans (hB78.mono (by omega))
  have HPB := Lib.hid hpb
  have Hsh8 := Lib.hid hsh
  have Hb8 := Lib.hid ((hB78.block _ z6).trans Hb67.out)
  obtain ⟨oc, hoc⟩ : ∃ f : Nat -> Int, f = fun k => R1.oth fa (shP p0 p1 k) (shQ k) := ⟨_, rfl⟩
  obtain ⟨od, hod⟩ : ∃ f : Nat -> Int, f = fun k => R1.oth fb (shP p0 p1 k) (shQ k) := ⟨_, rfl⟩
  have HOC := Lib.hid hoc
  have HOD := Lib.hid hod
  have Hst8 : Hid (AllAt W5.heap.size oc od 0 W8) := Lib.hid ⟨_, Hb8.out, rfl, fun j h => absurd h (Nat.not_lt_zero _)⟩
  have HB58 := Lib.hid hB58
  clear hpb hsh hoc hod hB78 hB58
  go_wp2
  go_loopw [12] (fun s wr => ∃ k : Nat, k <= 3 /\ s = .int .i64 k /\ AllAt W5.heap.size oc od k wr /\ Below W5.heap.size W5 wr /\ wr.heap[W6.heap.size]? = some (.cells #[.int .i64 p0, .int .i64 10000, .int .i64 p1, .int .i64 10000, .int .i64 1, .int .i64 1] 42 (0, 0))) (fun s _ => 3 - (intOf s).toNat)
  case atStart => exact ⟨0, Nat.zero_le _, rfl, Hst8.out, HB58.out, Hsh8.out⟩
  case round =>
   rename World => Wr
   obtain ⟨k, hk, rfl, hal, hbr, hsr⟩ := hrel
   have Hal := Lib.hid hal
   have Hsr := Lib.hid hsr
   have Hbr := Lib.hid hbr
   have szr : W5.heap.size <= Wr.heap.size := hbr.size
   have lsr : W6.heap.size < Wr.heap.size := some_lt hsr
   clear hal hsr hbr
   by_cases hlt : k < 3
   ·skip
    obtain ⟨pk, hpk⟩ : ∃ pk, pk = shP p0 p1 k := ⟨_, rfl⟩
    obtain ⟨qk, hqk⟩ : ∃ qk, qk = shQ k := ⟨_, rfl⟩
    have HPQ : Hid ((0 <= pk /\ pk <= qk) /\ 0 < qk /\ qk <= 1000000) := Lib.hid (by have h := HPB.out; rw [hpk, hqk]; unfold shP shQ; (repeat' split) <;> omega)
    have HPK := Lib.hid hpk
    have HQK := Lib.hid hqk
    have hkl : (k : Int) < 3 := by omega
    have hk0 : (0 : Int) <= (k : Int) := by omega
    obtain ⟨V1, hV1, hBv1, hv1, hzv1⟩ := nw1 Wr #[] 45
    have HV1 := Lib.hid hV1
    have Hv1 := Lib.hid hv1
    have hqv := hBv1.size
    have HBv1 := Lib.hid hBv1
    have Hrv1 := Lib.hid (RowsAt.at_ (RowsAt.at_ Hr5.out Hbr.out) hBv1)
    have hn104 : n * 104 <= 140737488355328 := by have := Hl.out; have := H8.out; omega
    have HN104 := Lib.hid hn104
    clear hpk hqk hV1 hv1 hzv1 hBv1 hn104
    have tok : True := trivial
    go_upto_region 15 with (at_builtin; have _t := tok; rw [<- HV1.out]; refine wpList_copy_raws V1 rfl _ _ 22 rfl Tryz.underlying22 Wr.heap.size rfl Hv1.out A n c l rfl Hl.out HN104.out Hrv1.out ?_; intro G cap V2 ho2 hg2; clear _t tok)
    have hG : Wr.heap.size <= G := by
     rcases ho2.2 with ⟨h, _⟩ | ⟨G', c', cur, h, hb, _⟩
     ·cases h
     ·cases h; exact hb
    have hst0 : SetF (Raw.sh pk qk) l G 0 V2 V2 := SetF.start Hl.out ho2
    have hbw : Below Wr.heap.size Wr V2 := HBv1.out.grown hg2 hqv (fun k hk => by cases hk; exact Nat.le_refl _)
    have Hbw := Lib.hid hbw
    have Hst0 := Lib.hid hst0
    have Hs2 := Lib.hid ((hbw.block _ lsr).trans Hsr.out)
    have szw := hbw.size
    clear ho2 hg2 hst0 hbw
    go_wp2
    go_loopw [14] (fun s wr => ∃ i : Nat, i <= n /\ s = .int .i64 i /\ SetF (Raw.sh pk qk) l G i V2 wr) (fun s _ => n - (intOf s).toNat)
    case atStart => exact ⟨0, Nat.zero_le _, rfl, Hst0.out⟩
    case round =>
     rename World => V3
     obtain ⟨i, hi, rfl, hst⟩ := hrel
     have Hst := Lib.hid hst
     have Hgr := Lib.hid hst.grown
     have hnb : (n : Int) <= 8 := by have := Hl.out; have := H8.out; omega
     have hsh3 := (Hgr.out.block _ (some_lt Hs2.out) (by simp; omega)).trans Hs2.out
     have Hsh3 := Lib.hid hsh3
     have l3 := some_lt hsh3
     have szg := Hgr.out.size
     clear hst hsh3
     by_cases hil : i < n
     ·have hil2 : i < l.length := by rw [Hl.out]; exact hil
      obtain ⟨hcell, cf, hGl⟩ := Hst.out.look hil2
      have c3 : V3.cell? ⟨G, i * 9 + 3, none⟩ = some (.int .i64 l[i].s0) := hcell 3 _ (by omega) rfl
      have c4 : V3.cell? ⟨G, i * 9 + 4, none⟩ = some (.int .i64 l[i].s1) := hcell 4 _ (by omega) rfl
      obtain ⟨y0, hy0⟩ : ∃ y0, y0 = l[i].s0 := ⟨_, rfl⟩
      obtain ⟨y1, hy1⟩ : ∃ y1, y1 = l[i].s1 := ⟨_, rfl⟩
      rw [<- hy0] at c3
      rw [<- hy1] at c4
      obtain ⟨cp, cq⟩ := sh_cells hlt Hsh3.out
      rw [<- HPK.out] at cp
      rw [<- HQK.out] at cq
      have hi0 : (0 : Int) <= (i : Int) := by omega
      have hin : (i : Int) < n := by omega
      have Hs4 := Lib.hid (Hst.out.step hil2 3 4 (.int .i64 pk) (.int .i64 qk) (by omega) (by omega) rfl)
      clear hcell hy0 hy1
      go_wp2
      go_roundw
      case rel => exact ⟨i + 1, by omega, by go_num, Hs4.out⟩
      case measure => simp [intOf]; omega
     ·obtain rfl : i = n := by omega
      have hst := Hst.out
      rw [<- Hl.out] at hst
      have hraws := hst.done
      clear hst
      have hbv : Below Wr.heap.size Wr V3 := Hbw.out.grown Hgr.out Hbw.out.size (fun k hk => by cases hk; exact hG)
      have hB5v := Hbr.out.trans (hbv.mono Hbr.out.size)
      have Hbv := Lib.hid hbv
      obtain ⟨ms, hms⟩ : ∃ ms, ms = l.map (Raw.sh pk qk) := ⟨_, rfl⟩
      rw [<- hms] at hraws
      have Hml : Hid (ms.length = i) := Lib.hid (by rw [hms, List.length_map]; exact Hl.out)
      have Hmln := Lib.hid (show ms.length = i from Hml.out)
      have Hraw3 := Lib.hid hraws
      have Hmx3 : Hid (∀ a ∈ ms, a.At V3 V3.heap.size) := Lib.hid fun a ha => by
       rw [hms, List.mem_map] at ha
       obtain ⟨b, hb, rfl⟩ := ha
       exact Raw.sh_at (((Hx5.out b hb).below hB5v (Nat.le_refl _)).more hB5v.size)
      have Hall : Hid (∀ a ∈ ms, a.ok = true) := Lib.hid fun a ha => by
       rw [hms, List.mem_map] at ha
       obtain ⟨b, hb, rfl⟩ := ha
       have h := HPQ.out
       exact Raw.ok_sh (Hall0.out b hb) h.2.1 h.2.2 h.1.1 h.1.2
      have Hwf : Hid (∀ y ∈ ms.map Raw.cnt, ∀ z ∈ y.its, (Lit.int .i64 z.acct).wf = true) := Lib.hid fun y hy => by
       rw [List.mem_map] at hy
       obtain ⟨a, ha, rfl⟩ := hy
       rw [hms, List.mem_map] at ha
       obtain ⟨b, hb, rfl⟩ := ha
       exact Hwa.out b hb
      obtain ⟨fc, hfc⟩ : ∃ fc, fc = R1.oth fa pk qk := ⟨_, rfl⟩
      obtain ⟨fd, hfd⟩ : ∃ fd, fd = R1.oth fb pk qk := ⟨_, rfl⟩
      have HAS : Hid (Gr.minor g (ms.map Raw.cnt) x = ((fa, fb, fc, fd), er)) := Lib.hid (by rw [hms, Gr.minor_sh HPQ.out.2.1 HPQ.out.1.1, HFE.out, hfc, hfd])
      have HFC := Lib.hid hfc
      have HFD := Lib.hid hfd
      have s3 : W4.heap.size < V3.heap.size := by have := hB5v.size; omega
      have hrg3 := Lib.hid (range_below hrg5.out hB5v s5)
      have Hga3 := Lib.hid (Hga.out.at_ hB5v)
      have H8m : Hid (ms.length <= 8) := Lib.hid (by have := Hml.out; have := Hl.out; have := H8.out; omega)
      clear hraws hms hfc hfd hbv
      go_upto_region 19 with (fail)
      have hS : Below V3.heap.size V3 V3.drew := below_drawn (Below.refl _ _) 1
      refine wp_region_held (S := Below V3.heap.size V3) (by kernel_rfl) ?_
      change wpAnyH _ _ _ _ _ _ _ _ (World.drew V3)
      obtain ⟨W_0, hWd⟩ : ∃ W0, W0 = V3.drew := ⟨_, rfl⟩
      rw [<- hWd] at hS ⊢
      clear hWd
      refine tk (i := 0) (v := .agg #[.string g.cur, .int .i64 g.Y, .int .i64 g.M, .int .i64 g.N, .slice g.cA g.cn g.cc, .int .i64 g.r0, .int .i64 g.r1, .int .i64 g.r2, .int .i64 g.r3, .int .i64 g.r4, .int .i64 g.r5, .int .i64 g.r6, .int .i64 g.r7, .int .i64 g.r8, .int .i64 g.r9, .int .i64 g.r10, .int .i64 g.r11, .int .i64 g.r12, .int .i64 g.r13, .int .i64 g.r14, .slice g.eA g.en g.ec]) rfl (by kernel_rfl) (fun _ _ _ h => h) (yieldsIf_load_mid (by rfl) 36 _ rfl W4.heap.size 0 rfl [.string g.cur, .int .i64 g.Y, .int .i64 g.M, .int .i64 g.N, .slice g.cA g.cn g.cc, .int .i64 g.r0, .int .i64 g.r1, .int .i64 g.r2, .int .i64 g.r3, .int .i64 g.r4, .int .i64 g.r5, .int .i64 g.r6, .int .i64 g.r7, .int .i64 g.r8, .int .i64 g.r9, .int .i64 g.r10, .int .i64 g.r11, .int .i64 g.r12, .int .i64 g.r13, .int .i64 g.r14, .slice g.eA g.en g.ec] _ (fun W' hS' => range_below hrg3.out hS' s3) Tryz.underlying36 rfl grpSize) hS ?_
      try simp only [z]
      refine tk (i := 1) (v := .slice (some ⟨G, 0, none⟩) i cap) rfl (by kernel_rfl) (fun _ _ _ h => h) (.inl ⟨by rfl, fun W' hS' => by go_simp⟩) hS ?_
      try simp only [z]
      refine tk (i := 3) (v := .int .i64 x) rfl (by kernel_rfl) (fun _ _ _ h => h) (.inl ⟨by rfl, fun W' hS' => by go_simp⟩) hS ?_
      try simp only [z]
      have hV0 := hS.size
      refine wpAnyH_letters fun md' ops' Q' a' hlm hlo hlq hla => ?_
      obtain ⟨RG, hRG⟩ : ∃ R : World -> Prop, R = Below V3.heap.size V3 := ⟨_, rfl⟩
      rw [<- hRG] at hS ⊢
      have n2 : ∀ (m : Nat) (W : World) (Ao : Option Addr) (co : Nat) (ds : List Con) (bf : Bool) (vf : Value) (pf : Nat), 2 + cond bf 0 1 <= m -> RG W -> W_0.heap.size <= W.heap.size -> Mk W_0 W bf vf pf #[.int .i64 0, .int .i64 0, .int .i64 0, .int .i64 0] 39 -> wpAnyH Tryz.prog md' ops' Q' RG m #[true, true, true, true, true, true, true, true, bf, false, false] ((((((a'.put (some 83) (.slice Ao i co)).put (some 85) (.tuple #[.agg #[.int .i64 fa, .int .i64 fb, .int .i64 fc, .int .i64 fd], .int .i64 er])).put (some 80) (.tuple #[.agg #[.int .i64 fa, .int .i64 fb, .int .i64 fc, .int .i64 fd], .int .i64 er])).put (some 86) (.agg #[.int .i64 fa, .int .i64 fb, .int .i64 fc, .int .i64 fd])).put (some 87) (.int .i64 er)).put (some 15) vf) W := by
       intro m
       induction m with
       | zero => intros; omega
       | succ m ih =>
       intro W Ao co ds bf vf pf hm hS hz Hf
       subst hlm hlo hlq hla hRG
       try simp only [z]
       by_cases hb : bf = true
       rotate_left
       ·refine wpAnyH_ready (rs := (cond bf [] [8] ++ [])) (by revert hb; cases bf <;> intro hb <;> first | exact absurd (by decide) hb | kernel_rfl) (by revert hb; cases bf <;> decide) (ropt (fun hf => .cons rfl (fun K hK => ?_) .nil) .nil)
        ·subst hf
         obtain ⟨W', hWn, hB, hrow, _⟩ := nw1 W #[.int .i64 0, .int .i64 0, .int .i64 0, .int .i64 0] 39
         go_simp
         rw [<- hWn]
         clear hWn
         have hS' := hS.trans (hB.mono hS.size)
         refine hK.out _ _ hS' (fun _ => ?_)
         clear hK K
         try simp only [z]
         have hn := ih W' Ao co ds true (.pointer (some ⟨W.heap.size, 0, none⟩)) W.heap.size (by simp only [cond_true, cond_false] at hm ⊢; omega) hS' (Nat.le_trans hz hB.size) (fun _ => ⟨rfl, hz, hrow⟩) 
         try simp only [z] at hn
         exact hn
       subst hb
       obtain ⟨rfl, gf, hf⟩ := Hf rfl
       obtain ⟨m, rfl⟩ : ∃ k, m = k + 1 := ⟨m - 1, by simp only [cond_true] at hm; omega⟩
       clear ih hm
       refine wpAnyH_ready (rs := [9]) (by kernel_rfl) (by simp) (AllReadyH.cons rfl (fun K hK => ?_) AllReadyH.nil)
       rw [if_pos (by rfl)]
       refine wp_store_row 39 _ _ none rfl rfl pf 39 _ #[.int .i64 fa, .int .i64 fb, .int .i64 fc, .int .i64 fd] rfl rfl hf rfl figmSize (by simp [Value.oneCell']) ?_
       have hrw := setRow_heap W pf _ #[.int .i64 fa, .int .i64 fb, .int .i64 fc, .int .i64 fd] _ _ hf
       have hS2 := below_setRow hS (Nat.le_trans (show V3.heap.size <= W_0.heap.size from hV0) gf) #[.int .i64 fa, .int .i64 fb, .int .i64 fc, .int .i64 fd]
       refine hK.out _ _ hS2 (fun _ => ?_)
       clear hK K
       try simp only [z]
       refine wpAnyH_ready (rs := [10]) (by kernel_rfl) (by simp) (AllReadyH.cons rfl (fun K hK => ?_) AllReadyH.nil)
       go_simp
       refine hK.out _ _ hS2 (fun _ => ?_)
       clear hK K
       try simp only [z]
       refine wpAnyH_done (by kernel_rfl) ?_ _
       try simp only [z]
       obtain ⟨V4, hWn⟩ : ∃ W6, W6 = W.setRow pf #[.int .i64 fa, .int .i64 fb, .int .i64 fc, .int .i64 fd] := ⟨_, rfl⟩
       rw [<- hWn] at hrw hS2 ⊢
       clear hWn hS hf hz gf
       have hBr4 := Hbv.out.trans (hS2.mono Hbv.out.size)
       have hB54 := Hbr.out.trans (hBr4.mono szr)
       have Hf4 := Lib.hid hrw
       have l4 := some_lt hrw
       have hrg4 := Lib.hid (range_below hrg5.out hB54 s5)
       have Hga4 := Lib.hid (Hga.out.at_ hB54)
       have Hraw4 := Lib.hid (RowsAt.at_ Hraw3.out hS2)
       have Hmx4 := Lib.hid (fun a ha => ((Hmx3.out a ha).below hS2 (Nat.le_refl _)).more hS2.size : ∀ a ∈ ms, a.At V4 V4.heap.size)
       have s4 : W4.heap.size < V4.heap.size := by have := hB54.size; omega
       have HBr4 := Lib.hid hBr4
       have hHln : i = ms.length := Hml.out.symm
       have Hln := Lib.hid hHln
       clear hrw hS2 hBr4 hB54 hHln
       obtain ⟨kkp, hkk⟩ : ∃ kk, kk = Po.pk 6 (Gr.mpost g (ms.map Raw.cnt) x) := ⟨_, rfl⟩
       obtain ⟨eep, hee⟩ : ∃ ee, ee = Po.pk x (Gr.mpost g (ms.map Raw.cnt) x) := ⟨_, rfl⟩
       obtain ⟨oop, hoo⟩ : ∃ oo, oo = Po.pk (-1) (Gr.mpost g (ms.map Raw.cnt) x) := ⟨_, rfl⟩
       obtain ⟨epp, hep⟩ : ∃ ep, ep = (Gr.mpost g (ms.map Raw.cnt) x).2 := ⟨_, rfl⟩
       obtain ⟨psp, hps⟩ : ∃ ps, ps = Po.pl (Gr.mpost g (ms.map Raw.cnt) x) := ⟨_, rfl⟩
       obtain ⟨npp, hnp⟩ : ∃ np, np = psp.length := ⟨_, rfl⟩
       have HKKp := Lib.hid hkk
       have HEEp := Lib.hid hee
       have HOOp := Lib.hid hoo
       have HEPp := Lib.hid hep
       have HPSp := Lib.hid hps
       have HNPp := Lib.hid hnp
       clear hkk hee hoo hep hps hnp
       have HK2 : Hid (er = 0 -> k = 2 -> epp = 0 /\ npp = 0) := Lib.hid fun h1 h2 => by
        subst h1 h2
        have e1 : pk = 1 := HPK.out
        have e2 : qk = 1 := HQK.out
        have hc0 : fc = 0 := by rw [HFC.out, e1, e2]; exact R1.oth_all (by omega)
        have hd0 : fd = 0 := by rw [HFD.out, e1, e2]; exact R1.oth_all (by omega)
        have hm := Gr.mpost_none (g := g) (m := ms.map Raw.cnt) (x := x) (by rw [HAS.out]; exact hc0) (by rw [HAS.out]; exact hd0) (by rw [HAS.out])
        have h3 := HEPp.out
        have h4 := HPSp.out
        rw [hm] at h3 h4
        exact ⟨h3, by rw [HNPp.out, h4]; rfl⟩
       go_upto_region 20 with (fail)
       have hS : Below V4.heap.size V4 V4.drew := below_drawn (Below.refl _ _) 1
       refine wp_region_held (S := Below V4.heap.size V4) (by kernel_rfl) ?_
       change wpAnyH _ _ _ _ _ _ _ _ (World.drew V4)
       obtain ⟨W_0, hWd⟩ : ∃ W0, W0 = V4.drew := ⟨_, rfl⟩
       rw [<- hWd] at hS ⊢
       clear hWd
       refine tk (i := 0) (v := .agg #[.string g.cur, .int .i64 g.Y, .int .i64 g.M, .int .i64 g.N, .slice g.cA g.cn g.cc, .int .i64 g.r0, .int .i64 g.r1, .int .i64 g.r2, .int .i64 g.r3, .int .i64 g.r4, .int .i64 g.r5, .int .i64 g.r6, .int .i64 g.r7, .int .i64 g.r8, .int .i64 g.r9, .int .i64 g.r10, .int .i64 g.r11, .int .i64 g.r12, .int .i64 g.r13, .int .i64 g.r14, .slice g.eA g.en g.ec]) rfl (by kernel_rfl) (fun _ _ _ h => h) (yieldsIf_load_mid (by rfl) 36 _ rfl W4.heap.size 0 rfl [.string g.cur, .int .i64 g.Y, .int .i64 g.M, .int .i64 g.N, .slice g.cA g.cn g.cc, .int .i64 g.r0, .int .i64 g.r1, .int .i64 g.r2, .int .i64 g.r3, .int .i64 g.r4, .int .i64 g.r5, .int .i64 g.r6, .int .i64 g.r7, .int .i64 g.r8, .int .i64 g.r9, .int .i64 g.r10, .int .i64 g.r11, .int .i64 g.r12, .int .i64 g.r13, .int .i64 g.r14, .slice g.eA g.en g.ec] _ (fun W' hS' => range_below hrg4.out hS' s4) Tryz.underlying36 rfl grpSize) hS ?_
       try simp only [z]
       refine tk (i := 1) (v := .slice (some ⟨G, 0, none⟩) i cap) rfl (by kernel_rfl) (fun _ _ _ h => h) (.inl ⟨by rfl, fun W' hS' => by go_simp⟩) hS ?_
       try simp only [z]
       refine tk (i := 3) (v := .int .i64 x) rfl (by kernel_rfl) (fun _ _ _ h => h) (.inl ⟨by rfl, fun W' hS' => by go_simp⟩) hS ?_
       try simp only [z]
       have hV0 := hS.size
       refine wpAnyH_letters fun md' ops' Q' a' hlm hlo hlq hla => ?_
       obtain ⟨RG, hRG⟩ : ∃ R : World -> Prop, R = Below V4.heap.size V4 := ⟨_, rfl⟩
       rw [<- hRG] at hS ⊢
       have n2 : ∀ (m : Nat) (W : World) (Ao : Option Addr) (co : Nat) (ds : List Con) (Ap : Option Addr) (cp : Nat) (bp : Bool) (vp : Value) (pp : Nat), 2 + cond bp 0 1 <= m -> RG W -> W_0.heap.size <= W.heap.size -> (PrtsAt W W.heap.size Ap psp) -> (bp = true -> psp ≠ [] -> ∀ ad, Ap = some ad -> ad.block ≠ pp) -> Mk W_0 W bp vp pp #[.int .i64 0, .int .i64 0, .int .i64 0, .int .i64 0, .slice none 0 0] 53 -> wpAnyH Tryz.prog md' ops' Q' RG m #[true, true, true, true, true, true, true, true, bp, false, false] ((((((a'.put (some 91) (.slice Ao i co)).put (some 93) (.tuple #[.agg #[.int .i64 kkp, .int .i64 eep, .int .i64 oop, .int .i64 0, .slice Ap npp cp], .int .i64 epp])).put (some 88) (.tuple #[.agg #[.int .i64 kkp, .int .i64 eep, .int .i64 oop, .int .i64 0, .slice Ap npp cp], .int .i64 epp])).put (some 94) (.agg #[.int .i64 kkp, .int .i64 eep, .int .i64 oop, .int .i64 0, .slice Ap npp cp])).put (some 95) (.int .i64 epp)).put (some 17) vp) W := by
        intro m
        induction m with
        | zero => intros; omega
        | succ m ih =>
        intro W Ao co ds Ap cp bp vp pp hm hS hz hPp hq Hp
        subst hlm hlo hlq hla hRG
        try simp only [z]
        by_cases hb : bp = true
        rotate_left
        ·refine wpAnyH_ready (rs := (cond bp [] [8] ++ [])) (by revert hb; cases bp <;> intro hb <;> first | exact absurd (by decide) hb | kernel_rfl) (by revert hb; cases bp <;> decide) (ropt (fun hp => .cons rfl (fun K hK => ?_) .nil) .nil)
         ·subst hp
          obtain ⟨W', hWn, hB, hrow, _⟩ := nw1 W #[.int .i64 0, .int .i64 0, .int .i64 0, .int .i64 0, .slice none 0 0] 53
          go_simp
          rw [<- hWn]
          clear hWn
          have hS' := hS.trans (hB.mono hS.size)
          refine hK.out _ _ hS' (fun _ => ?_)
          clear hK K
          try simp only [z]
          have hn := ih W' Ao co ds Ap cp true (.pointer (some ⟨W.heap.size, 0, none⟩)) W.heap.size (by simp only [cond_true, cond_false] at hm ⊢; omega) hS' (Nat.le_trans hz hB.size) (RowsAt.at_ hPp hB) (fun _ h ad e => Nat.ne_of_lt (RowsAt.lt hPp h ad e)) (fun _ => ⟨rfl, hz, hrow⟩) 
          try simp only [z] at hn
          exact hn
        subst hb
        obtain ⟨rfl, gp, hp⟩ := Hp rfl
        obtain ⟨m, rfl⟩ : ∃ k, m = k + 1 := ⟨m - 1, by simp only [cond_true] at hm; omega⟩
        clear ih hm
        refine wpAnyH_ready (rs := [9]) (by kernel_rfl) (by simp) (AllReadyH.cons rfl (fun K hK => ?_) AllReadyH.nil)
        rw [if_pos (by rfl)]
        refine wp_store_row 53 _ _ none rfl rfl pp 53 _ #[.int .i64 kkp, .int .i64 eep, .int .i64 oop, .int .i64 0, .slice Ap npp cp] rfl rfl hp rfl postSize (by simp [Value.oneCell']) ?_
        have hPb := RowsAt.stored hPp (hq rfl) #[.int .i64 kkp, .int .i64 eep, .int .i64 oop, .int .i64 0, .slice Ap npp cp]
        have hrw := setRow_heap W pp _ #[.int .i64 kkp, .int .i64 eep, .int .i64 oop, .int .i64 0, .slice Ap npp cp] _ _ hp
        have hS2 := below_setRow hS (Nat.le_trans (show V4.heap.size <= W_0.heap.size from hV0) gp) #[.int .i64 kkp, .int .i64 eep, .int .i64 oop, .int .i64 0, .slice Ap npp cp]
        refine hK.out _ _ hS2 (fun _ => ?_)
        clear hK K
        try simp only [z]
        refine wpAnyH_ready (rs := [10]) (by kernel_rfl) (by simp) (AllReadyH.cons rfl (fun K hK => ?_) AllReadyH.nil)
        go_simp
        refine hK.out _ _ hS2 (fun _ => ?_)
        clear hK K
        try simp only [z]
        refine wpAnyH_done (by kernel_rfl) ?_ _
        try simp only [z]
        obtain ⟨W6p, hWn⟩ : ∃ W6, W6 = W.setRow pp #[.int .i64 kkp, .int .i64 eep, .int .i64 oop, .int .i64 0, .slice Ap npp cp] := ⟨_, rfl⟩
        rw [<- hWn] at hrw hS2 hPb ⊢
        clear hWn hS hp hPp hq hz gp
        have hBr6 := HBr4.out.trans (hS2.mono HBr4.out.size)
        have hB56 := Hbr.out.trans (hBr6.mono szr)
        have hB06 := hB05.trans (hB56.mono hB05.size)
        have Hp6 := Lib.hid hrw
        have Hf6 := Lib.hid (gbox Hf4.out hS2 l4)
        have lp6 := some_lt hrw
        have lf6 := some_lt Hf6.out
        have p4 := cell_of_row _ _ 4 _ _ _ hrw
        simp at p4
        have Hal6 := Lib.hid (Hal.out.kept (hBr6.block _ (by omega)))
        have Hs6 := Lib.hid ((hBr6.block _ lsr).trans Hsr.out)
        have HB56 := Lib.hid hB56
        have z6p : W6.heap.size < W6p.heap.size := Nat.lt_of_lt_of_le lsr hBr6.size
        have z5p : W5.heap.size < W6p.heap.size := Nat.lt_trans z6 z6p
        clear hrw hS2 hPb hBr6 hB56
        by_cases he : er = 0
        case neg =>
         have heb : (er != 0) = true := by simp [he]
         obtain ⟨he2, hx2⟩ := HER.out he
         subst he2
         clear he heb
         by_cases hx0 : x < 0
         ·go_wp2
          go_ret
          exact ⟨rfl, hB06⟩
         ·have hx3 : x > 3 := by omega
          clear hx2
          go_wp2
          go_ret
          exact ⟨rfl, hB06⟩
        subst he
        have HK2' := HK2.out rfl
        go_upto_region 21 with (fail)
        rename_i K3 hK3 K2 hK2
        have key2 : ∀ (z6 z14 y60 y61 y62 y63 y64 y65 y66 y67 y68 y69 y70 y71 y72 y73 y74 y75 y76 y77 y78 y79 y80 y81 y82 y83 y84 y85 y86 y87 y88 y89 y90 y91 y92 y93 y94 y95 y96 y97 y98 y99 y100 y101 y102 y103 y104 y105 y106 y107 y108 y109 y110 y111 y112 y113 y114 y115 y116 y117 y118 y119 y120 y121 y122 y123 y124 y125 y126 y127 y128 y129 y130 y131 y132 y133 y134 y135 y136 y137 y138 y139 y140 y141 y142 y143 y144 y145 y146 y147 y148 y149 y150 y151 y152 y153 y154 y155 y156 y157 y158 y159 y160 y161 y162 y163 y164 y165 y166 y167 y168 : Value), K3 ⟨#[.slice A i c, .int .i64 x, b2, b3, b4, b5, z6, b7, b8, .pointer (some ⟨W4.heap.size, 0, none⟩), .pointer (some ⟨W5.heap.size, 0, none⟩), .pointer (some ⟨W6.heap.size, 0, none⟩), .int .i64 k, .slice (some ⟨G, 0, none⟩) i cap, z14, .pointer (some ⟨pf, 0, none⟩), .int .i64 0, .pointer (some ⟨pp, 0, none⟩), .int .i64 epp, t19, t20, t21, t22, t23, t24, t25, t26, t27, t28, t29, t30, t31, t32, t33, t34, t35, t36, t37, t38, t39, t40, t41, t42, t43, t44, t45, t46, t47, t48, t49, t50, t51, t52, t53, t54, t55, t56, t57, t58, t59, y60, y61, y62, y63, y64, y65, y66, y67, y68, y69, y70, y71, y72, y73, y74, y75, y76, y77, y78, y79, y80, y81, y82, y83, y84, y85, y86, y87, y88, y89, y90, y91, y92, y93, y94, y95, y96, y97, y98, y99, y100, y101, y102, y103, y104, y105, y106, y107, y108, y109, y110, y111, y112, y113, y114, y115, y116, y117, y118, y119, y120, y121, y122, y123, y124, y125, y126, y127, y128, y129, y130, y131, y132, y133, y134, y135, y136, y137, y138, y139, y140, y141, y142, y143, y144, y145, y146, y147, y148, y149, y150, y151, y152, y153, y154, y155, y156, y157, y158, y159, y160, y161, y162, y163, y164, y165, y166, y167, y168, undef, undef, undef, undef, undef, undef, undef, undef, undef, undef, undef, undef, undef, undef, undef, undef, undef, undef, undef, undef, undef, undef, undef, undef, undef, undef, undef, undef, undef, undef, undef, undef], []⟩ W6p := by
         intro z6 z14 y60 y61 y62 y63 y64 y65 y66 y67 y68 y69 y70 y71 y72 y73 y74 y75 y76 y77 y78 y79 y80 y81 y82 y83 y84 y85 y86 y87 y88 y89 y90 y91 y92 y93 y94 y95 y96 y97 y98 y99 y100 y101 y102 y103 y104 y105 y106 y107 y108 y109 y110 y111 y112 y113 y114 y115 y116 y117 y118 y119 y120 y121 y122 y123 y124 y125 y126 y127 y128 y129 y130 y131 y132 y133 y134 y135 y136 y137 y138 y139 y140 y141 y142 y143 y144 y145 y146 y147 y148 y149 y150 y151 y152 y153 y154 y155 y156 y157 y158 y159 y160 y161 y162 y163 y164 y165 y166 y167 y168
         refine hK3 _ _ ?_
         clear hK2 hK3 HK2'
         go_upto_region 23 with (fail)
         obtain ⟨⟨fa0, fa1⟩, fb0, fb1⟩ := HBD.out
         have hpq := HPQ.out
         have ca := R1.oth_le (n := fa) hpq.2.1 hpq.1.1 hpq.1.2
         have cb := R1.oth_le (n := fb) hpq.2.1 hpq.1.1 hpq.1.2
         have sa := R1.oth_sign (n := fa) hpq.2.1 hpq.1.1 hpq.1.2
         have sb := R1.oth_sign (n := fb) hpq.2.1 hpq.1.1 hpq.1.2
         rw [<- HFC.out] at ca sa
         rw [<- HFD.out] at cb sb
         obtain ⟨ra, hra⟩ : ∃ ra, ra = (fa.natAbs : Int) := ⟨_, rfl⟩
         obtain ⟨rb, hrb⟩ : ∃ rb, rb = (fb.natAbs : Int) := ⟨_, rfl⟩
         obtain ⟨rc, hrc⟩ : ∃ rc, rc = (fc.natAbs : Int) := ⟨_, rfl⟩
         obtain ⟨rd, hrd⟩ : ∃ rd, rd = (fd.natAbs : Int) := ⟨_, rfl⟩
         rw [<- hra, <- hrc] at ca
         rw [<- hrb, <- hrd] at cb
         have fcb : -100000000000000 <= fc /\ fc <= 100000000000000 := by omega
         have fdb : -100000000000000 <= fd /\ fd <= 100000000000000 := by omega
         obtain ⟨m1, hm1⟩ : ∃ m1, m1 = wrap64 (fc * fa) := ⟨_, rfl⟩
         obtain ⟨m2, hm2⟩ : ∃ m2, m2 = wrap64 (fd * fb) := ⟨_, rfl⟩
         have HM1 := Lib.hid hm1
         have HM2 := Lib.hid hm2
         have HRA := Lib.hid hra
         have HRB := Lib.hid hrb
         have HRC := Lib.hid hrc
         have HRD := Lib.hid hrd
         have k1 : m1 < 0 -> ¬ ra < 1000000 := fun h h2 => by rw [hm1, wrap_small (by omega) (by omega)] at h; omega
         have k2 : m2 < 0 -> ¬ rb < 1000000 := fun h h2 => by rw [hm2, wrap_small (by omega) (by omega)] at h; omega
         have K1 := Lib.hid k1
         have K2 := Lib.hid k2
         have hca : ¬ rc > ra := by omega
         have hcb : ¬ rd > rb := by omega
         have HCA := Lib.hid hca
         have HCB := Lib.hid hcb
         have q0 := Lib.hid (cell_of_row _ _ 0 _ _ _ Hf6.out)
         have q1 := Lib.hid (cell_of_row _ _ 1 _ _ _ Hf6.out)
         have q2 := Lib.hid (cell_of_row _ _ 2 _ _ _ Hf6.out)
         have q3 := Lib.hid (cell_of_row _ _ 3 _ _ _ Hf6.out)
         have hS : Below W6p.heap.size W6p W6p.drew := below_drawn (Below.refl _ _) 1
         clear sa sb ca cb hra hrb hrc hrd hm1 hm2 k1 k2 hca hcb p4
         by_cases h1 : m1 < 0
         ·by_cases h2 : m2 < 0
          ·skip
           have h1r := K1.out h1
           have h2r := K2.out h2
           refine wp_region_held (S := Below W6p.heap.size W6p) (by kernel_rfl) ?_
           change wpAnyH _ _ _ _ _ _ _ _ (World.drew W6p)
           obtain ⟨WC, hWd⟩ : ∃ W0, W0 = W6p.drew := ⟨_, rfl⟩
           rw [<- hWd] at hS ⊢
           clear hWd
           refine tk (i := 0) (v := .pointer (some ⟨pf, 2, none⟩)) rfl (by kernel_rfl) (fun _ _ _ h => h) (.inl ⟨by rfl, fun W' hS' => by go_simp⟩) hS ?_
           try simp only [z]
           refine tk (i := 1) (v := .int .i64 fc) rfl (by kernel_rfl) (fun _ _ _ h => h) (.inl ⟨by rfl, fun W' hS' => by have hc := (hS'.cell (p := ⟨pf, 2, none⟩) lf6).trans q2.out; try simp at hc; go_simp⟩) hS ?_
           try simp only [z]
           refine tk (i := 2) (v := .pointer (some ⟨pf, 0, none⟩)) rfl (by kernel_rfl) (fun _ _ _ h => h) (.inl ⟨by rfl, fun W' hS' => by go_simp⟩) hS ?_
           try simp only [z]
           refine tk (i := 3) (v := .int .i64 fa) rfl (by kernel_rfl) (fun _ _ _ h => h) (.inl ⟨by rfl, fun W' hS' => by have hc := (hS'.cell (p := ⟨pf, 0, none⟩) lf6).trans q0.out; try simp at hc; go_simp⟩) hS ?_
           try simp only [z]
           refine tk (i := 4) (v := .int .i64 m1) rfl (by kernel_rfl) (fun _ _ _ h => h) (.inl ⟨by rfl, fun W' hS' => by have hm := HM1.out; (go_simp; rw [IntKind.wrap_i64]; unfold wrap64; first | done | rfl)⟩) hS ?_
           try simp only [z]
           refine tk (i := 5) (v := .bool true) rfl (by kernel_rfl) (fun _ _ _ h => h) (.inl ⟨by rfl, fun W' hS' => by (go_simp; try simp [h1])⟩) hS ?_
           try simp only [z]
           refine tk (i := 6) (v := .bool true) rfl (by kernel_rfl) (fun _ _ _ h => h) (.inl ⟨by rfl, fun W' hS' => by go_simp⟩) hS ?_
           try simp only [z]
           refine tk (i := 7) (v := .pointer (some ⟨pf, 0, none⟩)) rfl (by kernel_rfl) (fun _ _ _ h => h) (.inl ⟨by rfl, fun W' hS' => by go_simp⟩) hS ?_
           try simp only [z]
           refine tk (i := 8) (v := .int .i64 fa) rfl (by kernel_rfl) (fun _ _ _ h => h) (.inl ⟨by rfl, fun W' hS' => by have hc := (hS'.cell (p := ⟨pf, 0, none⟩) lf6).trans q0.out; try simp at hc; go_simp⟩) hS ?_
           try simp only [z]
           refine wpAnyH_ready (rs := [9]) (by kernel_rfl) (by simp) (AllReadyH.cons rfl (fun K hK => ?_) AllReadyH.nil)
           go_simp
           refine (absl_any WC fa (by omega) (by omega)).mono ?_
           rw [<- HRA.out]
           rintro e Wn ⟨rfl, hWn⟩
           obtain rfl := hWn.symm
           refine hK.out _ _ hS (fun _ => ?_)
           clear hK K
           try simp only [z]
           refine tk (i := 10) (v := .bool false) rfl (by kernel_rfl) (fun _ _ _ h => h) (.inl ⟨by rfl, fun W' hS' => by (go_simp; try simp [h1r])⟩) hS ?_
           try simp only [z]
           refine tk (i := 11) (v := .bool false) rfl (by kernel_rfl) (fun _ _ _ h => h) (.inl ⟨by rfl, fun W' hS' => by go_simp⟩) hS ?_
           try simp only [z]
           refine tk (i := 12) (v := .bool false) rfl (by kernel_rfl) (fun _ _ _ h => h) (.inl ⟨by rfl, fun W' hS' => by go_simp⟩) hS ?_
           try simp only [z]
           refine tk (i := 13) (v := .pointer (some ⟨pf, 3, none⟩)) rfl (by kernel_rfl) (fun _ _ _ h => h) (.inl ⟨by rfl, fun W' hS' => by go_simp⟩) hS ?_
           try simp only [z]
           refine tk (i := 14) (v := .int .i64 fd) rfl (by kernel_rfl) (fun _ _ _ h => h) (.inl ⟨by rfl, fun W' hS' => by have hc := (hS'.cell (p := ⟨pf, 3, none⟩) lf6).trans q3.out; try simp at hc; go_simp⟩) hS ?_
           try simp only [z]
           refine tk (i := 15) (v := .pointer (some ⟨pf, 1, none⟩)) rfl (by kernel_rfl) (fun _ _ _ h => h) (.inl ⟨by rfl, fun W' hS' => by go_simp⟩) hS ?_
           try simp only [z]
           refine tk (i := 16) (v := .int .i64 fb) rfl (by kernel_rfl) (fun _ _ _ h => h) (.inl ⟨by rfl, fun W' hS' => by have hc := (hS'.cell (p := ⟨pf, 1, none⟩) lf6).trans q1.out; try simp at hc; go_simp⟩) hS ?_
           try simp only [z]
           refine tk (i := 17) (v := .int .i64 m2) rfl (by kernel_rfl) (fun _ _ _ h => h) (.inl ⟨by rfl, fun W' hS' => by have hm := HM2.out; (go_simp; rw [IntKind.wrap_i64]; unfold wrap64; first | done | rfl)⟩) hS ?_
           try simp only [z]
           refine tk (i := 18) (v := .bool true) rfl (by kernel_rfl) (fun _ _ _ h => h) (.inl ⟨by rfl, fun W' hS' => by (go_simp; try simp [h2])⟩) hS ?_
           try simp only [z]
           refine tk (i := 19) (v := .bool true) rfl (by kernel_rfl) (fun _ _ _ h => h) (.inl ⟨by rfl, fun W' hS' => by go_simp⟩) hS ?_
           try simp only [z]
           refine tk (i := 20) (v := .pointer (some ⟨pf, 1, none⟩)) rfl (by kernel_rfl) (fun _ _ _ h => h) (.inl ⟨by rfl, fun W' hS' => by go_simp⟩) hS ?_
           try simp only [z]
           refine tk (i := 21) (v := .int .i64 fb) rfl (by kernel_rfl) (fun _ _ _ h => h) (.inl ⟨by rfl, fun W' hS' => by have hc := (hS'.cell (p := ⟨pf, 1, none⟩) lf6).trans q1.out; try simp at hc; go_simp⟩) hS ?_
           try simp only [z]
           refine wpAnyH_ready (rs := [22]) (by kernel_rfl) (by simp) (AllReadyH.cons rfl (fun K hK => ?_) AllReadyH.nil)
           go_simp
           refine (absl_any WC fb (by omega) (by omega)).mono ?_
           rw [<- HRB.out]
           rintro e Wn ⟨rfl, hWn⟩
           obtain rfl := hWn.symm
           refine hK.out _ _ hS (fun _ => ?_)
           clear hK K
           try simp only [z]
           refine tk (i := 23) (v := .bool false) rfl (by kernel_rfl) (fun _ _ _ h => h) (.inl ⟨by rfl, fun W' hS' => by (go_simp; try simp [h2r])⟩) hS ?_
           try simp only [z]
           refine tk (i := 24) (v := .bool false) rfl (by kernel_rfl) (fun _ _ _ h => h) (.inl ⟨by rfl, fun W' hS' => by go_simp⟩) hS ?_
           try simp only [z]
           refine tk (i := 25) (v := .bool false) rfl (by kernel_rfl) (fun _ _ _ h => h) (.inl ⟨by rfl, fun W' hS' => by go_simp⟩) hS ?_
           try simp only [z]
           refine tk (i := 26) (v := .bool false) rfl (by kernel_rfl) (fun _ _ _ h => h) (.inl ⟨by rfl, fun W' hS' => by go_simp⟩) hS ?_
           try simp only [z]
           refine tk (i := 27) (v := .pointer (some ⟨pf, 2, none⟩)) rfl (by kernel_rfl) (fun _ _ _ h => h) (.inl ⟨by rfl, fun W' hS' => by go_simp⟩) hS ?_
           try simp only [z]
           refine tk (i := 28) (v := .int .i64 fc) rfl (by kernel_rfl) (fun _ _ _ h => h) (.inl ⟨by rfl, fun W' hS' => by have hc := (hS'.cell (p := ⟨pf, 2, none⟩) lf6).trans q2.out; try simp at hc; go_simp⟩) hS ?_
           try simp only [z]
           refine tk (i := 30) (v := .pointer (some ⟨pf, 0, none⟩)) rfl (by kernel_rfl) (fun _ _ _ h => h) (.inl ⟨by rfl, fun W' hS' => by go_simp⟩) hS ?_
           try simp only [z]
           refine tk (i := 31) (v := .int .i64 fa) rfl (by kernel_rfl) (fun _ _ _ h => h) (.inl ⟨by rfl, fun W' hS' => by have hc := (hS'.cell (p := ⟨pf, 0, none⟩) lf6).trans q0.out; try simp at hc; go_simp⟩) hS ?_
           try simp only [z]
           refine wpAnyH_ready (rs := [29]) (by kernel_rfl) (by simp) (AllReadyH.cons rfl (fun K hK => ?_) AllReadyH.nil)
           go_simp
           refine (absl_any WC fc (by omega) (by omega)).mono ?_
           rw [<- HRC.out]
           rintro e Wn ⟨rfl, hWn⟩
           obtain rfl := hWn.symm
           refine hK.out _ _ hS (fun _ => ?_)
           clear hK K
           try simp only [z]
           refine wpAnyH_ready (rs := [32]) (by kernel_rfl) (by simp) (AllReadyH.cons rfl (fun K hK => ?_) AllReadyH.nil)
           go_simp
           refine (absl_any WC fa (by omega) (by omega)).mono ?_
           rw [<- HRA.out]
           rintro e Wn ⟨rfl, hWn⟩
           obtain rfl := hWn.symm
           refine hK.out _ _ hS (fun _ => ?_)
           clear hK K
           try simp only [z]
           refine tk (i := 33) (v := .bool false) rfl (by kernel_rfl) (fun _ _ _ h => h) (.inl ⟨by rfl, fun W' hS' => by have hm := HCA.out; (go_simp; try simp [hm])⟩) hS ?_
           try simp only [z]
           refine tk (i := 34) (v := .bool false) rfl (by kernel_rfl) (fun _ _ _ h => h) (.inl ⟨by rfl, fun W' hS' => by go_simp⟩) hS ?_
           try simp only [z]
           refine tk (i := 35) (v := .bool false) rfl (by kernel_rfl) (fun _ _ _ h => h) (.inl ⟨by rfl, fun W' hS' => by go_simp⟩) hS ?_
           try simp only [z]
           refine tk (i := 36) (v := .pointer (some ⟨pf, 3, none⟩)) rfl (by kernel_rfl) (fun _ _ _ h => h) (.inl ⟨by rfl, fun W' hS' => by go_simp⟩) hS ?_
           try simp only [z]
           refine tk (i := 37) (v := .int .i64 fd) rfl (by kernel_rfl) (fun _ _ _ h => h) (.inl ⟨by rfl, fun W' hS' => by have hc := (hS'.cell (p := ⟨pf, 3, none⟩) lf6).trans q3.out; try simp at hc; go_simp⟩) hS ?_
           try simp only [z]
           refine tk (i := 39) (v := .pointer (some ⟨pf, 1, none⟩)) rfl (by kernel_rfl) (fun _ _ _ h => h) (.inl ⟨by rfl, fun W' hS' => by go_simp⟩) hS ?_
           try simp only [z]
           refine tk (i := 40) (v := .int .i64 fb) rfl (by kernel_rfl) (fun _ _ _ h => h) (.inl ⟨by rfl, fun W' hS' => by have hc := (hS'.cell (p := ⟨pf, 1, none⟩) lf6).trans q1.out; try simp at hc; go_simp⟩) hS ?_
           try simp only [z]
           refine wpAnyH_ready (rs := [38]) (by kernel_rfl) (by simp) (AllReadyH.cons rfl (fun K hK => ?_) AllReadyH.nil)
           go_simp
           refine (absl_any WC fd (by omega) (by omega)).mono ?_
           rw [<- HRD.out]
           rintro e Wn ⟨rfl, hWn⟩
           obtain rfl := hWn.symm
           refine hK.out _ _ hS (fun _ => ?_)
           clear hK K
           try simp only [z]
           refine wpAnyH_ready (rs := [41]) (by kernel_rfl) (by simp) (AllReadyH.cons rfl (fun K hK => ?_) AllReadyH.nil)
           go_simp
           refine (absl_any WC fb (by omega) (by omega)).mono ?_
           rw [<- HRB.out]
           rintro e Wn ⟨rfl, hWn⟩
           obtain rfl := hWn.symm
           refine hK.out _ _ hS (fun _ => ?_)
           clear hK K
           try simp only [z]
           refine tk (i := 42) (v := .bool false) rfl (by kernel_rfl) (fun _ _ _ h => h) (.inl ⟨by rfl, fun W' hS' => by have hm := HCB.out; (go_simp; try simp [hm])⟩) hS ?_
           try simp only [z]
           refine wpAnyH_ready (rs := [43]) (by kernel_rfl) (by simp) (AllReadyH.cons rfl (fun K hK => ?_) AllReadyH.nil)
           go_simp
           refine hK.out _ _ hS (fun _ => ?_)
           clear hK K
           try simp only [z]
           refine wpAnyH_done (by kernel_rfl) ?_ _
           try simp only [z]
           have r25 := Lib.hid (range_row (cs := [.int .i64 fa, .int .i64 fb, .int .i64 fc, .int .i64 fd]) ((hS.block _ lf6).trans Hf6.out))
           have hal := Hal6.out.kept (hS.block _ z5p)
           have hs9 := (hS.block _ z6p).trans Hs6.out
           obtain ⟨⟨v0, v1, v2, v3, e0, e1, e2, e3⟩, cf, lall⟩ := hal.look hlt
           have hst := Lib.hid (hal.step (.int .i64 fa) (.int .i64 fb) hlt)
           have HB59 := Lib.hid (HB56.out.trans (hS.mono HB56.out.size))
           have Hs9 := Lib.hid hs9
           clear hal hs9
           skip
           go_wp2_with (refine wpList_load_mid rfl 39 (.tmp 15) rfl pf 0 rfl [.int .i64 fa, .int .i64 fb, .int .i64 fc, .int .i64 fd] _ r25.out Tryz.underlying39 rfl figmSize ?_)
           go_roundw
           case rel =>
            have hst' := hst.out
            rw [show oc k = fc by rw [HOC.out, HFC.out, HPK.out, HQK.out], show od k = fd by rw [HOD.out, HFD.out, HPK.out, HQK.out]] at hst'
            exact ⟨k + 1, by omega, by go_num, hst'.1, HB59.out.grown hst'.2 HB59.out.size (fun k hk => by cases hk; exact Nat.le_refl _), (hst'.2.block _ (some_lt Hs9.out) (by simp; omega)).trans Hs9.out⟩
           case measure => simp [intOf]; omega
          ·skip
           have h1r := K1.out h1
           refine wp_region_held (S := Below W6p.heap.size W6p) (by kernel_rfl) ?_
           change wpAnyH _ _ _ _ _ _ _ _ (World.drew W6p)
           obtain ⟨WC, hWd⟩ : ∃ W0, W0 = W6p.drew := ⟨_, rfl⟩
           rw [<- hWd] at hS ⊢
           clear hWd
           refine tk (i := 0) (v := .pointer (some ⟨pf, 2, none⟩)) rfl (by kernel_rfl) (fun _ _ _ h => h) (.inl ⟨by rfl, fun W' hS' => by go_simp⟩) hS ?_
           try simp only [z]
           refine tk (i := 1) (v := .int .i64 fc) rfl (by kernel_rfl) (fun _ _ _ h => h) (.inl ⟨by rfl, fun W' hS' => by have hc := (hS'.cell (p := ⟨pf, 2, none⟩) lf6).trans q2.out; try simp at hc; go_simp⟩) hS ?_
           try simp only [z]
           refine tk (i := 2) (v := .pointer (some ⟨pf, 0, none⟩)) rfl (by kernel_rfl) (fun _ _ _ h => h) (.inl ⟨by rfl, fun W' hS' => by go_simp⟩) hS ?_
           try simp only [z]
           refine tk (i := 3) (v := .int .i64 fa) rfl (by kernel_rfl) (fun _ _ _ h => h) (.inl ⟨by rfl, fun W' hS' => by have hc := (hS'.cell (p := ⟨pf, 0, none⟩) lf6).trans q0.out; try simp at hc; go_simp⟩) hS ?_
           try simp only [z]
           refine tk (i := 4) (v := .int .i64 m1) rfl (by kernel_rfl) (fun _ _ _ h => h) (.inl ⟨by rfl, fun W' hS' => by have hm := HM1.out; (go_simp; rw [IntKind.wrap_i64]; unfold wrap64; first | done | rfl)⟩) hS ?_
           try simp only [z]
           refine tk (i := 5) (v := .bool true) rfl (by kernel_rfl) (fun _ _ _ h => h) (.inl ⟨by rfl, fun W' hS' => by (go_simp; try simp [h1])⟩) hS ?_
           try simp only [z]
           refine tk (i := 6) (v := .bool true) rfl (by kernel_rfl) (fun _ _ _ h => h) (.inl ⟨by rfl, fun W' hS' => by go_simp⟩) hS ?_
           try simp only [z]
           refine tk (i := 7) (v := .pointer (some ⟨pf, 0, none⟩)) rfl (by kernel_rfl) (fun _ _ _ h => h) (.inl ⟨by rfl, fun W' hS' => by go_simp⟩) hS ?_
           try simp only [z]
           refine tk (i := 8) (v := .int .i64 fa) rfl (by kernel_rfl) (fun _ _ _ h => h) (.inl ⟨by rfl, fun W' hS' => by have hc := (hS'.cell (p := ⟨pf, 0, none⟩) lf6).trans q0.out; try simp at hc; go_simp⟩) hS ?_
           try simp only [z]
           refine wpAnyH_ready (rs := [9]) (by kernel_rfl) (by simp) (AllReadyH.cons rfl (fun K hK => ?_) AllReadyH.nil)
           go_simp
           refine (absl_any WC fa (by omega) (by omega)).mono ?_
           rw [<- HRA.out]
           rintro e Wn ⟨rfl, hWn⟩
           obtain rfl := hWn.symm
           refine hK.out _ _ hS (fun _ => ?_)
           clear hK K
           try simp only [z]
           refine tk (i := 10) (v := .bool false) rfl (by kernel_rfl) (fun _ _ _ h => h) (.inl ⟨by rfl, fun W' hS' => by (go_simp; try simp [h1r])⟩) hS ?_
           try simp only [z]
           refine tk (i := 11) (v := .bool false) rfl (by kernel_rfl) (fun _ _ _ h => h) (.inl ⟨by rfl, fun W' hS' => by go_simp⟩) hS ?_
           try simp only [z]
           refine tk (i := 12) (v := .bool false) rfl (by kernel_rfl) (fun _ _ _ h => h) (.inl ⟨by rfl, fun W' hS' => by go_simp⟩) hS ?_
           try simp only [z]
           refine tk (i := 13) (v := .pointer (some ⟨pf, 3, none⟩)) rfl (by kernel_rfl) (fun _ _ _ h => h) (.inl ⟨by rfl, fun W' hS' => by go_simp⟩) hS ?_
           try simp only [z]
           refine tk (i := 14) (v := .int .i64 fd) rfl (by kernel_rfl) (fun _ _ _ h => h) (.inl ⟨by rfl, fun W' hS' => by have hc := (hS'.cell (p := ⟨pf, 3, none⟩) lf6).trans q3.out; try simp at hc; go_simp⟩) hS ?_
           try simp only [z]
           refine tk (i := 15) (v := .pointer (some ⟨pf, 1, none⟩)) rfl (by kernel_rfl) (fun _ _ _ h => h) (.inl ⟨by rfl, fun W' hS' => by go_simp⟩) hS ?_
           try simp only [z]
           refine tk (i := 16) (v := .int .i64 fb) rfl (by kernel_rfl) (fun _ _ _ h => h) (.inl ⟨by rfl, fun W' hS' => by have hc := (hS'.cell (p := ⟨pf, 1, none⟩) lf6).trans q1.out; try simp at hc; go_simp⟩) hS ?_
           try simp only [z]
           refine tk (i := 17) (v := .int .i64 m2) rfl (by kernel_rfl) (fun _ _ _ h => h) (.inl ⟨by rfl, fun W' hS' => by have hm := HM2.out; (go_simp; rw [IntKind.wrap_i64]; unfold wrap64; first | done | rfl)⟩) hS ?_
           try simp only [z]
           refine tk (i := 18) (v := .bool false) rfl (by kernel_rfl) (fun _ _ _ h => h) (.inl ⟨by rfl, fun W' hS' => by (go_simp; try simp [h2])⟩) hS ?_
           try simp only [z]
           refine tk (i := 19) (v := .bool false) rfl (by kernel_rfl) (fun _ _ _ h => h) (.inl ⟨by rfl, fun W' hS' => by go_simp⟩) hS ?_
           try simp only [z]
           refine tk (i := 20) (v := undef) rfl (by kernel_rfl) (fun _ _ _ h => h) (.inr ⟨by rfl, rfl⟩) hS ?_
           try simp only [z]
           refine tk (i := 21) (v := undef) rfl (by kernel_rfl) (fun _ _ _ h => h) (.inr ⟨by rfl, rfl⟩) hS ?_
           try simp only [z]
           refine tk (i := 22) (v := undef) rfl (by kernel_rfl) (fun _ _ _ h => h) (.inr ⟨by rfl, rfl⟩) hS ?_
           try simp only [z]
           refine tk (i := 23) (v := undef) rfl (by kernel_rfl) (fun _ _ _ h => h) (.inr ⟨by rfl, rfl⟩) hS ?_
           try simp only [z]
           refine tk (i := 24) (v := .bool false) rfl (by kernel_rfl) (fun _ _ _ h => h) (.inl ⟨by rfl, fun W' hS' => by go_simp⟩) hS ?_
           try simp only [z]
           refine tk (i := 25) (v := .bool false) rfl (by kernel_rfl) (fun _ _ _ h => h) (.inl ⟨by rfl, fun W' hS' => by go_simp⟩) hS ?_
           try simp only [z]
           refine tk (i := 26) (v := .bool false) rfl (by kernel_rfl) (fun _ _ _ h => h) (.inl ⟨by rfl, fun W' hS' => by go_simp⟩) hS ?_
           try simp only [z]
           refine tk (i := 27) (v := .pointer (some ⟨pf, 2, none⟩)) rfl (by kernel_rfl) (fun _ _ _ h => h) (.inl ⟨by rfl, fun W' hS' => by go_simp⟩) hS ?_
           try simp only [z]
           refine tk (i := 28) (v := .int .i64 fc) rfl (by kernel_rfl) (fun _ _ _ h => h) (.inl ⟨by rfl, fun W' hS' => by have hc := (hS'.cell (p := ⟨pf, 2, none⟩) lf6).trans q2.out; try simp at hc; go_simp⟩) hS ?_
           try simp only [z]
           refine tk (i := 30) (v := .pointer (some ⟨pf, 0, none⟩)) rfl (by kernel_rfl) (fun _ _ _ h => h) (.inl ⟨by rfl, fun W' hS' => by go_simp⟩) hS ?_
           try simp only [z]
           refine tk (i := 31) (v := .int .i64 fa) rfl (by kernel_rfl) (fun _ _ _ h => h) (.inl ⟨by rfl, fun W' hS' => by have hc := (hS'.cell (p := ⟨pf, 0, none⟩) lf6).trans q0.out; try simp at hc; go_simp⟩) hS ?_
           try simp only [z]
           refine wpAnyH_ready (rs := [29]) (by kernel_rfl) (by simp) (AllReadyH.cons rfl (fun K hK => ?_) AllReadyH.nil)
           go_simp
           refine (absl_any WC fc (by omega) (by omega)).mono ?_
           rw [<- HRC.out]
           rintro e Wn ⟨rfl, hWn⟩
           obtain rfl := hWn.symm
           refine hK.out _ _ hS (fun _ => ?_)
           clear hK K
           try simp only [z]
           refine wpAnyH_ready (rs := [32]) (by kernel_rfl) (by simp) (AllReadyH.cons rfl (fun K hK => ?_) AllReadyH.nil)
           go_simp
           refine (absl_any WC fa (by omega) (by omega)).mono ?_
           rw [<- HRA.out]
           rintro e Wn ⟨rfl, hWn⟩
           obtain rfl := hWn.symm
           refine hK.out _ _ hS (fun _ => ?_)
           clear hK K
           try simp only [z]
           refine tk (i := 33) (v := .bool false) rfl (by kernel_rfl) (fun _ _ _ h => h) (.inl ⟨by rfl, fun W' hS' => by have hm := HCA.out; (go_simp; try simp [hm])⟩) hS ?_
           try simp only [z]
           refine tk (i := 34) (v := .bool false) rfl (by kernel_rfl) (fun _ _ _ h => h) (.inl ⟨by rfl, fun W' hS' => by go_simp⟩) hS ?_
           try simp only [z]
           refine tk (i := 35) (v := .bool false) rfl (by kernel_rfl) (fun _ _ _ h => h) (.inl ⟨by rfl, fun W' hS' => by go_simp⟩) hS ?_
           try simp only [z]
           refine tk (i := 36) (v := .pointer (some ⟨pf, 3, none⟩)) rfl (by kernel_rfl) (fun _ _ _ h => h) (.inl ⟨by rfl, fun W' hS' => by go_simp⟩) hS ?_
           try simp only [z]
           refine tk (i := 37) (v := .int .i64 fd) rfl (by kernel_rfl) (fun _ _ _ h => h) (.inl ⟨by rfl, fun W' hS' => by have hc := (hS'.cell (p := ⟨pf, 3, none⟩) lf6).trans q3.out; try simp at hc; go_simp⟩) hS ?_
           try simp only [z]
           refine tk (i := 39) (v := .pointer (some ⟨pf, 1, none⟩)) rfl (by kernel_rfl) (fun _ _ _ h => h) (.inl ⟨by rfl, fun W' hS' => by go_simp⟩) hS ?_
           try simp only [z]
           refine tk (i := 40) (v := .int .i64 fb) rfl (by kernel_rfl) (fun _ _ _ h => h) (.inl ⟨by rfl, fun W' hS' => by have hc := (hS'.cell (p := ⟨pf, 1, none⟩) lf6).trans q1.out; try simp at hc; go_simp⟩) hS ?_
           try simp only [z]
           refine wpAnyH_ready (rs := [38]) (by kernel_rfl) (by simp) (AllReadyH.cons rfl (fun K hK => ?_) AllReadyH.nil)
           go_simp
           refine (absl_any WC fd (by omega) (by omega)).mono ?_
           rw [<- HRD.out]
           rintro e Wn ⟨rfl, hWn⟩
           obtain rfl := hWn.symm
           refine hK.out _ _ hS (fun _ => ?_)
           clear hK K
           try simp only [z]
           refine wpAnyH_ready (rs := [41]) (by kernel_rfl) (by simp) (AllReadyH.cons rfl (fun K hK => ?_) AllReadyH.nil)
           go_simp
           refine (absl_any WC fb (by omega) (by omega)).mono ?_
           rw [<- HRB.out]
           rintro e Wn ⟨rfl, hWn⟩
           obtain rfl := hWn.symm
           refine hK.out _ _ hS (fun _ => ?_)
           clear hK K
           try simp only [z]
           refine tk (i := 42) (v := .bool false) rfl (by kernel_rfl) (fun _ _ _ h => h) (.inl ⟨by rfl, fun W' hS' => by have hm := HCB.out; (go_simp; try simp [hm])⟩) hS ?_
           try simp only [z]
           refine wpAnyH_ready (rs := [43]) (by kernel_rfl) (by simp) (AllReadyH.cons rfl (fun K hK => ?_) AllReadyH.nil)
           go_simp
           refine hK.out _ _ hS (fun _ => ?_)
           clear hK K
           try simp only [z]
           refine wpAnyH_done (by kernel_rfl) ?_ _
           try simp only [z]
           have r25 := Lib.hid (range_row (cs := [.int .i64 fa, .int .i64 fb, .int .i64 fc, .int .i64 fd]) ((hS.block _ lf6).trans Hf6.out))
           have hal := Hal6.out.kept (hS.block _ z5p)
           have hs9 := (hS.block _ z6p).trans Hs6.out
           obtain ⟨⟨v0, v1, v2, v3, e0, e1, e2, e3⟩, cf, lall⟩ := hal.look hlt
           have hst := Lib.hid (hal.step (.int .i64 fa) (.int .i64 fb) hlt)
           have HB59 := Lib.hid (HB56.out.trans (hS.mono HB56.out.size))
           have Hs9 := Lib.hid hs9
           clear hal hs9
           skip
           go_wp2_with (refine wpList_load_mid rfl 39 (.tmp 15) rfl pf 0 rfl [.int .i64 fa, .int .i64 fb, .int .i64 fc, .int .i64 fd] _ r25.out Tryz.underlying39 rfl figmSize ?_)
           go_roundw
           case rel =>
            have hst' := hst.out
            rw [show oc k = fc by rw [HOC.out, HFC.out, HPK.out, HQK.out], show od k = fd by rw [HOD.out, HFD.out, HPK.out, HQK.out]] at hst'
            exact ⟨k + 1, by omega, by go_num, hst'.1, HB59.out.grown hst'.2 HB59.out.size (fun k hk => by cases hk; exact Nat.le_refl _), (hst'.2.block _ (some_lt Hs9.out) (by simp; omega)).trans Hs9.out⟩
           case measure => simp [intOf]; omega
         ·by_cases h2 : m2 < 0
          ·skip
           have h1r : ¬ m1 < 0 := h1
           have h2r := K2.out h2
           refine wp_region_held (S := Below W6p.heap.size W6p) (by kernel_rfl) ?_
           change wpAnyH _ _ _ _ _ _ _ _ (World.drew W6p)
           obtain ⟨WC, hWd⟩ : ∃ W0, W0 = W6p.drew := ⟨_, rfl⟩
           rw [<- hWd] at hS ⊢
           clear hWd
           refine tk (i := 0) (v := .pointer (some ⟨pf, 2, none⟩)) rfl (by kernel_rfl) (fun _ _ _ h => h) (.inl ⟨by rfl, fun W' hS' => by go_simp⟩) hS ?_
           try simp only [z]
           refine tk (i := 1) (v := .int .i64 fc) rfl (by kernel_rfl) (fun _ _ _ h => h) (.inl ⟨by rfl, fun W' hS' => by have hc := (hS'.cell (p := ⟨pf, 2, none⟩) lf6).trans q2.out; try simp at hc; go_simp⟩) hS ?_
           try simp only [z]
           refine tk (i := 2) (v := .pointer (some ⟨pf, 0, none⟩)) rfl (by kernel_rfl) (fun _ _ _ h => h) (.inl ⟨by rfl, fun W' hS' => by go_simp⟩) hS ?_
           try simp only [z]
           refine tk (i := 3) (v := .int .i64 fa) rfl (by kernel_rfl) (fun _ _ _ h => h) (.inl ⟨by rfl, fun W' hS' => by have hc := (hS'.cell (p := ⟨pf, 0, none⟩) lf6).trans q0.out; try simp at hc; go_simp⟩) hS ?_
           try simp only [z]
           refine tk (i := 4) (v := .int .i64 m1) rfl (by kernel_rfl) (fun _ _ _ h => h) (.inl ⟨by rfl, fun W' hS' => by have hm := HM1.out; (go_simp; rw [IntKind.wrap_i64]; unfold wrap64; first | done | rfl)⟩) hS ?_
           try simp only [z]
           refine tk (i := 5) (v := .bool false) rfl (by kernel_rfl) (fun _ _ _ h => h) (.inl ⟨by rfl, fun W' hS' => by (go_simp; try simp [h1])⟩) hS ?_
           try simp only [z]
           refine tk (i := 6) (v := .bool false) rfl (by kernel_rfl) (fun _ _ _ h => h) (.inl ⟨by rfl, fun W' hS' => by go_simp⟩) hS ?_
           try simp only [z]
           refine tk (i := 7) (v := undef) rfl (by kernel_rfl) (fun _ _ _ h => h) (.inr ⟨by rfl, rfl⟩) hS ?_
           try simp only [z]
           refine tk (i := 8) (v := undef) rfl (by kernel_rfl) (fun _ _ _ h => h) (.inr ⟨by rfl, rfl⟩) hS ?_
           try simp only [z]
           refine tk (i := 9) (v := undef) rfl (by kernel_rfl) (fun _ _ _ h => h) (.inr ⟨by rfl, rfl⟩) hS ?_
           try simp only [z]
           refine tk (i := 10) (v := undef) rfl (by kernel_rfl) (fun _ _ _ h => h) (.inr ⟨by rfl, rfl⟩) hS ?_
           try simp only [z]
           refine tk (i := 11) (v := .bool false) rfl (by kernel_rfl) (fun _ _ _ h => h) (.inl ⟨by rfl, fun W' hS' => by go_simp⟩) hS ?_
           try simp only [z]
           refine tk (i := 12) (v := .bool false) rfl (by kernel_rfl) (fun _ _ _ h => h) (.inl ⟨by rfl, fun W' hS' => by go_simp⟩) hS ?_
           try simp only [z]
           refine tk (i := 13) (v := .pointer (some ⟨pf, 3, none⟩)) rfl (by kernel_rfl) (fun _ _ _ h => h) (.inl ⟨by rfl, fun W' hS' => by go_simp⟩) hS ?_
           try simp only [z]
           refine tk (i := 14) (v := .int .i64 fd) rfl (by kernel_rfl) (fun _ _ _ h => h) (.inl ⟨by rfl, fun W' hS' => by have hc := (hS'.cell (p := ⟨pf, 3, none⟩) lf6).trans q3.out; try simp at hc; go_simp⟩) hS ?_
           try simp only [z]
           refine tk (i := 15) (v := .pointer (some ⟨pf, 1, none⟩)) rfl (by kernel_rfl) (fun _ _ _ h => h) (.inl ⟨by rfl, fun W' hS' => by go_simp⟩) hS ?_
           try simp only [z]
           refine tk (i := 16) (v := .int .i64 fb) rfl (by kernel_rfl) (fun _ _ _ h => h) (.inl ⟨by rfl, fun W' hS' => by have hc := (hS'.cell (p := ⟨pf, 1, none⟩) lf6).trans q1.out; try simp at hc; go_simp⟩) hS ?_
           try simp only [z]
           refine tk (i := 17) (v := .int .i64 m2) rfl (by kernel_rfl) (fun _ _ _ h => h) (.inl ⟨by rfl, fun W' hS' => by have hm := HM2.out; (go_simp; rw [IntKind.wrap_i64]; unfold wrap64; first | done | rfl)⟩) hS ?_
           try simp only [z]
           refine tk (i := 18) (v := .bool true) rfl (by kernel_rfl) (fun _ _ _ h => h) (.inl ⟨by rfl, fun W' hS' => by (go_simp; try simp [h2])⟩) hS ?_
           try simp only [z]
           refine tk (i := 19) (v := .bool true) rfl (by kernel_rfl) (fun _ _ _ h => h) (.inl ⟨by rfl, fun W' hS' => by go_simp⟩) hS ?_
           try simp only [z]
           refine tk (i := 20) (v := .pointer (some ⟨pf, 1, none⟩)) rfl (by kernel_rfl) (fun _ _ _ h => h) (.inl ⟨by rfl, fun W' hS' => by go_simp⟩) hS ?_
           try simp only [z]
           refine tk (i := 21) (v := .int .i64 fb) rfl (by kernel_rfl) (fun _ _ _ h => h) (.inl ⟨by rfl, fun W' hS' => by have hc := (hS'.cell (p := ⟨pf, 1, none⟩) lf6).trans q1.out; try simp at hc; go_simp⟩) hS ?_
           try simp only [z]
           refine wpAnyH_ready (rs := [22]) (by kernel_rfl) (by simp) (AllReadyH.cons rfl (fun K hK => ?_) AllReadyH.nil)
           go_simp
           refine (absl_any WC fb (by omega) (by omega)).mono ?_
           rw [<- HRB.out]
           rintro e Wn ⟨rfl, hWn⟩
           obtain rfl := hWn.symm
           refine hK.out _ _ hS (fun _ => ?_)
           clear hK K
           try simp only [z]
           refine tk (i := 23) (v := .bool false) rfl (by kernel_rfl) (fun _ _ _ h => h) (.inl ⟨by rfl, fun W' hS' => by (go_simp; try simp [h2r])⟩) hS ?_
           try simp only [z]
           refine tk (i := 24) (v := .bool false) rfl (by kernel_rfl) (fun _ _ _ h => h) (.inl ⟨by rfl, fun W' hS' => by go_simp⟩) hS ?_
           try simp only [z]
           refine tk (i := 25) (v := .bool false) rfl (by kernel_rfl) (fun _ _ _ h => h) (.inl ⟨by rfl, fun W' hS' => by go_simp⟩) hS ?_
           try simp only [z]
           refine tk (i := 26) (v := .bool false) rfl (by kernel_rfl) (fun _ _ _ h => h) (.inl ⟨by rfl, fun W' hS' => by go_simp⟩) hS ?_
           try simp only [z]
           refine tk (i := 27) (v := .pointer (some ⟨pf, 2, none⟩)) rfl (by kernel_rfl) (fun _ _ _ h => h) (.inl ⟨by rfl, fun W' hS' => by go_simp⟩) hS ?_
           try simp only [z]
           refine tk (i := 28) (v := .int .i64 fc) rfl (by kernel_rfl) (fun _ _ _ h => h) (.inl ⟨by rfl, fun W' hS' => by have hc := (hS'.cell (p := ⟨pf, 2, none⟩) lf6).trans q2.out; try simp at hc; go_simp⟩) hS ?_
           try simp only [z]
           refine tk (i := 30) (v := .pointer (some ⟨pf, 0, none⟩)) rfl (by kernel_rfl) (fun _ _ _ h => h) (.inl ⟨by rfl, fun W' hS' => by go_simp⟩) hS ?_
           try simp only [z]
           refine tk (i := 31) (v := .int .i64 fa) rfl (by kernel_rfl) (fun _ _ _ h => h) (.inl ⟨by rfl, fun W' hS' => by have hc := (hS'.cell (p := ⟨pf, 0, none⟩) lf6).trans q0.out; try simp at hc; go_simp⟩) hS ?_
           try simp only [z]
           refine wpAnyH_ready (rs := [29]) (by kernel_rfl) (by simp) (AllReadyH.cons rfl (fun K hK => ?_) AllReadyH.nil)
           go_simp
           refine (absl_any WC fc (by omega) (by omega)).mono ?_
           rw [<- HRC.out]
           rintro e Wn ⟨rfl, hWn⟩
           obtain rfl := hWn.symm
           refine hK.out _ _ hS (fun _ => ?_)
           clear hK K
           try simp only [z]
           refine wpAnyH_ready (rs := [32]) (by kernel_rfl) (by simp) (AllReadyH.cons rfl (fun K hK => ?_) AllReadyH.nil)
           go_simp
           refine (absl_any WC fa (by omega) (by omega)).mono ?_
           rw [<- HRA.out]
           rintro e Wn ⟨rfl, hWn⟩
           obtain rfl := hWn.symm
           refine hK.out _ _ hS (fun _ => ?_)
           clear hK K
           try simp only [z]
           refine tk (i := 33) (v := .bool false) rfl (by kernel_rfl) (fun _ _ _ h => h) (.inl ⟨by rfl, fun W' hS' => by have hm := HCA.out; (go_simp; try simp [hm])⟩) hS ?_
           try simp only [z]
           refine tk (i := 34) (v := .bool false) rfl (by kernel_rfl) (fun _ _ _ h => h) (.inl ⟨by rfl, fun W' hS' => by go_simp⟩) hS ?_
           try simp only [z]
           refine tk (i := 35) (v := .bool false) rfl (by kernel_rfl) (fun _ _ _ h => h) (.inl ⟨by rfl, fun W' hS' => by go_simp⟩) hS ?_
           try simp only [z]
           refine tk (i := 36) (v := .pointer (some ⟨pf, 3, none⟩)) rfl (by kernel_rfl) (fun _ _ _ h => h) (.inl ⟨by rfl, fun W' hS' => by go_simp⟩) hS ?_
           try simp only [z]
           refine tk (i := 37) (v := .int .i64 fd) rfl (by kernel_rfl) (fun _ _ _ h => h) (.inl ⟨by rfl, fun W' hS' => by have hc := (hS'.cell (p := ⟨pf, 3, none⟩) lf6).trans q3.out; try simp at hc; go_simp⟩) hS ?_
           try simp only [z]
           refine tk (i := 39) (v := .pointer (some ⟨pf, 1, none⟩)) rfl (by kernel_rfl) (fun _ _ _ h => h) (.inl ⟨by rfl, fun W' hS' => by go_simp⟩) hS ?_
           try simp only [z]
           refine tk (i := 40) (v := .int .i64 fb) rfl (by kernel_rfl) (fun _ _ _ h => h) (.inl ⟨by rfl, fun W' hS' => by have hc := (hS'.cell (p := ⟨pf, 1, none⟩) lf6).trans q1.out; try simp at hc; go_simp⟩) hS ?_
           try simp only [z]
           refine wpAnyH_ready (rs := [38]) (by kernel_rfl) (by simp) (AllReadyH.cons rfl (fun K hK => ?_) AllReadyH.nil)
           go_simp
           refine (absl_any WC fd (by omega) (by omega)).mono ?_
           rw [<- HRD.out]
           rintro e Wn ⟨rfl, hWn⟩
           obtain rfl := hWn.symm
           refine hK.out _ _ hS (fun _ => ?_)
           clear hK K
           try simp only [z]
           refine wpAnyH_ready (rs := [41]) (by kernel_rfl) (by simp) (AllReadyH.cons rfl (fun K hK => ?_) AllReadyH.nil)
           go_simp
           refine (absl_any WC fb (by omega) (by omega)).mono ?_
           rw [<- HRB.out]
           rintro e Wn ⟨rfl, hWn⟩
           obtain rfl := hWn.symm
           refine hK.out _ _ hS (fun _ => ?_)
           clear hK K
           try simp only [z]
           refine tk (i := 42) (v := .bool false) rfl (by kernel_rfl) (fun _ _ _ h => h) (.inl ⟨by rfl, fun W' hS' => by have hm := HCB.out; (go_simp; try simp [hm])⟩) hS ?_
           try simp only [z]
           refine wpAnyH_ready (rs := [43]) (by kernel_rfl) (by simp) (AllReadyH.cons rfl (fun K hK => ?_) AllReadyH.nil)
           go_simp
           refine hK.out _ _ hS (fun _ => ?_)
           clear hK K
           try simp only [z]
           refine wpAnyH_done (by kernel_rfl) ?_ _
           try simp only [z]
           have r25 := Lib.hid (range_row (cs := [.int .i64 fa, .int .i64 fb, .int .i64 fc, .int .i64 fd]) ((hS.block _ lf6).trans Hf6.out))
           have hal := Hal6.out.kept (hS.block _ z5p)
           have hs9 := (hS.block _ z6p).trans Hs6.out
           obtain ⟨⟨v0, v1, v2, v3, e0, e1, e2, e3⟩, cf, lall⟩ := hal.look hlt
           have hst := Lib.hid (hal.step (.int .i64 fa) (.int .i64 fb) hlt)
           have HB59 := Lib.hid (HB56.out.trans (hS.mono HB56.out.size))
           have Hs9 := Lib.hid hs9
           clear hal hs9
           skip
           go_wp2_with (refine wpList_load_mid rfl 39 (.tmp 15) rfl pf 0 rfl [.int .i64 fa, .int .i64 fb, .int .i64 fc, .int .i64 fd] _ r25.out Tryz.underlying39 rfl figmSize ?_)
           go_roundw
           case rel =>
            have hst' := hst.out
            rw [show oc k = fc by rw [HOC.out, HFC.out, HPK.out, HQK.out], show od k = fd by rw [HOD.out, HFD.out, HPK.out, HQK.out]] at hst'
            exact ⟨k + 1, by omega, by go_num, hst'.1, HB59.out.grown hst'.2 HB59.out.size (fun k hk => by cases hk; exact Nat.le_refl _), (hst'.2.block _ (some_lt Hs9.out) (by simp; omega)).trans Hs9.out⟩
           case measure => simp [intOf]; omega
          ·skip
           have h1r : ¬ m1 < 0 := h1
           refine wp_region_held (S := Below W6p.heap.size W6p) (by kernel_rfl) ?_
           change wpAnyH _ _ _ _ _ _ _ _ (World.drew W6p)
           obtain ⟨WC, hWd⟩ : ∃ W0, W0 = W6p.drew := ⟨_, rfl⟩
           rw [<- hWd] at hS ⊢
           clear hWd
           refine tk (i := 0) (v := .pointer (some ⟨pf, 2, none⟩)) rfl (by kernel_rfl) (fun _ _ _ h => h) (.inl ⟨by rfl, fun W' hS' => by go_simp⟩) hS ?_
           try simp only [z]
           refine tk (i := 1) (v := .int .i64 fc) rfl (by kernel_rfl) (fun _ _ _ h => h) (.inl ⟨by rfl, fun W' hS' => by have hc := (hS'.cell (p := ⟨pf, 2, none⟩) lf6).trans q2.out; try simp at hc; go_simp⟩) hS ?_
           try simp only [z]
           refine tk (i := 2) (v := .pointer (some ⟨pf, 0, none⟩)) rfl (by kernel_rfl) (fun _ _ _ h => h) (.inl ⟨by rfl, fun W' hS' => by go_simp⟩) hS ?_
           try simp only [z]
           refine tk (i := 3) (v := .int .i64 fa) rfl (by kernel_rfl) (fun _ _ _ h => h) (.inl ⟨by rfl, fun W' hS' => by have hc := (hS'.cell (p := ⟨pf, 0, none⟩) lf6).trans q0.out; try simp at hc; go_simp⟩) hS ?_
           try simp only [z]
           refine tk (i := 4) (v := .int .i64 m1) rfl (by kernel_rfl) (fun _ _ _ h => h) (.inl ⟨by rfl, fun W' hS' => by have hm := HM1.out; (go_simp; rw [IntKind.wrap_i64]; unfold wrap64; first | done | rfl)⟩) hS ?_
           try simp only [z]
           refine tk (i := 5) (v := .bool false) rfl (by kernel_rfl) (fun _ _ _ h => h) (.inl ⟨by rfl, fun W' hS' => by (go_simp; try simp [h1])⟩) hS ?_
           try simp only [z]
           refine tk (i := 6) (v := .bool false) rfl (by kernel_rfl) (fun _ _ _ h => h) (.inl ⟨by rfl, fun W' hS' => by go_simp⟩) hS ?_
           try simp only [z]
           refine tk (i := 7) (v := undef) rfl (by kernel_rfl) (fun _ _ _ h => h) (.inr ⟨by rfl, rfl⟩) hS ?_
           try simp only [z]
           refine tk (i := 8) (v := undef) rfl (by kernel_rfl) (fun _ _ _ h => h) (.inr ⟨by rfl, rfl⟩) hS ?_
           try simp only [z]
           refine tk (i := 9) (v := undef) rfl (by kernel_rfl) (fun _ _ _ h => h) (.inr ⟨by rfl, rfl⟩) hS ?_
           try simp only [z]
           refine tk (i := 10) (v := undef) rfl (by kernel_rfl) (fun _ _ _ h => h) (.inr ⟨by rfl, rfl⟩) hS ?_
           try simp only [z]
           refine tk (i := 11) (v := .bool false) rfl (by kernel_rfl) (fun _ _ _ h => h) (.inl ⟨by rfl, fun W' hS' => by go_simp⟩) hS ?_
           try simp only [z]
           refine tk (i := 12) (v := .bool false) rfl (by kernel_rfl) (fun _ _ _ h => h) (.inl ⟨by rfl, fun W' hS' => by go_simp⟩) hS ?_
           try simp only [z]
           refine tk (i := 13) (v := .pointer (some ⟨pf, 3, none⟩)) rfl (by kernel_rfl) (fun _ _ _ h => h) (.inl ⟨by rfl, fun W' hS' => by go_simp⟩) hS ?_
           try simp only [z]
           refine tk (i := 14) (v := .int .i64 fd) rfl (by kernel_rfl) (fun _ _ _ h => h) (.inl ⟨by rfl, fun W' hS' => by have hc := (hS'.cell (p := ⟨pf, 3, none⟩) lf6).trans q3.out; try simp at hc; go_simp⟩) hS ?_
           try simp only [z]
           refine tk (i := 15) (v := .pointer (some ⟨pf, 1, none⟩)) rfl (by kernel_rfl) (fun _ _ _ h => h) (.inl ⟨by rfl, fun W' hS' => by go_simp⟩) hS ?_
           try simp only [z]
           refine tk (i := 16) (v := .int .i64 fb) rfl (by kernel_rfl) (fun _ _ _ h => h) (.inl ⟨by rfl, fun W' hS' => by have hc := (hS'.cell (p := ⟨pf, 1, none⟩) lf6).trans q1.out; try simp at hc; go_simp⟩) hS ?_
           try simp only [z]
           refine tk (i := 17) (v := .int .i64 m2) rfl (by kernel_rfl) (fun _ _ _ h => h) (.inl ⟨by rfl, fun W' hS' => by have hm := HM2.out; (go_simp; rw [IntKind.wrap_i64]; unfold wrap64; first | done | rfl)⟩) hS ?_
           try simp only [z]
           refine tk (i := 18) (v := .bool false) rfl (by kernel_rfl) (fun _ _ _ h => h) (.inl ⟨by rfl, fun W' hS' => by (go_simp; try simp [h2])⟩) hS ?_
           try simp only [z]
           refine tk (i := 19) (v := .bool false) rfl (by kernel_rfl) (fun _ _ _ h => h) (.inl ⟨by rfl, fun W' hS' => by go_simp⟩) hS ?_
           try simp only [z]
           refine tk (i := 20) (v := undef) rfl (by kernel_rfl) (fun _ _ _ h => h) (.inr ⟨by rfl, rfl⟩) hS ?_
           try simp only [z]
           refine tk (i := 21) (v := undef) rfl (by kernel_rfl) (fun _ _ _ h => h) (.inr ⟨by rfl, rfl⟩) hS ?_
           try simp only [z]
           refine tk (i := 22) (v := undef) rfl (by kernel_rfl) (fun _ _ _ h => h) (.inr ⟨by rfl, rfl⟩) hS ?_
           try simp only [z]
           refine tk (i := 23) (v := undef) rfl (by kernel_rfl) (fun _ _ _ h => h) (.inr ⟨by rfl, rfl⟩) hS ?_
           try simp only [z]
           refine tk (i := 24) (v := .bool false) rfl (by kernel_rfl) (fun _ _ _ h => h) (.inl ⟨by rfl, fun W' hS' => by go_simp⟩) hS ?_
           try simp only [z]
           refine tk (i := 25) (v := .bool false) rfl (by kernel_rfl) (fun _ _ _ h => h) (.inl ⟨by rfl, fun W' hS' => by go_simp⟩) hS ?_
           try simp only [z]
           refine tk (i := 26) (v := .bool false) rfl (by kernel_rfl) (fun _ _ _ h => h) (.inl ⟨by rfl, fun W' hS' => by go_simp⟩) hS ?_
           try simp only [z]
           refine tk (i := 27) (v := .pointer (some ⟨pf, 2, none⟩)) rfl (by kernel_rfl) (fun _ _ _ h => h) (.inl ⟨by rfl, fun W' hS' => by go_simp⟩) hS ?_
           try simp only [z]
           refine tk (i := 28) (v := .int .i64 fc) rfl (by kernel_rfl) (fun _ _ _ h => h) (.inl ⟨by rfl, fun W' hS' => by have hc := (hS'.cell (p := ⟨pf, 2, none⟩) lf6).trans q2.out; try simp at hc; go_simp⟩) hS ?_
           try simp only [z]
           refine tk (i := 30) (v := .pointer (some ⟨pf, 0, none⟩)) rfl (by kernel_rfl) (fun _ _ _ h => h) (.inl ⟨by rfl, fun W' hS' => by go_simp⟩) hS ?_
           try simp only [z]
           refine tk (i := 31) (v := .int .i64 fa) rfl (by kernel_rfl) (fun _ _ _ h => h) (.inl ⟨by rfl, fun W' hS' => by have hc := (hS'.cell (p := ⟨pf, 0, none⟩) lf6).trans q0.out; try simp at hc; go_simp⟩) hS ?_
           try simp only [z]
           refine wpAnyH_ready (rs := [29]) (by kernel_rfl) (by simp) (AllReadyH.cons rfl (fun K hK => ?_) AllReadyH.nil)
           go_simp
           refine (absl_any WC fc (by omega) (by omega)).mono ?_
           rw [<- HRC.out]
           rintro e Wn ⟨rfl, hWn⟩
           obtain rfl := hWn.symm
           refine hK.out _ _ hS (fun _ => ?_)
           clear hK K
           try simp only [z]
           refine wpAnyH_ready (rs := [32]) (by kernel_rfl) (by simp) (AllReadyH.cons rfl (fun K hK => ?_) AllReadyH.nil)
           go_simp
           refine (absl_any WC fa (by omega) (by omega)).mono ?_
           rw [<- HRA.out]
           rintro e Wn ⟨rfl, hWn⟩
           obtain rfl := hWn.symm
           refine hK.out _ _ hS (fun _ => ?_)
           clear hK K
           try simp only [z]
           refine tk (i := 33) (v := .bool false) rfl (by kernel_rfl) (fun _ _ _ h => h) (.inl ⟨by rfl, fun W' hS' => by have hm := HCA.out; (go_simp; try simp [hm])⟩) hS ?_
           try simp only [z]
           refine tk (i := 34) (v := .bool false) rfl (by kernel_rfl) (fun _ _ _ h => h) (.inl ⟨by rfl, fun W' hS' => by go_simp⟩) hS ?_
           try simp only [z]
           refine tk (i := 35) (v := .bool false) rfl (by kernel_rfl) (fun _ _ _ h => h) (.inl ⟨by rfl, fun W' hS' => by go_simp⟩) hS ?_
           try simp only [z]
           refine tk (i := 36) (v := .pointer (some ⟨pf, 3, none⟩)) rfl (by kernel_rfl) (fun _ _ _ h => h) (.inl ⟨by rfl, fun W' hS' => by go_simp⟩) hS ?_
           try simp only [z]
           refine tk (i := 37) (v := .int .i64 fd) rfl (by kernel_rfl) (fun _ _ _ h => h) (.inl ⟨by rfl, fun W' hS' => by have hc := (hS'.cell (p := ⟨pf, 3, none⟩) lf6).trans q3.out; try simp at hc; go_simp⟩) hS ?_
           try simp only [z]
           refine tk (i := 39) (v := .pointer (some ⟨pf, 1, none⟩)) rfl (by kernel_rfl) (fun _ _ _ h => h) (.inl ⟨by rfl, fun W' hS' => by go_simp⟩) hS ?_
           try simp only [z]
           refine tk (i := 40) (v := .int .i64 fb) rfl (by kernel_rfl) (fun _ _ _ h => h) (.inl ⟨by rfl, fun W' hS' => by have hc := (hS'.cell (p := ⟨pf, 1, none⟩) lf6).trans q1.out; try simp at hc; go_simp⟩) hS ?_
           try simp only [z]
           refine wpAnyH_ready (rs := [38]) (by kernel_rfl) (by simp) (AllReadyH.cons rfl (fun K hK => ?_) AllReadyH.nil)
           go_simp
           refine (absl_any WC fd (by omega) (by omega)).mono ?_
           rw [<- HRD.out]
           rintro e Wn ⟨rfl, hWn⟩
           obtain rfl := hWn.symm
           refine hK.out _ _ hS (fun _ => ?_)
           clear hK K
           try simp only [z]
           refine wpAnyH_ready (rs := [41]) (by kernel_rfl) (by simp) (AllReadyH.cons rfl (fun K hK => ?_) AllReadyH.nil)
           go_simp
           refine (absl_any WC fb (by omega) (by omega)).mono ?_
           rw [<- HRB.out]
           rintro e Wn ⟨rfl, hWn⟩
           obtain rfl := hWn.symm
           refine hK.out _ _ hS (fun _ => ?_)
           clear hK K
           try simp only [z]
           refine tk (i := 42) (v := .bool false) rfl (by kernel_rfl) (fun _ _ _ h => h) (.inl ⟨by rfl, fun W' hS' => by have hm := HCB.out; (go_simp; try simp [hm])⟩) hS ?_
           try simp only [z]
           refine wpAnyH_ready (rs := [43]) (by kernel_rfl) (by simp) (AllReadyH.cons rfl (fun K hK => ?_) AllReadyH.nil)
           go_simp
           refine hK.out _ _ hS (fun _ => ?_)
           clear hK K
           try simp only [z]
           refine wpAnyH_done (by kernel_rfl) ?_ _
           try simp only [z]
           have r25 := Lib.hid (range_row (cs := [.int .i64 fa, .int .i64 fb, .int .i64 fc, .int .i64 fd]) ((hS.block _ lf6).trans Hf6.out))
           have hal := Hal6.out.kept (hS.block _ z5p)
           have hs9 := (hS.block _ z6p).trans Hs6.out
           obtain ⟨⟨v0, v1, v2, v3, e0, e1, e2, e3⟩, cf, lall⟩ := hal.look hlt
           have hst := Lib.hid (hal.step (.int .i64 fa) (.int .i64 fb) hlt)
           have HB59 := Lib.hid (HB56.out.trans (hS.mono HB56.out.size))
           have Hs9 := Lib.hid hs9
           clear hal hs9
           skip
           go_wp2_with (refine wpList_load_mid rfl 39 (.tmp 15) rfl pf 0 rfl [.int .i64 fa, .int .i64 fb, .int .i64 fc, .int .i64 fd] _ r25.out Tryz.underlying39 rfl figmSize ?_)
           go_roundw
           case rel =>
            have hst' := hst.out
            rw [show oc k = fc by rw [HOC.out, HFC.out, HPK.out, HQK.out], show od k = fd by rw [HOD.out, HFD.out, HPK.out, HQK.out]] at hst'
            exact ⟨k + 1, by omega, by go_num, hst'.1, HB59.out.grown hst'.2 HB59.out.size (fun k hk => by cases hk; exact Nat.le_refl _), (hst'.2.block _ (some_lt Hs9.out) (by simp; omega)).trans Hs9.out⟩
           case measure => simp [intOf]; omega
        have KEY2 := Lib.hid key2
        clear key2 hK3
        by_cases hk2 : k = 2
        ·obtain ⟨e1, e2⟩ := HK2' hk2
         subst e1 e2
         have hkb : ((k : Int) == 2) = true := by simp [hk2]
         clear HK2' hk2
         go_wp2
         exact KEY2.out _ _ _ _ _ _ _ _ _ _ _ _ _ _ _ _ _ _ _ _ _ _ _ _ _ _ _ _ _ _ _ _ _ _ _ _ _ _ _ _ _ _ _ _ _ _ _ _ _ _ _ _ _ _ _ _ _ _ _ _ _ _ _ _ _ _ _ _ _ _ _ _ _ _ _ _ _ _ _ _ _ _ _ _ _ _ _ _ _ _ _ _ _ _ _ _ _ _ _ _ _ _ _ _ _ _ _ _ _ _ _
        ·have hkb : ((k : Int) == 2) = false := by simp; omega
         clear HK2' hk2
         go_wp2
         exact KEY2.out _ _ _ _ _ _ _ _ _ _ _ _ _ _ _ _ _ _ _ _ _ _ _ _ _ _ _ _ _ _ _ _ _ _ _ _ _ _ _ _ _ _ _ _ _ _ _ _ _ _ _ _ _ _ _ _ _ _ _ _ _ _ _ _ _ _ _ _ _ _ _ _ _ _ _ _ _ _ _ _ _ _ _ _ _ _ _ _ _ _ _ _ _ _ _ _ _ _ _ _ _ _ _ _ _ _ _ _ _ _ _
       have n1 : ∀ (m : Nat) (W : World) (Ao : Option Addr) (co : Nat) (ds : List Con) (bp : Bool) (vp : Value) (pp : Nat), 6 + cond bp 0 1 <= m -> RG W -> W_0.heap.size <= W.heap.size -> (ds.length = ms.length) -> (ConsAt W W.heap.size Ao ds) -> (Hold (fun a b => a.Holds SD W W.heap.size b) ds (ms.map Raw.cnt)) -> Mk W_0 W bp vp pp #[.int .i64 0, .int .i64 0, .int .i64 0, .int .i64 0, .slice none 0 0] 53 -> wpAnyH Tryz.prog md' ops' Q' RG m #[true, true, true, true, false, false, false, false, bp, false, false] ((a'.put (some 91) (.slice Ao i co)).put (some 17) vp) W := by
        intro m
        induction m with
        | zero => intros; omega
        | succ m ih =>
        intro W Ao co ds bp vp pp hm hS hz hdl hds hdo Hp
        subst hlm hlo hlq hla hRG
        try simp only [z]
        refine wpAnyH_ready (rs := 4 :: (cond bp [] [8] ++ [])) (by cases bp <;> kernel_rfl) (by simp) (.cons rfl (fun K hK => ?_) (ropt (fun hp => .cons rfl (fun K hK => ?_) .nil) .nil))
        ·clear ih
         have Hof := Lib.hid (mpostd_any W g Ao i co ds (ms.map Raw.cnt) x (hdl.trans Hln.out.symm) (by have := Hln.out; have := H8m.out; omega) hds hdo (Hga4.out.at_ hS) Hwf.out)
         go_simp
         refine Hof.out.mono ?_
         rintro e W' hpp
         obtain ⟨hB, Ap, cp, hfp, rfl, hPp⟩ := PostingPost.one hpp
         clear hpp
         rw [<- HPSp.out] at hPp
         rw [<- HKKp.out, <- HEEp.out, <- HOOp.out, <- HEPp.out, <- HPSp.out, <- HNPp.out]
         have hS' := hS.trans (hB.mono hS.size)
         refine hK.out _ _ hS' (fun _ => ?_)
         clear hK K
         try simp only [z]
         obtain ⟨m, rfl⟩ : ∃ k, m = k + 3 := ⟨m - 3, by omega⟩
         refine wpAnyH_take (i := 5) (v := .tuple #[.agg #[.int .i64 kkp, .int .i64 eep, .int .i64 oop, .int .i64 0, .slice Ap npp cp], .int .i64 epp]) rfl (by kernel_rfl) (by cases bp <;> kernel_rfl) (by cases bp <;> kernel_rfl) (fun _ _ _ h => h) (.inl ⟨by rfl, fun W' hS' => by go_simp⟩) hS' ?_
         try simp only [z]
         refine wpAnyH_take (i := 6) (v := .agg #[.int .i64 kkp, .int .i64 eep, .int .i64 oop, .int .i64 0, .slice Ap npp cp]) rfl (by kernel_rfl) (by cases bp <;> kernel_rfl) (by cases bp <;> kernel_rfl) (fun _ _ _ h => h) (.inl ⟨by rfl, fun W' hS' => by go_simp⟩) hS' ?_
         try simp only [z]
         refine wpAnyH_take (i := 7) (v := .int .i64 epp) rfl (by kernel_rfl) (by cases bp <;> kernel_rfl) (by cases bp <;> kernel_rfl) (fun _ _ _ h => h) (.inl ⟨by rfl, fun W' hS' => by go_simp⟩) hS' ?_
         try simp only [z]
         have hn := n2 m W' Ao co ds Ap cp bp vp pp (by omega) hS' (Nat.le_trans hz hB.size) (hPp) (fun hb _ ad e => Nat.ne_of_gt (Nat.lt_of_lt_of_le (some_lt (Hp hb).2.2) (hfp ad e))) (Hp.step hB)
         try simp only [z] at hn
         exact hn
        ·subst hp
         obtain ⟨W', hWn, hB, hrow, _⟩ := nw1 W #[.int .i64 0, .int .i64 0, .int .i64 0, .int .i64 0, .slice none 0 0] 53
         go_simp
         rw [<- hWn]
         clear hWn
         have hS' := hS.trans (hB.mono hS.size)
         refine hK.out _ _ hS' (fun _ => ?_)
         clear hK K
         try simp only [z]
         have hn := ih W' Ao co ds true (.pointer (some ⟨W.heap.size, 0, none⟩)) W.heap.size (by simp only [cond_true, cond_false] at hm ⊢; omega) hS' (Nat.le_trans hz hB.size) (hdl) (RowsAt.at_ hds hB) (hdo.imp (Q := fun a b => a.Holds SD W' W'.heap.size b) fun _ _ h => h.atD hB) (fun _ => ⟨rfl, hz, hrow⟩) 
         try simp only [z] at hn
         exact hn
       have n0 : ∀ (m : Nat) (W : World) (bp : Bool) (vp : Value) (pp : Nat), 7 + cond bp 0 1 <= m -> RG W -> W_0.heap.size <= W.heap.size -> Mk W_0 W bp vp pp #[.int .i64 0, .int .i64 0, .int .i64 0, .int .i64 0, .slice none 0 0] 53 -> wpAnyH Tryz.prog md' ops' Q' RG m #[true, true, false, true, false, false, false, false, bp, false, false] (a'.put (some 17) vp) W := by
        intro m
        induction m with
        | zero => intros; omega
        | succ m ih =>
        intro W bp vp pp hm hS hz Hp
        subst hlm hlo hlq hla hRG
        try simp only [z]
        refine wpAnyH_ready (rs := 2 :: (cond bp [] [8] ++ [])) (by cases bp <;> kernel_rfl) (by simp) (.cons rfl (fun K hK => ?_) (ropt (fun hp => .cons rfl (fun K hK => ?_) .nil) .nil))
        ·clear ih
         have Hown := Lib.hid (own39_any W (some ⟨G, 0, none⟩) i cap ms Hml.out (by have := Hml.out; have := H8m.out; omega) (RowsAt.at_ Hraw4.out hS) (fun a ha => ((Hmx4.out a ha).below hS (Nat.le_refl _)).more hS.size) Hall.out)
         go_simp
         refine Hown.out.mono ?_
         rintro e W' ⟨hB, Ao, co, ds, rfl, hdl, hds, hdo⟩
         rw [Hml.out]
         have hS' := hS.trans (hB.mono hS.size)
         refine hK.out _ _ hS' (fun _ => ?_)
         clear hK K
         try simp only [z]
         have hn := n1 m W' Ao co ds bp vp pp (by omega) hS' (Nat.le_trans hz hB.size) (hdl) (hds) (hdo) (Hp.step hB)
         try simp only [z] at hn
         exact hn
        ·subst hp
         obtain ⟨W', hWn, hB, hrow, _⟩ := nw1 W #[.int .i64 0, .int .i64 0, .int .i64 0, .int .i64 0, .slice none 0 0] 53
         go_simp
         rw [<- hWn]
         clear hWn
         have hS' := hS.trans (hB.mono hS.size)
         refine hK.out _ _ hS' (fun _ => ?_)
         clear hK K
         try simp only [z]
         have hn := ih W' true (.pointer (some ⟨W.heap.size, 0, none⟩)) W.heap.size (by simp only [cond_true, cond_false] at hm ⊢; omega) hS' (Nat.le_trans hz hB.size) (fun _ => ⟨rfl, hz, hrow⟩) 
         try simp only [z] at hn
         exact hn
       have hn := n0 _ W_0 false u17 0 (Nat.le_refl _) hS (Nat.le_refl _)  (fun h => nomatch h)
       subst hlm hlo hlq hla hRG
       exact hn
      have n1 : ∀ (m : Nat) (W : World) (Ao : Option Addr) (co : Nat) (ds : List Con) (bf : Bool) (vf : Value) (pf : Nat), 6 + cond bf 0 1 <= m -> RG W -> W_0.heap.size <= W.heap.size -> (ds.length = ms.length) -> (ConsAt W W.heap.size Ao ds) -> (Hold (fun a b => a.Holds SD W W.heap.size b) ds (ms.map Raw.cnt)) -> Mk W_0 W bf vf pf #[.int .i64 0, .int .i64 0, .int .i64 0, .int .i64 0] 39 -> wpAnyH Tryz.prog md' ops' Q' RG m #[true, true, true, true, false, false, false, false, bf, false, false] ((a'.put (some 83) (.slice Ao i co)).put (some 15) vf) W := by
       intro m
       induction m with
       | zero => intros; omega
       | succ m ih =>
       intro W Ao co ds bf vf pf hm hS hz hdl hds hdo Hf
       subst hlm hlo hlq hla hRG
       try simp only [z]
       refine wpAnyH_ready (rs := 4 :: (cond bf [] [8] ++ [])) (by cases bf <;> kernel_rfl) (by simp) (.cons rfl (fun K hK => ?_) (ropt (fun hf => .cons rfl (fun K hK => ?_) .nil) .nil))
       ·clear ih
        have Hof := Lib.hid (minord_any W g Ao i co ds (ms.map Raw.cnt) x (hdl.trans Hml.out) (by have := Hml.out; have := H8m.out; omega) hds hdo (Hga3.out.at_ hS) Hwf.out)
        go_simp
        refine Hof.out.mono ?_
        rintro e W' ⟨ra, rb, rc, rd, re, hra, rfl, hB⟩
        rw [HAS.out] at hra
        cases hra
        have hS' := hS.trans (hB.mono hS.size)
        refine hK.out _ _ hS' (fun _ => ?_)
        clear hK K
        try simp only [z]
        obtain ⟨m, rfl⟩ : ∃ k, m = k + 3 := ⟨m - 3, by omega⟩
        refine wpAnyH_take (i := 5) (v := .tuple #[.agg #[.int .i64 fa, .int .i64 fb, .int .i64 fc, .int .i64 fd], .int .i64 er]) rfl (by kernel_rfl) (by cases bf <;> kernel_rfl) (by cases bf <;> kernel_rfl) (fun _ _ _ h => h) (.inl ⟨by rfl, fun W' hS' => by go_simp⟩) hS' ?_
        try simp only [z]
        refine wpAnyH_take (i := 6) (v := .agg #[.int .i64 fa, .int .i64 fb, .int .i64 fc, .int .i64 fd]) rfl (by kernel_rfl) (by cases bf <;> kernel_rfl) (by cases bf <;> kernel_rfl) (fun _ _ _ h => h) (.inl ⟨by rfl, fun W' hS' => by go_simp⟩) hS' ?_
        try simp only [z]
        refine wpAnyH_take (i := 7) (v := .int .i64 er) rfl (by kernel_rfl) (by cases bf <;> kernel_rfl) (by cases bf <;> kernel_rfl) (fun _ _ _ h => h) (.inl ⟨by rfl, fun W' hS' => by go_simp⟩) hS' ?_
        try simp only [z]
        have hn := n2 m W' Ao co ds bf vf pf (by omega) hS' (Nat.le_trans hz hB.size) (Hf.step hB)
        try simp only [z] at hn
        exact hn
       ·subst hf
        obtain ⟨W', hWn, hB, hrow, _⟩ := nw1 W #[.int .i64 0, .int .i64 0, .int .i64 0, .int .i64 0] 39
        go_simp
        rw [<- hWn]
        clear hWn
        have hS' := hS.trans (hB.mono hS.size)
        refine hK.out _ _ hS' (fun _ => ?_)
        clear hK K
        try simp only [z]
        have hn := ih W' Ao co ds true (.pointer (some ⟨W.heap.size, 0, none⟩)) W.heap.size (by simp only [cond_true, cond_false] at hm ⊢; omega) hS' (Nat.le_trans hz hB.size) (hdl) (RowsAt.at_ hds hB) (hdo.imp (Q := fun a b => a.Holds SD W' W'.heap.size b) fun _ _ h => h.atD hB) (fun _ => ⟨rfl, hz, hrow⟩) 
        try simp only [z] at hn
        exact hn
      have n0 : ∀ (m : Nat) (W : World) (bf : Bool) (vf : Value) (pf : Nat), 7 + cond bf 0 1 <= m -> RG W -> W_0.heap.size <= W.heap.size -> Mk W_0 W bf vf pf #[.int .i64 0, .int .i64 0, .int .i64 0, .int .i64 0] 39 -> wpAnyH Tryz.prog md' ops' Q' RG m #[true, true, false, true, false, false, false, false, bf, false, false] (a'.put (some 15) vf) W := by
       intro m
       induction m with
       | zero => intros; omega
       | succ m ih =>
       intro W bf vf pf hm hS hz Hf
       subst hlm hlo hlq hla hRG
       try simp only [z]
       refine wpAnyH_ready (rs := 2 :: (cond bf [] [8] ++ [])) (by cases bf <;> kernel_rfl) (by simp) (.cons rfl (fun K hK => ?_) (ropt (fun hf => .cons rfl (fun K hK => ?_) .nil) .nil))
       ·clear ih
        have Hown := Lib.hid (own39_any W (some ⟨G, 0, none⟩) i cap ms Hml.out (by have := Hml.out; have := H8m.out; omega) (RowsAt.at_ Hraw3.out hS) (fun a ha => ((Hmx3.out a ha).below hS (Nat.le_refl _)).more hS.size) Hall.out)
        go_simp
        refine Hown.out.mono ?_
        rintro e W' ⟨hB, Ao, co, ds, rfl, hdl, hds, hdo⟩
        rw [Hml.out]
        have hS' := hS.trans (hB.mono hS.size)
        refine hK.out _ _ hS' (fun _ => ?_)
        clear hK K
        try simp only [z]
        have hn := n1 m W' Ao co ds bf vf pf (by omega) hS' (Nat.le_trans hz hB.size) (hdl) (hds) (hdo) (Hf.step hB)
        try simp only [z] at hn
        exact hn
       ·subst hf
        obtain ⟨W', hWn, hB, hrow, _⟩ := nw1 W #[.int .i64 0, .int .i64 0, .int .i64 0, .int .i64 0] 39
        go_simp
        rw [<- hWn]
        clear hWn
        have hS' := hS.trans (hB.mono hS.size)
        refine hK.out _ _ hS' (fun _ => ?_)
        clear hK K
        try simp only [z]
        have hn := ih W' true (.pointer (some ⟨W.heap.size, 0, none⟩)) W.heap.size (by simp only [cond_true, cond_false] at hm ⊢; omega) hS' (Nat.le_trans hz hB.size) (fun _ => ⟨rfl, hz, hrow⟩) 
        try simp only [z] at hn
        exact hn
      have hn := n0 _ W_0 false u15 0 (Nat.le_refl _) hS (Nat.le_refl _)  (fun h => nomatch h)
      subst hlm hlo hlq hla hRG
      exact hn
   ·obtain rfl : k = 3 := by omega
    obtain ⟨⟨a2, a3⟩, ⟨a6, a7⟩, ⟨a10, a11⟩, lP⟩ := Hal.out.get
    have hpb := HPB.out
    obtain ⟨⟨fa0, fa1⟩, fb0, fb1⟩ := HBD.out
    have e0 : oc 0 = R1.oth fa p0 10000 := by rw [HOC.out]; rfl
    have e1 : oc 1 = R1.oth fa p1 10000 := by rw [HOC.out]; rfl
    have e2 : oc 2 = 0 := by rw [HOC.out]; exact R1.oth_all (n := fa) (d := 1) (by omega)
    have g0 : od 0 = R1.oth fb p0 10000 := by rw [HOD.out]; rfl
    have g1 : od 1 = R1.oth fb p1 10000 := by rw [HOD.out]; rfl
    have g2 : od 2 = 0 := by rw [HOD.out]; exact R1.oth_all (n := fb) (d := 1) (by omega)
    rw [e2] at a10
    rw [g2] at a11
    have i0 := R1.oth_le (n := fa) (a := p0) (d := 10000) (by omega) (by omega) (by omega)
    have i1 := R1.oth_le (n := fa) (a := p1) (d := 10000) (by omega) (by omega) (by omega)
    have i2 := R1.oth_mono (n := fa) (a := p0) (b := p1) (d := 10000) (by omega) (by omega) (by omega) (by omega)
    have j0 := R1.oth_le (n := fb) (a := p0) (d := 10000) (by omega) (by omega) (by omega)
    have j1 := R1.oth_le (n := fb) (a := p1) (d := 10000) (by omega) (by omega) (by omega)
    have j2 := R1.oth_mono (n := fb) (a := p0) (b := p1) (d := 10000) (by omega) (by omega) (by omega) (by omega)
    rw [<- e0] at i0
    rw [<- e1] at i1
    rw [<- e0, <- e1] at i2
    rw [<- g0] at j0
    rw [<- g1] at j1
    rw [<- g0, <- g1] at j2
    clear e0 e1 e2 g0 g1 g2
    obtain ⟨o0, ho0⟩ : ∃ v, v = oc 0 := ⟨_, rfl⟩
    obtain ⟨o1, ho1⟩ : ∃ v, v = oc 1 := ⟨_, rfl⟩
    obtain ⟨y0, hy0⟩ : ∃ v, v = od 0 := ⟨_, rfl⟩
    obtain ⟨y1, hy1⟩ : ∃ v, v = od 1 := ⟨_, rfl⟩
    rw [<- ho0] at a2 i0 i2
    rw [<- ho1] at a6 i1 i2
    rw [<- hy0] at a3 j0 j2
    rw [<- hy1] at a7 j1 j2
    obtain ⟨no0, hno0⟩ : ∃ v, v = (o0.natAbs : Int) := ⟨_, rfl⟩
    have HNo0 := Lib.hid hno0
    obtain ⟨no1, hno1⟩ : ∃ v, v = (o1.natAbs : Int) := ⟨_, rfl⟩
    have HNo1 := Lib.hid hno1
    obtain ⟨ny0, hny0⟩ : ∃ v, v = (y0.natAbs : Int) := ⟨_, rfl⟩
    have HNy0 := Lib.hid hny0
    obtain ⟨ny1, hny1⟩ : ∃ v, v = (y1.natAbs : Int) := ⟨_, rfl⟩
    have HNy1 := Lib.hid hny1
    rw [<- hno0] at i0 i2
    rw [<- hno1] at i1 i2
    rw [<- hny0] at j0 j2
    rw [<- hny1] at j1 j2
    have bo0 : -100000000000000 <= o0 /\ o0 <= 100000000000000 := by omega
    have bo1 : -100000000000000 <= o1 /\ o1 <= 100000000000000 := by omega
    have by0 : -100000000000000 <= y0 /\ y0 <= 100000000000000 := by omega
    have by1 : -100000000000000 <= y1 /\ y1 <= 100000000000000 := by omega
    have I2 := Lib.hid i2
    have J2 := Lib.hid j2
    have hB0r := hB05.trans (Hbr.out.mono hB05.size)
    have A2 := Lib.hid a2
    have A3 := Lib.hid a3
    have A6 := Lib.hid a6
    have A7 := Lib.hid a7
    have A10 := Lib.hid a10
    have A11 := Lib.hid a11
    clear i0 i1 i2 j0 j1 j2 ho0 ho1 hy0 hy1 hno0 hno1 hny0 hny1 a2 a3 a6 a7 a10 a11 hk hlt
    go_upto_region 26 with (fail)
    have hS : Below Wr.heap.size Wr Wr.drew := below_drawn (Below.refl _ _) 1
    refine wp_region_held (S := Below Wr.heap.size Wr) (by kernel_rfl) ?_
    change wpAnyH _ _ _ _ _ _ _ _ (World.drew Wr)
    obtain ⟨WC, hWd⟩ : ∃ W0, W0 = Wr.drew := ⟨_, rfl⟩
    rw [<- hWd] at hS ⊢
    clear hWd
    refine tk (i := 0) (v := .pointer (some ⟨W5.heap.size, 4, none⟩)) rfl (by kernel_rfl) (fun _ _ _ h => h) (.inl ⟨by rfl, fun W' hS' => by go_simp⟩) hS ?_
    try simp only [z]
    refine tk (i := 1) (v := .pointer (some ⟨W5.heap.size, 6, none⟩)) rfl (by kernel_rfl) (fun _ _ _ h => h) (.inl ⟨by rfl, fun W' hS' => by go_simp⟩) hS ?_
    try simp only [z]
    refine tk (i := 2) (v := .int .i64 o1) rfl (by kernel_rfl) (fun _ _ _ h => h) (.inl ⟨by rfl, fun W' hS' => by have hc := (hS'.cell (p := ⟨W5.heap.size, 6, none⟩) lP).trans A6.out; go_simp⟩) hS ?_
    try simp only [z]
    refine tk (i := 4) (v := .pointer (some ⟨W5.heap.size, 0, none⟩)) rfl (by kernel_rfl) (fun _ _ _ h => h) (.inl ⟨by rfl, fun W' hS' => by go_simp⟩) hS ?_
    try simp only [z]
    refine tk (i := 5) (v := .pointer (some ⟨W5.heap.size, 2, none⟩)) rfl (by kernel_rfl) (fun _ _ _ h => h) (.inl ⟨by rfl, fun W' hS' => by go_simp⟩) hS ?_
    try simp only [z]
    refine tk (i := 6) (v := .int .i64 o0) rfl (by kernel_rfl) (fun _ _ _ h => h) (.inl ⟨by rfl, fun W' hS' => by have hc := (hS'.cell (p := ⟨W5.heap.size, 2, none⟩) lP).trans A2.out; go_simp⟩) hS ?_
    try simp only [z]
    refine wpAnyH_ready (rs := [3]) (by kernel_rfl) (by simp) (AllReadyH.cons rfl (fun K hK => ?_) AllReadyH.nil)
    go_simp
    refine (absl_any WC o1 (by omega) (by omega)).mono ?_
    rw [<- HNo1.out]
    rintro e Wn ⟨rfl, hWn⟩
    obtain rfl := hWn.symm
    refine hK.out _ _ hS (fun _ => ?_)
    clear hK K
    try simp only [z]
    refine wpAnyH_ready (rs := [7]) (by kernel_rfl) (by simp) (AllReadyH.cons rfl (fun K hK => ?_) AllReadyH.nil)
    go_simp
    refine (absl_any WC o0 (by omega) (by omega)).mono ?_
    rw [<- HNo0.out]
    rintro e Wn ⟨rfl, hWn⟩
    obtain rfl := hWn.symm
    refine hK.out _ _ hS (fun _ => ?_)
    clear hK K
    try simp only [z]
    refine tk (i := 8) (v := .bool true) rfl (by kernel_rfl) (fun _ _ _ h => h) (.inl ⟨by rfl, fun W' hS' => by have hm := I2.out; (go_simp; try simp [hm])⟩) hS ?_
    try simp only [z]
    refine tk (i := 9) (v := .bool true) rfl (by kernel_rfl) (fun _ _ _ h => h) (.inl ⟨by rfl, fun W' hS' => by go_simp⟩) hS ?_
    try simp only [z]
    refine tk (i := 10) (v := .pointer (some ⟨W5.heap.size, 4, none⟩)) rfl (by kernel_rfl) (fun _ _ _ h => h) (.inl ⟨by rfl, fun W' hS' => by go_simp⟩) hS ?_
    try simp only [z]
    refine tk (i := 11) (v := .pointer (some ⟨W5.heap.size, 7, none⟩)) rfl (by kernel_rfl) (fun _ _ _ h => h) (.inl ⟨by rfl, fun W' hS' => by go_simp⟩) hS ?_
    try simp only [z]
    refine tk (i := 12) (v := .int .i64 y1) rfl (by kernel_rfl) (fun _ _ _ h => h) (.inl ⟨by rfl, fun W' hS' => by have hc := (hS'.cell (p := ⟨W5.heap.size, 7, none⟩) lP).trans A7.out; go_simp⟩) hS ?_
    try simp only [z]
    refine tk (i := 14) (v := .pointer (some ⟨W5.heap.size, 0, none⟩)) rfl (by kernel_rfl) (fun _ _ _ h => h) (.inl ⟨by rfl, fun W' hS' => by go_simp⟩) hS ?_
    try simp only [z]
    refine tk (i := 15) (v := .pointer (some ⟨W5.heap.size, 3, none⟩)) rfl (by kernel_rfl) (fun _ _ _ h => h) (.inl ⟨by rfl, fun W' hS' => by go_simp⟩) hS ?_
    try simp only [z]
    refine tk (i := 16) (v := .int .i64 y0) rfl (by kernel_rfl) (fun _ _ _ h => h) (.inl ⟨by rfl, fun W' hS' => by have hc := (hS'.cell (p := ⟨W5.heap.size, 3, none⟩) lP).trans A3.out; go_simp⟩) hS ?_
    try simp only [z]
    refine wpAnyH_ready (rs := [13]) (by kernel_rfl) (by simp) (AllReadyH.cons rfl (fun K hK => ?_) AllReadyH.nil)
    go_simp
    refine (absl_any WC y1 (by omega) (by omega)).mono ?_
    rw [<- HNy1.out]
    rintro e Wn ⟨rfl, hWn⟩
    obtain rfl := hWn.symm
    refine hK.out _ _ hS (fun _ => ?_)
    clear hK K
    try simp only [z]
    refine wpAnyH_ready (rs := [17]) (by kernel_rfl) (by simp) (AllReadyH.cons rfl (fun K hK => ?_) AllReadyH.nil)
    go_simp
    refine (absl_any WC y0 (by omega) (by omega)).mono ?_
    rw [<- HNy0.out]
    rintro e Wn ⟨rfl, hWn⟩
    obtain rfl := hWn.symm
    refine hK.out _ _ hS (fun _ => ?_)
    clear hK K
    try simp only [z]
    refine tk (i := 18) (v := .bool true) rfl (by kernel_rfl) (fun _ _ _ h => h) (.inl ⟨by rfl, fun W' hS' => by have hm := J2.out; (go_simp; try simp [hm])⟩) hS ?_
    try simp only [z]
    refine tk (i := 19) (v := .bool true) rfl (by kernel_rfl) (fun _ _ _ h => h) (.inl ⟨by rfl, fun W' hS' => by go_simp⟩) hS ?_
    try simp only [z]
    refine tk (i := 20) (v := .bool true) rfl (by kernel_rfl) (fun _ _ _ h => h) (.inl ⟨by rfl, fun W' hS' => by go_simp⟩) hS ?_
    try simp only [z]
    refine tk (i := 21) (v := .pointer (some ⟨W5.heap.size, 8, none⟩)) rfl (by kernel_rfl) (fun _ _ _ h => h) (.inl ⟨by rfl, fun W' hS' => by go_simp⟩) hS ?_
    try simp only [z]
    refine tk (i := 22) (v := .pointer (some ⟨W5.heap.size, 10, none⟩)) rfl (by kernel_rfl) (fun _ _ _ h => h) (.inl ⟨by rfl, fun W' hS' => by go_simp⟩) hS ?_
    try simp only [z]
    refine tk (i := 23) (v := .int .i64 0) rfl (by kernel_rfl) (fun _ _ _ h => h) (.inl ⟨by rfl, fun W' hS' => by have hc := (hS'.cell (p := ⟨W5.heap.size, 10, none⟩) lP).trans A10.out; go_simp⟩) hS ?_
    try simp only [z]
    refine tk (i := 24) (v := .bool true) rfl (by kernel_rfl) (fun _ _ _ h => h) (.inl ⟨by rfl, fun W' hS' => by go_simp⟩) hS ?_
    try simp only [z]
    refine tk (i := 25) (v := .bool true) rfl (by kernel_rfl) (fun _ _ _ h => h) (.inl ⟨by rfl, fun W' hS' => by go_simp⟩) hS ?_
    try simp only [z]
    refine tk (i := 26) (v := .bool true) rfl (by kernel_rfl) (fun _ _ _ h => h) (.inl ⟨by rfl, fun W' hS' => by go_simp⟩) hS ?_
    try simp only [z]
    refine tk (i := 27) (v := .pointer (some ⟨W5.heap.size, 8, none⟩)) rfl (by kernel_rfl) (fun _ _ _ h => h) (.inl ⟨by rfl, fun W' hS' => by go_simp⟩) hS ?_
    try simp only [z]
    refine tk (i := 28) (v := .pointer (some ⟨W5.heap.size, 11, none⟩)) rfl (by kernel_rfl) (fun _ _ _ h => h) (.inl ⟨by rfl, fun W' hS' => by go_simp⟩) hS ?_
    try simp only [z]
    refine tk (i := 29) (v := .int .i64 0) rfl (by kernel_rfl) (fun _ _ _ h => h) (.inl ⟨by rfl, fun W' hS' => by have hc := (hS'.cell (p := ⟨W5.heap.size, 11, none⟩) lP).trans A11.out; go_simp⟩) hS ?_
    try simp only [z]
    refine tk (i := 30) (v := .bool true) rfl (by kernel_rfl) (fun _ _ _ h => h) (.inl ⟨by rfl, fun W' hS' => by go_simp⟩) hS ?_
    try simp only [z]
    refine tk (i := 31) (v := .bool true) rfl (by kernel_rfl) (fun _ _ _ h => h) (.inl ⟨by rfl, fun W' hS' => by go_simp⟩) hS ?_
    try simp only [z]
    refine wpAnyH_ready (rs := [32]) (by kernel_rfl) (by simp) (AllReadyH.cons rfl (fun K hK => ?_) AllReadyH.nil)
    go_simp
    refine hK.out _ _ hS (fun _ => ?_)
    clear hK K
    try simp only [z]
    refine wpAnyH_done (by kernel_rfl) ?_ _
    try simp only [z]
    go_wp2
    go_ret
    exact ⟨rfl, hB0r.trans (hS.mono hB0r.size)⟩
 have KEY := Lib.hid key
 clear key hK1
 by_cases hsw : q0 > q1
 ·go_wp2
  exact KEY.out _ q1 q0 _ _ _ _ _ _ _ _ _ _ _ _ _ _ _ _ _ _ _ _ _ _ _ _ _ _ _ _ _ _ _ _ _ _ _ _ _ _ _ _ _ _ _ _ _ _ _ _ HSW.out.2 HSW.out.1 (by have := HQB.out; omega)
 ·go_wp2
  exact KEY.out _ q0 q1 _ _ _ _ _ _ _ _ _ _ _ _ _ _ _ _ _ _ _ _ _ _ _ _ _ _ _ _ _ _ _ _ _ _ _ _ _ _ _ _ _ _ _ _ _ _ _ _ (Below.refl _ _) Hb7.out (by have := HQB.out; omega)
end
end Go.Proofs.YtobnfmneeabomaaGreat
