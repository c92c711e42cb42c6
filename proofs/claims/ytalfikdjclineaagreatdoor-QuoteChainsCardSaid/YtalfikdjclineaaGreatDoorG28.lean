/- My texts RefQuo. -/
import Derived.Laws.AppendOwnNone
import Derived.Test.YtalfikdjclineaaGreatDoorG04
import Derived.Test.YtalfikdjclineaaGreatDoorG27
set_option linter.unusedVariables false
set_option linter.unusedSimpArgs false
set_option maxRecDepth 100000
set_option maxHeartbeats 8000000
namespace Go.Proofs.YtalfikdjclineaaGreatDoor
namespace R1
open Go.RowKit

def DivPost (A : Option Addr) (p : List Int) (n m : Nat) (a b : Int) (w : World) (e : Ending) (w' : World) : Prop :=
  Below w.heap.size w w' /\ ∃ (A1 : Option Addr) (n1 c1 : Nat) (Q : List Int) (A2 : Option Addr) (n2 c2 : Nat) (R : List Int), e = .returned (.tuple #[.slice A1 n1 c1, .slice A2 n2 c2]) /\ Q.length = n1 /\ R.length = n2 /\ n1 <= n /\ n2 <= m /\ n1 <= c1 /\ n2 <= c2 /\
    Big.Lim 10000 Q /\ Big.Lim 10000 R /\ Big.Norm R /\ a = b * Big.val 10000 Q + Big.val 10000 R /\ 0 <= Big.val 10000 R /\ Big.val 10000 R < b /\
    LimbsAt .i64 w' w'.heap.size A1 Q /\ LimbsAt .i64 w' w'.heap.size A2 R /\ (∀ b o, A1 = some ⟨b, o, none⟩ -> w.heap.size <= b) /\ ((A2 = A /\ R = p) ∨ ∀ b o, A2 = some ⟨b, o, none⟩ -> w.heap.size <= b)

theorem run_append_nothing {P : Program} {w : World} (base : Nat) (t ty e : TypeId) (i : TypeInfo) (size : Nat) (ht : P.underlying t = some (.slice e)) (hi : P.info? e = some i)
    (v : Value) (n c : Nat) (xs : List Value) (hown : w.ownsRow base e size v n xs) : (Builtin.append_ #[t, t] ty #[v, .slice none 0 c]).run P w = .ok v w := by
  rcases hown.2 with ⟨rfl, rfl⟩ | ⟨g, cap, cur, rfl, _, _, hnc, _⟩
  · simp [Builtin.append_, run_underlying ht, sizeOf, typeInfo, hi, Builtin.lenOf, Builtin.firstCells]
  · simp [Builtin.append_, run_underlying ht, sizeOf, typeInfo, hi, Builtin.lenOf, Builtin.firstCells, hnc, storeCells]
theorem wpList_append_limbs {P : Program} {w : World} {ops : Array Oper} {rest : List Oper} {o : Oper} {a : Act} {Q : Exit -> Act -> World -> Prop} (hgd : o.guard = none) (s x : Operand) (t : TypeId)
    (ho : o.op = .call { callee := .builtin .append, args := #[s, x], argTypes := #[t, t] })
    (base : Nat) (K : IntKind) (e : TypeId) (i : TypeInfo) (bytes : Nat) (ht : P.underlying t = some (.slice e)) (hi : P.info? e = some i) (hz : i.zero = some (.int K 0)) (hsize : i.size = 1) (hby : i.bytes = bytes)
    (v : Value) (n : Nat) (xs : List Value) (hs : a.eval s = v) (hown : w.ownsRow base e 1 v n xs) (B : Nat) (A : Option Addr) (m c : Nat) (l : List Int) (hx : a.eval x = .slice A m c) (hl : l.length = m) (hA : LimbsAt K w B A l)
    (h63 : n + m <= maxLen) (hbytes : (n + m) * bytes <= 140737488355328) (hbase : base <= w.heap.size)
    (h : ∀ v' w', w'.ownsRow base e 1 v' (n + m) (xs ++ l.map (Value.int K)) -> w.grownBy w' v.ownBlock -> wpList P ops Q rest (a.put o.dst v') w') : wpList P ops Q (o :: rest) a w := by
  subst hl
  rcases Nat.eq_zero_or_pos l.length with h0 | h0
  · have e0 : l = [] := List.length_eq_zero_iff.1 h0
    subst e0
    cases A with
    | none =>
      refine wpList_plain hgd fun K' hK => ?_
      have hrun := run_append_nothing (P := P) (w := w) base t o.type e i 1 ht hi v n c xs hown
      have hx' : a.eval x = .slice none 0 c := hx
      unfold Oper.wp
      simp [execOp, ho, resolve, invoke, builtin, hs, hx', hrun, Result.andThen]
      exact hK _ _ (h v w (by simpa using hown) (World.grownBy.refl w _))
    | some ad => exact wpList_append_own w hgd s x t ho base e i (.int K 0) 1 bytes ht hi hz hsize hby rfl (by decide) v n xs hs hown ad 0 c [] hx rfl (by simp) (by simp) h63 hbytes hbase fun v' w' h1 h2 _ => h v' w' (by simpa using h1) h2
  · obtain ⟨ad, rfl, hc⟩ := hA.cells h0
    exact wpList_append_own w hgd s x t ho base e i (.int K 0) 1 bytes ht hi hz hsize hby rfl (by decide) v n xs hs hown ad l.length c (l.map (Value.int K)) hx (by simp) hc (map_one l) h63 hbytes hbase fun v' w' h1 h2 _ => h v' w' h1 h2
theorem owns_one {w : World} {g base : Nat} {x : Int} (hg : w.heap[g]? = some (.cells #[.int .i64 x] 3 (0, 0))) (hb : base <= g) : w.ownsRow base 3 1 (.slice (some ⟨g, 0, none⟩) 1 1) 1 [.int .i64 x] :=
  ⟨rfl, .inr ⟨g, 1, _, rfl, hb, hg, Nat.le_refl _, by unfold maxLen; omega, rfl, rfl⟩⟩
theorem owns_zero {w : World} {g base : Nat} (hg : w.heap[g]? = some (.cells #[] 3 (0, 0))) (hb : base <= g) : w.ownsRow base 3 1 (.slice (some ⟨g, 0, none⟩) 0 0) 0 [] :=
  ⟨rfl, .inr ⟨g, 0, _, rfl, hb, hg, Nat.le_refl _, by unfold maxLen; omega, rfl, rfl⟩⟩
theorem limbs_one {w : World} {g B : Nat} {x : Int} (hg : w.heap[g]? = some (.cells #[.int .i64 x] 3 (0, 0))) (hB : g < B) : LimbsAt .i64 w B (some ⟨g, 0, none⟩) [x] :=
  Arr.limbs (e := 3) (F := [x]) hg hB
theorem norm_drop {l : List Int} (h : Big.Norm l) (k : Nat) : Big.Norm (l.drop k) := fun hn => by
  have hn' : l ≠ [] := by rintro rfl; simp at hn
  rw [List.getLast_drop]; exact h hn'
theorem digit_bd {b r x : Int} (hb : 0 < b) (h0 : 0 <= r) (h1 : r < b) (x0 : 0 <= x) (x1 : x < 10000) : 0 <= (x + 10000 * r) / b /\ (x + 10000 * r) / b <= 9999 /\ b * ((x + 10000 * r) / b) <= x + 10000 * r /\ x + 10000 * r < b * ((x + 10000 * r) / b + 1) := by
  have hn : 0 <= x + 10000 * r := by omega
  refine ⟨Int.ediv_nonneg hn (by omega), ?_, Int.mul_ediv_self_le (by omega), ?_⟩
  · have : (x + 10000 * r) / b < 10000 := Int.ediv_lt_of_lt_mul hb (by omega)
    omega
  · have := Int.lt_mul_ediv_self_add (x := x + 10000 * r) hb
    rw [Int.mul_add, Int.mul_one]; exact this
theorem digit_le {b X D mid : Int} (hb : 0 < b) (h1 : b * D <= X) (h2 : X < b * (D + 1)) : (mid <= D -> b * mid <= X) /\ (D < mid -> X < b * mid) := by
  constructor
  · intro h
    exact Int.le_trans (Int.mul_le_mul_of_nonneg_left h (by omega)) h1
  · intro h
    exact Int.lt_of_lt_of_le h2 (Int.mul_le_mul_of_nonneg_left (by omega) (by omega))
theorem quo_step {b V Qs R x D P P' : Int} (hP : P' = b * Qs + R) (hPx : P = x + 10000 * P') : P = b * (D + 10000 * Qs) + (x + 10000 * R - b * D) := by
  rw [hPx, hP, Int.mul_add, Int.mul_add, Int.mul_left_comm b 10000 Qs]; omega

theorem LimbsAt_from {K : IntKind} {w : World} {B n c f : Nat} {A : Option Addr} {l : List Int} (h : LimbsAt K w B A l) (hl : l.length = n) (hc : n <= c) : LimbsAt K w B (if c = f then A else A.map (·.add (f * 1))) (l.drop f) := by
  by_cases hf : n <= f
  · left; rw [List.drop_eq_nil_iff]; omega
  · rw [if_neg (by omega)]
    rcases h with h | ⟨b, o, rfl, hb, hcell⟩
    · left; rw [h]; simp
    · refine .inr ⟨b, o + f, by simp [Addr.add_mid], hb, fun k hk => ?_, hcell.2⟩
      rw [List.length_drop] at hk
      rw [Nat.add_assoc, hcell.1 (f + k) (by omega), List.getElem_drop]
theorem run_from {A : Option Addr} {n c f : Nat} (hf : f <= n) (wx : World) : (Instr.slice 45 (.slice A n c) (some (.int .i64 (f : Int))) none none).run Tryz.prog wx = .ok (.slice (if c = f then A else A.map (·.add (f * 1))) (n - f) (c - f)) wx := by
  have he : Tryz.prog.underlying 45 = some (.slice (Tryz.prog.elem 45)) := by kernel_rfl
  have hs : (sizeOf (Tryz.prog.elem 45)).run Tryz.prog wx = .ok 1 wx := by kernel_rfl
  rw [run_slice_l wx 45 A n c he .i64 (f : Int) (by omega) (by omega), hs]
  simp [Result.andThen, sliced]
section
variable (w : World)
theorem quo_any (A B : Option Addr) (n m c d : Nat) (p q : List Int) (hl : p.length = n) (hq : q.length = m) (hn : n <= 400000) (hm : m <= 400000) (hc : n <= c) (hm0 : 0 < m) (hL : Big.Lim 10000 p) (hQ : Big.Lim 10000 q) (hNp : Big.Norm p) (hNq : Big.Norm q)
    (hA : LimbsAt .i64 w w.heap.size A p) (hB : LimbsAt .i64 w w.heap.size B q) :
    Calls Tryz.prog 91 #[.slice A n c, .slice B m d] w (DivPost A p n m (Big.val 10000 p) (Big.val 10000 q) w) := by
  have hvp := Big.val_nonneg (B := 10000) (by omega) hL
  by_cases hlt : n < m
  · have hv := Big.longer_lt (B := 10000) (by omega) hL hQ hNq (by omega)
    have Hv := Lib.hid hv
    clear hv
    go_enter Tryz.func91, Tryz.ntmps91
    go_wp2
    go_ret2
    exact ⟨Below.refl _ _, none, 0, 0, [], A, n, c, p, rfl, rfl, hl, by omega, by omega, by omega, hc, Big.Lim.nil, hL, hNp, by simp [Big.val], hvp, Hv.out, .inl rfl, hA, fun b o e => (by cases e), .inl ⟨rfl, rfl⟩⟩
  · have hb0 : 0 < Big.val 10000 q := by
      have h1 := Big.norm_ge (B := 10000) (by omega) hQ hNq (by omega)
      have h2 := Big.pow_pos (B := 10000) (by omega) (q.length - 1)
      omega
    obtain ⟨f, hf⟩ : ∃ f : Nat, f = n - m + 1 := ⟨_, rfl⟩
    have hf0 : f <= n := by omega
    have hf1 : 1 <= f := by omega
    have hfm : n - f <= m := by omega
    have Hf : Hid ((n : Int) - (m : Int) + 1 = (f : Int)) := by show _ = _; omega
    have Hfm : Hid (p.length - f + 1 = q.length) := by show _ = _; omega
    have Hl := Lib.hid hl
    have Hq := Lib.hid hq
    obtain ⟨i0, hi, hz0, hz1, hz2⟩ := info_parts iinfo
    have hfc : f <= c := by omega
    have Hnp : f <= f := Nat.le_refl _
    have Hb2 : f <= 10000000 := by omega
    have HL := Lib.hid hL
    have HQ := Lib.hid hQ
    have HNp := Lib.hid hNp
    have HNq := Lib.hid hNq
    have Hb0 := Lib.hid hb0
    clear hf hl hq hL hQ hNp hNq hb0
    go_enter Tryz.func91, Tryz.ntmps91
    go_upto_region 4 with (fail)
    rw [Hf.out]
    go_upto_region 5 with (refine wpList_make_arr rfl _ _ 45 rfl .i64 3 i0 8 Tryz.underlying45 hi hz0 hz1 hz2 _ _ _ _ f f rfl rfl rfl rfl Hnp (by decide) Hb2 ?_; intro w1 hw1)
    have hB1 : Below w.heap.size w w1 := by rw [hw1.out]; exact (Below.refl _ _).alloc (Nat.le_refl _) _
    have hArr : Arr .i64 3 w1 w.heap.size (List.replicate f 0) := by
      unfold Arr; rw [hw1.out]; exact heap_alloc_new w _
    have hz1' : w1.heap.size = w.heap.size + 1 := by rw [hw1.out]; simp
    clear hw1
    have hrun := fun wx => run_from (A := A) (n := n) (c := c) (f := f) hf0 wx
    obtain ⟨A2, hA2⟩ : ∃ A2 : Option Addr, A2 = (if c = f then A else A.map (·.add (f * 1))) := ⟨_, rfl⟩
    rw [<- hA2] at hrun
    have HA2 : Hid (LimbsAt .i64 (w1.alloc (.cells #[] 3)) w.heap.size A2 (p.drop f)) := by
      show LimbsAt _ _ _ _ _
      rw [hA2]
      exact ((LimbsAt_from (f := f) hA Hl.out hc).below hB1 (Nat.le_refl _)).below ((Below.refl w1.heap.size w1).alloc (Nat.le_refl _) _) (by omega)
    have Hdl : Hid ((p.drop f).length = n - f) := by show _ = _; rw [List.length_drop, Hl.out]
    have Hz1 := Lib.hid hz1'
    have hown0 := Lib.hid (owns_zero (base := w.heap.size + 1) (heap_alloc_new w1 (.cells #[] 3)) (by omega))
    clear hA2 hz1'
    go_upto_region 6 with (at_builtin; refine wpList_append_limbs rfl _ _ 45 rfl (w.heap.size + 1) .i64 3 i0 8 Tryz.underlying45 hi hz0 hz1 hz2 _ 0 [] rfl hown0.out w.heap.size A2 (n - f) (c - f) (p.drop f) rfl Hdl.out HA2.out (by unfold maxLen; omega) (by omega) (by have := Hz1.out; simp; omega) ?_; intro v1 w2 hown1 hgr1)
    have hB2 : Below w.heap.size w w2 := (hB1.alloc hB1.size (.cells #[] 3)).grown hgr1 (by have := Hz1.out; simp; omega) (fun q hq => by have := own_base hown0.out q hq; omega)
    have hArr2 : Arr .i64 3 w2 w.heap.size (List.replicate f 0) := by
      refine (hgr1.block w.heap.size (by have := Hz1.out; simp; omega) (fun e => by have := own_base hown0.out w.heap.size e.symm; omega)).trans ?_
      exact hArr.alloc _
    simp only [Nat.zero_add, List.nil_append] at hown1
    obtain ⟨Ar, cr, rfl, hcr, hlr⟩ := limbs_own hown1 Hdl.out.symm
    have hfr : ∀ b o, Ar = some ⟨b, o, none⟩ -> w.heap.size < b := fun b o e => own_base hown1 b (by rw [e]; rfl)
    have hvr : Big.val 10000 (p.drop f) < Big.val 10000 q := by
      have h1 := Big.val_lt (B := 10000) (by omega) (HL.out.drop f)
      have h2 := Big.norm_ge (B := 10000) (by omega) HQ.out HNq.out (by have := Hq.out; omega)
      have h3 : (p.drop f).length = q.length - 1 := by have := Hfm.out; rw [List.length_drop]; omega
      rw [h3] at h1; omega
    have Hvr := Lib.hid hvr
    have Hlr := Lib.hid hlr
    have Hfr := Lib.hid hfr
    have HA3 := Lib.hid hArr2
    clear hrun HA2 hown0 hown1 hgr1 hArr hArr2 hvr hlr hfr hB1
    go_wp2
    go_loopw [8, 9] (fun vr ix wr => ∃ (k : Nat) (Qs R : List Int) (A' : Option Addr) (n' c' : Nat), k <= f /\ ix = .int .i64 ((k : Int) - 1) /\ vr = .slice A' n' c' /\ R.length = n' /\ n' <= m /\ n' <= c' /\ Big.Lim 10000 R /\ Big.Norm R /\ Big.val 10000 R < Big.val 10000 q /\
      LimbsAt .i64 wr wr.heap.size A' R /\ (∀ b o, A' = some ⟨b, o, none⟩ -> w.heap.size < b) /\ Big.Lim 10000 Qs /\ Qs.length + k = f /\ Arr .i64 3 wr w.heap.size (List.replicate k 0 ++ Qs) /\
      Big.val 10000 (p.drop k) = Big.val 10000 q * Big.val 10000 Qs + Big.val 10000 R /\ Below w.heap.size w wr) (fun _ ix _ => (intOf ix + 1).toNat)
    case atStart =>
      exact ⟨f, [], p.drop f, Ar, n - f, cr, Nat.le_refl _, rfl, rfl, Hdl.out, hfm, hcr, HL.out.drop f, norm_drop HNp.out f, Hvr.out, Hlr.out, Hfr.out, Big.Lim.nil, by simp, by simpa using HA3.out, by simp [Big.val], hB2⟩
    case round =>
      obtain ⟨k, Qs, R, A', n', c', hk, rfl, rfl, hRl, hn', hc', hRL, hRN, hRv, hRA, hRf, hQL, hQl, hQA, hV, hb⟩ := hrel
      have HRl := Lib.hid hRl
      have HRL := Lib.hid hRL
      have HRN := Lib.hid hRN
      have HRv := Lib.hid hRv
      have HRA := Lib.hid hRA
      have HRf := Lib.hid hRf
      have HQL := Lib.hid hQL
      have HQl := Lib.hid hQl
      have HQA := Lib.hid hQA
      have HV := Lib.hid hV
      have hgr : w.heap.size < wr.heap.size := hQA.lt
      clear hRl hRL hRN hRv hRA hRf hQL hQl hQA hV
      match k, hk with
      | 0, _ =>
        have hQ0 := HQA.out
        rw [List.replicate_zero, List.nil_append] at hQ0
        have hQf : Hid (Qs.length = f) := by show _ = _; have := HQl.out; omega
        have HLq := Lib.hid (hQ0.limbs hgr)
        have HV0 : Hid (Big.val 10000 p = Big.val 10000 q * Big.val 10000 Qs + Big.val 10000 R) := by show _ = _; have := HV.out; rwa [List.drop_zero] at this
        obtain ⟨t1, t2, t3, t4⟩ := Big.trim_spec 10000 Qs
        have T1 := Lib.hid t1
        have T4 := Lib.hid t4
        have hR0 := Big.val_nonneg (B := 10000) (by omega) HRL.out
        clear hQ0 t1 t4
        go_wp2_with (fail)
        refine (trim_any wr (some ⟨w.heap.size, 0, none⟩) f f Qs hQf.out (by omega) (Nat.le_refl _) HLq.out).mono ?_
        rintro e w5 ⟨rfl, rfl⟩
        go_wp2
        go_ret2
        have hqf := hQf.out
        exact ⟨hb, _, _, f, Big.trim Qs, A', n', c', R, rfl, rfl, HRl.out, by omega, hn', by omega, hc', Big.trim_lim HQL.out, HRL.out, HRN.out, by rw [T1.out]; exact HV0.out, hR0, HRv.out, by rw [T4.out]; exact HLq.out.take _, HRA.out, fun b o e => (by cases e; exact Nat.le_refl _), .inr fun b o e => Nat.le_of_lt (HRf.out b o e)⟩
      | k + 1, hk =>
        have hkp : k < p.length := by have := Hl.out; omega
        obtain ⟨b1, o1, rfl, hb1, x1⟩ := (hA.below hb (Nat.le_refl _)).look hkp
        rw [show ((k + 1 : Nat) : Int) - 1 = (k : Int) by omega]
        have hx0 := (HL.out.get k hkp).1
        have hx1 := (HL.out.get k hkp).2
        have hbw1 : b1 < wr.heap.size := by omega
        have hkn : (k : Int) < (n : Int) := by have := Hl.out; omega
        have hk0 : (0 : Int) <= (k : Int) := by omega
        have hown := Lib.hid (owns_one (base := wr.heap.size) (heap_alloc_new wr (.cells #[.int .i64 p[k]] 3)) (Nat.le_refl _))
        have HRA1 := Lib.hid (HRA.out.below ((Below.refl wr.heap.size wr).alloc (Nat.le_refl _) (.cells #[.int .i64 p[k]] 3)) (Nat.le_refl _))
        go_wp2_with (at_builtin; refine wpList_append_limbs rfl _ _ 45 rfl wr.heap.size .i64 3 i0 8 Tryz.underlying45 hi hz0 hz1 hz2 _ 1 [.int .i64 p[k]] rfl hown.out wr.heap.size A' n' c' R rfl HRl.out HRA1.out (by unfold maxLen; omega) (by omega) (by simp) ?_; intro v3 w3 hown3 hgr3)
        have hb3 := (hb.alloc hb.size (.cells #[.int .i64 p[k]] 3)).grown hgr3 (by simp; omega) (fun q hq => by have := own_base hown.out q hq; omega)
        have hQA3 : Arr .i64 3 w3 w.heap.size (List.replicate (k + 1) 0 ++ Qs) := by
          refine (hgr3.block w.heap.size (by simp; omega) (fun e => by have := own_base hown.out w.heap.size e.symm; omega)).trans ?_
          exact HQA.out.alloc _
        have hown3' : w3.ownsRow wr.heap.size 3 1 v3 (1 + n') ((p[k] :: R).map (Value.int .i64)) := hown3
        obtain ⟨A3, c3, rfl, hc3, hl3⟩ := limbs_own hown3' (by have := HRl.out; simp; omega)
        have hf3 : ∀ b o, A3 = some ⟨b, o, none⟩ -> w.heap.size < b := fun b o e => by have := own_base hown3 b (by rw [e]; rfl); omega
        obtain ⟨t1, t2, t3, t4⟩ := Big.trim_spec 10000 (p[k] :: R)
        have hL3 : Big.Lim 10000 (p[k] :: R) := Big.Lim.cons.2 ⟨⟨hx0, hx1⟩, HRL.out⟩
        have Hl3 : Hid ((p[k] :: R).length = 1 + n') := by show _ = _; have := HRl.out; simp; omega
        have hHl3 := Lib.hid hl3
        clear hown3 hown3' hgr3 hl3 HRA1 hown x1
        go_wp2_with (fail)
        refine (trim_any w3 A3 (1 + n') c3 (p[k] :: R) Hl3.out (by omega) hc3 hHl3.out).mono ?_
        rintro e w4 ⟨rfl, rfl⟩
        obtain ⟨T, hT⟩ : ∃ T, T = Big.trim (p[k] :: R) := ⟨_, rfl⟩
        have hTA : LimbsAt .i64 w3 w3.heap.size A3 T := by rw [hT, t4]; exact hHl3.out.take _
        have hTL : Big.Lim 10000 T := by rw [hT]; exact Big.trim_lim hL3
        have hTv : Big.val 10000 T = p[k] + 10000 * Big.val 10000 R := by rw [hT, t1]; rfl
        rw [<- hT] at t2 t3 ⊢
        have hTn : T.length <= m + 1 := by have := Hl3.out; omega
        have hTc : T.length <= c3 := by have := Hl3.out; omega
        have hR0 := Big.val_nonneg (B := 10000) (by omega) HRL.out
        obtain ⟨hD0, hD9, hD1, hD2⟩ := digit_bd (b := Big.val 10000 q) (r := Big.val 10000 R) (x := p[k]) Hb0.out hR0 HRv.out hx0 hx1
        obtain ⟨D, hD⟩ : ∃ D, D = (p[k] + 10000 * Big.val 10000 R) / Big.val 10000 q := ⟨_, rfl⟩
        rw [<- hD] at hD0 hD9 hD1 hD2
        rw [<- hTv] at hD1 hD2
        have HTv := Lib.hid hTv
        have HTA := Lib.hid hTA
        have HTL := Lib.hid hTL
        have HTN := Lib.hid t2
        have HD1 := Lib.hid hD1
        have HD2 := Lib.hid hD2
        have HQA3 := Lib.hid hQA3
        have Hf3 := Lib.hid hf3
        clear hT hD t1 t2 t3 t4 hTA hTL hTv hD1 hD2 hQA3 hf3 hL3 Hl3 hHl3 HQA HRA
        go_wp2
        obtain ⟨wo, rfl⟩ : ∃ wo : World, wo = w3 := ⟨_, rfl⟩
        have hwo := hb3.size
        go_loopw [10, 11] (fun lo hi wr' => ∃ l h : Int, lo = .int .i64 l /\ hi = .int .i64 h /\ 0 <= l /\ l <= D /\ D <= h /\ h <= 9999 /\ Below wo.heap.size wo wr') (fun lo hi _ => (intOf hi - intOf lo).toNat)
        case atStart => exact ⟨0, 9999, rfl, rfl, by omega, hD0, hD9, by omega, Below.refl _ _⟩
        case round =>
          obtain ⟨l, h, rfl, rfl, hl0, hlD, hDh, hh9, hbo⟩ := hrel
          have hwr := hbo.size
          by_cases hlh : l < h
          · have hm0 : 0 <= (l + h + 1) / 2 := by omega
            have hm1 : (l + h + 1) / 2 < 10000 := by omega
            have hBq := Lib.hid ((((hB.below hb3 (Nat.le_refl _)).below hbo hwo).below ((Below.refl wr.heap.size wr).alloc (Nat.le_refl _) (.cells #[.int .i64 ((l + h + 1) / 2)] 3)) (by omega)).more (C := (wr.alloc (.cells #[.int .i64 ((l + h + 1) / 2)] 3)).heap.size) (by simp; omega))
            have hBm := Lib.hid (limbs_one (B := (wr.alloc (.cells #[.int .i64 ((l + h + 1) / 2)] 3)).heap.size) (heap_alloc_new wr (.cells #[.int .i64 ((l + h + 1) / 2)] 3)) (by simp))
            have HLm : Hid (Big.Lim 10000 [(l + h + 1) / 2]) := by show Big.Lim _ _; exact Big.Lim.cons.2 ⟨⟨hm0, hm1⟩, Big.Lim.nil⟩
            have HBa := Lib.hid ((Below.refl wr.heap.size wr).alloc (Nat.le_refl _) (.cells #[.int .i64 ((l + h + 1) / 2)] 3))
            go_wp2_with (fail)
            refine (times_n (wr.alloc (.cells #[.int .i64 ((l + h + 1) / 2)] 3)) B (some ⟨wr.heap.size, 0, none⟩) m 1 d 1 q [(l + h + 1) / 2] Hq.out rfl (by omega) (by omega) HQ.out HLm.out hBq.out hBm.out).mono ?_
            rintro e w5 ⟨hB5, A5, n5, c5, l5, rfl, hl5, hn5, hc5, hL5, hN5, hv5, hA5, hf5⟩
            rw [Big.val_one] at hv5
            have hb5 := HBa.out.trans (hB5.mono (by simp))
            have hq5 := hb5.size
            have hbo5 := hbo.trans (hb5.mono hwr)
            have HT5 := Lib.hid ((HTA.out.below hbo5 (Nat.le_refl _)).more hbo5.size)
            obtain ⟨z, hz⟩ : ∃ z, cm (Big.val 10000 l5) (Big.val 10000 T) = z := ⟨_, rfl⟩
            have Hz := Lib.hid hz
            have Hv5 := Lib.hid hv5
            have Hl5 := Lib.hid hl5
            by_cases hmd : (l + h + 1) / 2 <= D
            · have hzl : z <= 0 := by
                have := (digit_le Hb0.out HD1.out HD2.out).1 hmd
                rw [<- hz, hv5]; unfold cm; split
                · omega
                · rw [if_neg (by omega)]; omega
              clear hz hv5 hl5
              go_wp2_with (fail)
              refine (compare_any w5 A5 A3 n5 T.length c5 c3 l5 T Hl5.out rfl (by omega) (by omega) hL5 HTL.out hN5 HTN.out hA5 HT5.out).mono ?_
              rw [Hz.out]
              rintro e w6 ⟨rfl, hB6⟩
              go_wp2
              go_roundw
              case rel => exact ⟨(l + h + 1) / 2, h, rfl, rfl, by omega, hmd, hDh, hh9, hbo5.trans (hB6.mono hbo5.size)⟩
              case measure => simp [intOf]; omega
            · have hzl : 0 < z := by
                have := (digit_le Hb0.out HD1.out HD2.out).2 (by omega : D < (l + h + 1) / 2)
                rw [<- hz, hv5]; unfold cm; rw [if_neg (by omega), if_pos (by omega)]; omega
              clear hz hv5 hl5
              go_wp2_with (fail)
              refine (compare_any w5 A5 A3 n5 T.length c5 c3 l5 T Hl5.out rfl (by omega) (by omega) hL5 HTL.out hN5 HTN.out hA5 HT5.out).mono ?_
              rw [Hz.out]
              rintro e w6 ⟨rfl, hB6⟩
              go_wp2
              go_roundw
              case rel => exact ⟨l, (l + h + 1) / 2 - 1, rfl, rfl, by omega, hlD, by omega, by omega, hbo5.trans (hB6.mono hbo5.size)⟩
              case measure => simp [intOf]; omega
          · obtain rfl : l = h := by omega
            obtain rfl : l = D := by omega
            have hAr := (HQA3.out.below hbo HQA3.out.lt)
            have hkf : k < (List.replicate (k + 1) (0 : Int) ++ Qs).length := by simp; omega
            have hcell := hAr.cell hkf
            have hfz := hAr.free k
            have hbh := hb3.trans (hbo.mono hb3.size)
            have hgo : w.heap.size < wr.heap.size := hAr.lt
            have HAr := Lib.hid hAr
            have hset : Hid ((List.replicate (k + 1) (0 : Int) ++ Qs).set k l = List.replicate k 0 ++ l :: Qs) := by
              show _ = _
              rw [List.replicate_succ', List.append_assoc, List.set_append_right _ _ (by simp)]; simp
            have hQAn := HAr.out.set k l
            rw [hset.out] at hQAn
            obtain ⟨W7, hW7⟩ : ∃ W7, W7 = wr.setCell ⟨w.heap.size, k, none⟩ (.int .i64 l) := ⟨_, rfl⟩
            rw [<- hW7] at hQAn
            have hb7 : Below w.heap.size w W7 := by rw [hW7]; exact hbh.setCell (Nat.le_refl _) _
            have hT7 : LimbsAt .i64 W7 W7.heap.size A3 T := by
              rw [hW7]
              exact ((HTA.out.below hbo (Nat.le_refl _)).other (fun b o e => Below.heap_setCell _ _ _ b (fun e' => by have := Hf3.out b o e; simp at e'; omega))).more (by simp; omega)
            have hkf' : (k : Int) < (f : Int) := by omega
            have HW7 := Lib.hid hW7
            have HQAn := Lib.hid hQAn
            have HT7 := Lib.hid hT7
            clear hW7 hQAn hT7 hAr hset
            go_upto_region 17 with (fail)
            rw [<- HW7.out]
            have HB8 := Lib.hid ((Below.refl W7.heap.size W7).alloc (Nat.le_refl _) (.cells #[.int .i64 l] 3))
            have hM8 := limbs_one (B := (W7.alloc (.cells #[.int .i64 l] 3)).heap.size) (heap_alloc_new W7 (.cells #[.int .i64 l] 3)) (by simp)
            obtain ⟨m1, m2, m3, m4⟩ := Big.trim_spec 10000 [l]
            have HM8 := Lib.hid hM8
            have hML : Big.Lim 10000 (Big.trim [l]) := Big.trim_lim (Big.Lim.cons.2 ⟨⟨by omega, by omega⟩, Big.Lim.nil⟩)
            rw [Big.val_one] at m1
            obtain ⟨M, hM⟩ : ∃ M, M = Big.trim [l] := ⟨_, rfl⟩
            have hMA : LimbsAt .i64 (W7.alloc (.cells #[.int .i64 l] 3)) (W7.alloc (.cells #[.int .i64 l] 3)).heap.size (some ⟨W7.heap.size, 0, none⟩) M := by rw [hM, m4]; exact hM8.take _
            rw [<- hM] at m1 m3 hML
            have hM1 : M.length <= 1 := by simpa using m3
            have HM := Lib.hid hM
            have HMA := Lib.hid hMA
            have HML := Lib.hid hML
            have HMv := Lib.hid m1
            have hT8 := Lib.hid ((HT7.out.below HB8.out (Nat.le_refl _)).more HB8.out.size)
            have hB8 := Lib.hid ((hB.below (hb7.trans (HB8.out.mono hb7.size)) (Nat.le_refl _)).more (hb7.trans (HB8.out.mono hb7.size)).size)
            clear hM m1 m2 m3 m4 hMA hML hM8
            go_wp2_with (fail)
            refine (trim_any (W7.alloc (.cells #[.int .i64 l] 3)) (some ⟨W7.heap.size, 0, none⟩) 1 1 [l] rfl (by omega) (Nat.le_refl _) HM8.out).mono ?_
            rintro e w8 ⟨rfl, rfl⟩
            rw [<- HM.out]
            go_wp2_with (fail)
            refine (times_n (W7.alloc (.cells #[.int .i64 l] 3)) B (some ⟨W7.heap.size, 0, none⟩) m M.length d 1 q M Hq.out rfl (by omega) (by omega) HQ.out HML.out hB8.out HMA.out).mono ?_
            rintro e w9 ⟨hB9, A9, n9, c9, l9, rfl, hl9, hn9, hc9, hL9, hN9, hv9, hA9, hf9⟩
            rw [HMv.out] at hv9
            have hge : n9 <= T.length := by
              rcases Nat.lt_or_ge T.length n9 with h | h
              · have h1 := Big.longer_lt (B := 10000) (by omega) HTL.out hL9 hN9 (by omega)
                have h2 := HD1.out
                omega
              · exact h
            have Hle : Hid (Big.val 10000 l9 <= Big.val 10000 T) := by show _ <= _; rw [hv9]; exact HD1.out
            have hT9 := Lib.hid (hT8.out.at_ hB9 (Nat.le_refl _))
            have hbw9 := hb7.trans ((HB8.out.trans (hB9.mono (by simp))).mono hb7.size)
            have Hv9 := Lib.hid hv9
            have Hl9 := Lib.hid hl9
            clear hv9 hl9
            go_wp2_with (fail)
            refine (minus_n w9 A3 A9 T.length n9 c3 c9 T l9 rfl Hl9.out hge (by omega) (by omega) HTL.out hL9 Hle.out hT9.out hA9).mono ?_
            rintro e w10 ⟨hB10, A10, n10, c10, l10, rfl, hl10, hn10, hc10, hL10, hN10, hv10, hA10, hf10⟩
            rw [Hv9.out] at hv10
            have hb10 := hbw9.trans (hB10.mono hbw9.size)
            have hlt10 : Big.val 10000 l10 < Big.val 10000 q := by
              have := HD2.out
              rw [Int.mul_add, Int.mul_one] at this
              omega
            have hn10m : n10 <= m := by
              have h1 := Big.val_lt (B := 10000) (by omega) HQ.out
              rw [Hq.out] at h1
              have := Big.length_le (B := 10000) (by omega) hL10 hN10 m (by omega)
              omega
            have hArr10 : Arr .i64 3 w10 w.heap.size (List.replicate k 0 ++ l :: Qs) :=
              ((HQAn.out.alloc _).below hB9 (by have := HQAn.out.lt; simp; omega)).below hB10 (by have := HQAn.out.lt; have := hB9.size; simp at this; omega)
            have hV10 : Big.val 10000 (p.drop k) = Big.val 10000 q * Big.val 10000 (l :: Qs) + Big.val 10000 l10 := by
              rw [hv10, HTv.out, Big.val_cons]
              refine quo_step (V := 0) HV.out ?_
              rw [List.drop_eq_getElem_cons hkp, Big.val_cons]
            have Hl10 := Lib.hid hl10
            have Hlt10 := Lib.hid hlt10
            have HV10 := Lib.hid hV10
            have hqb := hB9.size
            have HA10 := Lib.hid hArr10
            clear hv10 hl10 hlt10 hV10 hArr10
            go_wp2
            go_roundw
            case rel =>
              exact ⟨k, l :: Qs, l10, A10, n10, c10, by omega, by go_num, rfl, Hl10.out, hn10m, hc10, hL10, hN10, Hlt10.out, hA10, fun b o e => by have := hf10 b o e; have := hbw9.size; have := HQAn.out.lt; simp at hqb; omega, Big.Lim.cons.2 ⟨⟨by omega, by omega⟩, HQL.out⟩, by have := HQl.out; simp; omega, HA10.out, HV10.out, hb10⟩
            case measure => simp [intOf]
end
end R1
end Go.Proofs.YtalfikdjclineaaGreatDoor
