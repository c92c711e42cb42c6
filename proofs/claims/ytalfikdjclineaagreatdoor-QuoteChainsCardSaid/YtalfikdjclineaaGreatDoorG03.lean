/- My texts IntMul, Store. -/
import Derived.WalkKit
import Derived.Laws.Tables
import Derived.Test.YtalfikdjclineaaGreatDoorG02
set_option linter.unusedVariables false
set_option linter.unusedSimpArgs false
set_option maxRecDepth 100000
set_option maxHeartbeats 8000000
namespace Go.Proofs.YtalfikdjclineaaGreatDoor
open Go.RowKit

theorem val_set (B : Int) : ∀ (F : List Int) (t : Nat) (x : Int) (h : t < F.length), Big.val B (F.set t x) = Big.val B F + B ^ t * (x - F[t])
  | a :: F, 0, x, _ => by simp [Big.val]; omega
  | a :: F, t + 1, x, h => by
    have ih := val_set B F t x (by simpa using h)
    rw [List.set_cons_succ, Big.val_cons, ih, Big.val_cons, List.getElem_cons_succ, Int.pow_succ, Int.mul_add, Int.mul_comm (B ^ t) B, Int.mul_assoc]
    omega
theorem lim_set {B : Int} {F : List Int} (h : Big.Lim B F) {t : Nat} {x : Int} (h0 : 0 <= x) (h1 : x < B) : Big.Lim B (F.set t x) := by
  intro a ha
  rcases List.mem_or_eq_of_mem_set ha with ha | rfl
  · exact h a ha
  · exact ⟨h0, h1⟩
theorem mul_step {B : Int} {F : List Int} {t : Nat} {V x y cy s : Int} {W : Int} (ht : t < F.length) (h : Big.val B F + B ^ t * cy = V + W) (hs : s = x * y + F[t] + cy) :
    Big.val B (F.set t (s % B)) + B ^ (t + 1) * (s / B) = V + (W + B ^ t * (x * y)) := by
  rw [val_set B F t _ ht, Int.pow_succ, Int.mul_assoc]
  have h1 : B ^ t * (s % B) + B ^ t * (B * (s / B)) = B ^ t * s := by rw [<- Int.mul_add, Int.emod_add_mul_ediv]
  have h2 : B ^ t * s = B ^ t * (x * y) + B ^ t * F[t] + B ^ t * cy := by rw [hs, Int.mul_add, Int.mul_add]
  have h3 : B ^ t * (s % B - F[t]) = B ^ t * (s % B) - B ^ t * F[t] := Int.mul_sub _ _ _
  omega

theorem mul_w (B x v y : Int) (i j : Nat) : B ^ i * (x * (v + B ^ j * y)) = B ^ i * (x * v) + B ^ (i + j) * (x * y) := by
  rw [Int.pow_add, Int.mul_add, Int.mul_add, Int.mul_left_comm x (B ^ j) y, Int.mul_assoc]

def TimesPost (k : Nat) (V : Int) (w : World) (e : Ending) (w' : World) : Prop :=
  Below w.heap.size w w' /\ ∃ F : List Int, e = .returned (.slice (some ⟨w.heap.size, 0, none⟩) k k) /\ F.length = k /\ Big.Lim 1000000000 F /\ Big.val 1000000000 F = V /\ Arr .u32 94 w' w.heap.size F
section
variable (w : World)
theorem times_arr (A B : Option Addr) (n m c d : Nat) (p q : List Int) (hl : p.length = n) (hq : q.length = m) (hn : n <= 1000000) (hm : m <= 1000000) (hL : Big.Lim 1000000000 p) (hQ : Big.Lim 1000000000 q)
    (hA : LimbsAt .u32 w w.heap.size A p) (hB : LimbsAt .u32 w w.heap.size B q) :
    Calls Tryz.prog 52 #[.slice A n c, .slice B m d] w (TimesPost (n + m) (Big.val 1000000000 p * Big.val 1000000000 q) w) := by
  subst hl hq
  obtain ⟨i0, hi, hz0, hz1, hz2⟩ := info_parts uinfo
  have Hn1 : Hid (((p.length : Int) + (q.length : Int)) = ((p.length + q.length : Nat) : Int)) := by show _ = _; omega
  have Hnp : p.length + q.length <= p.length + q.length := Nat.le_refl _
  have Hb2 : p.length + q.length <= 10000000 := by omega
  go_enter Tryz.func52, Tryz.ntmps52
  go_upto_region 2 with (refine wpList_make_arr rfl _ _ 37 rfl .u32 94 i0 4 Tryz.underlying37 hi hz0 hz1 hz2 _ _ _ _ (p.length + q.length) (p.length + q.length) rfl rfl Hn1.out Hn1.out Hnp (by decide) Hb2 ?_; intro w1 hw1)
  have hB1 : Below w.heap.size w w1 := by rw [hw1.out]; exact (Below.refl _ _).alloc (Nat.le_refl _) _
  have hArr : Arr .u32 94 w1 w.heap.size (List.replicate (p.length + q.length) 0) := by
    unfold Arr; rw [hw1.out]; exact heap_alloc_new w _
  have HL := Lib.hid hL
  have HQ := Lib.hid hQ
  clear hw1 hL hQ Hn1
  go_wp2
  go_loopw [22] (fun ix wr => ∃ (i : Nat) (F : List Int), i <= p.length /\ ix = .int .i64 i /\ F.length = p.length + q.length /\ Big.Lim 1000000000 F /\ Big.val 1000000000 F = Big.val 1000000000 (p.take i) * Big.val 1000000000 q /\
    (∀ t (h : t < F.length), i + q.length <= t -> F[t] = 0) /\ Arr .u32 94 wr w.heap.size F /\ Below w.heap.size w wr) (fun ix _ => p.length - (intOf ix).toNat)
  case atStart => exact ⟨0, _, Nat.zero_le _, rfl, by simp, Big.Lim.zeros (by omega) _, by simp [Big.val_zeros, Big.val], fun t h _ => by simp, hArr, hB1⟩
  case round =>
    obtain ⟨i, F, hi', rfl, hFl, hFL, hv, hz, ha, hb⟩ := hrel
    have HFl := Lib.hid hFl
    have HFL := Lib.hid hFL
    have Hv := Lib.hid hv
    have Hz := Lib.hid hz
    have Ha := Lib.hid ha
    have hgr : w.heap.size < wr.heap.size := ha.lt
    clear hFl hFL hv hz ha hArr
    by_cases hlt : i < p.length
    · obtain ⟨b1, o1, rfl, hb1, hx⟩ := (hA.below hb (Nat.le_refl _)).look hlt
      have hxl := HL.out.get i hlt
      have hx0 := hxl.1
      have hx1 := hxl.2
      have hbwr : b1 < wr.heap.size := by omega
      clear hxl
      obtain ⟨wo, rfl⟩ : ∃ wo : World, wo = wr := ⟨_, rfl⟩
      have hin : i + q.length < p.length + q.length := by omega
      go_wp2
      go_loopw [8, 29] (fun cr ij wr => ∃ (j : Nat) (G : List Int) (cy : Int), j <= q.length /\ ij = .int .i64 j /\ cr = .int .u64 cy /\ 0 <= cy /\ cy < 1000000000 /\ G.length = p.length + q.length /\ Big.Lim 1000000000 G /\
        Big.val 1000000000 G + 1000000000 ^ (i + j) * cy = Big.val 1000000000 (p.take i) * Big.val 1000000000 q + 1000000000 ^ i * (p[i] * Big.val 1000000000 (q.take j)) /\
        (∀ t (h : t < G.length), i + q.length <= t -> G[t] = 0) /\ Arr .u32 94 wr w.heap.size G /\ Below w.heap.size w wr) (fun _ ij _ => q.length - (intOf ij).toNat)
      case atStart => exact ⟨0, F, 0, Nat.zero_le _, rfl, rfl, by omega, by omega, HFl.out, HFL.out, by simp [Big.val, Hv.out], Hz.out, Ha.out, hb⟩
      case round =>
        obtain ⟨j, G, cy, hj, rfl, rfl, hc0, hc1, hGl, hGL, hGv, hGz, hGa, hGb⟩ := hrel
        have HGl := Lib.hid hGl
        have HGL := Lib.hid hGL
        have HGv := Lib.hid hGv
        have HGz := Lib.hid hGz
        have HGa := Lib.hid hGa
        have hgr2 : w.heap.size < wr.heap.size := hGa.lt
        clear hGl hGL hGv hGz hGa hgr
        by_cases hjm : j < q.length
        · obtain ⟨b2, o2, rfl, hb2, hy⟩ := (hB.below hGb (Nat.le_refl _)).look hjm
          have hyl := HQ.out.get j hjm
          have hy0 := hyl.1
          have hy1 := hyl.2
          have hb2w : b2 < wr.heap.size := by omega
          have hGt : i + j < G.length := by have := HGl.out; omega
          have hcell := HGa.out.cell hGt
          have hfz := HGa.out.free (i + j)
          have hgl := HGL.out.get (i + j) hGt
          have hg0 := hgl.1
          have hg1 := hgl.2
          have hxy0 : 0 <= p[i] * q[j] := Int.mul_nonneg hx0 hy0
          have hxy1 : p[i] * q[j] <= 999999999 * 999999999 := Int.mul_le_mul (by omega) (by omega) hy0 (by omega)
          have hij : i + j < p.length + q.length := by omega
          clear hyl hgl
          go_wp2
          go_roundw
          case rel =>
            refine ⟨j + 1, G.set (i + j) ((p[i] * q[j] + G[i + j] + cy) % 1000000000), (p[i] * q[j] + G[i + j] + cy) / 1000000000, by omega, by go_num, rfl, by omega, by omega, by rw [List.length_set]; exact HGl.out, lim_set HGL.out (by omega) (by omega), ?_, ?_, HGa.out.set (i + j) _, hGb.setCell (Nat.le_refl _) _⟩
            · have h1 := mul_step (x := p[i]) (y := q[j]) hGt HGv.out rfl
              rw [Big.val_take_succ _ _ _ hjm, mul_w]; exact h1
            · intro t ht htl
              rw [List.getElem_set_ne (by omega)]; exact HGz.out t (by simpa using ht) htl
          case measure => simp [intOf]; omega
        · obtain rfl : j = q.length := by omega
          have hV : Hid (Big.val 1000000000 G + 1000000000 ^ (i + q.length) * cy = Big.val 1000000000 (p.take (i + 1)) * Big.val 1000000000 q) := by
            show _ = _
            rw [HGv.out, List.take_length, Big.val_take_succ _ _ _ hlt, Int.add_mul, Int.mul_assoc]
          clear HGv
          go_wp2
          obtain ⟨wi, rfl⟩ : ∃ wi : World, wi = wr := ⟨_, rfl⟩
          go_loopw [8, 12] (fun cr ik wr => ∃ (t : Nat) (E : List Int) (cz : Int), i + q.length <= t /\ t <= i + q.length + 1 /\ ik = .int .i64 t /\ cr = .int .u64 cz /\ 0 <= cz /\ cz < 1000000000 /\ (cz = 0 ∨ t = i + q.length) /\ E.length = p.length + q.length /\ Big.Lim 1000000000 E /\
            Big.val 1000000000 E + 1000000000 ^ (i + q.length) * cz = Big.val 1000000000 (p.take (i + 1)) * Big.val 1000000000 q /\
            (∀ s (h : s < E.length), t <= s -> E[s] = 0) /\ Arr .u32 94 wr w.heap.size E /\ Below w.heap.size w wr) (fun cr _ _ => (intOf cr).toNat)
          case atStart => exact ⟨i + q.length, G, cy, Nat.le_refl _, by omega, by go_num, rfl, hc0, hc1, .inr rfl, HGl.out, HGL.out, hV.out, HGz.out, HGa.out, hGb⟩
          case round =>
            obtain ⟨t, E, cz, ht0, ht1, rfl, rfl, hz0', hz1', hor, hEl, hEL, hEv, hEz, hEa, hEb⟩ := hrel
            have HEl := Lib.hid hEl
            have HEL := Lib.hid hEL
            have HEv := Lib.hid hEv
            have HEz := Lib.hid hEz
            have HEa := Lib.hid hEa
            have Hor := Lib.hid hor
            have hgr3 : w.heap.size < wr.heap.size := hEa.lt
            clear hEl hEL hEv hEz hEa hor hgr2
            by_cases hcz : 0 < cz
            · have htl : t < E.length := by have := HEl.out; have := Hor.out; omega
              have hE0 := HEz.out t htl (Nat.le_refl _)
              have hcell := HEa.out.cell htl
              rw [hE0] at hcell
              have hfz := HEa.out.free t
              have htn : t < p.length + q.length := by have := HEl.out; omega
              have Htt : Hid (t = i + q.length) := by show _ = _; have := Hor.out; omega
              have HE0 := Lib.hid hE0
              clear hE0
              go_wp2
              go_roundw
              case rel =>
                have hc1' : cz % 1000000000 = cz := Int.emod_eq_of_lt (by omega) hz1'
                have hc2' : cz / 1000000000 = 0 := Int.ediv_eq_zero_of_lt (by omega) hz1'
                refine ⟨t + 1, E.set t (cz % 1000000000), cz / 1000000000, by omega, by have := Htt.out; omega, by go_num, rfl, by omega, by omega, .inl hc2', by rw [List.length_set]; exact HEl.out, lim_set HEL.out (by omega) (by omega), ?_, ?_, HEa.out.set t _, hEb.setCell (Nat.le_refl _) _⟩
                · rw [hc1', hc2', val_set _ _ _ _ htl, HE0.out, Int.sub_zero, Int.mul_zero, Int.add_zero]
                  have := HEv.out
                  rw [<- Htt.out] at this; exact this
                · intro s hs hts
                  rw [List.getElem_set_ne (by omega)]; exact HEz.out s (by simpa using hs) (by omega)
              case measure => simp [intOf]; omega
            · obtain rfl : cz = 0 := by omega
              go_wp2
              go_roundw
              case rel => exact ⟨i + 1, E, by omega, by go_num, HEl.out, HEL.out, by have := HEv.out; rwa [Int.mul_zero, Int.add_zero] at this, fun s hs hts => HEz.out s hs (by omega), HEa.out, hEb⟩
              case measure => simp [intOf]; omega
    · obtain rfl : i = p.length := by omega
      have hEnd : Hid (Big.val 1000000000 F = Big.val 1000000000 p * Big.val 1000000000 q) := by show _ = _; have := Hv.out; rwa [List.take_length] at this
      clear Hv
      go_wp2
      go_ret
      exact ⟨hb, F, rfl, HFl.out, HFL.out, hEnd.out, Ha.out⟩
theorem times_any (A B : Option Addr) (n m c d : Nat) (p q : List Int) (hl : p.length = n) (hq : q.length = m) (hn : n <= 1000000) (hm : m <= 1000000) (hL : Big.Lim 1000000000 p) (hQ : Big.Lim 1000000000 q)
    (hA : LimbsAt .u32 w w.heap.size A p) (hB : LimbsAt .u32 w w.heap.size B q) :
    Calls Tryz.prog 52 #[.slice A n c, .slice B m d] w (LimbPost (n + m) (Big.val 1000000000 p * Big.val 1000000000 q) w) := by
  refine (times_arr w A B n m c d p q hl hq hn hm hL hQ hA hB).mono ?_
  rintro e w' ⟨hb, F, rfl, h1, h2, h3, h4⟩
  exact ⟨hb, _, n + m, n + m, F, rfl, h1, Nat.le_refl _, Nat.le_refl _, h2, h3, h4.limbs h4.lt, fun b o h => by cases h; exact Nat.le_refl _⟩
end
theorem alloc_setRow (W : World) (cur cs : Array Value) (t : TypeId) : (W.alloc (.cells cur t)).setRow W.heap.size cs = W.alloc (.cells cs t) := by
  unfold World.setRow World.alloc
  congr 1
  apply Array.ext
  · simp
  · intro i h1 h2
    simp only [Array.getElem_modify, Array.getElem_push]
    by_cases h : W.heap.size = i
    · subst h; simp
    · have hi : i < W.heap.size := by simp at h1; omega
      simp [h, hi]
theorem run_storeVar_new {P : Program} (W : World) (ty t : TypeId) (cur cs : Array Value) (hs : cs.size = cur.size) (h1 : ∀ v ∈ cs.toList, v.oneCell' = true) (hi : (P.info? ty).map (·.size) = some cs.size) :
    (storeVar ty ⟨W.heap.size, 0, none⟩ (.agg cs)).run P (W.alloc (.cells cur t)) = .ok () (W.alloc (.cells cs t)) := by
  have h := run_storeCells_from (P := P) W.heap.size t cs.toList 0 cur (W.alloc (.cells cur t)) (heap_alloc_new W _) (by simpa using hs) h1
  simp only [List.take_zero, List.nil_append, Array.toArray_toList, alloc_setRow] at h
  cases hq : P.info? ty with
  | none => simp [hq] at hi
  | some i =>
    have hsz : i.size = cs.size := by simpa [hq] using hi
    simp [storeVar, Value.cells, Sem.run_bind, sizeOf, typeInfo, hq, hsz, h]
theorem wpList_store_new {P : Program} {ops : Array Oper} {rest : List Oper} {o : Oper} {a : Act} {W : World} {Q : Exit -> Act -> World -> Prop} (hgd : o.guard = none) (ty : TypeId) (x v : Operand) (ho : o.op = .store ty x v)
    (t : TypeId) (cur cs : Array Value) (hx : a.eval x = .pointer (some ⟨W.heap.size, 0, none⟩)) (hv : a.eval v = .agg cs) (hs : cs.size = cur.size) (h1 : ∀ v ∈ cs.toList, v.oneCell' = true) (hi : (P.info? ty).map (·.size) = some cs.size)
    (h : wpList P ops Q rest (a.put o.dst undef) (W.alloc (.cells cs t))) : wpList P ops Q (o :: rest) a (W.alloc (.cells cur t)) := by
  refine wpList_plain hgd fun _ hK => ?_
  unfold Oper.wp execOp
  simp only [ho, hx, hv, Instr.storeAt, Instr.sureAddr, Sem.run_bind, Sem.run_pure, Result.andThen_ok, run_storeVar_new W ty t cur cs hs h1 hi]
  exact hK _ _ h
theorem wpList_alloc_is {P : Program} {ops : Array Oper} {rest : List Oper} {o : Oper} {a : Act} {W : World} {Q : Exit -> Act -> World -> Prop} (hgd : o.guard = none) (ty : TypeId) (ho : o.op = .alloc ty) (O : Obj)
    (hr : (Instr.alloc ty true (.tuple #[])).run P W = .ok (.pointer (some ⟨W.heap.size, 0, none⟩)) (W.alloc O))
    (h : wpList P ops Q rest (a.put o.dst (.pointer (some ⟨W.heap.size, 0, none⟩))) (W.alloc O)) : wpList P ops Q (o :: rest) a W := by
  refine wpList_plain hgd fun _ hK => ?_
  unfold Oper.wp execOp
  simp only [ho, Sem.run_bind, Result.andThen_ok, hr]
  exact hK _ _ h
theorem wpList_build_is {P : Program} {ops : Array Oper} {rest : List Oper} {o : Oper} {a : Act} {W : World} {Q : Exit -> Act -> World -> Prop} (hgd : o.guard = none) (ty : TypeId) (parts : Array (Nat × Operand)) (ho : o.op = .build ty parts) (ps : Array (Nat × Value)) (hps : parts.map (fun (i, x) => (i, a.eval x)) = ps) (v : Value)
    (hr : (Instr.build ty ps).run P W = .ok v W)
    (h : wpList P ops Q rest (a.put o.dst v) W) : wpList P ops Q (o :: rest) a W := by
  refine wpList_plain hgd fun _ hK => ?_
  unfold Oper.wp execOp
  simp only [ho, hps, Sem.run_bind, Result.andThen_ok, hr]
  exact hK _ _ h
theorem wp_store_row {P : Program} {op : Oper} {a : Act} {w : World} {K : Act -> World -> Prop} {Q : Exit -> Act -> World -> Prop} (ty : TypeId) (x y : Operand) (d : Option Tmp) (ho : op.op = .store ty x y) (hd : op.dst = d)
    (b : Nat) (t : TypeId) (old cells : Array Value) (hx : a.eval x = .pointer (some ⟨b, 0, none⟩)) (hy : a.eval y = .agg cells)
    (hg : w.heap[b]? = some (.cells old t (0, 0))) (hs : old.size = cells.size) (hi : (P.info? ty).map (·.size) = some cells.size) (h1 : cells.all (·.oneCell') = true)
    (h : K (a.put d undef) (w.setRow b cells)) : op.wp P a w K Q := by
  subst hd
  unfold Oper.wp execOp
  simp only [ho, hx, hy, Instr.storeAt, Instr.sureAddr, Sem.run_bind, Sem.run_pure, Result.andThen_ok, run_storeVar_row w b t ty old cells hg hi hs h1]
  exact h
end Go.Proofs.YtalfikdjclineaaGreatDoor
