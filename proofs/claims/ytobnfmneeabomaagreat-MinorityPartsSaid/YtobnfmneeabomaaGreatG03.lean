/- My texts IntArr, IntAdd. -/
import Derived.OwnWalk
import Derived.Laws.CopyOwn
import Derived.Deep.DeepCutAuto
import Derived.Test.YtobnfmneeabomaaGreatG02
set_option linter.unusedVariables false
set_option linter.unusedSimpArgs false
set_option maxRecDepth 100000
set_option maxHeartbeats 8000000
namespace Go.Proofs.YtobnfmneeabomaaGreat
open Go.RowKit

def Arr (K : IntKind) (e : TypeId) (w : World) (g : Nat) (F : List Int) : Prop := w.heap[g]? = some (.cells (F.map (Value.int K)).toArray e (0, 0))
section
variable {K : IntKind} {e : TypeId} {w w' : World} {g : Nat} {F : List Int}
theorem Arr.lt (h : Arr K e w g F) : g < w.heap.size := (Array.getElem?_eq_some_iff.1 h).1
theorem Arr.cell (h : Arr K e w g F) {k : Nat} (hk : k < F.length) : w.cell? ⟨g, k, none⟩ = some (.int K F[k]) := by
 rw [cell_of_row _ _ _ _ _ _ h]; simp [hk]
theorem Arr.free (h : Arr K e w g F) (k : Nat) : w.frozen? ⟨g, k, none⟩ = false := frozen_of_row _ _ _ _ _ h
theorem Arr.set (h : Arr K e w g F) (k : Nat) (x : Int) : Arr K e (w.setCell ⟨g, k, none⟩ (.int K x)) g (F.set k x) := by
 have := heap_setCell_same w g k _ e (.int K x) h
 unfold Arr
 rw [this]
 congr 2
 simp [List.map_set]
theorem Arr.below {B : Nat} (h : Arr K e w g F) (hb : Below B w w') (hg : g < B) : Arr K e w' g F := (hb.block g hg).trans h
theorem Arr.alloc (h : Arr K e w g F) (o : Obj) : Arr K e (w.alloc o) g F := (Below.heap_alloc w o g h.lt).trans h
theorem Arr.drewN (h : Arr K e w g F) (n : Nat) : Arr K e (w.drewN n) g F := h
theorem Arr.limbs (h : Arr K e w g F) {B : Nat} (hB : g < B) (he : e = limbTy K := by rfl) : LimbsAt K w B (some ⟨g, 0, none⟩) F :=
 .inr ⟨g, 0, rfl, hB, fun k hk => by rw [Nat.zero_add]; exact h.cell hk, _, _, he ▸ h⟩
theorem Arr.owns (h : Arr K e w g F) {base n : Nat} (hb : base <= g) (hn : n <= F.length) (hm : F.length <= maxLen) :
  w.ownsRow base e 1 (.slice (some ⟨g, 0, none⟩) n F.length) n ((F.take n).map (Value.int K)) := by
 refine ⟨by simp; omega, .inr ⟨g, F.length, _, rfl, hb, h, hn, hm, by simp, ?_⟩⟩
 simp [List.map_take]
theorem limbs_own {W : World} {base n : Nat} {v : Value} {l : List Int} (h : W.ownsRow base e 1 v n (l.map (Value.int K))) (hn : n = l.length) (he : e = limbTy K := by rfl) : ∃ A c, v = .slice A n c /\ n <= c /\ LimbsAt K W W.heap.size A l := by
 subst hn
 subst he
 rcases h.2 with ⟨e, h0⟩ | ⟨g, cap, cur, e, _, hg, hle, _, hsz, htk⟩
 ·exact ⟨none, 0, by rw [e, h0], by omega, .inl (List.length_eq_zero_iff.1 h0)⟩
 ·refine ⟨_, cap, e, hle, .inr ⟨g, 0, rfl, (Array.getElem?_eq_some_iff.1 hg).1, fun k hk => ?_, _, _, hg⟩⟩
  rw [Nat.zero_add, cell_of_row _ _ _ _ _ _ hg]
  have : (cur.toList.take (l.length * 1))[k]? = some (.int K l[k]) := by rw [htk]; simp [hk]
  rw [List.getElem?_take, if_pos (by omega)] at this
  simpa using this
theorem own_base {a : World} {base : Nat} {e : TypeId} {size n : Nat} {v : Value} {xs : List Value} (h : a.ownsRow base e size v n xs) : ∀ k, v.ownBlock = some k -> base <= k := by
 intro k hk
 rcases h.2 with ⟨rfl, _⟩ | ⟨g, cap, cur, rfl, hb, _⟩
 ·simp [Value.ownBlock] at hk
 ·simp [Value.ownBlock] at hk; omega
theorem LimbsAt.cells {B : Nat} {A : Option Addr} {l : List Int} (h : LimbsAt K w B A l) (hl : 0 < l.length) : ∃ ad, A = some ad /\ ∀ j v, (l.map (Value.int K))[j]? = some v -> w.cell? (ad.add j) = some v := by
 rcases h with h | ⟨b, o, e, _, hc⟩
 ·subst h; simp at hl
 ·refine ⟨_, e, fun j v hj => ?_⟩
  have hjl : j < l.length := by have := (List.getElem?_eq_some_iff.1 hj).1; simpa using this
  rw [Addr.add_mid, hc.1 j hjl]
  simpa [hjl] using hj
theorem LimbsAt.copied {B : Nat} {A : Option Addr} {l : List Int} (h : LimbsAt K w B A l) (a : Addr) : 0 < (l.map (Value.int K)).length -> some a = some a /\ ∃ ad, A = some ad /\ ∀ j v, (l.map (Value.int K))[j]? = some v -> w.cell? (ad.add j) = some v :=
 fun hp => ⟨rfl, h.cells (by simpa using hp)⟩
theorem LimbsAt.other {B : Nat} {A : Option Addr} {l : List Int} (h : LimbsAt K w B A l) (hg : ∀ b o, A = some ⟨b, o, none⟩ -> w'.heap[b]? = w.heap[b]?) : LimbsAt K w' B A l := by
 rcases h with h | ⟨b, o, e, hl, hc⟩
 ·exact .inl h
 ·exact .inr ⟨b, o, e, hl, fun k hk => (World.cell?_of_block (w := w) (hg b o e)).trans (hc.1 k hk), hc.2.of_block (hg b o e)⟩
theorem map_one (l : List Int) : ∀ v ∈ l.map (Value.int K), v.oneCell' = true := by
 intro v hv
 rw [List.mem_map] at hv
 obtain ⟨x, _, rfl⟩ := hv
 rfl
theorem madeCells_zero (K : IntKind) (n : Nat) : madeCells #[Value.int K 0] n = ((List.replicate n (0 : Int)).map (Value.int K)).toArray := by
 apply Array.ext
 ·simp [madeCells]
 ·intro i h1 h2
  simp [madeCells, Nat.mod_one]
end

theorem wpList_make_arr {P : Program} {w : World} {ops : Array Oper} {rest : List Oper} {o : Oper} {a : Act} {Q : Exit -> Act -> World -> Prop} (hg : o.guard = none) (l c : Operand) (t : TypeId) (hop : o.op = Op.makeSlice t l c)
  (K : IntKind) (e : TypeId) (i : TypeInfo) (bytes : Nat) (h1 : P.underlying t = some (.slice e)) (h2 : P.info? e = some i) (h3 : i.zero = some (.int K 0)) (h4 : i.size = 1) (h5 : i.bytes = bytes)
  (kl kc : IntKind) (L C : Int) (n m : Nat) (hl : a.eval l = .int kl L) (hc : a.eval c = .int kc C) (hL : L = (n : Int)) (hC : C = (m : Int)) (hnm : n <= m) (b1 : bytes <= 100) (b2 : m <= 10000000)
  (hK : ∀ w', Hid (w' = w.alloc (.cells ((List.replicate m (0 : Int)).map (Value.int K)).toArray e)) -> wpList P ops Q rest (a.put o.dst (.slice (some ⟨w.heap.size, 0, none⟩) n m)) w') :
  wpList P ops Q (o :: rest) a w := by
 refine wpList_plain hg fun K' hK' => ?_
 subst hL hC
 have hb : (i.bytes : Int) * (m : Int) <= 281474976710656 := by
  rw [h5]
  have : bytes * m <= 100 * 10000000 := Nat.mul_le_mul b1 b2
  have h2 : ((bytes * m : Nat) : Int) <= 1000000000 := by omega
  rw [Int.natCast_mul] at h2; omega
 have hrun := run_make (P := P) w t e i (.int K 0) h1 h2 h3 kl kc (n : Int) (m : Int) (by omega) (by omega) hb (by omega)
 rw [h4, Nat.mul_one, Int.toNat_natCast, Int.toNat_natCast] at hrun
 have hz : madeCells (Value.int K 0).cells m = ((List.replicate m (0 : Int)).map (Value.int K)).toArray := madeCells_zero K m
 rw [hz] at hrun
 unfold Oper.wp
 simp [execOp, hop, hl, hc, hrun, Result.andThen]
 have := hK _ (Lib.hid rfl)
 simp at this
 exact hK' _ _ this

theorem uinfo : (Tryz.prog.info? 149).map (fun i => (i.zero, i.size, i.bytes)) = some (some (.int .u32 0), 1, 4) := by kernel_rfl
theorem usize : (Tryz.prog.info? 149).map (·.size) = some 1 := by kernel_rfl

def LimbPost (k : Nat) (V : Int) (w : World) (e : Ending) (w' : World) : Prop :=
 Below w.heap.size w w' /\ ∃ (A : Option Addr) (n c : Nat) (r : List Int), e = .returned (.slice A n c) /\ r.length = n /\ n <= k /\ n <= c /\ Big.Lim 1000000000 r /\ Big.val 1000000000 r = V /\ LimbsAt .u32 w' w'.heap.size A r /\ ∀ b o, A = some ⟨b, o, none⟩ -> w.heap.size <= b

theorem one_cell {w : World} {g : Nat} {v : Value} {t : TypeId} {fr : Nat × Nat} (h : w.heap[g]? = some (.cells #[v] t fr)) : ∀ j u, ([v] : List Value)[j]? = some u -> w.cell? ((⟨g, 0, none⟩ : Addr).add j) = some u := by
 intro j u hj
 rw [Addr.add_mid, Nat.zero_add, cell_of_row _ _ _ _ _ _ h]
 simpa using hj
theorem add_step {B : Int} {P p q : List Int} {k : Nat} {x y cy s : Int} (h : Big.val B P + B ^ k * cy = Big.val B (p.take k) + Big.val B (q.take k)) (hP : P.length = k) (hs : s = x + cy + y)
  (hx : Big.val B (p.take (k + 1)) = Big.val B (p.take k) + B ^ k * x) (hy : Big.val B (q.take (k + 1)) = Big.val B (q.take k) + B ^ k * y) :
  Big.val B (P ++ [s % B]) + B ^ (k + 1) * (s / B) = Big.val B (p.take (k + 1)) + Big.val B (q.take (k + 1)) := by
 rw [Big.val_snoc, hP, hx, hy, Int.pow_succ, Int.mul_assoc]
 have h1 : B ^ k * (s % B) + B ^ k * (B * (s / B)) = B ^ k * s := by rw [<- Int.mul_add, Int.emod_add_mul_ediv]
 have h2 : B ^ k * s = B ^ k * x + B ^ k * cy + B ^ k * y := by rw [hs, Int.mul_add, Int.mul_add]
 omega

section
variable (w : World)
theorem plus_ge (A B : Option Addr) (n m c d : Nat) (p q : List Int) (hl : p.length = n) (hq : q.length = m) (hge : m <= n) (hn : n <= 1000000) (hm : m <= 1000000) (hL : Big.Lim 1000000000 p) (hQ : Big.Lim 1000000000 q)
  (hA : LimbsAt .u32 w w.heap.size A p) (hB : LimbsAt .u32 w w.heap.size B q) :
  Calls Tryz.prog 85 #[.slice A n c, .slice B m d] w (LimbPost (n + 1) (Big.val 1000000000 p + Big.val 1000000000 q) w) := by
 subst hl hq
 obtain ⟨i0, hi, hz0, hz1, hz2⟩ := info_parts uinfo
 have Hn1 : Hid (((p.length : Int) + 1) = ((p.length + 1 : Nat) : Int)) := by show _ = _; omega
 have Hlen : Hid ((p.map (Value.int .u32)).length = Nat.min p.length p.length) := by show _ = _; simp
 have Hfit : Hid (0 + (p.map (Value.int .u32)).length <= ((List.replicate (p.length + 1) (0 : Int)).map (Value.int .u32)).length) := by show _ <= _; simp
 have Hnp : p.length <= p.length + 1 := Nat.le_succ _
 have Hb2 : p.length + 1 <= 10000000 := by omega
 go_enter Tryz.func85, Tryz.ntmps85
 go_upto_region 4 with (refine wpList_make_arr rfl _ _ 86 rfl .u32 149 i0 4 Tryz.underlying86 hi hz0 hz1 hz2 _ _ _ _ p.length (p.length + 1) rfl rfl rfl Hn1.out Hnp (by decide) Hb2 ?_; intro w1 hw1)
 have hB1 : Below w.heap.size w w1 := by rw [hw1.out]; exact (Below.refl _ _).alloc (Nat.le_refl _) _
 have hz1' : w1.heap.size = w.heap.size + 1 := by rw [hw1.out]; simp
 have hG1 := Lib.hid (show w1.heap[w.heap.size]? = some (.cells ((List.replicate (p.length + 1) (0 : Int)).map (Value.int .u32)).toArray 149 (0, 0)) by rw [hw1.out]; exact heap_alloc_new w _)
 have HA1 := Lib.hid (hA.at_ hB1 (Nat.le_refl _))
 have Hz := Lib.hid hz1'
 clear hw1 hz1'
 go_upto_region 5 with ((refine wpList_copy_splice rfl (.tmp 22) (.tmp 23) 86 86 rfl 149 Tryz.underlying86 usize (some ⟨w.heap.size, 0, none⟩) A p.length (p.length + 1) p.length c rfl rfl w.heap.size 0 _ 149 hG1.out (p.map (Value.int .u32)) Hlen.out (HA1.out.copied _) Hfit.out (map_one p) w.heap.size w hB1 (Nat.le_refl _) ?_); intro w2 hsp hB2)
 have hArr : Arr .u32 149 w2 w.heap.size (p ++ [0]) := by
  unfold Arr
  rw [hsp.out]
  congr 3
  rw [splice]
  simp
 clear hsp hG1 HA1 Hlen Hfit
 have HL := Lib.hid hL
 have HQ := Lib.hid hQ
 clear hL hQ
 go_wp2
 go_loopw [6, 27] (fun cr i wr => ∃ (k : Nat) (P : List Int) (cy : Int), k <= p.length /\ i = .int .i64 k /\ cr = .int .u32 cy /\ (cy = 0 ∨ cy = 1) /\ P.length = k /\ Big.Lim 1000000000 P /\
  Big.val 1000000000 P + 1000000000 ^ k * cy = Big.val 1000000000 (p.take k) + Big.val 1000000000 (q.take k) /\ Arr .u32 149 wr w.heap.size (P ++ p.drop k ++ [0]) /\ Below w.heap.size w wr) (fun _ i _ => p.length - (intOf i).toNat)
 case atStart => exact ⟨0, [], 0, Nat.zero_le _, rfl, rfl, .inl rfl, rfl, Big.Lim.nil, by simp [Big.val], by simpa using hArr, hB2⟩
 case round =>
  obtain ⟨k, P, cy, hk, rfl, rfl, hcy, hPl, hPL, hv, ha, hb⟩ := hrel
  have Hcy := Lib.hid hcy
  have hcy0 : 0 <= cy := by omega
  have hcy1 : cy <= 1 := by omega
  have HPl := Lib.hid hPl
  have HPL := Lib.hid hPL
  have Hv := Lib.hid hv
  have hgr : w.heap.size < wr.heap.size := ha.lt
  clear hcy hPl hPL hv hArr
  by_cases hlt : k < p.length
  ·have hFl : k < (P ++ p.drop k ++ [0]).length := by have := HPl.out; simp; omega
   have hFk : (P ++ p.drop k ++ [0])[k] = p[k] := by
    have := HPl.out
    rw [List.getElem_append_left (by simp; omega), List.getElem_append_right (by omega)]
    simp [this]
   have hc := ha.cell hFl
   rw [hFk] at hc
   have hfz := ha.free k
   have hx := HL.out.get k hlt
   have hx0 := hx.1
   have hx1 := hx.2
   have Ha := Lib.hid ha
   have hset : ∀ y : Int, Hid ((P ++ p.drop k ++ [0]).set k y = (P ++ [y]) ++ p.drop (k + 1) ++ [0]) := fun y => by
    show _ = _
    have := HPl.out
    rw [List.set_append_left _ _ (by simp; omega), List.set_append_right _ _ (by omega), this, Nat.sub_self, List.drop_eq_getElem_cons hlt, List.set_cons_zero]
    simp only [List.append_assoc, List.cons_append, List.nil_append]
   clear hx hFl hFk ha
   by_cases hkm : k < q.length
   ·obtain ⟨b, o, rfl, hbB, hy⟩ := (hB.below hb (Nat.le_refl _)).look hkm
    have hyl := HQ.out.get k hkm
    have hy0 := hyl.1
    have hy1 := hyl.2
    have hbw : b < wr.heap.size := by omega
    clear hyl
    go_wp2
    go_roundw
    case rel =>
     refine ⟨k + 1, P ++ [(p[k] + cy + q[k]) % 1000000000], (p[k] + cy + q[k]) / 1000000000, by omega, by go_num, rfl, by omega, by simp [HPl.out], Big.Lim.append.2 ⟨HPL.out, fun a ha => ?_⟩, add_step Hv.out HPl.out rfl (Big.val_take_succ _ _ _ hlt) (Big.val_take_succ _ _ _ hkm), ?_, hb.setCell (Nat.le_refl _) _⟩
     ·rw [List.mem_singleton] at ha; subst ha; omega
     ·have := Ha.out.set k ((p[k] + cy + q[k]) % 1000000000)
      rwa [(hset _).out] at this
    case measure => simp [intOf]; omega
   ·have htq : Hid (q.take k = q) := by show _ = _; exact List.take_of_length_le (by omega)
    have htq1 : Hid (q.take (k + 1) = q) := by show _ = _; exact List.take_of_length_le (by omega)
    rcases Hcy.out with h0 | h0
    ·subst h0
     have Hend : Hid (Big.val 1000000000 (P ++ p.drop k) = Big.val 1000000000 p + Big.val 1000000000 q) := by
      have h1 := Hv.out
      rw [htq.out, Int.mul_zero, Int.add_zero] at h1
      show _ = _
      rw [Big.val_append, HPl.out, h1, Big.val_split 1000000000 p k (by omega)]; omega
     go_wp2
     go_ret
     have hpl := HPl.out
     have htk : (P ++ p.drop k ++ [0]).take p.length = P ++ p.drop k := by
      rw [List.take_append_of_le_length (by simp; omega), List.take_of_length_le (by simp; omega)]
     exact ⟨hb, _, p.length, p.length + 1, P ++ p.drop k, rfl, by simp; omega, by omega, by omega, Big.Lim.append.2 ⟨HPL.out, HL.out.drop k⟩, Hend.out, by rw [<- htk]; exact (Ha.out.limbs hgr).take _, fun b o h => by cases h; exact Nat.le_refl _⟩
    ·subst h0
     go_wp2
     go_roundw
     case rel =>
      refine ⟨k + 1, P ++ [(p[k] + 1) % 1000000000], (p[k] + 1) / 1000000000, by omega, by go_num, rfl, by omega, by simp [HPl.out], Big.Lim.append.2 ⟨HPL.out, fun a ha => ?_⟩, add_step (x := p[k]) (y := 0) (cy := 1) Hv.out HPl.out (by omega) (Big.val_take_succ _ _ _ hlt) (by rw [htq.out, htq1.out, Int.mul_zero, Int.add_zero]), ?_, hb.setCell (Nat.le_refl _) _⟩
      ·rw [List.mem_singleton] at ha; subst ha; omega
      ·have := Ha.out.set k ((p[k] + 1) % 1000000000)
       rwa [(hset _).out] at this
     case measure => simp [intOf]; omega
  ·obtain rfl : k = p.length := by omega
   have hpl := HPl.out
   have hv := Hv.out
   rw [List.take_length, List.take_of_length_le (show q.length <= p.length by omega)] at hv
   rw [List.drop_length, List.append_nil] at ha
   have hlen : (P ++ [(0 : Int)]).length = p.length + 1 := by simp [hpl]
   have htk : (P ++ [(0 : Int)]).take p.length = P := by rw [List.take_append_of_le_length (by omega), List.take_of_length_le (by omega)]
   rcases Hcy.out with h0 | h0
   ·subst h0
    have Hend : Hid (Big.val 1000000000 P = Big.val 1000000000 p + Big.val 1000000000 q) := by show _ = _; rw [Int.mul_zero, Int.add_zero] at hv; exact hv
    have Hlim := Lib.hid ((ha.limbs hgr).take p.length)
    have Htk := Lib.hid htk
    clear hv htk ha hpl hlen Hv
    go_wp2
    go_ret
    have hpl := HPl.out
    exact ⟨hb, _, p.length, p.length + 1, P, rfl, by omega, by omega, by omega, HPL.out, Hend.out, by rw [<- Htk.out]; exact Hlim.out, fun b o h => by cases h; exact Nat.le_refl _⟩
   ·subst h0
    have Hend : Hid (Big.val 1000000000 (P ++ [1]) = Big.val 1000000000 p + Big.val 1000000000 q) := by show _ = _; rw [Big.val_snoc, hpl]; exact hv
    have hown := ha.owns (base := w.heap.size) (n := p.length) (Nat.le_refl _) (by omega) (by rw [hlen]; unfold maxLen; omega)
    rw [hlen, htk] at hown
    have Hown := Lib.hid (hown.alloc (.cells #[.int .u32 1] 149))
    have Hnew := Lib.hid (fun j u (hj : ([Value.int .u32 1] : List Value)[j]? = some u) => one_cell (heap_alloc_new wr (.cells #[.int .u32 1] 149)) j u hj)
    have Hcap : p.length + 1 <= p.length + 1 := Nat.le_refl _
    have Hone : Hid (∀ u ∈ ([Value.int .u32 1] : List Value), u.oneCell' = true) := by show ∀ u ∈ _, _; simp [Value.oneCell']
    clear hv htk ha hpl hlen Hv hown
    go_wp2_with (at_builtin; refine wpList_append_fits _ rfl _ _ 86 rfl w.heap.size 149 i0 1 Tryz.underlying86 hi hz1 w.heap.size p.length (p.length + 1) _ rfl Hown.out ⟨wr.heap.size, 0, none⟩ 1 1 [Value.int .u32 1] rfl rfl Hnew.out Hone.out Hcap ?_; intro w3 hown3 hgrow)
    go_ret
    have hpl := HPl.out
    obtain ⟨A', c', e', hc', hlim⟩ := limbs_own (K := .u32) (l := P ++ [1]) (n := p.length + 1) (by rw [List.map_append]; exact hown3) (by simp [hpl])
    have hBf : Below w.heap.size w w3 := (hb.alloc hb.size (.cells #[.int .u32 1] 149)).grown hgrow (by simp; omega) (fun k hk => by cases hk; exact Nat.le_refl _)
    injection e' with ea _ ec
    subst ea ec
    exact ⟨hBf, _, p.length + 1, _, P ++ [1], rfl, by simp [hpl], Nat.le_refl _, hc', Big.Lim.append.2 ⟨HPL.out, fun a ha => by rw [List.mem_singleton] at ha; subst ha; omega⟩, Hend.out, hlim, fun b o h => by cases h; exact Nat.le_refl _⟩
theorem plus_lt (A B : Option Addr) (n m c d : Nat) (p q : List Int) (hl : p.length = n) (hq : q.length = m) (hlt : m < n) (hn : n <= 1000000) (hm : m <= 1000000) (hL : Big.Lim 1000000000 p) (hQ : Big.Lim 1000000000 q)
  (hA : LimbsAt .u32 w w.heap.size A p) (hB : LimbsAt .u32 w w.heap.size B q) :
  Calls Tryz.prog 85 #[.slice B m d, .slice A n c] w (LimbPost (n + 1) (Big.val 1000000000 p + Big.val 1000000000 q) w) := by
 subst hl hq
 obtain ⟨i0, hi, hz0, hz1, hz2⟩ := info_parts uinfo
 have Hn1 : Hid (((p.length : Int) + 1) = ((p.length + 1 : Nat) : Int)) := by show _ = _; omega
 have Hlen : Hid ((p.map (Value.int .u32)).length = Nat.min p.length p.length) := by show _ = _; simp
 have Hfit : Hid (0 + (p.map (Value.int .u32)).length <= ((List.replicate (p.length + 1) (0 : Int)).map (Value.int .u32)).length) := by show _ <= _; simp
 have Hnp : p.length <= p.length + 1 := Nat.le_succ _
 have Hb2 : p.length + 1 <= 10000000 := by omega
 go_enter Tryz.func85, Tryz.ntmps85
 go_upto_region 4 with (refine wpList_make_arr rfl _ _ 86 rfl .u32 149 i0 4 Tryz.underlying86 hi hz0 hz1 hz2 _ _ _ _ p.length (p.length + 1) rfl rfl rfl Hn1.out Hnp (by decide) Hb2 ?_; intro w1 hw1)
 have hB1 : Below w.heap.size w w1 := by rw [hw1.out]; exact (Below.refl _ _).alloc (Nat.le_refl _) _
 have hz1' : w1.heap.size = w.heap.size + 1 := by rw [hw1.out]; simp
 have hG1 := Lib.hid (show w1.heap[w.heap.size]? = some (.cells ((List.replicate (p.length + 1) (0 : Int)).map (Value.int .u32)).toArray 149 (0, 0)) by rw [hw1.out]; exact heap_alloc_new w _)
 have HA1 := Lib.hid (hA.at_ hB1 (Nat.le_refl _))
 have Hz := Lib.hid hz1'
 clear hw1 hz1'
 go_upto_region 5 with ((refine wpList_copy_splice rfl (.tmp 22) (.tmp 23) 86 86 rfl 149 Tryz.underlying86 usize (some ⟨w.heap.size, 0, none⟩) A p.length (p.length + 1) p.length c rfl rfl w.heap.size 0 _ 149 hG1.out (p.map (Value.int .u32)) Hlen.out (HA1.out.copied _) Hfit.out (map_one p) w.heap.size w hB1 (Nat.le_refl _) ?_); intro w2 hsp hB2)
 have hArr : Arr .u32 149 w2 w.heap.size (p ++ [0]) := by
  unfold Arr
  rw [hsp.out]
  congr 3
  rw [splice]
  simp
 clear hsp hG1 HA1 Hlen Hfit
 have HL := Lib.hid hL
 have HQ := Lib.hid hQ
 clear hL hQ
 go_wp2
 go_loopw [6, 27] (fun cr i wr => ∃ (k : Nat) (P : List Int) (cy : Int), k <= p.length /\ i = .int .i64 k /\ cr = .int .u32 cy /\ (cy = 0 ∨ cy = 1) /\ P.length = k /\ Big.Lim 1000000000 P /\
  Big.val 1000000000 P + 1000000000 ^ k * cy = Big.val 1000000000 (p.take k) + Big.val 1000000000 (q.take k) /\ Arr .u32 149 wr w.heap.size (P ++ p.drop k ++ [0]) /\ Below w.heap.size w wr) (fun _ i _ => p.length - (intOf i).toNat)
 case atStart => exact ⟨0, [], 0, Nat.zero_le _, rfl, rfl, .inl rfl, rfl, Big.Lim.nil, by simp [Big.val], by simpa using hArr, hB2⟩
 case round =>
  obtain ⟨k, P, cy, hk, rfl, rfl, hcy, hPl, hPL, hv, ha, hb⟩ := hrel
  have Hcy := Lib.hid hcy
  have hcy0 : 0 <= cy := by omega
  have hcy1 : cy <= 1 := by omega
  have HPl := Lib.hid hPl
  have HPL := Lib.hid hPL
  have Hv := Lib.hid hv
  have hgr : w.heap.size < wr.heap.size := ha.lt
  clear hcy hPl hPL hv hArr
  by_cases hlt : k < p.length
  ·have hFl : k < (P ++ p.drop k ++ [0]).length := by have := HPl.out; simp; omega
   have hFk : (P ++ p.drop k ++ [0])[k] = p[k] := by
    have := HPl.out
    rw [List.getElem_append_left (by simp; omega), List.getElem_append_right (by omega)]
    simp [this]
   have hc := ha.cell hFl
   rw [hFk] at hc
   have hfz := ha.free k
   have hx := HL.out.get k hlt
   have hx0 := hx.1
   have hx1 := hx.2
   have Ha := Lib.hid ha
   have hset : ∀ y : Int, Hid ((P ++ p.drop k ++ [0]).set k y = (P ++ [y]) ++ p.drop (k + 1) ++ [0]) := fun y => by
    show _ = _
    have := HPl.out
    rw [List.set_append_left _ _ (by simp; omega), List.set_append_right _ _ (by omega), this, Nat.sub_self, List.drop_eq_getElem_cons hlt, List.set_cons_zero]
    simp only [List.append_assoc, List.cons_append, List.nil_append]
   clear hx hFl hFk ha
   by_cases hkm : k < q.length
   ·obtain ⟨b, o, rfl, hbB, hy⟩ := (hB.below hb (Nat.le_refl _)).look hkm
    have hyl := HQ.out.get k hkm
    have hy0 := hyl.1
    have hy1 := hyl.2
    have hbw : b < wr.heap.size := by omega
    clear hyl
    go_wp2
    go_roundw
    case rel =>
     refine ⟨k + 1, P ++ [(p[k] + cy + q[k]) % 1000000000], (p[k] + cy + q[k]) / 1000000000, by omega, by go_num, rfl, by omega, by simp [HPl.out], Big.Lim.append.2 ⟨HPL.out, fun a ha => ?_⟩, add_step Hv.out HPl.out rfl (Big.val_take_succ _ _ _ hlt) (Big.val_take_succ _ _ _ hkm), ?_, hb.setCell (Nat.le_refl _) _⟩
     ·rw [List.mem_singleton] at ha; subst ha; omega
     ·have := Ha.out.set k ((p[k] + cy + q[k]) % 1000000000)
      rwa [(hset _).out] at this
    case measure => simp [intOf]; omega
   ·have htq : Hid (q.take k = q) := by show _ = _; exact List.take_of_length_le (by omega)
    have htq1 : Hid (q.take (k + 1) = q) := by show _ = _; exact List.take_of_length_le (by omega)
    rcases Hcy.out with h0 | h0
    ·subst h0
     have Hend : Hid (Big.val 1000000000 (P ++ p.drop k) = Big.val 1000000000 p + Big.val 1000000000 q) := by
      have h1 := Hv.out
      rw [htq.out, Int.mul_zero, Int.add_zero] at h1
      show _ = _
      rw [Big.val_append, HPl.out, h1, Big.val_split 1000000000 p k (by omega)]; omega
     go_wp2
     go_ret
     have hpl := HPl.out
     have htk : (P ++ p.drop k ++ [0]).take p.length = P ++ p.drop k := by
      rw [List.take_append_of_le_length (by simp; omega), List.take_of_length_le (by simp; omega)]
     exact ⟨hb, _, p.length, p.length + 1, P ++ p.drop k, rfl, by simp; omega, by omega, by omega, Big.Lim.append.2 ⟨HPL.out, HL.out.drop k⟩, Hend.out, by rw [<- htk]; exact (Ha.out.limbs hgr).take _, fun b o h => by cases h; exact Nat.le_refl _⟩
    ·subst h0
     go_wp2
     go_roundw
     case rel =>
      refine ⟨k + 1, P ++ [(p[k] + 1) % 1000000000], (p[k] + 1) / 1000000000, by omega, by go_num, rfl, by omega, by simp [HPl.out], Big.Lim.append.2 ⟨HPL.out, fun a ha => ?_⟩, add_step (x := p[k]) (y := 0) (cy := 1) Hv.out HPl.out (by omega) (Big.val_take_succ _ _ _ hlt) (by rw [htq.out, htq1.out, Int.mul_zero, Int.add_zero]), ?_, hb.setCell (Nat.le_refl _) _⟩
      ·rw [List.mem_singleton] at ha; subst ha; omega
      ·have := Ha.out.set k ((p[k] + 1) % 1000000000)
       rwa [(hset _).out] at this
     case measure => simp [intOf]; omega
  ·obtain rfl : k = p.length := by omega
   have hpl := HPl.out
   have hv := Hv.out
   rw [List.take_length, List.take_of_length_le (show q.length <= p.length by omega)] at hv
   rw [List.drop_length, List.append_nil] at ha
   have hlen : (P ++ [(0 : Int)]).length = p.length + 1 := by simp [hpl]
   have htk : (P ++ [(0 : Int)]).take p.length = P := by rw [List.take_append_of_le_length (by omega), List.take_of_length_le (by omega)]
   rcases Hcy.out with h0 | h0
   ·subst h0
    have Hend : Hid (Big.val 1000000000 P = Big.val 1000000000 p + Big.val 1000000000 q) := by show _ = _; rw [Int.mul_zero, Int.add_zero] at hv; exact hv
    have Hlim := Lib.hid ((ha.limbs hgr).take p.length)
    have Htk := Lib.hid htk
    clear hv htk ha hpl hlen Hv
    go_wp2
    go_ret
    have hpl := HPl.out
    exact ⟨hb, _, p.length, p.length + 1, P, rfl, by omega, by omega, by omega, HPL.out, Hend.out, by rw [<- Htk.out]; exact Hlim.out, fun b o h => by cases h; exact Nat.le_refl _⟩
   ·subst h0
    have Hend : Hid (Big.val 1000000000 (P ++ [1]) = Big.val 1000000000 p + Big.val 1000000000 q) := by show _ = _; rw [Big.val_snoc, hpl]; exact hv
    have hown := ha.owns (base := w.heap.size) (n := p.length) (Nat.le_refl _) (by omega) (by rw [hlen]; unfold maxLen; omega)
    rw [hlen, htk] at hown
    have Hown := Lib.hid (hown.alloc (.cells #[.int .u32 1] 149))
    have Hnew := Lib.hid (fun j u (hj : ([Value.int .u32 1] : List Value)[j]? = some u) => one_cell (heap_alloc_new wr (.cells #[.int .u32 1] 149)) j u hj)
    have Hcap : p.length + 1 <= p.length + 1 := Nat.le_refl _
    have Hone : Hid (∀ u ∈ ([Value.int .u32 1] : List Value), u.oneCell' = true) := by show ∀ u ∈ _, _; simp [Value.oneCell']
    clear hv htk ha hpl hlen Hv hown
    go_wp2_with (at_builtin; refine wpList_append_fits _ rfl _ _ 86 rfl w.heap.size 149 i0 1 Tryz.underlying86 hi hz1 w.heap.size p.length (p.length + 1) _ rfl Hown.out ⟨wr.heap.size, 0, none⟩ 1 1 [Value.int .u32 1] rfl rfl Hnew.out Hone.out Hcap ?_; intro w3 hown3 hgrow)
    go_ret
    have hpl := HPl.out
    obtain ⟨A', c', e', hc', hlim⟩ := limbs_own (K := .u32) (l := P ++ [1]) (n := p.length + 1) (by rw [List.map_append]; exact hown3) (by simp [hpl])
    have hBf : Below w.heap.size w w3 := (hb.alloc hb.size (.cells #[.int .u32 1] 149)).grown hgrow (by simp; omega) (fun k hk => by cases hk; exact Nat.le_refl _)
    injection e' with ea _ ec
    subst ea ec
    exact ⟨hBf, _, p.length + 1, _, P ++ [1], rfl, by simp [hpl], Nat.le_refl _, hc', Big.Lim.append.2 ⟨HPL.out, fun a ha => by rw [List.mem_singleton] at ha; subst ha; omega⟩, Hend.out, hlim, fun b o h => by cases h; exact Nat.le_refl _⟩
end
end Go.Proofs.YtobnfmneeabomaaGreat
