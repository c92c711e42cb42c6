/- My texts IntOps, IntDiv. -/
import Derived.Test.YtalfikdjclineaaGreatDoorG03
set_option linter.unusedVariables false
set_option linter.unusedSimpArgs false
set_option maxRecDepth 100000
set_option maxHeartbeats 8000000
namespace Go.Proofs.YtalfikdjclineaaGreatDoor
open Go.RowKit

def RegS (w : World) (X Y : Array Value) (W' : World) : Prop :=
  Below w.heap.size w W' /\ W'.heap[w.heap.size]? = some (.cells X 39 (0, 0)) /\ W'.heap[w.heap.size + 1]? = some (.cells Y 39 (0, 0)) /\ ∃ cs : Array Value, W'.heap[w.heap.size + 2]? = some (.cells cs 39 (0, 0)) /\ cs.size = 2
theorem RegS.lt {w W : World} {X Y : Array Value} (h : RegS w X Y W) : w.heap.size + 2 < W.heap.size := by
  obtain ⟨_, _, _, cs, h, _⟩ := h
  exact (Array.getElem?_eq_some_iff.1 h).1
theorem RegS.step {w W W' : World} {X Y : Array Value} (h : RegS w X Y W) (hb : Below W.heap.size W W') : RegS w X Y W' := by
  have hlt := h.lt
  obtain ⟨h1, h2, h3, cs, h4, h5⟩ := h
  exact ⟨h1.trans (hb.mono h1.size), (hb.block _ (by omega)).trans h2, (hb.block _ (by omega)).trans h3, cs, (hb.block _ hlt).trans h4, h5⟩
theorem RegS.store {w W : World} {X Y : Array Value} (h : RegS w X Y W) (cs : Array Value) (hc : cs.size = 2) : RegS w X Y (W.setRow (w.heap.size + 2) cs) := by
  obtain ⟨h1, h2, h3, ds, h4, h5⟩ := h
  exact ⟨below_setRow h1 (by omega) _, (setRow_other _ _ _ _ (by omega)).trans h2, (setRow_other _ _ _ _ (by omega)).trans h3, cs, setRow_heap _ _ _ _ _ _ h4, hc⟩
theorem RegS.start (w : World) (X Y : Array Value) : RegS w X Y (((w.alloc (.cells X 39)).alloc (.cells Y 39)).alloc (.cells #[.bool false, .slice none 0 0] 39)) := by
  refine ⟨(((Below.refl _ _).alloc (Nat.le_refl _) _).alloc (by simp) _).alloc (by simp; omega) _, ?_, ?_, #[.bool false, .slice none 0 0], ?_, rfl⟩
  · rw [Below.heap_alloc _ _ _ (by simp; omega), Below.heap_alloc _ _ _ (by simp)]; exact heap_alloc_new w _
  · rw [Below.heap_alloc _ _ _ (by simp)]
    have := heap_alloc_new (w.alloc (.cells X 39)) (.cells Y 39)
    rwa [show (w.alloc (.cells X 39)).heap.size = w.heap.size + 1 by simp] at this
  · have := heap_alloc_new ((w.alloc (.cells X 39)).alloc (.cells Y 39)) (.cells #[.bool false, .slice none 0 0] 39)
    rwa [show ((w.alloc (.cells X 39)).alloc (.cells Y 39)).heap.size = w.heap.size + 2 by simp] at this

theorem RegS.drew {w W : World} {X Y : Array Value} (h : RegS w X Y W) : RegS w X Y W.drew := ⟨below_drawn h.1 1, h.2⟩

section
variable (w : World)
theorem mul_parts (k j : Nat) (g h : Bool) (A B : Option Addr) (n m c d : Nat) (l q : List Int) (hl : l.length = n) (hq : q.length = m) (hnk : n <= k) (hmj : m <= j) (hk : k <= 100000) (hj : j <= 100000) (hL : Big.Lim 1000000000 l) (hQ : Big.Lim 1000000000 q)
    (hA : LimbsAt .u32 w w.heap.size A l) (hB : LimbsAt .u32 w w.heap.size B q) :
    Calls Tryz.prog 27 #[.agg #[.bool g, .slice A n c], .agg #[.bool h, .slice B m d]] w fun e w' => (∃ u, e = .returned u /\ PI w' w'.heap.size (k + j) u (Big.sgn (g != h) (Big.val 1000000000 l * Big.val 1000000000 q))) /\ Below w.heap.size w w' := by
  have hS0 := RegS.start w #[.bool g, .slice A n c] #[.bool h, .slice B m d]
  obtain ⟨W1, hW1⟩ : ∃ W1, W1 = (((w.alloc (.cells #[.bool g, .slice A n c] 39)).alloc (.cells #[.bool h, .slice B m d] 39)).alloc (.cells #[.bool false, .slice none 0 0] 39)) := ⟨_, rfl⟩
  rw [<- hW1] at hS0
  have HW := Lib.hid hW1
  clear hW1
  go_enter Tryz.func27, Tryz.ntmps27
  go_upto_region 1 with (fail)
  rw [<- HW.out]
  have hS := hS0.drew
  refine wp_region_held (S := RegS w #[.bool g, .slice A n c] #[.bool h, .slice B m d]) (by kernel_rfl) ?_
  change wpAnyH _ _ _ _ _ _ _ _ (World.drew _)
  refine wpAnyH_take (i := 0) (v := .pointer (some ⟨w.heap.size, 0, none⟩)) rfl (by kernel_rfl) (by kernel_rfl) (by kernel_rfl) (fun _ _ _ h => h) (.inl ⟨by rfl, fun W' hS' => by go_simp⟩) hS ?_
  try simp only [Act.put, List.setIfInBounds_toArray, List.set_cons_zero, List.set_cons_succ]
  refine wpAnyH_take (i := 1) (v := .bool g) rfl (by kernel_rfl) (by kernel_rfl) (by kernel_rfl) (fun _ _ _ h => h) (.inl ⟨by rfl, fun W' hS' => by have hc := cell_of_row _ _ 0 _ _ _ hS'.2.1; simp at hc; go_simp⟩) hS ?_
  try simp only [Act.put, List.setIfInBounds_toArray, List.set_cons_zero, List.set_cons_succ]
  refine wpAnyH_take (i := 2) (v := .pointer (some ⟨w.heap.size + 1, 0, none⟩)) rfl (by kernel_rfl) (by kernel_rfl) (by kernel_rfl) (fun _ _ _ h => h) (.inl ⟨by rfl, fun W' hS' => by go_simp⟩) hS ?_
  try simp only [Act.put, List.setIfInBounds_toArray, List.set_cons_zero, List.set_cons_succ]
  refine wpAnyH_take (i := 3) (v := .bool h) rfl (by kernel_rfl) (by kernel_rfl) (by kernel_rfl) (fun _ _ _ h => h) (.inl ⟨by rfl, fun W' hS' => by have hc := cell_of_row _ _ 0 _ _ _ hS'.2.2.1; simp at hc; go_simp⟩) hS ?_
  try simp only [Act.put, List.setIfInBounds_toArray, List.set_cons_zero, List.set_cons_succ]
  refine wpAnyH_take (i := 4) (v := .bool (g != h)) rfl (by kernel_rfl) (by kernel_rfl) (by kernel_rfl) (fun _ _ _ h => h) (.inl ⟨by rfl, fun W' hS' => by go_simp; cases g <;> cases h <;> rfl⟩) hS ?_
  try simp only [Act.put, List.setIfInBounds_toArray, List.set_cons_zero, List.set_cons_succ]
  refine wpAnyH_take (i := 5) (v := .pointer (some ⟨w.heap.size, 1, none⟩)) rfl (by kernel_rfl) (by kernel_rfl) (by kernel_rfl) (fun _ _ _ h => h) (.inl ⟨by rfl, fun W' hS' => by go_simp⟩) hS ?_
  try simp only [Act.put, List.setIfInBounds_toArray, List.set_cons_zero, List.set_cons_succ]
  refine wpAnyH_take (i := 6) (v := .slice A n c) rfl (by kernel_rfl) (by kernel_rfl) (by kernel_rfl) (fun _ _ _ h => h) (.inl ⟨by rfl, fun W' hS' => by have hc := cell_of_row _ _ 1 _ _ _ hS'.2.1; simp at hc; go_simp⟩) hS ?_
  try simp only [Act.put, List.setIfInBounds_toArray, List.set_cons_zero, List.set_cons_succ]
  refine wpAnyH_take (i := 7) (v := .pointer (some ⟨w.heap.size + 1, 1, none⟩)) rfl (by kernel_rfl) (by kernel_rfl) (by kernel_rfl) (fun _ _ _ h => h) (.inl ⟨by rfl, fun W' hS' => by go_simp⟩) hS ?_
  try simp only [Act.put, List.setIfInBounds_toArray, List.set_cons_zero, List.set_cons_succ]
  refine wpAnyH_take (i := 8) (v := .slice B m d) rfl (by kernel_rfl) (by kernel_rfl) (by kernel_rfl) (fun _ _ _ h => h) (.inl ⟨by rfl, fun W' hS' => by have hc := cell_of_row _ _ 1 _ _ _ hS'.2.2.1; simp at hc; go_simp⟩) hS ?_
  try simp only [Act.put, List.setIfInBounds_toArray, List.set_cons_zero, List.set_cons_succ]
  refine wpAnyH_ready (rs := [9]) (by kernel_rfl) (by simp) (AllReadyH.cons rfl (fun K hK => ?_) AllReadyH.nil)
  go_simp
  refine (times_any W1.drew A B n m c d l q hl hq (by omega) (by omega) hL hQ (hA.at_ hS.1 (Nat.le_refl _)) (hB.at_ hS.1 (Nat.le_refl _))).mono ?_
  rintro e W4 ⟨hB4, A4, n4, c4, l4, rfl, hl4, hn4, hc4, hL4, hv4, hA4, hf4⟩
  have hS4 := hS.step hB4
  refine hK.out _ _ hS4 (fun _ => ?_)
  clear hK K
  try simp only [Act.put, List.setIfInBounds_toArray, List.set_cons_zero, List.set_cons_succ]
  have Hv4 := Lib.hid hv4
  have Hl4 := Lib.hid hl4
  clear hv4 hl4
  refine wpAnyH_ready (rs := [10]) (by kernel_rfl) (by simp) (AllReadyH.cons rfl (fun K hK => ?_) AllReadyH.nil)
  go_simp
  refine (signed_any W4 (g != h) A4 n4 c4 l4 Hl4.out (by omega) hc4 hA4).mono ?_
  rintro e W5 ⟨rfl, hB5⟩
  have hS5 := hS4.step hB5
  have hlt1 := hS.lt
  refine hK.out _ _ hS5 (fun _ => ?_)
  clear hK K
  try simp only [Act.put, List.setIfInBounds_toArray, List.set_cons_zero, List.set_cons_succ]
  refine wpAnyH_ready (rs := [11]) (by kernel_rfl) (by simp) (AllReadyH.cons rfl (fun K hK => ?_) AllReadyH.nil)
  rw [if_pos (by rfl)]
  obtain ⟨cs, hcs, hc2⟩ := hS5.2.2.2
  refine wp_store_row 39 _ _ none rfl rfl (w.heap.size + 2) 39 cs #[.bool ((g != h) && decide (0 < (Big.trim l4).length)), .slice A4 (Big.trim l4).length c4] rfl rfl hcs hc2 intSize (by simp [Value.oneCell']) ?_
  have hR6 := setRow_heap W5 (w.heap.size + 2) cs #[.bool ((g != h) && decide (0 < (Big.trim l4).length)), .slice A4 (Big.trim l4).length c4] _ _ hcs
  have hS6 := hS5.store #[.bool ((g != h) && decide (0 < (Big.trim l4).length)), .slice A4 (Big.trim l4).length c4] rfl
  refine hK.out _ _ hS6 (fun _ => ?_)
  clear hK K
  try simp only [Act.put, List.setIfInBounds_toArray, List.set_cons_zero, List.set_cons_succ]
  refine wpAnyH_done (by kernel_rfl) ?_ _
  have hA6 := (hA4.at_ hB5 (Nat.le_refl _)).other (w' := W5.setRow (w.heap.size + 2) #[.bool ((g != h) && decide (0 < (Big.trim l4).length)), .slice A4 (Big.trim l4).length c4]) (fun b o e => setRow_other _ _ _ _ (by have := hf4 b o e; omega))
  have HP := Lib.hid ((PI.mk (neg := (g != h)) Hl4.out hn4 hc4 hL4 hA6).more (C := (W5.setRow (w.heap.size + 2) #[.bool ((g != h) && decide (0 < (Big.trim l4).length)), .slice A4 (Big.trim l4).length c4]).heap.size) (j := k + j) (by simp) (by omega))
  have hload := run_loadVar_row (P := Tryz.prog) _ _ _ 39 _ _ _ hR6 Tryz.underlying39 rfl intSize
  clear hA6
  go_wp2
  refine bodyPost_ret (v := .agg #[.bool ((g != h) && decide (0 < (Big.trim l4).length)), .slice A4 (Big.trim l4).length c4]) (by simp [results, Tryz.results27, asAddr, hload]) rfl ⟨⟨_, rfl, ?_⟩, hS6.1⟩
  have := HP.out
  rwa [Hv4.out] at this

theorem mul_int (k j : Nat) (u v : Value) (x y : Int) (hk : k <= 100000) (hj : j <= 100000) (hu : PI w w.heap.size k u x) (hv : PI w w.heap.size j v y) :
    Calls Tryz.prog 27 #[u, v] w fun e w' => (∃ r, e = .returned r /\ PI w' w'.heap.size (k + j) r (x * y)) /\ Below w.heap.size w w' := by
  obtain ⟨g, A, n, c, l, rfl, hl, hn, hc, hL, hN, hx, hA, _⟩ := hu.parts
  obtain ⟨h, B, m, d, q, rfl, hq, hm, hd, hQ, hM, hy, hB, _⟩ := hv.parts
  have e : x * y = Big.sgn (g != h) (Big.val 1000000000 l * Big.val 1000000000 q) := by
    rw [hx, hy]; cases g <;> cases h <;> simp [Big.sgn, Int.neg_mul, Int.mul_neg]
  rw [e]
  exact mul_parts w k j g h A B n m c d l q hl hq hn hm hk hj hL hQ hA hB
end

theorem short_step {B d r x V R n : Int} (h : V = d * R + r) (hn : n = r * B + x) : x + B * V = d * (n / d + B * R) + n % d := by
  have h1 := Int.emod_add_mul_ediv n d
  rw [h, Int.mul_add, Int.mul_add]
  have h2 : B * (d * R) = d * (B * R) := Int.mul_left_comm _ _ _
  have h3 : B * r = r * B := Int.mul_comm _ _
  omega
theorem short_bd {d r x n : Int} (hd : 1 <= d) (h0 : 0 <= r) (h1 : r < d) (x0 : 0 <= x) (x1 : x < 1000000000) (hn : n = r * 1000000000 + x) : 0 <= n /\ 0 <= n / d /\ n / d < 1000000000 /\ 0 <= n % d /\ n % d < d := by
  have hn0 : 0 <= n := by omega
  refine ⟨hn0, Int.ediv_nonneg hn0 (by omega), Int.ediv_lt_of_lt_mul (by omega) (by omega), Int.emod_nonneg _ (by omega), Int.emod_lt_of_pos _ (by omega)⟩

def Away (Bk n : Nat) (A : Option Addr) (l : List Int) : Prop := l = [] ∨ ∀ b o, A = some ⟨b, o, none⟩ -> b < Bk ∨ n <= b

section
variable (w : World)
theorem short_any (A : Option Addr) (n c : Nat) (p : List Int) (d : Int) (hl : p.length = n) (hn : n <= 1000000) (hd0 : 1 <= d) (hd1 : d < 1000000000) (hL : Big.Lim 1000000000 p) (hA : LimbsAt .u32 w w.heap.size A p) :
    Calls Tryz.prog 99 #[.slice A n c, .int .u32 d] w fun e w' => Below w.heap.size w w' /\ ∃ (g g' : Nat) (R : List Int) (r : Int),
      e = .returned (.tuple #[.slice (some ⟨g, 0, none⟩) n n, .slice (some ⟨g', 0, none⟩) 1 1]) /\ R.length = n /\ Big.Lim 1000000000 R /\ Big.val 1000000000 p = d * Big.val 1000000000 R + r /\ 0 <= r /\ r < d /\
      LimbsAt .u32 w' w'.heap.size (some ⟨g, 0, none⟩) R /\ LimbsAt .u32 w' w'.heap.size (some ⟨g', 0, none⟩) [r] /\ w.heap.size <= g /\ w.heap.size <= g' := by
  subst hl
  obtain ⟨i0, hi, hz0, hz1, hz2⟩ := info_parts uinfo
  have Hnp : p.length <= p.length := Nat.le_refl _
  have Hb2 : p.length <= 10000000 := by omega
  go_enter Tryz.func99, Tryz.ntmps99
  go_upto_region 2 with (refine wpList_make_arr rfl _ _ 37 rfl .u32 94 i0 4 Tryz.underlying37 hi hz0 hz1 hz2 _ _ _ _ p.length p.length rfl rfl rfl rfl Hnp (by decide) Hb2 ?_; intro w1 hw1)
  have hB1 : Below w.heap.size w w1 := by rw [hw1.out]; exact (Below.refl _ _).alloc (Nat.le_refl _) _
  have hArr : Arr .u32 94 w1 w.heap.size (List.replicate p.length 0) := by
    unfold Arr; rw [hw1.out]; exact heap_alloc_new w _
  have HL := Lib.hid hL
  clear hw1 hL
  go_wp2
  go_loopw [7, 8] (fun cr ix wr => ∃ (k : Nat) (R : List Int) (r : Int), k <= p.length /\ ix = .int .i64 ((k : Int) - 1) /\ cr = .int .u64 r /\ 0 <= r /\ r < d /\ R.length + k = p.length /\ Big.Lim 1000000000 R /\
    Big.val 1000000000 (p.drop k) = d * Big.val 1000000000 R + r /\ Arr .u32 94 wr w.heap.size (List.replicate k 0 ++ R) /\ Below w.heap.size w wr) (fun _ ix _ => (intOf ix + 1).toNat)
  case atStart => exact ⟨p.length, [], 0, Nat.le_refl _, rfl, rfl, by omega, by omega, by simp, Big.Lim.nil, by simp [Big.val], by simpa using hArr, hB1⟩
  case round =>
    obtain ⟨k, R, r, hk, rfl, rfl, hr0, hr1, hRl, hRL, hv, ha, hb⟩ := hrel
    have HRl := Lib.hid hRl
    have HRL := Lib.hid hRL
    have Hv := Lib.hid hv
    have Ha := Lib.hid ha
    have hgr : w.heap.size < wr.heap.size := ha.lt
    clear hRl hRL hv ha hArr
    match k, hk with
    | 0, _ =>
      have hR := Ha.out
      rw [List.replicate_zero, List.nil_append] at hR
      have Hlim := Lib.hid ((hR.alloc (.cells #[.int .u32 r] 94)).limbs (B := (wr.alloc (.cells #[.int .u32 r] 94)).heap.size) (by simp; omega))
      have hr1' : r < 4294967296 := by omega
      have Hr : Hid (LimbsAt .u32 (wr.alloc (.cells #[.int .u32 r] 94)) (wr.alloc (.cells #[.int .u32 r] 94)).heap.size (some ⟨wr.heap.size, 0, none⟩) [r]) := by
        show LimbsAt _ _ _ _ _
        exact Arr.limbs (e := 94) (F := [r]) (heap_alloc_new wr (.cells #[.int .u32 r] 94)) (by simp)
      clear hR
      go_wp2
      go_ret2
      exact ⟨hb.alloc hb.size _, w.heap.size, wr.heap.size, R, r, rfl, by have := HRl.out; omega, HRL.out, by have := Hv.out; rwa [List.drop_zero] at this, hr0, hr1, Hlim.out, Hr.out, Nat.le_refl _, hb.size⟩
    | k + 1, hk =>
      rw [show ((k + 1 : Nat) : Int) - 1 = (k : Int) by omega]
      have hkl : k < p.length := by omega
      obtain ⟨b, o, rfl, hbB, hx⟩ := (hA.below hb (Nat.le_refl _)).look hkl
      have hxl := HL.out.get k hkl
      have hx0 := hxl.1
      have hx1 := hxl.2
      have hbwr : b < wr.heap.size := by omega
      obtain ⟨n0, n1, n2, n3, n4⟩ := short_bd hd0 hr0 hr1 hx0 hx1 rfl
      have hFl : k < (List.replicate (k + 1) (0 : Int) ++ R).length := by simp; omega
      have hcell : wr.cell? ⟨w.heap.size, k, none⟩ = some (.int .u32 0) := by
        rw [Ha.out.cell hFl]
        congr 2
        rw [List.getElem_append_left (by simp)]; simp
      have hfz := Ha.out.free k
      clear hxl hFl
      go_wp2
      go_roundw
      case rel =>
        refine ⟨k, ((r * 1000000000 + p[k]) / d) :: R, (r * 1000000000 + p[k]) % d, by omega, by go_num, rfl, n3, n4, by have := HRl.out; simp; omega, Big.Lim.cons.2 ⟨⟨n1, n2⟩, HRL.out⟩, ?_, ?_, hb.setCell (Nat.le_refl _) _⟩
        · rw [Big.val_drop _ _ _ hkl, Big.val_cons]
          exact short_step Hv.out rfl
        · have := Ha.out.set k ((r * 1000000000 + p[k]) / d)
          rwa [show (List.replicate (k + 1) (0 : Int) ++ R).set k ((r * 1000000000 + p[k]) / d) = List.replicate k 0 ++ ((r * 1000000000 + p[k]) / d) :: R by
            rw [List.replicate_succ', List.append_assoc, List.set_append_right _ _ (by simp)]; simp] at this
      case measure => simp [intOf]

def DivPost (A : Option Addr) (p : List Int) (n m : Nat) (a b : Int) (w : World) (e : Ending) (w' : World) : Prop :=
  Below w.heap.size w w' /\ ∃ (A1 : Option Addr) (n1 c1 : Nat) (Q : List Int) (A2 : Option Addr) (n2 c2 : Nat) (R : List Int), e = .returned (.tuple #[.slice A1 n1 c1, .slice A2 n2 c2]) /\ Q.length = n1 /\ R.length = n2 /\ n1 <= n /\ n2 <= m /\ n1 <= c1 /\ n2 <= c2 /\
    Big.Lim 1000000000 Q /\ Big.Lim 1000000000 R /\ a = b * Big.val 1000000000 Q + Big.val 1000000000 R /\ 0 <= Big.val 1000000000 R /\ Big.val 1000000000 R < b /\
    LimbsAt .u32 w' w'.heap.size A1 Q /\ LimbsAt .u32 w' w'.heap.size A2 R /\ (∀ b o, A1 = some ⟨b, o, none⟩ -> w.heap.size <= b) /\ ((A2 = A /\ R = p) ∨ ∀ b o, A2 = some ⟨b, o, none⟩ -> w.heap.size <= b)

theorem divide_any (A B : Option Addr) (n m c d : Nat) (p q : List Int) (hl : p.length = n) (hq : q.length = m) (hn : n <= 1000000) (hm : m <= 1000000) (hc : n <= c) (hm0 : 0 < m) (hL : Big.Lim 1000000000 p) (hQ : Big.Lim 1000000000 q) (hNp : Big.Norm p) (hNq : Big.Norm q)
    (hone : m = 1 ∨ Big.val 1000000000 p < Big.val 1000000000 q) (hA' : LimbsAt .u32 w w.heap.size A p) (hB' : LimbsAt .u32 w w.heap.size B q) :
    Calls Tryz.prog 82 #[.slice A n c, .slice B m d] w (DivPost A p n m (Big.val 1000000000 p) (Big.val 1000000000 q) w) := by
  have hvp := Big.val_nonneg (B := 1000000000) (by omega) hL
  by_cases hlt : Big.val 1000000000 p < Big.val 1000000000 q
  · have hcm : cm (Big.val 1000000000 p) (Big.val 1000000000 q) = -1 := by unfold cm; rw [if_pos hlt]
    have hnm : n <= m := by
      rcases Nat.lt_or_ge m n with h | h
      · have := Big.longer_lt (B := 1000000000) (by omega) hQ hL hNp (by omega); omega
      · exact h
    have Hcm := Lib.hid hcm
    have Hlt := Lib.hid hlt
    clear hcm hlt
    go_enter Tryz.func82, Tryz.ntmps82
    go_wp2_with (fail)
    refine (compare_any w A B n m c d p q hl hq hn hm hL hQ hNp hNq hA' hB').mono ?_
    rw [Hcm.out]
    rintro e w1 ⟨rfl, hB1⟩
    go_wp2
    go_ret2
    exact ⟨hB1, none, 0, 0, [], A, n, c, p, rfl, rfl, hl, by omega, hnm, by omega, hc, Big.Lim.nil, hL, by simp [Big.val], hvp, Hlt.out, .inl rfl, hA'.at_ hB1 (Nat.le_refl _), fun b o e => (by cases e), .inl ⟨rfl, rfl⟩⟩
  · have h1 : m = 1 := by rcases hone with h | h; exact h; exact absurd h hlt
    have hcm : 0 <= cm (Big.val 1000000000 p) (Big.val 1000000000 q) := by unfold cm; rw [if_neg hlt]; split <;> omega
    obtain ⟨z, hz⟩ : ∃ z, cm (Big.val 1000000000 p) (Big.val 1000000000 q) = z := ⟨_, rfl⟩
    rw [hz] at hcm
    have Hz := Lib.hid hz
    match q, hq with
    | [], hq => simp at hq; omega
    | x :: y :: t, hq => simp at hq; omega
    | [x], hq =>
      have hx := (Big.Lim.cons.1 hQ).1
      have hx0 : x ≠ 0 := by have := hNq (by simp); simpa using this
      obtain ⟨b, o, rfl, hbB, hxc⟩ := hB'.look (k := 0) (by simp)
      simp at hxc
      have HBe : Hid (Big.val 1000000000 [x] = x) := Lib.hid (Big.val_one _ _)
      have x0 : 1 <= x := by omega
      have x1 := hx.2
      subst h1
      clear hz hlt hx hx0
      go_enter Tryz.func82, Tryz.ntmps82
      go_wp2_with (fail)
      refine (compare_any w A _ n 1 c d p [x] hl rfl hn (by omega) hL hQ hNp hNq hA' hB').mono ?_
      rw [Hz.out]
      rintro e w1 ⟨rfl, hB1⟩
      obtain ⟨hc1, hf1⟩ := bcell hB1
      have hq1 := hB1.size
      have hbw1 : b < w1.heap.size := by omega
      go_wp2_with (fail)
      refine (short_any w1 A n c p x hl hn x0 x1 hL (hA'.at_ hB1 (Nat.le_refl _))).mono ?_
      rintro e w2 ⟨hB2, g, g', R, r, rfl, hRl, hRL, hRv, r0, r1, hR1, hR2, hg, hg'⟩
      have HRv := Lib.hid hRv
      have HRl := Lib.hid hRl
      clear hRv hRl hc1 hf1
      go_wp2
      go_ret2
      refine ⟨hB1.trans (hB2.mono hB1.size), _, n, n, R, _, 1, 1, [r], rfl, HRl.out, rfl, Nat.le_refl _, Nat.le_refl _, Nat.le_refl _, Nat.le_refl _, hRL, Big.Lim.cons.2 ⟨⟨r0, by omega⟩, Big.Lim.nil⟩, by rw [HBe.out, Big.val_one]; exact HRv.out, by rw [Big.val_one]; exact r0, by rw [HBe.out, Big.val_one]; exact r1, hR1, hR2, ?_, ?_⟩
      · exact fun b' o' e' => by cases e'; omega
      · exact .inr fun b' o' e' => by cases e'; omega
end
end Go.Proofs.YtalfikdjclineaaGreatDoor
