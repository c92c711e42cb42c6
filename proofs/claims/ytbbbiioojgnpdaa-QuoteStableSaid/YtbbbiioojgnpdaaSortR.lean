/- slices.SortedFunc over the iterator of quote: the selected rates in ascending order of their dates. -/
import Derived.Test.YtbbbiioojgnpdaaRefDays
import Derived.Test.YtbbbiioojgnpdaaShelf
namespace Go.Proofs.Ytbbbiioojgnpdaa
open Go.RowKit Go.Shelf Go.Lib Go.Sort

instance : Inhabited Rt := ⟨Rt.zero⟩
def cmpR (x y : Rt) : Int := Lib.compareInt x.when_ y.when_
theorem ltR (x y : Rt) : ltOf cmpR x y = decide (x.when_ < y.when_) := by
  unfold ltOf cmpR Lib.compareInt
  by_cases h1 : x.when_ < y.when_
  · simp [h1]
  · by_cases h2 : y.when_ < x.when_ <;> simp [h1, h2]
theorem swoR : SWO (ltOf cmpR) where
  irrefl x := by rw [ltR]; simp
  trans x y z h1 h2 := by rw [ltR] at *; simp at *; omega
  ntrans x y z h1 h2 := by rw [ltR] at *; simp at *; omega

theorem cmp_any (x y : Rt) (W : World) : Calls Try.prog 32 #[.agg #[.string x.cur, .int .i64 x.kind, .int .i64 x.when_, .int .i64 x.val], .agg #[.string y.cur, .int .i64 y.kind, .int .i64 y.when_, .int .i64 y.val]] W fun e w' =>
    e = .returned (.int .i64 (cmpR x y)) ∧ ∃ q os', w' = grow (W.drewN q) os' := by
  have hcon := fun W' => AnyG.cmp_Compare_int Try.cmpInt x.when_ y.when_ W'
  change ∀ W', Calls Try.prog 33 _ _ _ at hcon
  unfold cmpR
  generalize Lib.compareInt x.when_ y.when_ = r at hcon ⊢
  go_enter Try.func32, Try.ntmps32
  go_wp2_with (go_at_call 33; refine (hcon _).mono ?_; rintro e w' ⟨rfl, rfl⟩)
  go_ret
  exact ⟨rfl, 0, _, by rw [alloc_eq_grow, alloc_eq_grow, grow_grow]; rfl⟩
theorem cmpLays (blk off size : Nat) (w : World) : CmpLays Try.prog 32 #[] Rt.cells 4 cmpR blk off size w :=
  fun _ _ _ _ x y => cmp_any x y _

theorem below_sorted (w : World) (blk off n : Nat) (d : Array Rt) (os : Array Obj) (B : Nat) (hB : B ≤ blk) (hw : B ≤ w.heap.size) : RowKit.Below B w (sortWorldK Rt.cells 4 w blk off n d os) := by
  refine ⟨rfl, rfl, rfl, size_sortWorldK_c Rt.cells 4 w blk off n d os, fun k hk => ?_⟩
  show (w.heap.modify blk _ ++ os)[k]? = w.heap[k]?
  rw [Array.getElem?_append_left (by simp; omega), Array.getElem?_modify, if_neg (by omega)]

theorem rowOf_get (l : List Rt) (i c : Nat) (hi : i < l.length) (hc : c < 4) : (rowOf l)[i * 4 + c]? = (Rt.cells l[i])[c]? := by
  induction l generalizing i with
  | nil => simp at hi
  | cons r l ih =>
    have e : rowOf (r :: l) = r.cells ++ rowOf l := by simp [rowOf]
    rw [e]
    cases i with
    | zero =>
      rw [List.getElem?_append_left (by simp [Rt.cells]; omega)]; simp
    | succ i =>
      rw [List.getElem?_append_right (by simp [Rt.cells]; omega)]
      have := ih i (by simpa using hi)
      rw [show (i + 1) * 4 + c - r.cells.length = i * 4 + c by simp [Rt.cells]; omega, this]; simp
theorem flat_get (l : List Rt) (t : Nat) (h : t < l.length * 4) : (rowOf l)[t]? = some ((flatK Rt.cells 4 l.toArray)[t]!) := by
  have hd : t / 4 < l.length := by omega
  have hm : t % 4 < 4 := Nat.mod_lt _ (by omega)
  rw [get_flatK _ _ _ _ (by simpa using h)]
  have e : t = t / 4 * 4 + t % 4 := by omega
  conv => lhs; rw [e]
  rw [rowOf_get l (t / 4) (t % 4) hd hm]
  have e2 : l.toArray[t / 4]! = l[t / 4] := by simp [hd]
  rw [e2]
  have hlen : (Rt.cells l[t / 4]).length = 4 := rfl
  rw [List.getElem?_eq_getElem (by omega), getElem!_pos _ _ (by omega)]
theorem holds_own {W : World} {base g n cap : Nat} {l : List Rt} (h : W.ownsRow base 39 4 (.slice (some ⟨g, 0, none⟩) n cap) n (rowOf l)) (hn : n = l.length) : HoldsK Rt.cells 4 W g 0 l.toArray := by
  subst hn
  rcases h.2 with ⟨e, _⟩ | ⟨g', cap', cur, e, _, hg, hle, _, hsz, htk⟩
  · cases e
  · simp only [Value.slice.injEq, Option.some.injEq, Addr.mk.injEq, and_true, true_and] at e
    obtain ⟨rfl, rfl⟩ := e
    intro j hj
    have hj' : j < l.length * 4 := by simpa using hj
    refine ⟨?_, ?_⟩
    · rw [Nat.zero_add, cell_of_row _ _ _ _ _ _ hg, id]
      have hf := flat_get l j hj'
      rw [← htk, List.getElem?_take, if_pos hj'] at hf
      simpa using hf
    · rw [Nat.zero_add]; exact frozen_of_row _ _ _ _ _ hg
theorem ratesAt_holds {W : World} {g B : Nat} {l : List Rt} (h : HoldsK Rt.cells 4 W g 0 l.toArray) (hB : g < B) : RatesAt W B (some ⟨g, 0, none⟩) l := by
  refine .inr ⟨g, 0, rfl, hB, fun k hk => ?_⟩
  have hc : ∀ c, c < 4 → W.cell? ⟨g, 0 + k * 4 + c, none⟩ = (Rt.cells l[k])[c]? := fun c hc => by
    have h1 := (h (k * 4 + c) (by simp; omega)).1
    rw [Nat.zero_add] at h1 ⊢
    rw [h1, id, ← flat_get l (k * 4 + c) (by omega), rowOf_get l k c hk hc]
  exact ⟨hc 0 (by omega), hc 1 (by omega), hc 2 (by omega), hc 3 (by omega)⟩

/-- What the sort leaves, as lists. -/
theorem sorted_list (l : List Rt) (d : Array Rt) (hp : PermIn 0 l.toArray.size l.toArray d) (hs : SortedIn (ltOf cmpR) 0 l.toArray.size d) : d.toList.Perm l ∧ d.toList.Pairwise (fun x y => x.when_ ≤ y.when_) := by
  obtain ⟨h1, _, h3⟩ := hp
  have e1 : d.extract 0 l.toArray.size = d := by rw [← h1]; simp
  have e2 : l.toArray.extract 0 l.toArray.size = l.toArray := by simp
  rw [e1, e2] at h3
  refine ⟨by simpa using h3, ?_⟩
  rw [List.pairwise_iff_getElem]
  intro i j hi hj hij
  have hi' : i < d.size := by simpa using hi
  have hj' : j < d.size := by simpa using hj
  have := hs i j (Nat.zero_le _) hij (by omega)
  rw [ltR, getElem!_pos d i hi', getElem!_pos d j hj'] at this
  simp only [decide_eq_false_iff_not] at this
  simp only [Array.getElem_toList]
  exact Int.not_lt.1 this

theorem isAggR : ∀ w, (isAgg 39).run Try.prog w = .ok true w := fun w => by kernel_rfl
theorem sizeOfR : ∀ w, (Go.sizeOf 39).run Try.prog w = .ok 4 w := fun w => by kernel_rfl

section
variable (w : World)
set_option maxHeartbeats 1000000 in
theorem sortFunc_any (base g cap : Nat) (l : List Rt) (hl : l.length ≤ 1000) (h : w.ownsRow base 39 4 (.slice (some ⟨g, 0, none⟩) l.length cap) l.length (rowOf l)) (hb : base ≤ g) :
    Calls Try.prog 53 #[.slice (some ⟨g, 0, none⟩) l.length cap, .func (.func 32) #[] #[]] w fun e w' =>
      e = .returned (.tuple #[]) ∧ RowKit.Below (min base w.heap.size) w w' ∧ ∃ s : List Rt, s.Perm l ∧ s.Pairwise (fun x y => x.when_ ≤ y.when_) ∧ RatesAt w' w'.heap.size (some ⟨g, 0, none⟩) s := by
  have hH := holds_own h rfl
  have hg : g < w.heap.size := by
    rcases h.2 with ⟨e, _⟩ | ⟨g', cap', cur, e, _, hg, _⟩
    · cases e
    · simp only [Value.slice.injEq, Option.some.injEq, Addr.mk.injEq, and_true, true_and] at e
      rw [e.1]; exact (Array.getElem?_eq_some_iff.1 hg).1
  have hcon := AnyQ.slices_SortFunc Try.sortRt 4 isAggR sizeOfR Rt.cells (fun _ => rfl) (fun x v hv => by simp [Rt.cells] at hv; rcases hv with rfl | rfl | rfl | rfl <;> rfl) cmpR swoR 32 #[] g 0 cap l.toArray w
    (enters_of Try.func32 (by kernel_rfl) rfl) (cmpLays g 0 _ w) hH hg (by simp; omega)
  change Calls Try.prog 53 _ _ _ at hcon
  have hsz : l.toArray.size = l.length := by simp
  rw [hsz] at hcon
  refine hcon.mono ?_
  rintro e w' ⟨rfl, d, n, os, hp, hs, rfl⟩
  obtain ⟨p1, p2⟩ := sorted_list l d (by rw [hsz]; exact hp) (by rw [hsz]; exact hs)
  refine ⟨rfl, below_sorted w g 0 n d os _ (by omega) (by omega), d.toList, p1, p2, ?_⟩
  have hH2 := holdsK_sortWorldK_c Rt.cells 4 w g 0 l.toArray d n os hH hg (by simpa using hp.1)
  exact ratesAt_holds (by simpa using hH2) (Nat.lt_of_lt_of_le hg (size_sortWorldK_c Rt.cells 4 w g 0 n d os))

/-! ### No element -/
theorem insertion_none : Calls Try.prog 74 #[.slice none 0 0, .int .i64 0, .int .i64 0, .func (.func 32) #[] #[]] w fun e w' => e = .returned (.tuple #[]) ∧ w = w' := by
  go_enter Try.func74, Try.ntmps74
  go_wp2
  go_loop [8] (fun i => i = .int .i64 1) (fun _ => 0)
  case atStart => rfl
  case round =>
    obtain rfl := hrel
    go_wp2
    go_end0
    exact ⟨rfl, rfl⟩
set_option maxRecDepth 100000 in
theorem pdq_none (lim : Int) : Calls Try.prog 68 #[.slice none 0 0, .int .i64 0, .int .i64 0, .int .i64 lim, .func (.func 32) #[] #[]] w fun e w' => e = .returned (.tuple #[]) ∧ w = w' := by
  go_enter Try.func68, Try.ntmps68
  go_wp2
  go_loop [1, 2] (fun a b => a = .int .i64 0 ∧ b = .int .i64 0) (fun _ _ => 0)
  case atStart => exact ⟨rfl, rfl⟩
  case round =>
    obtain ⟨rfl, rfl⟩ := hrel
    go_wp2_with (go_at_call 74; refine (insertion_none _).mono ?_; rintro e w' ⟨rfl, rfl⟩)
    first | go_end0 | refine bodyPost_ret (results_none rfl _ _ _) rfl ?_
    exact ⟨rfl, rfl⟩
theorem bitsLen0 : Calls Try.prog 69 #[.int .u64 0] w fun e w' => e = .returned (.int .i64 0) ∧ w = w' := by
  have h := Any.bits_Len Try.bitsLen 0 w (by omega) (by omega)
  change Calls Try.prog 69 _ _ _ at h
  exact h.mono fun e w' ⟨he, hw⟩ => ⟨he, hw.symm⟩
theorem sortFunc_none : Calls Try.prog 53 #[.slice none 0 0, .func (.func 32) #[] #[]] w fun e w' => e = .returned (.tuple #[]) ∧ w = w' := by
  go_enter Try.func53, Try.ntmps53
  go_wp2_with (first | (go_at_call 69; refine (bitsLen0 _).mono ?_; rintro e w' ⟨rfl, rfl⟩) | (go_at_call 68; refine (pdq_none _ _).mono ?_; rintro e w' ⟨rfl, rfl⟩))
  go_end0
  exact ⟨rfl, rfl⟩

/-- slices.SortedFunc over spots: the selected rates, sorted. -/
theorem sortedFunc_any (B : Nat) (A : Option Addr) (n c : Nat) (rs : List Rt) (cur : ByteArray) (a b : Int) (hl : rs.length = n) (hn : n ≤ 1000) (hB : B + 3 < w.heap.size)
    (c0 : w.cell? ⟨B, 0, none⟩ = some (.slice A n c)) (c1 : w.cell? ⟨B + 1, 0, none⟩ = some (.string cur)) (c2 : w.cell? ⟨B + 2, 0, none⟩ = some (.int .i64 a)) (c3 : w.cell? ⟨B + 3, 0, none⟩ = some (.int .i64 b)) (h : RatesAt w w.heap.size A rs) :
    Calls Try.prog 31 #[.func (.func 46) #[] #[.pointer (some ⟨B, 0, none⟩), .pointer (some ⟨B + 1, 0, none⟩), .pointer (some ⟨B + 2, 0, none⟩), .pointer (some ⟨B + 3, 0, none⟩)], .func (.func 32) #[] #[]] w fun e w' =>
      RowKit.Below w.heap.size w w' ∧ ∃ (A' : Option Addr) (c' : Nat) (s : List Rt), e = .returned (.slice A' s.length c') ∧ s.Perm (rs.filter (Rates.sel cur a b)) ∧ s.Pairwise (fun x y => x.when_ ≤ y.when_) ∧ RatesAt w' w'.heap.size A' s := by
  have H := Lib.hid (collect_any w B A n c rs cur a b hl hn hB c0 c1 c2 c3 h)
  clear c0 c1 c2 c3 h
  have hlen : (rs.filter (Rates.sel cur a b)).length ≤ 1000 := Nat.le_trans (List.length_filter_le _ _) (by omega)
  obtain ⟨l, hle⟩ : ∃ l, rs.filter (Rates.sel cur a b) = l := ⟨_, rfl⟩
  rw [hle] at H hlen ⊢
  clear hle
  go_enter Try.func31, Try.ntmps31
  go_wp2_with (fail)
  refine H.out.mono ?_
  rintro e w1 ⟨v, rfl, ho, hB1⟩
  have hcases : (v = .slice none 0 0 ∧ l = []) ∨ ∃ g cap, v = .slice (some ⟨g, 0, none⟩) l.length cap ∧ w.heap.size ≤ g := by
    rcases ho.2 with ⟨e, h0⟩ | ⟨g, cap, cur', e, hb, _⟩
    · exact .inl ⟨e, List.length_eq_zero_iff.1 h0⟩
    · exact .inr ⟨g, cap, e, hb⟩
  rcases hcases with ⟨rfl, rfl⟩ | ⟨g, cap, rfl, hb⟩
  · go_wp2_with (go_at_call 53; refine (sortFunc_none _).mono ?_; rintro e w' ⟨rfl, rfl⟩)
    go_ret
    exact ⟨hB1, none, 0, [], rfl, List.Perm.refl _, List.Pairwise.nil, .inl rfl⟩
  · have Ho := Lib.hid ho
    clear ho
    go_wp2_with (fail)
    refine (sortFunc_any _ _ g cap l hlen Ho.out hb).mono ?_
    rintro e w2 ⟨rfl, hB2, s, p1, p2, p3⟩
    have hsl := Lib.hid p1.length_eq
    go_wp2
    go_ret
    exact ⟨hB1.trans (hB2.mono (by have := hB1.size; omega)), _, cap, s, by rw [hsl.out]; rfl, p1, p2, p3⟩
end
end Go.Proofs.Ytbbbiioojgnpdaa
