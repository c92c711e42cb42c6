/- My texts QuotePlain, RefQuote. -/
import Derived.Test.YtalfikdjclineaaGreatDoorG10
import Derived.Test.YtalfikdjclineaaGreatDoorG14
import Derived.Test.YtalfikdjclineaaGreatDoorG16
set_option linter.unusedVariables false
set_option linter.unusedSimpArgs false
set_option maxRecDepth 100000
set_option maxHeartbeats 8000000
namespace Go.Proofs.YtalfikdjclineaaGreatDoor
namespace Rates

def sel (c : ByteArray) (a b : Int) (r : Rt) : Bool := r.cur.toList == c.toList && r.kind == 1 && decide (a <= r.when_) && decide (r.when_ <= b)
theorem sel_iff (c : ByteArray) (a b : Int) (r : Rt) : sel c a b r = true ↔ (r.at_ c 1 r.when_ = true /\ a <= r.when_ /\ r.when_ <= b) := by
  unfold sel Rt.at_; simp [and_assoc]
theorem at_when {c : ByteArray} {k d : Int} {r : Rt} (h : r.at_ c k d = true) : r.when_ = d := ((Rt.at_iff r c k d).1 h).2.2
theorem at_eq {c : ByteArray} {k d : Int} {r : Rt} (h : r.at_ c k d = true) : r = ⟨c, k, d, r.val⟩ := by
  obtain ⟨h1, h2, h3⟩ := (Rt.at_iff r c k d).1 h
  obtain ⟨a, b, e, f⟩ := r
  simp only at h1 h2 h3
  rw [Rt.toList_inj h1, h2, h3]

def see (acc : Option Rt) (r : Rt) : Option Rt :=
  match acc with
  | none => some r
  | some x => if x.when_ < r.when_ then some r else some x
def which (l : List Rt) (c : ByteArray) (d : Int) : Option Rt := (l.filter (sel c (d - 40) d)).foldl see none
def back (l : List Rt) (c : ByteArray) (d : Int) : Nat -> Option Rt
  | 0 => none
  | k + 1 => match find l c 1 d with
    | some v => some ⟨c, 1, d, v⟩
    | none => back l c (d - 1) k

theorem back_none (l : List Rt) (c : ByteArray) : ∀ (k : Nat) (d : Int), back l c d k = none ↔ ∀ j : Nat, j < k -> find l c 1 (d - j) = none
  | 0, d => by simp [back]
  | k + 1, d => by
    unfold back
    cases hf : find l c 1 d with
    | some v =>
      simp only [reduceCtorEq, false_iff]
      intro h; have := h 0 (by omega); simp [hf] at this
    | none =>
      simp only
      rw [back_none l c k (d - 1)]
      constructor
      · intro h j hj
        cases j with
        | zero => simpa using hf
        | succ j => have := h j (by omega); rwa [show d - 1 - (j : Int) = d - ((j + 1 : Nat) : Int) by omega] at this
      · intro h j hj
        have := h (j + 1) (by omega)
        rwa [show d - 1 - (j : Int) = d - ((j + 1 : Nat) : Int) by omega]
theorem back_some (l : List Rt) (c : ByteArray) (r : Rt) : ∀ (k : Nat) (d : Int), back l c d k = some r ↔ ∃ j : Nat, j < k /\ (∀ i : Nat, i < j -> find l c 1 (d - i) = none) /\ find l c 1 (d - j) = some r.val /\ r = ⟨c, 1, d - j, r.val⟩
  | 0, d => by simp [back]
  | k + 1, d => by
    unfold back
    cases hf : find l c 1 d with
    | some v =>
      simp only [Option.some.injEq]
      constructor
      · rintro rfl; exact ⟨0, by omega, by simp, by simpa using hf, by simp⟩
      · rintro ⟨j, hj, hno, hv, e⟩
        cases j with
        | zero =>
          simp only [Int.natCast_zero, Int.sub_zero] at hv e
          rw [hf] at hv
          simp only [Option.some.injEq] at hv
          rw [e, hv]
        | succ j => have := hno 0 (by omega); simp [hf] at this
    | none =>
      simp only
      rw [back_some l c r k (d - 1)]
      constructor
      · rintro ⟨j, hj, hno, hv, e⟩
        refine ⟨j + 1, by omega, fun i hi => ?_, ?_, ?_⟩
        · cases i with
          | zero => simpa using hf
          | succ i => have := hno i (by omega); rwa [show d - 1 - (i : Int) = d - ((i + 1 : Nat) : Int) by omega] at this
        · rwa [show d - 1 - (j : Int) = d - ((j + 1 : Nat) : Int) by omega] at hv
        · rwa [show d - 1 - (j : Int) = d - ((j + 1 : Nat) : Int) by omega] at e
      · rintro ⟨j, hj, hno, hv, e⟩
        cases j with
        | zero => simp [hf] at hv
        | succ j =>
          refine ⟨j, by omega, fun i hi => ?_, ?_, ?_⟩
          · have := hno (i + 1) (by omega); rwa [show d - 1 - (i : Int) = d - ((i + 1 : Nat) : Int) by omega]
          · rwa [show d - 1 - (j : Int) = d - ((j + 1 : Nat) : Int) by omega]
          · rwa [show d - 1 - (j : Int) = d - ((j + 1 : Nat) : Int) by omega]

theorem find_none (l : List Rt) (c : ByteArray) (k d : Int) : find l c k d = none ↔ ∀ r ∈ l, r.at_ c k d = false := by
  unfold find; simp
theorem find_some (l : List Rt) (c : ByteArray) (k d v : Int) (h : find l c k d = some v) : ∃ r ∈ l, r.at_ c k d = true /\ r.val = v := by
  unfold find at h
  rw [Option.map_eq_some_iff] at h
  obtain ⟨r, hr, e⟩ := h
  exact ⟨r, List.mem_of_find?_eq_some hr, List.find?_some (p := fun r : Rt => r.at_ c k d) hr, e⟩

theorem snoc_ind {P : List Rt -> Prop} (h0 : P []) (hs : ∀ l r, P l -> P (l ++ [r])) (l : List Rt) : P l := by
  rw [<- List.reverse_reverse l]
  induction l.reverse with
  | nil => exact h0
  | cons a t ih => rw [List.reverse_cons]; exact hs _ _ ih

theorem which_spec (c : ByteArray) (a b : Int) : ∀ (l : List Rt),
    ((l.filter (sel c a b)).foldl see none = none /\ ∀ r ∈ l, sel c a b r = false) ∨
    ∃ x, (l.filter (sel c a b)).foldl see none = some x /\ sel c a b x = true /\ (∀ r ∈ l, sel c a b r = true -> r.when_ <= x.when_) /\ find l c 1 x.when_ = some x.val := by
  refine snoc_ind ?_ ?_
  · left; simp
  · intro l r ih
    rw [List.filter_append, List.foldl_append]
    by_cases hr : sel c a b r = true
    · rw [List.filter_cons_of_pos hr, List.filter_nil]
      obtain ⟨hat, ha, hb⟩ := (sel_iff c a b r).1 hr
      right
      rcases ih with ⟨h0, hn⟩ | ⟨x, h0, hx, hm, hf⟩
      · refine ⟨r, by rw [h0]; rfl, hr, ?_, ?_⟩
        · intro y hy hys
          rw [List.mem_append, List.mem_singleton] at hy
          rcases hy with hy | rfl
          · rw [hn y hy] at hys; cases hys
          · exact Int.le_refl _
        · unfold find
          rw [List.find?_append, List.find?_eq_none.2 (fun y hy => ?_)]
          · simp [hat]
          · intro h
            have := hn y hy
            rw [Bool.eq_false_iff] at this
            exact this ((sel_iff c a b y).2 (by rw [at_when h]; exact ⟨h, ha, hb⟩))
      · rw [h0]
        show ∃ y, see (some x) r = some y /\ _
        by_cases hlt : x.when_ < r.when_
        · refine ⟨r, by simp [see, hlt], hr, ?_, ?_⟩
          · intro y hy hys
            rw [List.mem_append, List.mem_singleton] at hy
            rcases hy with hy | rfl
            · have := hm y hy hys; omega
            · exact Int.le_refl _
          · unfold find
            rw [List.find?_append, List.find?_eq_none.2 (fun y hy => ?_)]
            · simp [hat]
            · intro h
              have := hm y hy ((sel_iff c a b y).2 (by rw [at_when h]; exact ⟨h, ha, hb⟩))
              rw [at_when h] at this; omega
        · refine ⟨x, by simp [see, hlt], hx, ?_, ?_⟩
          · intro y hy hys
            rw [List.mem_append, List.mem_singleton] at hy
            rcases hy with hy | rfl
            · exact hm y hy hys
            · omega
          · unfold find at hf ⊢
            rw [List.find?_append]
            cases hq : List.find? (fun r => r.at_ c 1 x.when_) l with
            | none => rw [hq] at hf; cases hf
            | some z => rw [hq] at hf; simpa using hf
    · have hr' : sel c a b r = false := by simpa using hr
      rw [List.filter_cons_of_neg hr, List.filter_nil, List.foldl_nil]
      rcases ih with ⟨h0, hn⟩ | ⟨x, h0, hx, hm, hf⟩
      · left; refine ⟨h0, fun y hy => ?_⟩
        rw [List.mem_append, List.mem_singleton] at hy
        rcases hy with hy | rfl
        · exact hn y hy
        · exact hr'
      · right; refine ⟨x, h0, hx, fun y hy hys => ?_, ?_⟩
        · rw [List.mem_append, List.mem_singleton] at hy
          rcases hy with hy | rfl
          · exact hm y hy hys
          · rw [hr'] at hys; cases hys
        · unfold find at hf ⊢
          rw [List.find?_append]
          cases hq : List.find? (fun r => r.at_ c 1 x.when_) l with
          | none => rw [hq] at hf; cases hf
          | some z => rw [hq] at hf; simpa using hf

theorem which_eq_back (l : List Rt) (c : ByteArray) (d : Int) : which l c d = back l c d 41 := by
  unfold which
  rcases which_spec c (d - 40) d l with ⟨h0, hn⟩ | ⟨x, h0, hx, hm, hf⟩
  · rw [h0]; symm
    rw [back_none]
    intro j hj
    rw [find_none]
    intro r hr
    rw [Bool.eq_false_iff]; intro h
    have := hn r hr
    rw [Bool.eq_false_iff] at this
    exact this ((sel_iff _ _ _ _).2 (by rw [at_when h]; exact ⟨h, by omega, by omega⟩))
  · rw [h0]; symm
    obtain ⟨hat, ha, hb⟩ := (sel_iff _ _ _ _).1 hx
    rw [back_some]
    refine ⟨(d - x.when_).toNat, by omega, fun i hi => ?_, ?_, ?_⟩
    · rw [find_none]
      intro r hr
      rw [Bool.eq_false_iff]; intro h
      have h1 := at_when h
      have := hm r hr ((sel_iff _ _ _ _).2 (by rw [h1]; exact ⟨h, by omega, by omega⟩))
      omega
    · rw [show d - ((d - x.when_).toNat : Int) = x.when_ by omega]; exact hf
    · rw [show d - ((d - x.when_).toNat : Int) = x.when_ by omega]; exact at_eq hat

def daily (l : List Rt) (c : ByteArray) (a : Int) : Nat -> List Rt
  | 0 => []
  | k + 1 => daily l c a k ++ (match find l c 1 (a + k) with | some v => [⟨c, 1, a + k, v⟩] | none => [])
def days (l : List Rt) (c : ByteArray) (a b : Int) : List Rt := daily l c a (b - a + 1).toNat

theorem daily_bd (l : List Rt) (c : ByteArray) (a : Int) : ∀ k, (∀ r ∈ daily l c a k, a <= r.when_ /\ r.when_ < a + k) /\ (daily l c a k).length <= k
  | 0 => by simp [daily]
  | k + 1 => by
    obtain ⟨h, hl⟩ := daily_bd l c a k
    unfold daily
    refine ⟨fun r hr => ?_, ?_⟩
    · rw [List.mem_append] at hr
      rcases hr with hr | hr
      · have := h r hr; omega
      · cases hf : find l c 1 (a + k) with
        | none => rw [hf] at hr; simp at hr
        | some v => rw [hf] at hr; simp at hr; subst hr; simp; omega
    · rw [List.length_append]
      cases hf : find l c 1 (a + k) <;> simp <;> omega
theorem daily_rising (l : List Rt) (c : ByteArray) (a : Int) : ∀ k, (daily l c a k).Pairwise (fun x y => x.when_ < y.when_)
  | 0 => List.Pairwise.nil
  | k + 1 => by
    unfold daily
    rw [List.pairwise_append]
    refine ⟨daily_rising l c a k, ?_, fun x hx y hy => ?_⟩
    · cases find l c 1 (a + k) <;> simp
    · have := (daily_bd l c a k).1 x hx
      cases hf : find l c 1 (a + k) with
      | none => rw [hf] at hy; simp at hy
      | some v => rw [hf] at hy; simp at hy; subst hy; simp; omega
theorem daily_mem (l : List Rt) (c : ByteArray) (a : Int) (r : Rt) : ∀ k, r ∈ daily l c a k ↔ ∃ j : Nat, j < k /\ find l c 1 (a + j) = some r.val /\ r = ⟨c, 1, a + j, r.val⟩
  | 0 => by simp [daily]
  | k + 1 => by
    unfold daily
    rw [List.mem_append, daily_mem l c a r k]
    constructor
    · rintro (⟨j, hj, h⟩ | h)
      · exact ⟨j, by omega, h⟩
      · cases hf : find l c 1 (a + k) with
        | none => rw [hf] at h; simp at h
        | some v => rw [hf] at h; simp at h; subst h; exact ⟨k, by omega, hf, rfl⟩
    · rintro ⟨j, hj, h1, h2⟩
      rcases Nat.lt_or_ge j k with hlt | hge
      · exact .inl ⟨j, hlt, h1, h2⟩
      · obtain rfl : j = k := by omega
        right; rw [h1]; simp only [List.mem_singleton]; exact h2
theorem find_fresh (l : List Rt) (hf : Fresh l) (r : Rt) (c : ByteArray) (k d : Int) (hr : r ∈ l) (h : r.at_ c k d = true) : find l c k d = some r.val := by
  induction l with
  | nil => cases hr
  | cons x l ih =>
    unfold Fresh at hf
    rw [List.pairwise_cons] at hf
    unfold find
    rw [List.find?_cons]
    cases hx : x.at_ c k d with
    | true =>
      simp only [Option.map_some, Option.some.injEq]
      rcases List.mem_cons.1 hr with rfl | hr
      · rfl
      · have := hf.1 r hr
        obtain ⟨a1, a2, a3⟩ := (Rt.at_iff _ _ _ _).1 hx
        obtain ⟨b1, b2, b3⟩ := (Rt.at_iff _ _ _ _).1 h
        rw [Bool.eq_false_iff] at this
        exact absurd ((Rt.at_iff x r.cur r.kind r.when_).2 ⟨a1.trans b1.symm, a2.trans b2.symm, a3.trans b3.symm⟩) this
    | false =>
      rcases List.mem_cons.1 hr with rfl | hr
      · rw [h] at hx; cases hx
      · exact ih hf.2 hr
theorem days_mem (l : List Rt) (hf : Fresh l) (c : ByteArray) (a b : Int) (r : Rt) : r ∈ days l c a b ↔ r ∈ l.filter (sel c a b) := by
  unfold days
  rw [daily_mem, List.mem_filter, sel_iff]
  constructor
  · rintro ⟨j, hj, h1, h2⟩
    obtain ⟨x, hx, hat, hv⟩ := find_some _ _ _ _ _ h1
    have e : x = r := by rw [at_eq hat, h2, hv]
    subst e
    have hw := at_when hat
    exact ⟨hx, by rw [hw]; exact hat, by omega, by omega⟩
  · rintro ⟨hr, hat, ha, hb⟩
    refine ⟨(r.when_ - a).toNat, by omega, ?_, ?_⟩
    · rw [show a + ((r.when_ - a).toNat : Int) = r.when_ by omega]; exact find_fresh l hf r c 1 r.when_ hr hat
    · rw [show a + ((r.when_ - a).toNat : Int) = r.when_ by omega]; exact at_eq hat
theorem filter_nodup (l : List Rt) (hf : Fresh l) (p : Rt -> Bool) : (l.filter p).Nodup := by
  have h2 : (l.filter p).Pairwise (fun a b => a.same b = false) := List.Pairwise.filter p hf
  exact h2.imp fun {a b} h e => by subst e; rw [Bool.eq_false_iff] at h; exact h ((Rt.at_iff _ _ _ _).2 ⟨rfl, rfl, rfl⟩)
theorem rising_unique : ∀ (a b : List Rt), a.Pairwise (fun x y => x.when_ < y.when_) -> b.Pairwise (fun x y => x.when_ < y.when_) -> (∀ r, r ∈ a ↔ r ∈ b) -> a = b
  | [], [], _, _, _ => rfl
  | [], y :: b, _, _, h => by have := (h y).2 (by simp); cases this
  | x :: a, [], _, _, h => by have := (h x).1 (by simp); cases this
  | x :: a, y :: b, ha, hb, h => by
    rw [List.pairwise_cons] at ha hb
    have e : x = y := by
      have h1 := (h x).1 (by simp)
      have h2 := (h y).2 (by simp)
      rcases List.mem_cons.1 h1 with e | h1
      · exact e
      · rcases List.mem_cons.1 h2 with e | h2
        · exact e.symm
        · have := ha.1 y h2; have := hb.1 x h1; omega
    subst e
    rw [rising_unique a b ha.2 hb.2 (fun r => ?_)]
    constructor
    · intro hr
      rcases List.mem_cons.1 ((h r).1 (List.mem_cons_of_mem _ hr)) with e | hr'
      · subst e; have := ha.1 r hr; omega
      · exact hr'
    · intro hr
      rcases List.mem_cons.1 ((h r).2 (List.mem_cons_of_mem _ hr)) with e | hr'
      · subst e; have := hb.1 r hr; omega
      · exact hr'
theorem sorted_days (l : List Rt) (hf : Fresh l) (c : ByteArray) (a b : Int) (s : List Rt) (hp : s.Perm (l.filter (sel c a b))) (hs : s.Pairwise (fun x y => x.when_ <= y.when_)) : s = days l c a b := by
  refine rising_unique _ _ ?_ (daily_rising _ _ _ _) (fun r => by rw [hp.mem_iff, days_mem l hf])
  have hn : s.Nodup := hp.nodup_iff.2 (filter_nodup l hf _)
  have hboth := hs.and hn
  refine List.Pairwise.imp_of_mem (fun {x y} hx hy h => ?_) hboth
  obtain ⟨hle, hne⟩ := h
  rcases Int.lt_or_eq_of_le hle with hlt | he
  · exact hlt
  · exfalso
    have hx' := hp.mem_iff.1 hx
    have hy' := hp.mem_iff.1 hy
    rw [List.mem_filter, sel_iff] at hx' hy'
    have f1 := find_fresh l hf x c 1 x.when_ hx'.1 hx'.2.1
    have f2 := find_fresh l hf y c 1 y.when_ hy'.1 hy'.2.1
    rw [he, f2] at f1
    apply hne
    rw [at_eq hx'.2.1, at_eq hy'.2.1, he]
    simp at f1; rw [f1]
theorem days_len (l : List Rt) (c : ByteArray) (a b : Int) : ((days l c a b).length : Int) <= max 0 (b - a + 1) := by
  have := (daily_bd l c a (b - a + 1).toNat).2
  unfold days; omega
end Rates
end Go.Proofs.YtalfikdjclineaaGreatDoor
namespace Go.Proofs.YtalfikdjclineaaGreatDoor
open Go.RowKit

def fewB (g : Grp) (rs : List Rt) : Bool := rs.all (fun r => decide (r.cur.size <= 20)) && decide (g.gc.size <= 20) && decide (rs.length <= 150)

theorem RatesAt.start {w : World} {A : Option Addr} {rs : List Rt} (h : RatesAt w w.heap.size A rs) (o : Obj) : RatesAt (w.alloc o) (w.alloc o).heap.size A rs :=
  (h.below ((Below.refl w.heap.size w).alloc (Nat.le_refl _) o) (Nat.le_refl _)).more (by simp)
theorem RatesAt.at_ {w w' : World} {B : Nat} {A : Option Addr} {rs : List Rt} (h : RatesAt w B A rs) (hb : Below B w w') (hB : B <= w.heap.size) : RatesAt w' w'.heap.size A rs :=
  (h.below hb (Nat.le_refl _)).more (Nat.le_trans hB hb.size)

section
variable (w : World)
theorem few_any (g : Grp) (A : Option Addr) (n c : Nat) (rs : List Rt) (hl : rs.length = n) (hn : n <= maxLen) (hg : g.gc.size <= maxLen) (hr : ∀ r ∈ rs, r.wf) (h : RatesAt w w.heap.size A rs) :
    Calls Tryz.prog 15 #[.agg #[.string g.gc, .int .i64 g.Y, .int .i64 g.M, .int .i64 g.N, g.x0, g.x1, g.x2, g.x3, g.x4, g.x5, g.x6, g.x7, g.x8, g.x9, g.x10, g.x11, g.x12, g.x13, g.x14, g.x15, g.x16], .slice A n c] w fun e w' => e = .returned (.bool (fewB g rs)) /\ Below w.heap.size w w' := by
  subst hl
  unfold maxLen at hn hg
  go_enter Tryz.func15, Tryz.ntmps15
  go_wp2
  go_loopw [5] (fun i wr => ∃ k : Nat, k <= rs.length /\ i = .int .i64 k /\ (rs.take k).all (fun r => decide (r.cur.size <= 20)) = true /\ w.alloc (.cells #[.string g.gc, .int .i64 g.Y, .int .i64 g.M, .int .i64 g.N, g.x0, g.x1, g.x2, g.x3, g.x4, g.x5, g.x6, g.x7, g.x8, g.x9, g.x10, g.x11, g.x12, g.x13, g.x14, g.x15, g.x16] 29) = wr) (fun i _ => rs.length - (intOf i).toNat)
  case atStart => exact ⟨0, Nat.zero_le _, rfl, rfl, rfl⟩
  case round =>
    obtain ⟨k, hk, rfl, ha, rfl⟩ := hrel
    have Ha := Lib.hid ha
    clear ha
    by_cases hlt : k < rs.length
    · obtain ⟨b, o, rfl, hbB, c0, c1, c2, c3⟩ := h.look hlt
      have hbw : b < w.heap.size := hbB
      have hs := (hr rs[k] (List.getElem_mem hlt)).1
      unfold maxLen at hs
      by_cases h20 : rs[k].cur.size <= 20
      · have hf : Hid ((rs.take (k + 1)).all (fun r => decide (r.cur.size <= 20)) = true) := by
          show _ = true
          rw [List.take_succ_eq_append_getElem hlt, List.all_append, Ha.out]; simp [h20]
        go_wp2
        go_roundw
        case rel => exact ⟨k + 1, by omega, by go_num, hf.out, trivial⟩
        case measure => simp [intOf]; omega
      · have hf : Hid (fewB g rs = false) := by
          show fewB g rs = false
          unfold fewB
          rw [List.all_eq_false.2 ⟨rs[k], List.getElem_mem hlt, by simpa using h20⟩]; rfl
        go_wp2
        go_ret
        exact ⟨ret_bool hf.out.symm, (Below.refl _ _).alloc (Nat.le_refl _) _⟩
    · obtain rfl : k = rs.length := by omega
      have hf : Hid (fewB g rs = (decide (g.gc.size <= 20) && decide (rs.length <= 150))) := by
        show _ = _
        have := Ha.out
        rw [List.take_length] at this
        unfold fewB; rw [this]; rfl
      by_cases h20 : g.gc.size <= 20
      · have hf2 : Hid (fewB g rs = decide (rs.length <= 150)) := by show _ = _; rw [hf.out]; simp [h20]
        go_wp2
        go_ret
        exact ⟨ret_bool (by rw [hf2.out, Bool.eq_iff_iff]; simp <;> omega), (Below.refl _ _).alloc (Nat.le_refl _) _⟩
      · have hf2 : Hid (fewB g rs = false) := by show _ = _; rw [hf.out]; simp [h20]
        have h20' : 20 < g.gc.size := by omega
        clear h20
        go_wp2
        go_ret
        exact ⟨ret_bool hf2.out.symm, (Below.refl _ _).alloc (Nat.le_refl _) _⟩

def Rates.errR (g : ByteArray) (rs : List Rt) (cur : ByteArray) : Int := if Rates.valid g rs = true /\ Rates.isCur cur = true then 0 else 1
theorem Rates.errR_cases (g : ByteArray) (rs : List Rt) (cur : ByteArray) : (Rates.valid g rs = false /\ Rates.errR g rs cur = 1) ∨ (Rates.valid g rs = true /\ Rates.isCur cur = false /\ Rates.errR g rs cur = 1) ∨ (Rates.valid g rs = true /\ Rates.isCur cur = true /\ Rates.errR g rs cur = 0) := by
  unfold Rates.errR
  cases Rates.valid g rs <;> cases Rates.isCur cur <;> simp

theorem rqcheck_any (g : Grp) (A : Option Addr) (n c : Nat) (rs : List Rt) (cur : ByteArray) (hl : rs.length = n) (hn : n <= 100000) (hg : g.gc.size <= maxLen) (hcu : cur.size <= maxLen) (hr : ∀ r ∈ rs, r.wf) (h : RatesAt w w.heap.size A rs) :
    Calls Tryz.prog 18 #[.agg #[.string g.gc, .int .i64 g.Y, .int .i64 g.M, .int .i64 g.N, g.x0, g.x1, g.x2, g.x3, g.x4, g.x5, g.x6, g.x7, g.x8, g.x9, g.x10, g.x11, g.x12, g.x13, g.x14, g.x15, g.x16], .slice A n c, .string cur] w fun e w' => e = .returned (.int .i64 (Rates.errR g.gc rs cur)) /\ Below w.heap.size w w' := by
  have HR := Lib.hid (h.start (.cells #[.string g.gc, .int .i64 g.Y, .int .i64 g.M, .int .i64 g.N, g.x0, g.x1, g.x2, g.x3, g.x4, g.x5, g.x6, g.x7, g.x8, g.x9, g.x10, g.x11, g.x12, g.x13, g.x14, g.x15, g.x16] 29))
  clear h
  rcases Rates.errR_cases g.gc rs cur with ⟨h1, e⟩ | ⟨h1, h2, e⟩ | ⟨h1, h2, e⟩
  all_goals
    rw [e]
    clear e
    go_enter Tryz.func18, Tryz.ntmps18
    go_wp2_with (fail)
    refine (rvalidr_any _ _ _ _ rs _ hl hn hg hr HR.out).mono ?_
    rw [h1]
    rintro e w4 ⟨rfl, hB⟩
    have hB1 := ((Below.refl w.heap.size w).alloc (Nat.le_refl _) (.cells #[.string g.gc, .int .i64 g.Y, .int .i64 g.M, .int .i64 g.N, g.x0, g.x1, g.x2, g.x3, g.x4, g.x5, g.x6, g.x7, g.x8, g.x9, g.x10, g.x11, g.x12, g.x13, g.x14, g.x15, g.x16] 29)).trans (hB.mono (by simp))
  · go_wp2
    go_ret
    exact ⟨rfl, hB1⟩
  all_goals
    go_wp2_with (go_at_call 39; refine (rcur_any _ _ hcu).mono ?_; rw [h2]; rintro e w5 ⟨rfl, rfl⟩)
    go_ret
    exact ⟨rfl, hB1⟩

def Rates.whichR (g : ByteArray) (rs : List Rt) (cur : ByteArray) (d : Int) : Rt × Int :=
  if Rates.errQ g rs cur d = 0 then
    (if (cur.toList == g.toList) = true then (⟨cur, 1, d, 1000000⟩, 0) else match Rates.which rs cur d with | some r => (r, 0) | none => (Rt.zero, 13))
  else (Rt.zero, Rates.errQ g rs cur d)
theorem Rates.whichR_cases (g : ByteArray) (rs : List Rt) (cur : ByteArray) (d : Int) :
    (Rates.errR g rs cur = 1 /\ Rates.errQ g rs cur d = 1 /\ Rates.whichR g rs cur d = (Rt.zero, 1)) ∨
    (Rates.errR g rs cur = 0 /\ decide (-25567 <= d /\ d <= 84005) = false /\ Rates.errQ g rs cur d = 2 /\ Rates.whichR g rs cur d = (Rt.zero, 2)) ∨
    (Rates.errR g rs cur = 0 /\ decide (-25567 <= d /\ d <= 84005) = true /\ Rates.errQ g rs cur d = 0 /\ (cur.toList == g.toList) = true /\ Rates.whichR g rs cur d = (⟨cur, 1, d, 1000000⟩, 0)) ∨
    (Rates.errR g rs cur = 0 /\ decide (-25567 <= d /\ d <= 84005) = true /\ Rates.errQ g rs cur d = 0 /\ (cur.toList == g.toList) = false /\ Rates.whichR g rs cur d = match Rates.which rs cur d with | some r => (r, 0) | none => (Rt.zero, 13)) := by
  unfold Rates.whichR Rates.errQ Rates.errR Rates.dateB
  by_cases h1 : Rates.valid g rs = true /\ Rates.isCur cur = true
  · rw [if_pos h1, if_pos h1]
    cases h2 : decide (-25567 <= d /\ d <= 84005) <;> cases h3 : (cur.toList == g.toList) <;> simp
  · rw [if_neg h1, if_neg h1]; simp

theorem gsize : (Tryz.prog.info? 29).map (·.size) = some 21 := by kernel_rfl

theorem Rates.find_getD (o : Option Int) : (∃ v, o = some v) ∨ o = none := by cases o <;> simp

theorem rwhich_any (g : Grp) (A : Option Addr) (n c : Nat) (rs : List Rt) (cur : ByteArray) (d : Int) (hl : rs.length = n) (hn : n <= 1000) (hg : g.gc.size <= maxLen) (hcu : cur.size <= maxLen) (hr : ∀ r ∈ rs, r.wf) (h : RatesAt w w.heap.size A rs) :
    Calls Tryz.prog 40 #[.agg #[.string g.gc, .int .i64 g.Y, .int .i64 g.M, .int .i64 g.N, g.x0, g.x1, g.x2, g.x3, g.x4, g.x5, g.x6, g.x7, g.x8, g.x9, g.x10, g.x11, g.x12, g.x13, g.x14, g.x15, g.x16], .slice A n c, .string cur, .int .i64 d] w fun e w' => e = .returned (.tuple #[(Rates.whichR g.gc rs cur d).1.v, .int .i64 (Rates.whichR g.gc rs cur d).2]) /\ Below w.heap.size w w' := by
  have HR := Lib.hid ((h.start (.cells #[.string g.gc, .int .i64 g.Y, .int .i64 g.M, .int .i64 g.N, g.x0, g.x1, g.x2, g.x3, g.x4, g.x5, g.x6, g.x7, g.x8, g.x9, g.x10, g.x11, g.x12, g.x13, g.x14, g.x15, g.x16] 29)).start (.cells #[.string ByteArray.empty, .int .i64 0, .int .i64 0, .int .i64 0] 59))
  have H := Lib.hid h
  clear h
  have hG := heap_alloc2_old w (.cells #[.string g.gc, .int .i64 g.Y, .int .i64 g.M, .int .i64 g.N, g.x0, g.x1, g.x2, g.x3, g.x4, g.x5, g.x6, g.x7, g.x8, g.x9, g.x10, g.x11, g.x12, g.x13, g.x14, g.x15, g.x16] 29) (.cells #[.string ByteArray.empty, .int .i64 0, .int .i64 0, .int .i64 0] 59)
  have hZ := heap_alloc2_new w (.cells #[.string g.gc, .int .i64 g.Y, .int .i64 g.M, .int .i64 g.N, g.x0, g.x1, g.x2, g.x3, g.x4, g.x5, g.x6, g.x7, g.x8, g.x9, g.x10, g.x11, g.x12, g.x13, g.x14, g.x15, g.x16] 29) (.cells #[.string ByteArray.empty, .int .i64 0, .int .i64 0, .int .i64 0] 59)
  have hB0 := ((Below.refl w.heap.size w).alloc (Nat.le_refl _) (.cells #[.string g.gc, .int .i64 g.Y, .int .i64 g.M, .int .i64 g.N, g.x0, g.x1, g.x2, g.x3, g.x4, g.x5, g.x6, g.x7, g.x8, g.x9, g.x10, g.x11, g.x12, g.x13, g.x14, g.x15, g.x16] 29)).alloc (by simp) (.cells #[.string ByteArray.empty, .int .i64 0, .int .i64 0, .int .i64 0] 59)
  rcases Rates.whichR_cases g.gc rs cur d with ⟨h1, _, e⟩ | ⟨h1, h2, _, e⟩ | ⟨h1, h2, _, h3, e⟩ | ⟨h1, h2, _, h3, e⟩
  all_goals
    have E := Lib.hid e
    clear e
    go_enter Tryz.func40, Tryz.ntmps40
    go_wp2_with (refine wpList_load_row rfl 29 _ rfl _ rfl _ _ _ _ hG Tryz.underlying29 rfl gsize ?_)
    refine (rqcheck_any _ _ _ _ _ rs _ hl (by omega) hg hcu hr HR.out).mono ?_
    rw [h1]
    rintro e w4 ⟨rfl, hB⟩
    have hB1 := hB0.trans (hB.mono (by simp; omega))
    have hz1 := hB.size
    simp at hz1
    have hG4 := gbox hG hB (by simp; omega)
    have hZ4 := gbox hZ hB (by simp)
    have hc4 := cell_of_row _ _ 0 _ _ _ hG4
    have hq4 : w.heap.size + 1 < w4.heap.size := by omega
    clear hG hZ
    have z0 := cell_of_row _ _ 0 _ _ _ hZ4
    have z1 := cell_of_row _ _ 1 _ _ _ hZ4
    have z2 := cell_of_row _ _ 2 _ _ _ hZ4
    have z3 := cell_of_row _ _ 3 _ _ _ hZ4
    have zf := fun j => frozen_of_row _ _ j _ _ hZ4
    simp at z0 z1 z2 z3 hc4
  · go_wp2
    refine bodyPost_ret (v := .tuple #[Rt.zero.v, .int .i64 1]) (by simp [results, Tryz.results40, go_sem, Rt.v, Rt.zero, z0, z1, z2, z3]; try rfl) rfl ⟨by rw [E.out], ?_⟩
    exact (((hB1.setCell (by simp) _).setCell (by simp) _).setCell (by simp) _).setCell (by simp) _
  · go_wp2_with (go_at_call 69; refine (rvalid_any _ _).mono ?_; rw [h2]; rintro e w5 ⟨rfl, rfl⟩)
    refine bodyPost_ret (v := .tuple #[Rt.zero.v, .int .i64 2]) (by simp [results, Tryz.results40, go_sem, Rt.v, Rt.zero, z0, z1, z2, z3]; try rfl) rfl ⟨by rw [E.out], ?_⟩
    exact (((hB1.setCell (by simp) _).setCell (by simp) _).setCell (by simp) _).setCell (by simp) _
  · go_wp2_with (go_at_call 69; refine (rvalid_any _ _).mono ?_; rw [h2]; rintro e w5 ⟨rfl, rfl⟩)
    refine bodyPost_ret (v := .tuple #[(Rt.mk cur 1 d 1000000).v, .int .i64 0]) (by simp [results, Tryz.results40, go_sem, Rt.v, z0, z1, z2, z3]; try rfl) rfl ⟨by rw [E.out], ?_⟩
    exact (((hB1.setCell (by simp) _).setCell (by simp) _).setCell (by simp) _).setCell (by simp) _
  · have hd : -25567 <= d /\ d <= 84005 := of_decide_eq_true h2
    go_wp2_with (go_at_call 69; refine (rvalid_any _ _).mono ?_; rw [h2]; rintro e w5 ⟨rfl, rfl⟩)
    go_loopw [11] (fun x wr => ∃ j : Nat, j <= 41 /\ x = .int .i64 (d - j) /\ (∀ i : Nat, i < j -> Rates.find rs cur 1 (d - i) = none) /\ Below w4.heap.size w4 wr) (fun x _ => (intOf x - d + 41).toNat)
    case atStart => exact ⟨0, by omega, by simp, fun i hi => absurd hi (by omega), Below.refl _ _⟩
    case round =>
      obtain ⟨j, hj, rfl, hno, hb⟩ := hrel
      have Hno := Lib.hid hno
      clear hno
      have hB2 := hB1.trans (hb.mono hB1.size)
      have hz5 := hb.size
      have hZ5 := gbox hZ4 hb (by omega)
      have y0 := cell_of_row _ _ 0 _ _ _ hZ5
      have y1 := cell_of_row _ _ 1 _ _ _ hZ5
      have y2 := cell_of_row _ _ 2 _ _ _ hZ5
      have y3 := cell_of_row _ _ 3 _ _ _ hZ5
      have yf := fun j => frozen_of_row _ _ j _ _ hZ5
      simp at y0 y1 y2 y3
      have hq5 : w.heap.size + 1 < wr.heap.size := by omega
      clear z0 z1 z2 z3 zf hc4 hG4 hZ4
      by_cases hlt : j < 41
      · rcases Rates.find_getD (Rates.find rs cur 1 (d - j)) with ⟨v, hv⟩ | hv
        · have E2 : Hid (Rates.whichR g.gc rs cur d = (⟨cur, 1, d - j, v⟩, 0)) := by
            show _ = _
            rw [E.out, Rates.which_eq_back, (Rates.back_some rs cur ⟨cur, 1, d - j, v⟩ 41 d).2 ⟨j, hlt, Hno.out, hv, rfl⟩]
          have Hv := Lib.hid hv
          clear hv
          go_wp2_with (fail)
          refine (rfind_any _ _ _ _ rs _ _ _ hl hn (H.out.at_ hB2 (Nat.le_refl _))).mono ?_
          rw [Hv.out]
          rintro e w6 ⟨rfl, hB6⟩
          have hB3 := hB2.trans (hB6.mono hB2.size)
          have hZ6 := gbox hZ5 hB6 hq5
          have x0 := cell_of_row _ _ 0 _ _ _ hZ6
          have x1 := cell_of_row _ _ 1 _ _ _ hZ6
          have x2 := cell_of_row _ _ 2 _ _ _ hZ6
          have x3 := cell_of_row _ _ 3 _ _ _ hZ6
          have xf := fun j => frozen_of_row _ _ j _ _ hZ6
          simp at x0 x1 x2 x3
          clear y0 y1 y2 y3 yf hZ5
          go_wp2
          refine bodyPost_ret (v := .tuple #[(Rt.mk cur 1 (d - j) v).v, .int .i64 0]) (by simp [results, Tryz.results40, go_sem, Rt.v, x0, x1, x2, x3]) rfl ⟨by rw [E2.out], ?_⟩
          exact (((hB3.setCell (by simp) _).setCell (by simp) _).setCell (by simp) _).setCell (by simp) _
        · have hno2 : Hid (∀ i : Nat, i < j + 1 -> Rates.find rs cur 1 (d - i) = none) := by
            show ∀ i : Nat, _
            intro i hi
            rcases Nat.lt_or_ge i j with h | h
            · exact Hno.out i h
            · obtain rfl : i = j := by omega
              exact hv
          have Hv := Lib.hid hv
          clear hv
          go_wp2_with (fail)
          refine (rfind_any _ _ _ _ rs _ _ _ hl hn (H.out.at_ hB2 (Nat.le_refl _))).mono ?_
          rw [Hv.out]
          rintro e w6 ⟨rfl, hB6⟩
          clear y0 y1 y2 y3 yf hZ5
          go_wp2
          go_roundw
          case rel => exact ⟨j + 1, by omega, by go_num, hno2.out, hb.trans (hB6.mono hb.size)⟩
          case measure => simp [intOf]; omega
      · obtain rfl : j = 41 := by omega
        have E2 : Hid (Rates.whichR g.gc rs cur d = (Rt.zero, 13)) := by
          show _ = _
          rw [E.out, Rates.which_eq_back, (Rates.back_none rs cur 41 d).2 Hno.out]
        go_wp2
        refine bodyPost_ret (v := .tuple #[Rt.zero.v, .int .i64 13]) (by simp [results, Tryz.results40, go_sem, Rt.v, Rt.zero, y0, y1, y2, y3]; try rfl) rfl ⟨by rw [E2.out], ?_⟩
        exact (((hB2.setCell (by simp) _).setCell (by simp) _).setCell (by simp) _).setCell (by simp) _
end
end Go.Proofs.YtalfikdjclineaaGreatDoor
