/- The walks of both packages' Valid: lists of rates without two of one key. -/
import Derived.Test.YtbbbiioojgnpdaaCurr
import Derived.Test.YtbbbiioojgnpdaaMaps
import Derived.DeepKeys4
import Derived.ProofKit
import Derived.StillTailTactics
namespace Go.Proofs.Ytbbbiioojgnpdaa
open Go.RowKit

theorem laidOut : laidOutB Try.prog = true := by kernel_rfl
theorem keyLaw : Maps.Keyed Try.prog 87 := Maps.Keyed.of_law (deep_law_laid laidOut (m := 2) (by omega) (of_decide_eq_true (by kernel_rfl)) (by kernel_rfl) (by kernel_rfl))
theorem keyOk (s : ByteArray) (a b : Int) (hs : s.size ≤ maxLen) (ha : (Lit.int .i64 a).wf = true) (hb : (Lit.int .i64 b).wf = true) : ∃ kl, keyOf Try.prog 87 (.agg #[.string s, .int .i64 a, .int .i64 b]) = some kl := by
  unfold keyOf
  rw [Try.underlying87]
  have h1 : Try.prog.keyType 87 = true := by kernel_rfl
  have c3 : Try.prog.cellsOf 87 = 3 := by kernel_rfl
  have h2 : (Value.agg #[.string s, .int .i64 a, .int .i64 b]).formed Try.prog 87 = true := by
    simp [Value.formed, Try.underlying87, c3]
  simp only [h1, h2, Bool.and_self, if_true]
  have h3 : ∃ n, Try.prog.types.size = n + 1 := ⟨Try.prog.types.size - 1, by have : 0 < Try.prog.types.size := of_decide_eq_true (by kernel_rfl); omega⟩
  obtain ⟨n, hn⟩ := h3
  rw [hn]
  have c0 : Try.prog.cellsOf 9 = 1 := by kernel_rfl
  have c1 : Try.prog.cellsOf 3 = 1 := by kernel_rfl
  simp [Program.keyLits, Try.underlying87, Try.underlying9, Try.underlying3, Value.cells, c0, c1, c3, hs, ha, hb]

/-- What a rate that came in fulfils: its numbers are ints, its string is no longer than any. -/
def Rt.wf (r : Rt) : Prop := r.cur.size ≤ maxLen ∧ (Lit.int .i64 r.kind).wf = true ∧ (Lit.int .i64 r.when_).wf = true ∧ (Lit.int .i64 r.val).wf = true

/-- None of the first j rates has the key of the one at i. -/
def Clear (rs : List Rt) (i j : Nat) (h : i < rs.length) : Prop := (rs.take j).any (fun r => r.same rs[i]) = false

section
variable (w : World)
set_option maxRecDepth 100000 in
set_option maxHeartbeats 1000000 in
theorem rvalidr_any (A : Option Addr) (n c : Nat) (rs : List Rt) (g : ByteArray) (hl : rs.length = n) (hn : n ≤ 100000) (hg : g.size ≤ maxLen) (hr : ∀ r ∈ rs, r.wf) (h : RatesAt w w.heap.size A rs) :
    Calls Try.prog 35 #[.string g, .slice A n c] w fun e w' => e = .returned (.bool (Rates.valid g rs)) ∧ Below w.heap.size w w' := by
  subst hl
  go_enter Try.func35, Try.ntmps35
  go_wp2
  go_loopw [5, 6] (fun i _ wr => ∃ k : Nat, k ≤ rs.length ∧ i = .int .i64 k ∧ Rates.Pre g rs k ∧ Below w.heap.size w wr) (fun i _ _ => rs.length - (intOf i).toNat)
  case atStart => exact ⟨0, Nat.zero_le _, rfl, Rates.pre_zero g rs, Below.refl _ _⟩
  case round =>
    obtain ⟨k, hk, rfl, hp, hb⟩ := hrel
    have Hp := Lib.hid hp
    clear hp
    by_cases hlt : k < rs.length
    · obtain ⟨b, o, rfl, hbB, c0, c1, c2, c3⟩ := (h.below hb (Nat.le_refl _)).look hlt
      have hbw : b < wr.heap.size := Nat.lt_of_lt_of_le hbB hb.size
      obtain ⟨hw0, _⟩ := hr rs[k] (List.getElem_mem hlt)
      by_cases hpr : Rates.proper g rs[k] = true
      · have hpr' : Rates.proper g ⟨rs[k].cur, rs[k].kind, rs[k].when_, rs[k].val⟩ = true := hpr
        have Hpr := Lib.hid hpr
        clear hpr
        go_wp2_with (go_at_call 55; refine (rproper_any _ _ _ _ _ _ hw0).mono ?_; rw [hpr']; rintro e w4 ⟨rfl, hB⟩)
        have hb4 := hb.trans (hB.mono hb.size)
        go_loopw [6] (fun j wr => ∃ k' : Nat, k' ≤ k ∧ j = .int .i64 k' ∧ Clear rs k k' hlt ∧ Below w.heap.size w wr) (fun j _ => k - (intOf j).toNat)
        case atStart => exact ⟨0, Nat.zero_le _, rfl, rfl, hb4⟩
        case round =>
          obtain ⟨j, hj, rfl, hcl, hb5⟩ := hrel
          have Hcl := Lib.hid hcl
          clear hcl
          by_cases hlt2 : j < k
          · obtain ⟨b', o', hA', hbB', d0, d1, d2, d3⟩ := (h.below hb5 (Nat.le_refl _)).look (show j < rs.length by omega)
            cases hA'
            have hjl : j < rs.length := by omega
            obtain ⟨b'', o'', hA'', hbB'', e0, e1, e2, e3⟩ := (h.below hb5 (Nat.le_refl _)).look hlt
            cases hA''
            clear hw0 c0 c1 c2 c3 hB hb4 hb hpr' hbB' hbB''
            go_wp2
            go_still_tail 8, (by kernel_rfl)
            have hat : Hid (Rt.at_ ⟨rs[j].cur, rs[j].kind, rs[j].when_, rs[j].val⟩ rs[k].cur rs[k].kind rs[k].when_ = rs[j].same rs[k]) := rfl
            by_cases hsm : rs[j].same rs[k] = true
            · have hf := Lib.hid (Rates.valid_twice g rs k j hlt hlt2 hsm)
              go_wp2_with (go_at_call 36; refine (sameKey_any _ _ _ _ _ _ _ _ _).mono ?_; rw [hat.out, hsm]; rintro e w6 ⟨rfl, hB6⟩)
              go_ret
              exact ⟨ret_bool hf.out.symm, hb5.drew.trans (hB6.mono hb5.size)⟩
            · have hsm' : rs[j].same rs[k] = false := by simpa using hsm
              have hf : Hid (Clear rs k (j + 1) hlt) := by
                show (rs.take (j + 1)).any _ = false
                have := Hcl.out
                unfold Clear at this
                rw [Rates.any_take_succ _ _ _ hjl, this, hsm']; rfl
              clear hsm
              go_wp2_with (go_at_call 36; refine (sameKey_any _ _ _ _ _ _ _ _ _).mono ?_; rw [hat.out, hsm']; rintro e w6 ⟨rfl, hB6⟩)
              go_roundw
              case rel => exact ⟨j + 1, by omega, by go_num, hf.out, hb5.drew.trans (hB6.mono hb5.size)⟩
              case measure => simp [intOf]; omega
          · obtain rfl : j = k := by omega
            have hf := Lib.hid (Rates.pre_succ g rs j hlt Hp.out hpr' Hcl.out)
            go_wp2
            go_roundw
            case rel => exact ⟨j + 1, by omega, by go_num, hf.out, hb5⟩
            case measure => simp [intOf]; omega
      · have hpr' : Rates.proper g ⟨rs[k].cur, rs[k].kind, rs[k].when_, rs[k].val⟩ = false := by simpa using hpr
        have hf := Lib.hid (Rates.valid_improper g rs k hlt hpr')
        clear hpr
        go_wp2_with (go_at_call 55; refine (rproper_any _ _ _ _ _ _ hw0).mono ?_; rw [hpr']; rintro e w4 ⟨rfl, hB⟩)
        go_ret
        exact ⟨ret_bool hf.out.symm, hb.trans (hB.mono hb.size)⟩
    · obtain rfl : k = rs.length := by omega
      have hf := Lib.hid (Rates.pre_end g rs Hp.out)
      go_wp2_with (go_at_call 47; refine (rcur_any _ _ hg).mono ?_; rintro e w4 ⟨rfl, rfl⟩)
      all_goals (go_ret; exact ⟨ret_bool (by rw [hf.out]; simp [*] <;> omega), hb⟩)

/-- The map of the keys seen: those of the first k rates. -/
def Seen (w : World) (b : Nat) (rs : List Rt) (k : Nat) : Prop :=
  ∃ f, MapAt w Try.prog 87 b k f ∧ ∀ s a c, f (.agg #[.string s, .int .i64 a, .int .i64 c]) = if (rs.take k).any (fun r => r.at_ s a c) = true then some (.bool true) else none

theorem Seen.look {b : Nat} {rs : List Rt} {k : Nat} (h : Seen w b rs k) (s : ByteArray) (a c : Int) (hs : s.size ≤ maxLen) (ha : (Lit.int .i64 a).wf = true) (hb : (Lit.int .i64 c).wf = true) :
    (Instr.lookup 95 (.map (some b)) (.agg #[.string s, .int .i64 a, .int .i64 c]) false).run Try.prog w = .ok (.bool ((rs.take k).any (fun r => r.at_ s a c))) w := by
  obtain ⟨f, hm, hf⟩ := h
  obtain ⟨kl, hk⟩ := keyOk s a c hs ha hb
  have hz : (zeroValue 4).run Try.prog w = .ok (.bool false) w := by kernel_rfl
  rw [hm.lookup keyLaw Try.underlying95 hz hk, hf]
  cases (rs.take k).any (fun r => r.at_ s a c) <;> rfl
theorem Seen.below {w' : World} {B b : Nat} {rs : List Rt} {k : Nat} (h : Seen w b rs k) (hb : Below B w w') (hB : b < B) : Seen w' b rs k := by
  obtain ⟨f, hm, hf⟩ := h; exact ⟨f, hm.below hb hB, hf⟩
theorem Seen.alloc {b : Nat} {rs : List Rt} {k : Nat} (h : Seen w b rs k) (o : Obj) : Seen (w.alloc o) b rs k := by
  obtain ⟨f, hm, hf⟩ := h; exact ⟨f, hm.alloc o, hf⟩
theorem Seen.lt {b : Nat} {rs : List Rt} {k : Nat} (h : Seen w b rs k) : b < w.heap.size := by obtain ⟨f, hm, hf⟩ := h; exact hm.lt
theorem Seen.made (rs : List Rt) : Seen (w.alloc (.map #[] 0)) w.heap.size rs 0 := ⟨_, MapAt.made w _ _, fun s a c => by simp⟩
open Classical in
theorem seen_step (rs : List Rt) (k : Nat) (hk : k < rs.length) (f : Value → Option Value) (hf : ∀ s a c, f (.agg #[.string s, .int .i64 a, .int .i64 c]) = if (rs.take k).any (fun r => r.at_ s a c) = true then some (.bool true) else none) :
    ∀ s a c, (fun x => if x = .agg #[.string rs[k].cur, .int .i64 rs[k].kind, .int .i64 rs[k].when_] then some (Value.bool true) else f x) (.agg #[.string s, .int .i64 a, .int .i64 c]) = if (rs.take (k + 1)).any (fun r => r.at_ s a c) = true then some (.bool true) else none := by
  intro s a c
  show (if _ then _ else f _) = _
  rw [Rates.any_take_succ _ _ _ hk]
  by_cases h : rs[k].at_ s a c = true
  · obtain ⟨h1, h2, h3⟩ := (Rt.at_iff _ _ _ _).1 h
    rw [if_pos (by rw [Rt.toList_inj h1, h2, h3]), if_pos (by rw [h]; simp)]
  · rw [if_neg (by
      intro e
      simp only [Value.agg.injEq, Array.mk.injEq, List.cons.injEq, Value.string.injEq, Value.int.injEq, true_and, and_true] at e
      exact h ((Rt.at_iff _ _ _ _).2 ⟨by rw [e.1], e.2.1.symm, e.2.2.symm⟩)), hf]
    have h' : rs[k].at_ s a c = false := by simpa using h
    rw [h', Bool.or_false]

set_option maxRecDepth 100000 in
set_option maxHeartbeats 1000000 in
theorem dvalidr_any (A : Option Addr) (n c : Nat) (rs : List Rt) (g : ByteArray) (hl : rs.length = n) (hn : n ≤ 100000) (hg : g.size ≤ maxLen) (hr : ∀ r ∈ rs, r.wf) (h : RatesAt w w.heap.size A rs) :
    Calls Try.prog 41 #[.string g, .slice A n c] w fun e w' => e = .returned (.bool (Rates.valid g rs)) ∧ Below w.heap.size w w' := by
  subst hl
  have hmm := @run_makeMap Try.prog
  go_enter Try.func41, Try.ntmps41
  go_wp2
  go_loopw [11] (fun i wr => ∃ k : Nat, k ≤ rs.length ∧ i = .int .i64 k ∧ Rates.Pre g rs k ∧ Below w.heap.size w wr ∧ Seen wr w.heap.size rs k) (fun i _ => rs.length - (intOf i).toNat)
  case atStart => exact ⟨0, Nat.zero_le _, rfl, Rates.pre_zero g rs, (Below.refl _ _).alloc (Nat.le_refl _) _, Seen.made w rs⟩
  case round =>
    obtain ⟨k, hk, rfl, hp, hb, hS⟩ := hrel
    have Hp := Lib.hid hp
    have hSl := hS.lt _
    clear hp hmm
    by_cases hlt : k < rs.length
    · obtain ⟨b, o, rfl, hbB, c0, c1, c2, c3⟩ := (h.below hb (Nat.le_refl _)).look hlt
      have hbw : b < wr.heap.size := Nat.lt_of_lt_of_le hbB hb.size
      obtain ⟨hw0, hw1, hw2, _⟩ := hr rs[k] (List.getElem_mem hlt)
      have hz := hb.size
      by_cases hpr : Rates.proper g rs[k] = true
      · have hpr' : Rates.proper g ⟨rs[k].cur, rs[k].kind, rs[k].when_, rs[k].val⟩ = true := hpr
        have Hpr := Lib.hid hpr
        clear hpr
        go_wp2_with (go_at_call 59; refine (dproper_any _ _ _ _ _ _ hw0).mono ?_; rw [hpr']; rintro e w4 ⟨rfl, hB⟩; obtain ⟨hc, hf⟩ := bcell hB)
        have hb4 := (hb.alloc hz _).trans (hB.mono (by simp; omega))
        have hS4 := (hS.alloc wr _).below _ hB (by simp; omega)
        have hz4 := hB.size
        simp at hz4
        have hz4' : wr.heap.size < w4.heap.size := by omega
        have hb4' : b < w4.heap.size := by omega
        refine (of_any _ _ _ _ _).mono ?_
        rintro e w5 ⟨rfl, hB5⟩
        have hb5 := hb4.trans (hB5.mono hb4.size)
        have hS5 := hS4.below _ hB5 (hS4.lt _)
        have hz5 : wr.heap.size < w5.heap.size := Nat.lt_of_lt_of_le hz4' hB5.size
        have hlk := hS5.look _ rs[k].cur rs[k].kind rs[k].when_ hw0 hw1 hw2
        obtain ⟨hc5, hf5⟩ := bcell hB5
        by_cases hany : (rs.take k).any (fun r => r.at_ rs[k].cur rs[k].kind rs[k].when_) = true
        · have hfin := Lib.hid (Rates.valid_twice' g rs k hlt hany)
          rw [hany] at hlk
          clear hany
          go_wp2
          go_ret
          exact ⟨ret_bool hfin.out.symm, hb5⟩
        · have hany' : (rs.take k).any (fun r => r.at_ rs[k].cur rs[k].kind rs[k].when_) = false := by simpa using hany
          have hfin := Lib.hid (Rates.pre_succ g rs k hlt Hp.out hpr' hany')
          rw [hany'] at hlk
          clear hany hany'
          go_wp2_with (fail)
          refine (of_any _ _ _ _ _).mono ?_
          rintro e w6 ⟨rfl, hB6⟩
          have hb6 := hb5.trans (hB6.mono hb5.size)
          obtain ⟨f, hm, hff⟩ := hS5.below _ hB6 (hS5.lt _)
          obtain ⟨kl, hkl⟩ := keyOk rs[k].cur rs[k].kind rs[k].when_ hw0 hw1 hw2
          have hstep := Lib.hid (seen_step rs k hlt f hff)
          clear hlk hc5 hf5 hc hf hff
          go_wp2_with (at_mapUpdate; refine wpList_mapUpdate_at rfl _ _ _ rfl hm keyLaw Try.underlying95 rfl (by unfold maxLen; omega) _ _ _ rfl rfl hkl ?_; intro w7 hm7 hg7)
          have hb7 := hb6.grown hg7 hb6.size (fun j e => by cases e; exact Nat.le_refl _)
          go_roundw
          case rel => exact ⟨k + 1, by omega, by go_num, hfin.out, hb7, ⟨_, hm7, hstep.out⟩⟩
          case measure => simp [intOf]; omega
      · have hpr' : Rates.proper g ⟨rs[k].cur, rs[k].kind, rs[k].when_, rs[k].val⟩ = false := by simpa using hpr
        have hf := Lib.hid (Rates.valid_improper g rs k hlt hpr')
        clear hpr
        go_wp2_with (go_at_call 59; refine (dproper_any _ _ _ _ _ _ hw0).mono ?_; rw [hpr']; rintro e w4 ⟨rfl, hB⟩)
        go_ret
        exact ⟨ret_bool hf.out.symm, (hb.alloc hz _).trans (hB.mono (by simp; omega))⟩
    · obtain rfl : k = rs.length := by omega
      have hf := Lib.hid (Rates.pre_end g rs Hp.out)
      go_wp2_with (go_at_call 44; refine (cur_any _ _ hg).mono ?_; rintro e w4 ⟨rfl, hB⟩)
      all_goals (go_ret; exact ⟨ret_bool (by rw [hf.out]; simp [*] <;> omega), hb.trans (hB.mono hb.size)⟩)
end
end Go.Proofs.Ytbbbiioojgnpdaa
