/- The walks over lists of rates: keys, look-ups, currencies. -/
import Derived.Test.YtbbbiioojgnpdaaDate2
import Derived.Test.YtbbbiioojgnpdaaRatePlain
namespace Go.Proofs.Ytbbbiioojgnpdaa
open Go.RowKit

/-- The slice value '.slice A n c' holds these rates, in blocks below B. -/
def RatesAt (w : World) (B : Nat) (A : Option Addr) (rs : List Rt) : Prop :=
  rs = [] ∨ ∃ b o, A = some ⟨b, o, none⟩ ∧ b < B ∧ ∀ k (h : k < rs.length),
    w.cell? ⟨b, o + k * 4, none⟩ = some (.string rs[k].cur) ∧ w.cell? ⟨b, o + k * 4 + 1, none⟩ = some (.int .i64 rs[k].kind) ∧
    w.cell? ⟨b, o + k * 4 + 2, none⟩ = some (.int .i64 rs[k].when_) ∧ w.cell? ⟨b, o + k * 4 + 3, none⟩ = some (.int .i64 rs[k].val)

theorem RatesAt.below {w w' : World} {B C : Nat} {A : Option Addr} {rs : List Rt} (h : RatesAt w B A rs) (hb : Below C w w') (hC : B ≤ C) : RatesAt w' B A rs := by
  rcases h with h | ⟨b, o, e, hl, hc⟩
  · exact .inl h
  · refine .inr ⟨b, o, e, hl, fun k hk => ?_⟩
    obtain ⟨h0, h1, h2, h3⟩ := hc k hk
    exact ⟨(hb.cell (p := ⟨b, _, none⟩) (Nat.lt_of_lt_of_le hl hC)).trans h0, (hb.cell (p := ⟨b, _, none⟩) (Nat.lt_of_lt_of_le hl hC)).trans h1, (hb.cell (p := ⟨b, _, none⟩) (Nat.lt_of_lt_of_le hl hC)).trans h2, (hb.cell (p := ⟨b, _, none⟩) (Nat.lt_of_lt_of_le hl hC)).trans h3⟩
theorem RatesAt.more {w : World} {B C : Nat} {A : Option Addr} {rs : List Rt} (h : RatesAt w B A rs) (hC : B ≤ C) : RatesAt w C A rs := by
  rcases h with h | ⟨b, o, e, hl, hc⟩
  · exact .inl h
  · exact .inr ⟨b, o, e, by omega, hc⟩
theorem RatesAt.look {w : World} {B : Nat} {A : Option Addr} {rs : List Rt} (h : RatesAt w B A rs) {k : Nat} (hk : k < rs.length) :
    ∃ b o, A = some ⟨b, o, none⟩ ∧ b < B ∧ w.cell? ⟨b, o + k * 4, none⟩ = some (.string rs[k].cur) ∧ w.cell? ⟨b, o + k * 4 + 1, none⟩ = some (.int .i64 rs[k].kind) ∧
    w.cell? ⟨b, o + k * 4 + 2, none⟩ = some (.int .i64 rs[k].when_) ∧ w.cell? ⟨b, o + k * 4 + 3, none⟩ = some (.int .i64 rs[k].val) := by
  rcases h with h | ⟨b, o, e, hl, hc⟩
  · subst h; simp at hk
  · exact ⟨b, o, e, hl, hc k hk⟩

section
variable (w : World)
theorem sameKey_any (a1 b1 : ByteArray) (a2 a3 a4 b2 b3 b4 : Int) :
    Calls Try.prog 36 #[.agg #[.string a1, .int .i64 a2, .int .i64 a3, .int .i64 a4], .agg #[.string b1, .int .i64 b2, .int .i64 b3, .int .i64 b4]] w fun e w' => e = .returned (.bool (Rt.at_ ⟨a1, a2, a3, a4⟩ b1 b2 b3)) ∧ Below w.heap.size w w' := by
  unfold Rt.at_
  go_enter Try.func36, Try.ntmps36
  go_wp2
  all_goals (go_ret; exact ⟨ret_bool (by simp [*]), ((Below.refl _ _).alloc (Nat.le_refl _) _).alloc (by simp) _⟩)

set_option maxHeartbeats 400000 in
theorem rfind_any (A : Option Addr) (n c : Nat) (rs : List Rt) (cur : ByteArray) (kind when_ : Int) (hl : rs.length = n) (hn : n ≤ 1000) (h : RatesAt w w.heap.size A rs) :
    Calls Try.prog 21 #[.slice A n c, .string cur, .int .i64 kind, .int .i64 when_] w fun e w' => e = .returned (.tuple #[.int .i64 ((Rates.find rs cur kind when_).getD 0), .bool (Rates.find rs cur kind when_).isSome]) ∧ Below w.heap.size w w' := by
  subst hl
  go_enter Try.func21, Try.ntmps21
  go_wp2
  go_loopw [10] (fun i wr => ∃ k : Nat, k ≤ rs.length ∧ i = .int .i64 k ∧ Rates.find (rs.take k) cur kind when_ = none ∧ Below w.heap.size w wr) (fun i _ => rs.length - (intOf i).toNat)
  case atStart => exact ⟨0, Nat.zero_le _, rfl, rfl, Below.refl _ _⟩
  case round =>
    obtain ⟨k, hk, rfl, hno, hb⟩ := hrel
    by_cases hlt : k < rs.length
    · obtain ⟨b, o, rfl, hbB, c0, c1, c2, c3⟩ := (h.below hb (Nat.le_refl _)).look hlt
      have hbw : b < wr.heap.size := Nat.lt_of_lt_of_le hbB hb.size
      by_cases hat : Rt.at_ rs[k] cur kind when_ = true
      · have Hf := Lib.hid (Rates.find_hit rs cur kind when_ k hlt hno hat)
        clear hno
        go_wp2_with (go_at_call 36; refine (sameKey_any _ _ _ _ _ _ _ _ _).mono ?_; rintro e w4 ⟨rfl, hB⟩; obtain ⟨hc, hf⟩ := bcell hB)
        go_ret2
        exact ⟨by rw [Hf.out]; rfl, hb.trans (hB.mono hb.size)⟩
      · have hat' : Rt.at_ rs[k] cur kind when_ = false := by simpa using hat
        have Hf := Lib.hid (Rates.find_miss rs cur kind when_ k hlt hno hat')
        clear hno hat
        go_wp2_with (go_at_call 36; refine (sameKey_any _ _ _ _ _ _ _ _ _).mono ?_; rintro e w4 ⟨rfl, hB⟩; obtain ⟨hc, hf⟩ := bcell hB)
        go_roundw
        case rel => exact ⟨k + 1, by omega, by go_num, Hf.out, hb.trans (hB.mono hb.size)⟩
        case measure => simp [intOf]; omega
    · obtain rfl : k = rs.length := by omega
      rw [List.take_length] at hno
      have Hno := Lib.hid hno
      clear hno
      go_wp2
      go_ret2
      exact ⟨by rw [Hno.out]; rfl, hb⟩

/-! ### The program's Find -/
theorem of_any (a1 : ByteArray) (a2 a3 a4 : Int) :
    Calls Try.prog 48 #[.agg #[.string a1, .int .i64 a2, .int .i64 a3, .int .i64 a4]] w fun e w' => e = .returned (.agg #[.string a1, .int .i64 a2, .int .i64 a3]) ∧ Below w.heap.size w w' := by
  go_enter Try.func48, Try.ntmps48
  go_wp2
  refine bodyPost_ret (v := .agg #[.string a1, .int .i64 a2, .int .i64 a3]) (by simp [results, Try.results48, go_sem]) rfl ⟨rfl, ?_⟩
  exact ((Below.refl _ _).alloc (Nat.le_refl _) _).alloc (by simp) _

set_option maxHeartbeats 400000 in
theorem dfind_any (A : Option Addr) (n c : Nat) (rs : List Rt) (cur : ByteArray) (kind when_ : Int) (hl : rs.length = n) (hn : n ≤ 1000) (h : RatesAt w w.heap.size A rs) :
    Calls Try.prog 29 #[.slice A n c, .string cur, .int .i64 kind, .int .i64 when_] w fun e w' => e = .returned (.tuple #[.int .i64 ((Rates.find rs cur kind when_).getD 0), .bool (Rates.find rs cur kind when_).isSome]) ∧ Below w.heap.size w w' := by
  subst hl
  go_enter Try.func29, Try.ntmps29
  go_wp2
  go_loopw [14] (fun i wr => ∃ k : Nat, k ≤ rs.length ∧ i = .int .i64 k ∧ Rates.find (rs.take k) cur kind when_ = none ∧ Below w.heap.size w wr) (fun i _ => rs.length - (intOf i).toNat)
  case atStart => exact ⟨0, Nat.zero_le _, rfl, rfl, Below.refl _ _⟩
  case round =>
    obtain ⟨k, hk, rfl, hno, hb⟩ := hrel
    by_cases hlt : k < rs.length
    · obtain ⟨b, o, rfl, hbB, c0, c1, c2, c3⟩ := (h.below hb (Nat.le_refl _)).look hlt
      have hbw : b < wr.heap.size := Nat.lt_of_lt_of_le hbB hb.size
      have Hno := Lib.hid hno
      have hz := hb.size
      clear hno
      go_wp2_with (go_at_call 48; refine (of_any _ _ _ _ _).mono ?_; rintro e w4 ⟨rfl, hB⟩; obtain ⟨hc, hf⟩ := bcell hB)
      all_goals first
        | (go_ret2
           exact ⟨by rw [Rates.find_hit rs cur kind when_ k hlt Hno.out (by simp [Rt.at_, *])]; rfl, (hb.alloc hb.size _).trans (hB.mono (by simp; omega))⟩)
        | (go_roundw
           case rel => exact ⟨k + 1, by omega, by go_num, Rates.find_miss rs cur kind when_ k hlt Hno.out (by simp [Rt.at_, *]), (hb.alloc hb.size _).trans (hB.mono (by simp; omega))⟩
           case measure => simp [intOf]; omega)
    · obtain rfl : k = rs.length := by omega
      rw [List.take_length] at hno
      have Hno := Lib.hid hno
      clear hno
      go_wp2
      go_ret2
      exact ⟨by rw [Hno.out]; rfl, hb⟩
end
end Go.Proofs.Ytbbbiioojgnpdaa
