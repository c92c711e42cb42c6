/- My texts TextR. -/
import Derived.Laws.IdiomStrings
import Derived.Test.YtalfikdjclineaaGreatDoorG01
import Derived.Test.YtalfikdjclineaaGreatDoorG32
set_option linter.unusedVariables false
set_option linter.unusedSimpArgs false
set_option maxRecDepth 100000
set_option maxHeartbeats 8000000
namespace Go.Proofs.YtalfikdjclineaaGreatDoor
open Go.RowKit
theorem byte_cell {x : Nat} : ((UInt8.ofNat (48 + x % 10)).toNat : Int) = 48 + (x : Int) % 10 := by
  rw [UInt8.toNat_ofNat']
  omega
theorem byte_text (w : World) (x : Nat) : (convert 96 9 (.slice (some ⟨w.heap.size, 0, none⟩) 1 1)).run Tryz.prog (w.alloc (.cells #[.int .u8 (48 + (x : Int) % 10)] 5)) = .ok (.string ⟨#[UInt8.ofNat (48 + x % 10)]⟩) (w.alloc (.cells #[.int .u8 (48 + (x : Int) % 10)] 5)) := by
  refine run_convert_bytes_back (P := Tryz.prog) _ 96 9 5 ⟨w.heap.size, 0, none⟩ 1 [UInt8.ofNat (48 + x % 10)] Tryz.underlying96 Tryz.underlying5 Tryz.underlying9 (fun j hj => ?_)
  have h0 : j = 0 := by simpa using hj
  subst h0
  have h := cell_of_row _ _ 0 _ _ _ (heap_alloc_new w (.cells #[.int .u8 (48 + (x : Int) % 10)] 5))
  simp only [List.getElem_cons_zero, byte_cell]
  exact h
theorem str_app (l m : List UInt8) : (⟨l.toArray⟩ : ByteArray) ++ ⟨m.toArray⟩ = ⟨(l ++ m).toArray⟩ := by
  apply ByteArray.ext
  rw [ByteArray.data_append]
  simp
theorem str_cons (y : Nat) (m : List UInt8) : (⟨#[48 + UInt8.ofNat y]⟩ : ByteArray) ++ ⟨m.toArray⟩ = ⟨(UInt8.ofNat (48 + y) :: m).toArray⟩ := by
  have h := str_app [48 + UInt8.ofNat y] m
  have e : UInt8.ofNat (48 + y) = 48 + UInt8.ofNat y := by rw [UInt8.ofNat_add]; rfl
  rw [e]; exact h
namespace R1
open Go.RowKit
section
variable (w : World)
theorem text_any (k : Nat) (v : Value) (z : Int) (hk : k <= 1000) (hz0 : 0 <= z) (h : PI w w.heap.size k v z) :
    Calls Tryz.prog 26 #[v] w fun e w' => e = .returned (.string ⟨(Lib.decDigits z.toNat).toArray⟩) /\ Below w.heap.size w w' := by
  obtain ⟨neg, A, n, c, l, rfl, hl, hn, hc, hL, hN, hz, hA, hs⟩ := h.parts
  have hng : neg = false := by rcases hs with ⟨_, e, _⟩ | ⟨_, e, _⟩ | ⟨_, _, e⟩; exact e; exact e; omega
  subst hng
  obtain ⟨w1, hw1⟩ : ∃ W, W = w.alloc (.cells #[.bool false, .slice A n c] 47) := ⟨_, rfl⟩
  have hB1 : Below w.heap.size w w1 := by rw [hw1]; exact (Below.refl _ _).alloc (Nat.le_refl _) _
  have hb1 : w1.heap[w.heap.size]? = some (.cells #[.bool false, .slice A n c] 47 (0, 0)) := by rw [hw1]; exact heap_alloc_new w _
  have HW1 := Lib.hid hw1
  have Hb1 := Lib.hid hb1
  have s1 := some_lt hb1
  have HL := Lib.hid hL
  have HN := Lib.hid hN
  have Hl := Lib.hid hl
  have Hz := Lib.hid hz
  have HA1 := Lib.hid (hA.at_ hB1 (Nat.le_refl _))
  clear hw1 hb1 hL hN hz hA hs h
  go_enter Tryz.func26, Tryz.ntmps26
  go_upto_region 1 with (fail)
  rw [<- HW1.out]
  go_wp2
  go_loopw [3, 4] (fun ov iv wr => ∃ (i : Nat) (T : List UInt8), i <= n /\ iv = .int .i64 i /\ ov = .string ⟨T.toArray⟩ /\ (i < n -> T = Dec.low 4 ((l.take i).map Int.toNat)) /\ (i = n -> T = Dec.text 4 (l.map Int.toNat)) /\ T.length <= 4 * i /\ Below w1.heap.size w1 wr) (fun _ iv _ => n - (intOf iv).toNat)
  case atStart => exact ⟨0, [], Nat.zero_le _, rfl, rfl, fun _ => rfl, fun e => by have := Hl.out; rw [<- e] at this; rw [List.length_eq_zero_iff.1 this]; rfl, Nat.le_refl _, Below.refl _ _⟩
  case round =>
    obtain ⟨i, T, hi, rfl, rfl, hTl, hTe, hTn, hbr⟩ := hrel
    have HTl := Lib.hid hTl
    have HTe := Lib.hid hTe
    have hbr1 := (hbr.block _ s1).trans Hb1.out
    have c1 := cell_of_row _ _ 1 _ _ _ hbr1
    have c0 := cell_of_row _ _ 0 _ _ _ hbr1
    simp at c1 c0
    have sr := some_lt hbr1
    have Hbr := Lib.hid hbr
    clear hTl hTe hbr hbr1
    by_cases hlt : i < n
    · have hil : i < l.length := by rw [Hl.out]; exact hlt
      obtain ⟨b, o, rfl, hbB, hlc⟩ := (HA1.out.at_ Hbr.out (Nat.le_refl _)).look hil
      have hL := HL.out.get i hil
      obtain ⟨a, ha⟩ : ∃ a : Nat, a = l[i].toNat := ⟨_, rfl⟩
      have hla : l[i] = (a : Int) := by omega
      have ha4 : a < 10 ^ 4 := by omega
      rw [hla] at hlc
      have Ha := Lib.hid ha
      have Ha4 := Lib.hid ha4
      have hi0 : (0 : Int) <= (i : Int) := by omega
      have hin : (i : Int) < n := by omega
      have htk : (l.take (i + 1)).map Int.toNat = (l.take i).map Int.toNat ++ [a] := by rw [List.take_succ_eq_append_getElem hil, List.map_append, ha]; rfl
      have HD : Hid (∃ D : Nat -> List UInt8, D 0 = [] /\ (∀ j, (i + 1 < n ∨ 0 < a / 10 ^ j) -> D (j + 1) = UInt8.ofNat (48 + a / 10 ^ j % 10) :: D j) /\ (∀ j, ¬ (i + 1 < n ∨ 0 < a / 10 ^ j) -> D (j + 1) = D j) /\ (i + 1 < n -> D 4 ++ T = Dec.low 4 ((l.take (i + 1)).map Int.toNat)) /\ (i + 1 = n -> D 4 ++ T = Dec.text 4 (l.map Int.toNat))) := Lib.hid (by
        by_cases h1 : i + 1 < n
        · exact ⟨fun j => Dec.pad j a, rfl, fun j _ => Dec.pad_front j a, fun j hj => absurd (.inl h1) hj, fun _ => by rw [htk, Dec.low_snoc, HTl.out hlt], fun e => by omega⟩
        · have hn1 : i + 1 = n := by omega
          have ha0 : 0 < a := by
            have h2 := HN.out.last (by omega)
            have e : l.length - 1 = i := by rw [Hl.out]; omega
            simp only [e] at h2
            omega
          refine ⟨fun j => Dec.top j a, Dec.top_zero ha0, fun j hj => Dec.top_more (by rcases hj with h | h; exact absurd h h1; exact h), fun j hj => Dec.top_same (Nat.le_zero.1 (Nat.not_lt.1 fun h => hj (.inr h))), fun e => by omega, fun _ => ?_⟩
          have e2 : l.map Int.toNat = (l.take i).map Int.toNat ++ [a] := by rw [<- htk, hn1, <- Hl.out, List.take_length]
          show Dec.top 4 a ++ T = _
          rw [e2, Dec.text_snoc, HTl.out hlt, Dec.top_done ha4])
      obtain ⟨D, hD0, hD1, hD2, hD3, hD4⟩ := HD.out
      have HD1 := Lib.hid hD1
      have HD2 := Lib.hid hD2
      have HD3 := Lib.hid hD3
      have HD4 := Lib.hid hD4
      have HD0 := Lib.hid hD0
      have hbw : b < wr.heap.size := hbB
      clear HD hD0 hD1 hD2 hD3 hD4 htk ha hla ha4 hL
      go_wp2
      go_loopw [3, 5, 6] (fun ov nv jv wq => ∃ j : Nat, j <= 4 /\ jv = .int .i64 j /\ nv = .int .i64 ((a / 10 ^ j : Nat) : Int) /\ ov = .string ⟨(D j ++ T).toArray⟩ /\ (D j).length <= j /\ Below w1.heap.size w1 wq) (fun _ _ jv _ => 4 - (intOf jv).toNat)
      case atStart => exact ⟨0, by omega, rfl, by simp, by rw [HD0.out]; rfl, by rw [HD0.out]; exact Nat.le_refl _, Hbr.out⟩
      case round =>
        obtain ⟨j, hj, rfl, rfl, rfl, hDn, hbq⟩ := hrel
        have hbq1 := (hbq.block _ s1).trans Hb1.out
        have e1 := cell_of_row _ _ 1 _ _ _ hbq1
        simp at e1
        have sq := some_lt hbq1
        have Hbq := Lib.hid hbq
        obtain ⟨x, hx⟩ : ∃ x : Nat, x = a / 10 ^ j := ⟨_, rfl⟩
        have hx2 : a / 10 ^ (j + 1) = x / 10 := by rw [Dec.div_succ, hx]
        have Hx := Lib.hid hx
        have Hx2 := Lib.hid hx2
        have hxl : x < 10000 := by rw [hx]; exact Nat.lt_of_le_of_lt (Nat.div_le_self _ _) Ha4.out
        rw [<- hx]
        clear hx hx2 hbq hbq1 c1 c0
        by_cases hj4 : j < 4
        · have hj0 : (0 : Int) <= (j : Int) := by omega
          have hj4' : (j : Int) < 4 := by omega
          have hlen : ¬ 9223372036854775807 < 1 + ((D j).length + T.length) := by omega
          by_cases hc1 : i + 1 < n
          · have hd1 : (i : Int) < (n : Int) - 1 := by omega
            have Hd := Lib.hid (HD1.out j (.inl hc1))
            rw [<- Hx.out] at Hd
            have hcv := byte_text wr x
            go_wp2
            go_roundw
            case rel => exact ⟨j + 1, by omega, by go_num, by rw [Hx2.out]; go_num, by rw [Hd.out, str_cons]; rfl, by rw [Hd.out, List.length_cons]; omega, Hbq.out.alloc Hbq.out.size _⟩
            case measure => simp [intOf]; omega
          · have hd1 : ¬ (i : Int) < (n : Int) - 1 := by omega
            by_cases hx0 : 0 < x
            · have hx1 : (0 : Int) < (x : Int) := by omega
              have Hd := Lib.hid (HD1.out j (.inr (by rw [<- Hx.out]; exact hx0)))
              rw [<- Hx.out] at Hd
              have hcv := byte_text wr x
              go_wp2
              go_roundw
              case rel => exact ⟨j + 1, by omega, by go_num, by rw [Hx2.out]; go_num, by rw [Hd.out, str_cons]; rfl, by rw [Hd.out, List.length_cons]; omega, Hbq.out.alloc Hbq.out.size _⟩
              case measure => simp [intOf]; omega
            · have hx1 : ¬ (0 : Int) < (x : Int) := by omega
              have Hd := Lib.hid (HD2.out j (by rw [<- Hx.out]; rintro (h | h); exact hc1 h; exact hx0 h))
              go_wp2
              go_roundw
              case rel => exact ⟨j + 1, by omega, by go_num, by rw [Hx2.out]; go_num, by rw [Hd.out], by rw [Hd.out]; omega, Hbq.out⟩
              case measure => simp [intOf]; omega
        · obtain rfl : j = 4 := by omega
          have H3 := Lib.hid HD3.out
          go_wp2
          go_roundw
          case rel => exact ⟨i + 1, D 4 ++ T, by omega, by go_num, rfl, HD3.out, HD4.out, by rw [List.length_append]; omega, Hbq.out⟩
          case measure => simp [intOf]; omega
    · obtain rfl : i = n := by omega
      have hT := HTe.out rfl
      rcases Nat.eq_zero_or_pos i with h0 | h0
      · have hl0 : l = [] := List.length_eq_zero_iff.1 (by rw [Hl.out]; exact h0)
        have hz0 : z = 0 := by have := Hz.out; rw [hl0] at this; simpa [Big.sgn, Big.val] using this
        rw [hl0] at hT
        have hT0 : T = [] := hT
        have hd : Hid (Lib.decDigits z.toNat = [48]) := Lib.hid (by rw [hz0]; exact Dec.digits_small (by decide))
        subst hT0
        clear hT hz0 hl0
        go_wp2
        go_ret
        exact ⟨by rw [hd.out]; rfl, hB1.trans (Hbr.out.mono hB1.size)⟩
      · have hT1 : T = Lib.decDigits z.toNat := by
          rw [hT, Dec.text_val (by decide) HL.out HN.out (by rw [Hl.out]; exact h0), Hz.out]; rfl
        have hne : T.isEmpty = false := List.isEmpty_eq_false_iff.2 (by rw [hT1]; exact Dec.digits_ne _)
        have HT1 := Lib.hid hT1
        clear hT hT1
        go_wp2
        go_ret
        exact ⟨by rw [HT1.out]; rfl, hB1.trans (Hbr.out.mono hB1.size)⟩
end
end R1
end Go.Proofs.YtalfikdjclineaaGreatDoor
