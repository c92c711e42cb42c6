/- My texts TextD. -/
import Derived.Test.YtalfikdjclineaaGreatDoorShelf
import Derived.Lib.AppendIntMem
import Derived.Test.YtalfikdjclineaaGreatDoorG32
import Derived.Test.YtalfikdjclineaaGreatDoorG34
set_option linter.unusedVariables false
set_option linter.unusedSimpArgs false
set_option maxRecDepth 100000
set_option maxHeartbeats 8000000
namespace Go.Proofs.YtalfikdjclineaaGreatDoor
open Go.RowKit
theorem bld_old {T e : TypeId} {B b : Nat} {bs : List Value} {w w' : World} (h : Lib.IsBuilder T e B b bs w) (hb : Below w.heap.size w w') : Lib.IsBuilder T e B b bs w' := by
  have hg : w.grownBy w' none := ⟨hb.os, hb.tape, hb.output, hb.size, fun i hi _ => hb.block i hi⟩
  rcases h with ⟨h1, v, h2, h3, h4⟩ | ⟨h1, v, h2, h3, h4⟩
  · exact .inl ⟨h1, v, (hb.block b (some_lt h2)).trans h2, h3.kept hg (by cases v.ownBlock <;> simp), h4⟩
  · exact .inr ⟨h1, v, (hb.block b (some_lt h2)).trans h2, h3.kept hg (by cases v.ownBlock <;> simp), h4⟩
theorem bld_write (B b : Nat) (bs : List Value) (s : ByteArray) (w : World) (h : Lib.IsBuilder 98 5 B b bs w) (hlen : bs.length + s.size <= 140737488355328) (hBw : B <= w.heap.size) :
    Calls Tryz.prog 48 #[.pointer (some ⟨b, 0, none⟩), .string s] w fun e w' => e = .returned (.tuple #[.int .i64 s.size, .nilIface]) /\ (Lib.BuilderAt 98 5 B b (.pointer (some ⟨b, 0, none⟩)) (bs ++ Lib.strCells s) w' /\ Below B w w') :=
  Any.Builder_WriteString { Tryz.lays105 with } Tryz.Builder_Extra_105 B b bs s w h hlen hBw
theorem rep_one : ∀ c : Nat, Lib.repeatL [48] c = List.replicate c 48
  | 0 => rfl
  | c + 1 => by rw [Lib.repeatL, rep_one c, List.replicate_succ]; rfl
theorem itoa_nat (a : Nat) : Lib.itoa (a : Int) = Lib.decDigits a := by
  unfold Lib.itoa
  rw [if_neg (by omega), Int.toNat_natCast]
theorem cells_app (l m : List UInt8) : Lib.byteCells l ++ Lib.strCells ⟨m.toArray⟩ = Lib.byteCells (l ++ m) := by
  simp [Lib.byteCells, Lib.strCells]
abbrev Tab (B : Nat) (w : World) : Prop := Lib.TabBelow Tryz.prog B w "internal/strconv.uint64pow10" .u64 Lib.pow10Tab
section
variable (w : World)
theorem textd_any (k : Nat) (v : Value) (z : Int) (hk : k <= 1000) (hz0 : 0 <= z) (h : PI w w.heap.size k v z) (hT : Tab w.heap.size w) :
    Calls Tryz.prog 24 #[v] w fun e w' => e = .returned (.string ⟨(Lib.decDigits z.toNat).toArray⟩) /\ Below w.heap.size w w' := by
  obtain ⟨neg, A, n, c, l, rfl, hl, hn, hc, hL, hN, hz, hA, hs⟩ := h.parts
  have hng : neg = false := by rcases hs with ⟨_, e, _⟩ | ⟨_, e, _⟩ | ⟨_, _, e⟩; exact e; exact e; omega
  subst hng
  obtain ⟨w1, hw1⟩ : ∃ W, W = w.alloc (.cells #[.bool false, .slice A n c] 39) := ⟨_, rfl⟩
  have hB1 : Below w.heap.size w w1 := by rw [hw1]; exact (Below.refl _ _).alloc (Nat.le_refl _) _
  have hb1 : w1.heap[w.heap.size]? = some (.cells #[.bool false, .slice A n c] 39 (0, 0)) := by rw [hw1]; exact heap_alloc_new w _
  have HW1 := Lib.hid hw1
  have Hb1 := Lib.hid hb1
  have s1 := some_lt hb1
  have HL := Lib.hid hL
  have HN := Lib.hid hN
  have Hl := Lib.hid hl
  have Hz := Lib.hid hz
  have HA1 := Lib.hid (hA.at_ hB1 (Nat.le_refl _))
  have c1 := cell_of_row _ _ 1 _ _ _ hb1
  have c0 := cell_of_row _ _ 0 _ _ _ hb1
  simp at c1 c0
  have HT1 := Lib.hid ((hT.on hB1 : Tab w.heap.size w1))
  clear hw1 hb1 hL hN hz hA hs h hT
  go_enter Tryz.func24, Tryz.ntmps24
  go_upto_region 1 with (fail)
  rw [<- HW1.out]
  rcases Nat.eq_zero_or_pos n with h0 | h0
  · have hl0 : l = [] := List.length_eq_zero_iff.1 (by rw [Hl.out]; exact h0)
    have hzz : z = 0 := by have := Hz.out; rw [hl0] at this; simpa [Big.sgn, Big.val] using this
    have hd : Hid (Lib.decDigits z.toNat = [48]) := Lib.hid (by rw [hzz]; exact Dec.digits_small (by decide))
    subst h0
    clear hl hzz hl0
    go_wp2
    go_ret
    exact ⟨by rw [hd.out]; rfl, hB1⟩
  · have hn0 : ((n : Int) == 0) = false := by simp; omega
    obtain ⟨w2, hw2⟩ : ∃ W, W = w1.alloc (.cells #[.pointer none, .slice none 0 0] 98) := ⟨_, rfl⟩
    have hB2 : Below w1.heap.size w1 w2 := by rw [hw2]; exact (Below.refl _ _).alloc (Nat.le_refl _) _
    have hbl := Lib.fresh_isBuilder 98 5 w1
    rw [<- hw2] at hbl
    have HW2 := Lib.hid hw2
    have Hbl := Lib.hid hbl
    have Hb2 := Lib.hid ((hB2.block _ s1).trans Hb1.out)
    have HB2 := Lib.hid hB2
    clear hw2 hbl hB2
    go_upto_region 4 with (fail)
    rw [<- HW2.out]
    have hb2 := Hb2.out
    have d1 := cell_of_row _ _ 1 _ _ _ hb2
    have d0 := cell_of_row _ _ 0 _ _ _ hb2
    simp at d1 d0
    have s2 := some_lt hb2
    clear c1 c0 hb2
    go_wp2
    go_loopw [4] (fun iv wr => ∃ t : Nat, t <= n /\ iv = .int .i64 ((t : Int) - 1) /\ Lib.IsBuilder 98 5 w1.heap.size w1.heap.size (Lib.byteCells (Dec.text 9 ((l.drop t).map Int.toNat))) wr /\ Below w1.heap.size w1 wr) (fun iv _ => (intOf iv + 1).toNat)
    case atStart => exact ⟨n, Nat.le_refl _, rfl, by rw [List.drop_of_length_le (by rw [Hl.out]; exact Nat.le_refl _)]; exact Hbl.out, HB2.out⟩
    case round =>
      obtain ⟨t, ht, rfl, hbl, hbr⟩ := hrel
      have hbr1 := (hbr.block _ s1).trans Hb1.out
      have e1 := cell_of_row _ _ 1 _ _ _ hbr1
      simp at e1
      have sr := some_lt hbr1
      have Hbl2 := Lib.hid hbl
      have Hbr := Lib.hid hbr
      have szr := hbr.size
      clear hbl hbr hbr1 d1 d0 Hbl
      match t, ht with
      | 0, _ =>
        go_wp2_with (fail)
        refine (Tryz.Builder_String_any w1.heap.size w1.heap.size _ wr Hbl2.out szr).mono ?_
        rintro e w4 ⟨rfl, hB4⟩
        have htx := Dec.text_val (k := 9) (B := 1000000000) (by decide) HL.out HN.out (by rw [Hl.out]; exact h0)
        have Htx := Lib.hid htx
        clear htx
        go_wp2
        go_ret
        exact ⟨by rw [Htx.out, Hz.out]; rfl, hB1.trans ((Hbr.out.trans hB4).mono hB1.size)⟩
      | t + 1, ht =>
        rw [show ((t + 1 : Nat) : Int) - 1 = (t : Int) by omega]
        have htl : t < l.length := by rw [Hl.out]; omega
        obtain ⟨b, o, rfl, hbB, hlc⟩ := (HA1.out.at_ (w' := wr) (Hbr.out) (Nat.le_refl _)).look htl
        have hL := HL.out.get t htl
        obtain ⟨a, ha⟩ : ∃ a : Nat, a = l[t].toNat := ⟨_, rfl⟩
        have hla : l[t] = (a : Int) := by omega
        have ha9 : a < 10 ^ 9 := by omega
        rw [hla] at hlc
        have Ha := Lib.hid ha
        have Ha9 := Lib.hid ha9
        have ht0 : (0 : Int) <= (t : Int) := by omega
        have htn : (t : Int) < n := by omega
        have a0 : -9223372036854775808 <= (a : Int) := by omega
        have a1 : (a : Int) <= 9223372036854775807 := by omega
        have a2 : (a : Int) < 4294967296 := by omega
        clear hL hla ha
        go_wp2_with (fail)
        refine (Tryz.strconv_Itoa (a : Int) a0 a1 wr ((HT1.out.on (Hbr.out.mono (Nat.le_of_lt s1))).here)).mono ?_
        rintro e w3 ⟨rfl, kk, os, hw3⟩
        rw [itoa_nat]
        have hB3 := Lib.below_grow wr.heap.size wr (Nat.le_refl _) kk os
        rw [<- hw3] at hB3
        obtain ⟨ds, hds⟩ : ∃ ds, ds = Lib.decDigits a := ⟨_, rfl⟩
        rw [<- hds]
        have hpf := Dec.pad_fill 9 a (by omega) Ha9.out
        rw [<- hds] at hpf
        have hdl := hpf.2
        have Hpf := Lib.hid hpf.1
        have Hds := Lib.hid hds
        have Hbr3 := Lib.hid (Hbr.out.trans (hB3.mono szr))
        have hbr3 := (Hbr3.out.block _ s1).trans Hb1.out
        have f1 := cell_of_row _ _ 1 _ _ _ hbr3
        simp at f1
        have s3 := some_lt hbr3
        have Hbl3 := Lib.hid (bld_old Hbl2.out hB3)
        have sz3 := Hbr3.out.size
        have hdr : (l.drop t).map Int.toNat = a :: (l.drop (t + 1)).map Int.toNat := by rw [List.drop_eq_getElem_cons htl, List.map_cons, <- Ha.out]
        have Hdr := Lib.hid hdr
        have HTn : Hid ((Dec.text 9 ((l.drop (t + 1)).map Int.toNat)).length <= 9000) := Lib.hid (by
          have h := Dec.text_len 9 ((l.drop (t + 1)).map Int.toNat) (fun x hx => by
            rw [List.mem_map] at hx
            obtain ⟨y, hy, rfl⟩ := hx
            have := HL.out y (List.mem_of_mem_drop hy)
            omega) (by omega)
          rw [List.length_map, List.length_drop, Hl.out] at h
          omega)
        clear hw3 hB3 hpf hds hbr3 hdr e1
        by_cases htn1 : t + 1 < n
        · have hd1 : (t : Int) < (n : Int) - 1 := by omega
          go_wp2_with (fail)
          rw [show (9 - (ds.length : Int)) = ((9 - ds.length : Nat) : Int) by omega]
          refine (Tryz.strings_Repeat ⟨#[48]⟩ (9 - ds.length) w3 (by omega) (by show 1 * _ <= _; omega)).mono ?_
          rintro e W4 ⟨rfl, hB4⟩
          rw [show (⟨#[48]⟩ : ByteArray).data.toList = [48] from rfl, rep_one]
          have HB4 := Lib.hid (Hbr3.out.trans (hB4.mono sz3))
          have Hbl4 := Lib.hid (bld_old Hbl3.out hB4)
          have HSZ := Lib.hid HB4.out.size
          have hps : Dec.pad 9 a = List.replicate (9 - ds.length) 48 ++ ds := Hpf.out
          have hpl : (List.replicate (9 - ds.length) (48 : UInt8) ++ ds).length = 9 := by rw [<- hps]; exact Dec.pad_length 9 a
          have HLEN : Hid ((Lib.byteCells (Dec.text 9 ((l.drop (t + 1)).map Int.toNat))).length + ByteArray.size ⟨(List.replicate (9 - ds.length) (48 : UInt8) ++ ds).toArray⟩ <= 140737488355328) := Lib.hid (by
            have h1 := HTn.out
            have h2 : ByteArray.size ⟨(List.replicate (9 - ds.length) (48 : UInt8) ++ ds).toArray⟩ = 9 := by rw [<- hpl]; simp [ByteArray.size]
            have h3 : (Lib.byteCells (Dec.text 9 ((l.drop (t + 1)).map Int.toNat))).length = (Dec.text 9 ((l.drop (t + 1)).map Int.toNat)).length := by simp [Lib.byteCells]
            omega)
          have Heq : Hid (Dec.text 9 ((l.drop t).map Int.toNat) = Dec.text 9 ((l.drop (t + 1)).map Int.toNat) ++ (List.replicate (9 - ds.length) (48 : UInt8) ++ ds)) := Lib.hid (by
            rw [Hdr.out, <- hps]
            have hne : t + 1 < l.length := by rw [Hl.out]; exact htn1
            rw [List.drop_eq_getElem_cons hne, List.map_cons]
            rfl)
          have hrl : (List.replicate (9 - ds.length) (48 : UInt8)).length = 9 - ds.length := List.length_replicate
          obtain ⟨rs, hrs⟩ : ∃ rs, rs = List.replicate (9 - ds.length) (48 : UInt8) := ⟨_, rfl⟩
          rw [<- hrs] at hrl hpl HLEN Heq ⊢
          have hcs : ¬ 9223372036854775807 < rs.length + ds.length := by omega
          clear hrs hps hpl f1 hB4
          go_wp2_with (fail)
          rw [str_app]
          refine (bld_write w1.heap.size w1.heap.size _ ⟨(rs ++ ds).toArray⟩ W4 Hbl4.out HLEN.out HSZ.out).mono ?_
          rintro e w5 ⟨rfl, hb5, hB5⟩
          rw [cells_app] at hb5
          have hst : Lib.IsBuilder 98 5 w1.heap.size w1.heap.size (Lib.byteCells (Dec.text 9 ((l.drop t).map Int.toNat))) w5 := by
            rw [Heq.out]
            exact .inr hb5
          have Hst := Lib.hid hst
          have Hb5 := Lib.hid (HB4.out.trans hB5)
          clear hb5 hst hB5
          go_wp2
          go_roundw
          case rel => exact ⟨t, by omega, by go_num, Hst.out, Hb5.out⟩
          case measure => simp [intOf]
        · have hd1 : decide ((t : Int) < (n : Int) - 1) = false := by simp; omega
          have hnt : n = t + 1 := by omega
          have HNT := Lib.hid hnt
          have HB4 := Hbr3
          have Hbl4 := Hbl3
          have HSZ := Lib.hid HB4.out.size
          obtain ⟨W4, hW4⟩ : ∃ W, W = w3 := ⟨_, rfl⟩
          have hnil : (l.drop (t + 1)).map Int.toNat = [] := by rw [List.drop_of_length_le (by rw [Hl.out]; omega)]; rfl
          have HLEN : Hid ((Lib.byteCells (Dec.text 9 ((l.drop (t + 1)).map Int.toNat))).length + ByteArray.size ⟨ds.toArray⟩ <= 140737488355328) := Lib.hid (by
            rw [hnil]
            have h2 : ByteArray.size ⟨ds.toArray⟩ = ds.length := by simp [ByteArray.size]
            simp [Lib.byteCells, Dec.text]
            omega)
          have Heq : Hid (Dec.text 9 ((l.drop t).map Int.toNat) = Dec.text 9 ((l.drop (t + 1)).map Int.toNat) ++ ds) := Lib.hid (by rw [Hdr.out, hnil, Hds.out]; rfl)
          subst hW4
          clear hnil hnt htn1 ht
          go_wp2_with (fail)
          refine (bld_write w1.heap.size w1.heap.size _ ⟨(ds).toArray⟩ W4 Hbl4.out HLEN.out HSZ.out).mono ?_
          rintro e w5 ⟨rfl, hb5, hB5⟩
          rw [cells_app] at hb5
          have hst : Lib.IsBuilder 98 5 w1.heap.size w1.heap.size (Lib.byteCells (Dec.text 9 ((l.drop t).map Int.toNat))) w5 := by
            rw [Heq.out]
            exact .inr hb5
          have Hst := Lib.hid hst
          have Hb5 := Lib.hid (HB4.out.trans hB5)
          clear hb5 hst hB5
          go_wp2
          go_roundw
          case rel => exact ⟨t, by omega, by go_num, Hst.out, Hb5.out⟩
          case measure => simp [intOf]
end
end Go.Proofs.YtalfikdjclineaaGreatDoor
