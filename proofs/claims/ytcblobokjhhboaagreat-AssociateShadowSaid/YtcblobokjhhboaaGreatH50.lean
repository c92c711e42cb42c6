/- My texts OpenL, PostO, LineP, LineW, LineC. -/
import Derived.SizedLaws
import Derived.Test.YtcblobokjhhboaaGreatH39
import Derived.Test.YtcblobokjhhboaaGreatH42
import Derived.Test.YtcblobokjhhboaaGreatH46
set_option linter.unusedVariables false
set_option linter.unusedSimpArgs false
set_option maxRecDepth 100000
set_option maxHeartbeats 8000000
namespace Go.Proofs.YtcblobokjhhboaaGreat
open Go.ChangeShapes Go.WideShapes Go.ChangeAt Go.RowKit Go.Deep
theorem rawBytes : Tryz.prog.bytesOf 57 = 104 := by kernel_rfl
theorem raws_bytes {H : Type} {enc : TypeId × Value -> H} {w : World} {spare : Nat -> Bool} {held : Bool} {ts : List TypeId} {ds : List (DataW H)} {d : DataW H} {p : List MemPlace} {A : Option Addr} {n c : Nat}
  (hsz : (DataW.weightsEach Tryz.prog ts ds).all (· <= reachBytes) = true) (ht : ts[0]? = some 30) (hd : ds[0]? = some d) (h : DataW.Trod enc Tryz.prog w 0 spare held 30 (.slice A n c) d p) : n * 104 <= 140737488355328 := by
 obtain ⟨fuel, hf⟩ := h
 simp only [Value.cells] at hf
 rcases open_slice Tryz.underlying30 hf with ⟨hcs, _⟩ | ⟨a, len, cap, m, k, D, Pl, hcs, _, hl, hm, hmm, hx, _⟩
 ·simp at hcs
  omega
 ·simp at hcs
  obtain ⟨_, rfl, _⟩ := hcs
  cases hx
  have := sized_slice hsz ht hd Tryz.underlying30
  rw [rawBytes, List.length_map, List.length_range] at this
  have h2 := reachBytes_lt
  have h3 : n * 104 <= (n + ((List.range (m - n)).map fun j => D (n + j)).length) * 104 := Nat.mul_le_mul_right _ (by omega)
  omega
end Go.Proofs.YtcblobokjhhboaaGreat
namespace Go.Proofs.YtcblobokjhhboaaGreat
open Go.RowKit
namespace Po
def none_ (r : List Prt × Int) : Prop := r.2 ≠ 0 ∨ r.1 = []
instance (r : List Prt × Int) : Decidable (none_ r) := by unfold none_; exact inferInstance
def pk (v : Int) (r : List Prt × Int) : Int := if none_ r then 0 else v
def pl (r : List Prt × Int) : List Prt := if none_ r then [] else r.1
theorem pl_length (r : List Prt × Int) : (pl r).length <= r.1.length := by unfold pl; split <;> simp
theorem pk_yes {v : Int} {r : List Prt × Int} (h : none_ r) : pk v r = 0 := if_pos h
theorem pk_no {v : Int} {r : List Prt × Int} (h : ¬ none_ r) : pk v r = v := if_neg h
theorem pl_yes {r : List Prt × Int} (h : none_ r) : pl r = [] := if_pos h
theorem pl_no {r : List Prt × Int} (h : ¬ none_ r) : pl r = r.1 := if_neg h
end Po
theorem PostingPost.one {kd x : Int} {r : List Prt × Int} {w w' : World} {e : Ending} (h : PostingPost kd x r w e w') :
  Below w.heap.size w w' /\ ∃ A c, Fresh w.heap.size A /\ e = .returned (.tuple #[.agg #[.int .i64 (Po.pk kd r), .int .i64 (Po.pk x r), .int .i64 (Po.pk (-1) r), .int .i64 0, .slice A (Po.pl r).length c], .int .i64 r.2]) /\ PrtsAt w' w'.heap.size A (Po.pl r) := by
 obtain ⟨hb, ⟨h1, rfl⟩ | ⟨h1, h2, A, c, hf, rfl, hA⟩⟩ := h
 ·refine ⟨hb, none, 0, (fun _ h => by cases h), ?_, ?_⟩
  ·rw [Po.pk_yes h1, Po.pk_yes h1, Po.pk_yes h1, Po.pl_yes h1]; rfl
  ·rw [Po.pl_yes h1]; exact .inl rfl
 ·have hn : ¬ Po.none_ r := fun h => by rcases h with h | h <;> contradiction
  refine ⟨hb, A, c, hf, ?_, ?_⟩
  ·rw [Po.pk_no hn, Po.pk_no hn, Po.pk_no hn, Po.pl_no hn, h1]
  ·rw [Po.pl_no hn]; exact hA
theorem Gr.apost_len (g : Grp) (m : List Cnt) (x : Int) : (Gr.apost g m x).1.length <= 3 := by
 unfold Gr.apost
 split
 ·simp
 ·unfold Po.clean
  split
  ·simp
  ·exact Po.parts_length _
theorem RowsAt.stored {α : Type} {f : α -> List Value} {sz : Nat} {w : World} {A : Option Addr} {l : List α} (h : RowsAt f sz w w.heap.size A l) {b : Nat} (hne : l ≠ [] -> ∀ ad, A = some ad -> ad.block ≠ b) (cs : Array Value) : RowsAt f sz (w.setRow b cs) (w.setRow b cs).heap.size A l := by
 rcases h with h | ⟨b', o, e, hl, hc⟩
 ·exact .inl h
 ·by_cases h0 : l = []
  ·exact .inl h0
  ·have hn : b' ≠ b := hne h0 _ e
   exact .inr ⟨b', o, e, by simpa using hl, fun k hk j v hv => (World.cell?_of_block (w := w) (setRow_other w b b' cs hn)).trans (hc k hk j v hv)⟩
end Go.Proofs.YtcblobokjhhboaaGreat
namespace Go.Proofs.YtcblobokjhhboaaGreat
open Go.RowKit
namespace Po
def part (l : List Prt) (a : Int) : Int := match l.find? (fun x => x.acct == a) with
 | some x => x.amt
 | none => 0
theorem part_map (f : Int -> Int) (a : Int) : ∀ (s : List Int), part (s.map (fun a => ⟨a, f a⟩)) a = if a ∈ s then f a else 0
 | [] => rfl
 | b :: s => by
  by_cases h : b = a
  ·subst h; simp [part]
  ·have ih := part_map f a s
   unfold part at ih ⊢
   rw [List.map_cons, List.find?_cons_of_neg (by simp [h])]
   rw [ih]
   simp [Ne.symm h]
theorem part_parts (l : List Prt) (a : Int) : part (parts l) a = sum a l := by
 unfold parts
 rw [part_map (fun a => sum a l)]
 by_cases h : a ∈ keep l
 ·rw [if_pos h]
 ·rw [if_neg h]
  unfold keep at h
  rw [List.mem_filter] at h
  by_cases ha : a ∈ asc l
  ·have : ¬ (decide (sum a l ≠ 0) = true) := fun e => h ⟨ha, e⟩
   simp at this
   exact this.symm
  ·symm
   exact sum_none a l fun x hx e => ha ((mem_asc a l).2 ⟨x, hx, e⟩)
theorem parts_none {l : List Prt} (h : ∀ a, sum a l = 0) : parts l = [] := by
 unfold parts keep
 rw [List.map_eq_nil_iff, List.filter_eq_nil_iff]
 intro a _
 simp [h a]
theorem sum_three {a b c : Int} {u v t : Int} (hab : a ≠ b) (hac : a ≠ c) (hbc : b ≠ c) :
  sum a [⟨a, u⟩, ⟨b, v⟩, ⟨c, t⟩] = u /\ sum b [⟨a, u⟩, ⟨b, v⟩, ⟨c, t⟩] = v /\ sum c [⟨a, u⟩, ⟨b, v⟩, ⟨c, t⟩] = t := by
 simp [sum, hab, hac, hbc, Ne.symm hab, Ne.symm hac, Ne.symm hbc]
end Po
namespace Gr
def Shared (p q : Int) (m : List Cnt) : Prop := ∀ y ∈ m, y.sN = Int.tdiv p (Int.gcd p q) /\ y.sD = Int.tdiv q (Int.gcd p q)
theorem rd_zero (n D : Int) (hD : 0 < D) : R1.rd n 0 D = 0 := by
 unfold R1.rd
 have hg : (Int.gcd 0 D : Int) = D := by rw [Int.gcd_zero_left]; omega
 rw [Int.mul_zero, Int.one_mul, hg, Int.zero_tdiv, Int.tdiv_self (by omega)]
 rfl
theorem rd_one (n : Int) : R1.rd n 1 1 = n := by
 unfold R1.rd
 have hg : (Int.gcd n 1 : Int) = 1 := by simp
 rw [Int.mul_one, Int.mul_one, hg, Int.tdiv_one, Int.tdiv_one]
 have : Int.tdiv (2 * (n.natAbs : Int) + 1) (2 * 1) = (n.natAbs : Int) := by
  rw [Int.tdiv_eq_ediv_of_nonneg (by omega)]
  omega
 rw [this]
 unfold Big.sgn
 by_cases h : n < 0
 ·rw [decide_eq_true h]; simp; omega
 ·rw [decide_eq_false h]; simp; omega
theorem assoc_shared {g : Grp} {m : List Cnt} {x p q : Int} (hm : Shared p q m) (hq' : m ≠ [] -> 0 < q) :
  (p = 0 -> (assoc g m x).1.2.2.1 = 0 /\ (assoc g m x).1.2.2.2 = 0) /\ (p = q -> (assoc g m x).1.2.2.1 = (assoc g m x).1.1 /\ (assoc g m x).1.2.2.2 = (assoc g m x).1.2.1) := by
 unfold assoc
 split
 ·simp
 ·cases hc : Cn.cfind m x with
  | none => simp
  | some y =>
   simp only []
   split
   ·simp
   ·have hy : y ∈ m := by unfold Cn.cfind at hc; exact List.mem_of_find?_eq_some hc
    obtain ⟨h1, h2⟩ := hm y hy
    have hq : 0 < q := hq' (List.ne_nil_of_mem hy)
    have hpos : 0 < y.sD := by rw [h2]; exact R1.red_pos p hq
    refine ⟨fun hp => ?_, fun hp => ?_⟩
    ·have h0 : y.sN = 0 := by rw [h1, hp, Int.zero_tdiv]
     simp only []
     rw [h0]
     exact ⟨rd_zero _ _ hpos, rd_zero _ _ hpos⟩
    ·have hg : (Int.gcd q q : Int) = q := by rw [Int.gcd_self]; omega
     have h0 : y.sN = 1 := by rw [h1, hp, hg]; exact Int.tdiv_self (by omega)
     have h3 : y.sD = 1 := by rw [h2, hp, hg]; exact Int.tdiv_self (by omega)
     simp only []
     rw [h0, h3]
     exact ⟨rd_one _, rd_one _⟩
theorem assoc_bd {g : Grp} {m : List Cnt} {x : Int} (hm : ∀ y ∈ m, ShareOk y.sN y.sD /\ y.shs.length <= 40 /\ ∀ z ∈ y.shs, z.small) :
  (-1000000000000001 <= (assoc g m x).1.2.2.1 /\ (assoc g m x).1.2.2.1 <= 1000000000000001) /\ -1000000000000001 <= (assoc g m x).1.2.2.2 /\ (assoc g m x).1.2.2.2 <= 1000000000000001 := by
 unfold assoc
 split
 ·simp
 ·cases hc : Cn.cfind m x with
  | none => simp
  | some y =>
   simp only []
   split
   ·simp
   ·have hy : y ∈ m := by unfold Cn.cfind at hc; exact List.mem_of_find?_eq_some hc
    obtain ⟨h1, h2, h3⟩ := hm y hy
    have b1 := sumOf_bd (isResult g) y.shs h3
    have b2 := sumOf_bd (isEquity g) y.shs h3
    exact ⟨rd_small (n := sumOf (isResult g) y.shs) h1 (by omega) (by omega), rd_small (n := sumOf (isEquity g) y.shs) h1 (by omega) (by omega)⟩
theorem line_parts {g : Grp} {m : List Cnt} {x fa fb fc fd p q : Int} {er : Int} {ps : List Prt} (ha : assoc g m x = ((fa, fb, fc, fd), 0)) (he : (apost g m x).2 = 0) (hps : Po.pl (apost g m x) = ps) (hd : g.r10 ≠ g.r6 /\ g.r10 ≠ g.r2 /\ g.r6 ≠ g.r2) :
  Po.part ps g.r10 = fc /\ Po.part ps g.r6 = fd /\ Po.part ps g.r2 = -(fc + fd) /\ (fc = 0 -> fd = 0 -> ps = []) := by
 have hap : apost g m x = Po.clean [⟨g.r10, fc⟩, ⟨g.r6, fd⟩, ⟨g.r2, -(fc + fd)⟩] := by rw [apost, ha]; exact if_neg (fun h => h rfl)
 rw [hap] at he hps
 have hb : Po.bad [⟨g.r10, fc⟩, ⟨g.r6, fd⟩, ⟨g.r2, -(fc + fd)⟩] = false := by
  cases h : Po.bad [⟨g.r10, fc⟩, ⟨g.r6, fd⟩, ⟨g.r2, -(fc + fd)⟩] with
  | false => rfl
  | true => rw [Po.clean, if_pos h] at he; cases he
 have hcl : Po.clean [⟨g.r10, fc⟩, ⟨g.r6, fd⟩, ⟨g.r2, -(fc + fd)⟩] = (Po.parts [⟨g.r10, fc⟩, ⟨g.r6, fd⟩, ⟨g.r2, -(fc + fd)⟩], 0) := by rw [Po.clean, if_neg (by rw [hb]; simp)]
 have hpp : ps = Po.parts [⟨g.r10, fc⟩, ⟨g.r6, fd⟩, ⟨g.r2, -(fc + fd)⟩] := by
  rw [<- hps, hcl]
  by_cases hn : Po.none_ (Po.parts [⟨g.r10, fc⟩, ⟨g.r6, fd⟩, ⟨g.r2, -(fc + fd)⟩], 0)
  ·rw [Po.pl_yes hn]
   rcases hn with h | h
   ·exact absurd rfl h
   ·exact h.symm
  ·rw [Po.pl_no hn]
 obtain ⟨s1, s2, s3⟩ := Po.sum_three (u := fc) (v := fd) (t := -(fc + fd)) hd.1 hd.2.1 hd.2.2
 refine ⟨?_, ?_, ?_, fun h1 h2 => ?_⟩
 ·rw [hpp, Po.part_parts, s1]
 ·rw [hpp, Po.part_parts, s2]
 ·rw [hpp, Po.part_parts, s3]
 ·rw [hpp]
  refine Po.parts_none fun a => ?_
  subst h1 h2
  simp [Po.sum]
theorem line_error {g : Grp} {m : List Cnt} {x : Int} (h : (assoc g m x).2 ≠ 0 ∨ (apost g m x).2 ≠ 0) : Po.pl (apost g m x) = [] := by
 have hn : Po.none_ (apost g m x) := by
  rcases h with h | h
  ·left; rw [apost, if_pos h]; exact h
  ·exact .inl h
 exact Po.pl_yes hn
end Gr
end Go.Proofs.YtcblobokjhhboaaGreat
namespace Go.Proofs.YtcblobokjhhboaaGreat
open Go.RowKit
section
variable (w : World)
theorem part_take {l : List Prt} {a : Int} {k : Nat} (hk : k < l.length) (h : (l.take k).find? (fun x => x.acct == a) = none) :
  (l[k].acct = a -> Po.part l a = l[k].amt) /\ (l[k].acct ≠ a -> (l.take (k + 1)).find? (fun x => x.acct == a) = none) := by
 have h1 : (l.take (k + 1)).find? (fun x => x.acct == a) = if l[k].acct = a then some l[k] else none := by
  rw [List.take_succ_eq_append_getElem hk, List.find?_append, h]
  simp [List.find?_cons]
  split <;> simp_all
 constructor
 ·intro e
  rw [if_pos e] at h1
  unfold Po.part
  have h2 : l.find? (fun x => x.acct == a) = (l.take (k + 1) ++ l.drop (k + 1)).find? (fun x => x.acct == a) := by rw [List.take_append_drop]
  rw [h2, List.find?_append, h1]; rfl
 ·intro e
  rw [if_neg e] at h1
  exact h1
theorem partl_any (k x o r : Int) (A : Option Addr) (n c : Nat) (l : List Prt) (a : Int) (hl : l.length = n) (hn : n <= 1000) (h : PrtsAt w w.heap.size A l) :
  Calls Tryz.prog 23 #[.agg #[.int .i64 k, .int .i64 x, .int .i64 o, .int .i64 r, .slice A n c], .int .i64 a] w fun e w' => e = .returned (.int .i64 (Po.part l a)) /\ Below w.heap.size w w' := by
 obtain ⟨hB0, hb0, hz⟩ := row_new w #[.int .i64 k, .int .i64 x, .int .i64 o, .int .i64 r, .slice A n c] 49
 obtain ⟨W1, hW1⟩ : ∃ W1, W1 = (w.alloc (.cells #[.int .i64 k, .int .i64 x, .int .i64 o, .int .i64 r, .slice A n c] 49)) := ⟨_, rfl⟩
 rw [<- hW1] at hB0 hb0 hz
 have HW := Lib.hid hW1
 have a4 := cell_of_row _ _ 4 _ _ _ hb0
 simp at a4
 have s1 : w.heap.size < W1.heap.size := by omega
 have H := Lib.hid (RowsAt.at_ h hB0)
 have Hl := Lib.hid hl
 have HB0 := Lib.hid hB0
 clear hW1 hz hb0 hl h hB0
 go_enter Tryz.func23, Tryz.ntmps23
 go_upto_region 1 with (fail)
 rw [<- HW.out]
 go_wp2
 go_loopw [5] (fun i wr => ∃ j : Nat, j <= n /\ i = .int .i64 j /\ (l.take j).find? (fun x => x.acct == a) = none /\ wr = W1) (fun i _ => n - (intOf i).toNat)
 case atStart => exact ⟨0, Nat.zero_le _, rfl, rfl, rfl⟩
 case round =>
  obtain ⟨j, hj, rfl, hno, rfl⟩ := hrel
  have Hno := Lib.hid hno
  clear hno
  by_cases hlt : j < n
  ·have hjl : j < l.length := by have := Hl.out; omega
   obtain ⟨b, o1, hAe, hbB, c0, c1⟩ := PrtsAt.two H.out hjl
   obtain ⟨hy, hn'⟩ := part_take hjl Hno.out
   subst hAe
   obtain ⟨u, hu⟩ : ∃ u, u = l[j].acct := ⟨_, rfl⟩
   obtain ⟨m, hm⟩ : ∃ m, m = l[j].amt := ⟨_, rfl⟩
   rw [<- hu] at c0 hy hn'
   rw [<- hm] at c1 hy
   by_cases hc : u = a
   ·have HV := Lib.hid (hy hc)
    have hcb : (u == a) = true := by simp [hc]
    clear hu hm hy hn' hc
    go_wp2
    go_ret
    exact ⟨by rw [HV.out]; rfl, HB0.out⟩
   ·have HV := Lib.hid (hn' hc)
    have hcb : (u == a) = false := by simp [hc]
    clear hu hm hy hn' hc
    go_wp2
    go_roundw
    case rel => exact ⟨j + 1, by omega, by go_num, HV.out, by simp⟩
    case measure => simp [intOf]; omega
  ·obtain rfl : j = n := by omega
   have htk : l.take j = l := List.take_of_length_le (by have := Hl.out; omega)
   have HV : Hid (Po.part l a = 0) := by show _ = _; have := Hno.out; rw [htk] at this; unfold Po.part; rw [this]
   clear htk
   go_wp2
   go_ret
   exact ⟨by rw [HV.out]; rfl, HB0.out⟩
end
end Go.Proofs.YtcblobokjhhboaaGreat
namespace Go.Proofs.YtcblobokjhhboaaGreat
open Go.RowKit
theorem grown_self (w : World) (row : Option Nat) : w.grownBy w row := ⟨rfl, rfl, rfl, Nat.le_refl _, fun _ _ _ => rfl⟩
def rawRow (l : List Raw) : List Value := l.flatMap Raw.cells
theorem rawRow_length : ∀ (l : List Raw), (rawRow l).length = l.length * 9
 | [] => rfl
 | a :: l => by unfold rawRow; rw [List.flatMap_cons, List.length_append, show (List.flatMap Raw.cells l).length = l.length * 9 from rawRow_length l]; simp [Raw.cells]; omega
theorem rawInfo : (Tryz.prog.info? 57).map (fun i => (i.zero, i.size, i.bytes)) = some (some (.agg #[.int .i64 0, .int .i64 0, .int .i64 0, .int .i64 0, .int .i64 0, .int .i64 0, .int .i64 0, .slice none 0 0, .slice none 0 0]), 9, 104) := by kernel_rfl
def Raw.sh (p q : Int) (x : Raw) : Raw := { x with s0 := p, s1 := q }
theorem Raw.sh_at {w : World} {B : Nat} {p q : Int} {x : Raw} (h : x.At w B) : (x.sh p q).At w B := ⟨h.hil, h.him, h.hiA, h.hhl, h.hhm, h.hhA⟩
theorem rawRow_set (p q : Int) : ∀ (L : List Raw) (i : Nat) (hi : i < L.length), ((rawRow L).set (i * 9 + 3) (.int .i64 p)).set (i * 9 + 4) (.int .i64 q) = rawRow (L.set i (L[i].sh p q))
 | x :: L, 0, _ => by simp [rawRow, Raw.cells, Raw.sh]
 | x :: L, i + 1, hi => by
  have ih := rawRow_set p q L i (by simpa using hi)
  unfold rawRow at ih ⊢
  rw [List.flatMap_cons, List.set_cons_succ, List.flatMap_cons]
  have hx : x.cells.length = 9 := rfl
  rw [List.set_append_right _ _ (by rw [hx]; omega), List.set_append_right _ _ (by rw [hx]; omega), hx]
  rw [show (i + 1) * 9 + 3 - 9 = i * 9 + 3 by omega, show (i + 1) * 9 + 4 - 9 = i * 9 + 4 by omega]
  simp only [List.getElem_cons_succ]
  rw [ih]
theorem wpList_copy_raws (w : World) {ops : Array Oper} {rest : List Oper} {o : Oper} {a : Act} {Q : Exit -> Act -> World -> Prop} (hgd : o.guard = none) (s x : Operand) (t : TypeId)
  (ho : o.op = .call { callee := .builtin .append, args := #[s, x], argTypes := #[t, t] }) (ht : Tryz.prog.underlying t = some (.slice 57))
  (g : Nat) (hs : a.eval s = .slice (some ⟨g, 0, none⟩) 0 0) (hg : w.heap[g]? = some (.cells #[] 57 (0, 0)))
  (A : Option Addr) (m c : Nat) (l : List Raw) (hx : a.eval x = .slice A m c) (hl : l.length = m) (hm : m * 104 <= 140737488355328) (h : RawsAt w w.heap.size A l)
  (hK : ∀ G cap w', w'.ownsRow g 57 9 (.slice (some ⟨G, 0, none⟩) m cap) m (rawRow l) -> w.grownBy w' (some g) -> wpList Tryz.prog ops Q rest (a.put o.dst (.slice (some ⟨G, 0, none⟩) m cap)) w') : wpList Tryz.prog ops Q (o :: rest) a w := by
 obtain ⟨i0, hi, hz0, hz1, hz2⟩ := info_parts rawInfo
 have hown0 : w.ownsRow g 57 9 (.slice (some ⟨g, 0, none⟩) 0 0) 0 [] := ⟨rfl, .inr ⟨g, 0, #[], rfl, Nat.le_refl _, hg, Nat.le_refl _, Nat.zero_le _, rfl, rfl⟩⟩
 by_cases h0 : l = []
 ·subst h0
  subst hl
  refine wpList_plain hgd fun K hK' => ?_
  have hrun := run_append_zero (P := Tryz.prog) (w := w) t o.type _ i0 ht hi g A c
  have hk := hK' _ _ (hK g 0 w hown0 (grown_self w _))
  unfold Oper.wp execOp
  simp only [ho, resolve, invoke, builtin, Sem.run_bind, Sem.run_pure, Result.andThen_ok, List.map_toArray, List.map_cons, List.map_nil, hs, hx, List.length_nil, hrun]
  exact hk
 ·rcases h with h | ⟨b, off, rfl, hb, hr⟩
  ·exact absurd h h0
  have hnews : ∀ j u, (rawRow l)[j]? = some u -> w.cell? ((⟨b, off, none⟩ : Addr).add j) = some u := by
   intro j u hj
   have hjl : j < l.length * 9 := by have := (List.getElem?_eq_some_iff.1 hj).1; rw [rawRow_length] at this; exact this
   have hk : j / 9 < l.length := by omega
   have e := flat_get Raw.cells 9 l (fun _ _ => rfl) (j / 9) hk (j % 9) (by omega)
   rw [show j / 9 * 9 + j % 9 = j by omega] at e
   have := hr (j / 9) hk (j % 9) u (e.symm.trans hj)
   rw [Addr.add_mid]
   rw [show off + j / 9 * 9 + j % 9 = off + j by omega] at this
   exact this
  refine wpList_append_own _ hgd s x t ho g _ i0 _ 9 104 ht hi hz0 hz1 hz2 rfl (by decide) _ 0 [] hs hown0 ⟨b, off, none⟩ m c (rawRow l) hx (by rw [rawRow_length, hl]) hnews (by
   intro u hu
   unfold rawRow at hu
   rw [List.mem_flatMap] at hu
   obtain ⟨y, _, hy⟩ := hu
   simp [Raw.cells] at hy
   rcases hy with h | h | h | h | h | h | h | h | h <;> (rw [h]; rfl)) (by unfold maxLen; omega) (by omega) (Nat.le_of_lt (some_lt hg)) ?_
  intro v' w' ho' hg' hnil
  rw [Nat.zero_add, List.nil_append] at ho'
  rcases ho'.2 with ⟨rfl, hm0⟩ | ⟨G, cap, cur, rfl, rest⟩
  ·have := (hnil.1 rfl).1
   cases this
  ·exact hK G cap w' ho' hg'
end Go.Proofs.YtcblobokjhhboaaGreat
