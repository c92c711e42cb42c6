/- Lemmas. -/
import Derived.WalkKit
import Derived.Test.YtbhdekahdnenjaaGreatDoorProg
import Derived.WalkLawsBesides
import Derived.Lib.Hide
import Derived.BigQuiet
import Derived.Deep.QuietTactic
import Derived.Outline
import Derived.Laws.IdiomStrings
import Derived.Calls
import Derived.Laws.Rows
import Derived.Deep.RegionHeld
namespace Go.Proofs.YtbhdekahdnenjaaGreatDoor
open Go.RowKit
abbrev Vf:=@yieldsIf_load_mid
abbrev Vg:=@List.take_of_length_le
abbrev Vh:=@heap_alloc_new
abbrev Vb:=@Nat.zero_le
abbrev Vm:=@List.getElem_mem
abbrev Vn:=@Nat.le_trans
abbrev Vc:=@List.length_append
abbrev Vd:=@wpList_load_row
abbrev Vs:=@wp_region_held
abbrev Vt:=@if_pos
abbrev Vp:=@Bool.and_eq_true
abbrev Vr:=@decide_eq_false
abbrev Vl:=@setRow_other
abbrev VW:=@run_loadVar_row
abbrev VY:=@List.mem_singleton
abbrev VF:=@wpAnyH_done
abbrev VG:=@bodyPost_ret
abbrev VH:=@wpList_load_mid
abbrev VB:=@if_neg
abbrev VM:=@RowKit.Below.refl
abbrev VN:=@Nat.zero_add
abbrev VC:=@setRow_heap
abbrev VD:=@RowKit.Below.heap_alloc
abbrev VS:=@Proofs.Tryz.underlying29
abbrev VT:=@decide_eq_true
abbrev VP:=@Proofs.Tryz.underlying3
abbrev VR:=@RowKit.Below.heap_setCell
abbrev VL:=@List.flatMap_append
abbrev V8:=@Int.mul_le_mul_of_nonneg_left
abbrev V9:=@List.mem_append
abbrev Xy:=@Proofs.Tryz.underlying50
abbrev Xf:=@Proofs.Tryz.underlying52
abbrev Xg:=@Nat.lt_of_lt_of_le
abbrev Xh:=@heap_setCell_same
abbrev Xb:=@List.all_eq_true
abbrev Xm:=@decide_eq_true_eq
abbrev Xn:=@List.map_append
abbrev Xc:=@wpAnyH_ready
abbrev Xd:=@wpList_append_own
abbrev Xs:=@List.take_length
abbrev Xt:=@List.length_map
abbrev Xp:=@World.ownsRow_nil
abbrev Xr:=@List.nil_append
abbrev Xl:=@List.length_cons
abbrev XQ:=@AllReadyH.cons
abbrev XX:=@Bool.eq_iff_iff
abbrev XV:=@Option.some.inj
abbrev XZ:=@List.mem_cons_of_mem
abbrev XJ:=@Int.mul_add
abbrev XK:=@List.mem_range
abbrev XW:=@info_parts
abbrev XY:=@List.length_filter_le
abbrev XF:=@List.length_take
abbrev XG:=@List.append_nil
abbrev XH:=@List.append_assoc
abbrev XB:=@List.flatMap_cons
abbrev XM:=@List.cons_append
abbrev XN:=@List.mem_cons_self
abbrev XC:=@Nat.le_of_lt
abbrev XD:=@List.getElem_of_mem
abbrev XS:=@List.drop_eq_getElem_cons
abbrev XT:=@List.mem_take_iff_getElem
abbrev XP:=@Int.add_zero
abbrev XR:=@Int.mul_zero
abbrev XL:=@callsIn_wide
abbrev X0:=@Proofs.Tryz.underlying46
abbrev X5:=@List.map_cons
abbrev X6:=@Nat.le_of_eq
abbrev X7:=@List.take_append_drop
abbrev X8:=@Proofs.Tryz.underlying26
abbrev X9:=@Int.mul_le_mul_of_nonneg_right
abbrev Yq:=@List.filter_append
abbrev Yw:=@List.mem_filter
abbrev Yx:=@Int.tdiv_eq_ediv_of_nonneg
abbrev Yz:=@List.mem_flatMap
abbrev Yv:=@List.set_append_right
abbrev Yk:=@List.drop_succ_cons
abbrev Yj:=@List.replicate_succ
abbrev Yy:=@List.take_succ_cons
abbrev Yf:=@List.drop_of_length_le
abbrev Yg:=@List.mem_map
abbrev Yh:=@Nat.le_refl
abbrev Yb:=@List.all_eq_false
abbrev Ym:=@List.range_succ
abbrev Yn:=@List.size_toArray
abbrev Yc:=@Bool.and_false
abbrev Yd:=@List.setIfInBounds_toArray
abbrev Ys:=@AllReadyH.nil
abbrev Yt:=@List.mem_cons
abbrev Yp:=@List.all_append
abbrev Yr:=@Array.replicate_succ
abbrev Yl:=@Array.replicate_zero
abbrev YQ:=@Int.le_of_lt
abbrev YX:=@List.drop_zero
abbrev YV:=@List.take_zero
abbrev YZ:=@of_decide_eq_true
abbrev YJ:=@heap_setCell_other
abbrev YK:=@Proofs.Tryz.underlying113
abbrev YW:=@List.append_toArray
abbrev YY:=@List.any_eq_true
abbrev YF:=@decide_eq_false_iff_not
abbrev YG:=@Int.mul_assoc
abbrev YH:=@List.foldl_append
abbrev YB:=@List.take_append_of_le_length
abbrev YM:=@Proofs.Tryz.underlying3
abbrev YN:=@List.pairwise_iff_getElem
abbrev YC:=@List.set_cons_zero
abbrev YD:=@List.any_append
abbrev YS:=@Int.mul_comm
abbrev YT:=@List.push_toArray
abbrev YP:=@cond_true
abbrev YR:=@Int.mul_nonneg
abbrev YL:=@List.set_cons_succ
abbrev Y0:=@Nat.eq_zero_or_pos
abbrev Y5:=@World.ownsRow_made
abbrev Y6:=@cond_false
abbrev Y7:=@Bool.true_and
abbrev Y8:=@List.length_nil
abbrev Y9:=@List.length_set
abbrev Zq:=@Proofs.Tryz.underlying115
abbrev Zw:=@List.getElem_map
abbrev Zx:=@Proofs.Tryz.underlying66
abbrev Zz:=@Proofs.Tryz.underlying70
abbrev Zv:=@Bool.eq_false_iff
abbrev Zk:=@Int.mul_left_comm
abbrev Zj:=@Int.emod_add_mul_ediv
abbrev Zy:=@List.length_singleton
abbrev Zf:=@Int.pow_succ
abbrev Zg:=@Proofs.Tryz.underlying36
abbrev Zh:=@Proofs.Tryz.underlying48
abbrev Zb:=@Addr.add_mid
abbrev Zm:=@Bool.false_and
abbrev Zn:=@Nat.lt_or_ge
abbrev Zc:=@Proofs.Tryz.underlying36
abbrev Zd:=@Proofs.Tryz.underlying55
abbrev Zs:=@List.mergeSort_perm
abbrev Zt:=@List.foldl_cons
abbrev Zp:=@Lib.run_eql_slice_nil
abbrev Zr:=@Int.emod_lt_of_pos
abbrev Zl:=@List.ext_getElem
abbrev ZQ:=@World.size_alloc
abbrev ZX:=@Proofs.Tryz.underlying93
abbrev ZV:=@List.mem_of_mem_take
abbrev ZZ:=@Int.toNat_natCast
abbrev ZJ:=@List.pairwise_mergeSort
abbrev ZK:=@Proofs.Tryz.underlying46
abbrev ZW:=@Int.ediv_nonneg
abbrev ZY:=@Int.emod_nonneg
abbrev ZF:=@List.filter_nil
abbrev ZG:=@List.length_reverse
abbrev ZH:=@List.map_congr_left
abbrev ZB:=@List.map_nil
abbrev ZM:=@List.map_set
abbrev ZN:=@Proofs.Tryz.underlying43
abbrev ZD:=@Int.mul_one
abbrev ZS:=@RowKit.run_makeMap
abbrev ZT:=@Proofs.Tryz.underlying108
abbrev ZP:=@wpAnyH_take
abbrev ZL:=@Nat.mul_le_mul
abbrev Z0:=@Int.ediv_lt_of_lt_mul
abbrev Z2:=@Int.lt_or_le
abbrev Z8:=@Int.lt_trichotomy
abbrev Z9:=@List.any_eq_false
abbrev Jq:=@Nat.add_mul
abbrev Jw:=@Nat.mul_le_mul_right
abbrev Jz:=@Sem.run_bind
abbrev Jv:=@cell_of_row
abbrev Jk:=@Proofs.Tryz.underlying24
abbrev Jj:=@List.eq_of_mem_replicate
abbrev Jy:=@List.getElem_append_left
abbrev Jf:=@beq_eq_false_iff_ne
abbrev Jg:=@List.filter_cons_of_neg
abbrev Jh:=@List.filter_cons_of_pos
abbrev Jb:=@Nat.mod_eq_of_lt
abbrev Jm:=@Proofs.Tryz.underlying9
abbrev Jn:=@List.getElem_range
abbrev Jc:=@List.length_pos_of_mem
abbrev Jd:=@Nat.lt_of_le_of_lt
abbrev Js:=@Proofs.Tryz.underlying81
abbrev Jt:=@wpList_plain
abbrev Jp:=@World.rangeAt_setCells_apart
abbrev Jl:=@true_and
abbrev JQ:=@Proofs.Tryz.underlying209
abbrev JX:=@List.concat_eq_append
abbrev JV:=@List.eq_nil_or_concat
abbrev JZ:=@Result.andThen_ok
abbrev JJ:=@Proofs.Tryz.underlying29
abbrev JK:=@Proofs.Tryz.underlying81
abbrev JW:=@BitVec.ofInt_natCast
abbrev JY:=@Int.mul_le_mul
abbrev JF:=@List.replicate_succ'
abbrev JG:=@List.set_append_left
abbrev JH:=@List.mem_reverse
abbrev JB:=@Option.getD_some
abbrev JM:=@decide_false
abbrev JN:=@Proofs.Tryz.underlying53
abbrev JC:=@List.getElem_append_right
abbrev JD:=@List.mem_or_eq_of_mem_set
abbrev JS:=@ByteArray.toList_eq
abbrev JT:=@List.Perm.eq_of_pairwise
abbrev JP:=@Nat.min_eq_left
abbrev JR:=@Option.map_some
abbrev JL:=@BitVec.toNat_ofNat
abbrev J0:=@Proofs.Tryz.underlying113
abbrev J7:=@Int.le_refl
abbrev J8:=@Nat.le_succ
abbrev J9:=@Bool.not_eq_true'
abbrev Kq:=@IntWalk.wrap64_in
abbrev Kw:=@List.getElem_cons_drop
abbrev Kx:=@Maps.Keyed.of_law
abbrev Kz:=@Nat.lt_trichotomy
abbrev Kv:=@Nat.or_lt_two_pow
abbrev Kk:=@Nat.sub_self
abbrev Kj:=@Nat.testBit_eq_decide_div_mod_eq
abbrev Ky:=@Proofs.Tryz.underlying41
abbrev Kf:=@Proofs.Tryz.underlying43
abbrev Kg:=@not_false_eq_true
abbrev Kh:=@not_true_eq_false
abbrev Kb:=@results_none
abbrev Km:=@Bool.and_eq_false_iff
abbrev Kn:=@List.length_mergeSort
abbrev Kc:=@List.singleton_append
abbrev Kd:=@ownsRow_setCell_other
abbrev Ks:=@IntKind.wrap_i64
abbrev Kt:=@List.append_inj'
abbrev Kr:=@List.drop_length
abbrev Kl:=@List.getElem_set
abbrev KQ:=@List.not_mem_nil
abbrev KX:=@wpList_store_mid
abbrev KV:=@Proofs.Tryz.underlying317
abbrev KZ:=@Int.mul_sub
abbrev KJ:=@Int.one_mul
abbrev KW:=@List.mem_append_left
abbrev KY:=@List.reverse_reverse
abbrev KF:=@and_true
abbrev KG:=@Int.natCast_mul
abbrev KH:=@List.dropLast_concat_getLast
abbrev KB:=@List.nodup_cons
abbrev KM:=@Int.toNat_of_nonneg
abbrev KN:=@List.eraseDups_cons
abbrev KC:=@List.getElem_set_ne
abbrev KT:=@List.replicate_zero
abbrev KP:=@World.grownBy_alloc
abbrev KR:=@Int.mul_lt_mul_of_pos_right
abbrev KL:=@Nat.add_zero
abbrev K5:=@Nat.mul_comm
abbrev K6:=@Nat.zero_mul
abbrev K7:=@Sem.run_pure
abbrev K8:=@Proofs.Tryz.underlying26
abbrev K9:=@Int.tmod_eq_emod_of_nonneg
abbrev Qq:=@List.mem_mergeSort
abbrev Qw:=@List.pairwise_cons
abbrev Qx:=@Proofs.Tryz.underlying115
abbrev Qz:=@Int.lt_of_mul_lt_mul_left
abbrev Qv:=@List.length_range
abbrev Qk:=@List.reverse_cons
abbrev Qj:=@Maps.keyOf_int_mk
abbrev Qy:=@Nat.mul_left_comm
abbrev Qf:=@Proofs.Tryz.underlying23
abbrev Qg:=@Proofs.Tryz.underlying66
abbrev Qh:=@Proofs.Tryz.underlying9
abbrev Qb:=@wp_load_mid
abbrev Qm:=@Bool.and_self
abbrev Qn:=@Bool.and_true
abbrev Qc:=@Bool.false_or
abbrev Qd:=@List.cons.inj
abbrev Qt:=@List.map_take
abbrev Qp:=@WideMaps.keyOf_string_mk
abbrev Qr:=@callsIn_of_wp
abbrev Ql:=@wp_append_own
abbrev QQ:=@congrArg
abbrev QX:=@Bool.true_or
abbrev QV:=@Int.add_comm
abbrev QZ:=@Int.sub_zero
abbrev QJ:=@Nat.mod_lt
abbrev QK:=@Bool.or_eq_true
abbrev QW:=@Int.natCast_pow
abbrev QY:=@Nat.not_lt_zero
abbrev QF:=@Int.add_mul
abbrev QG:=@IntWalk.i64_in
abbrev QH:=@List.Perm.refl
abbrev QB:=@List.foldl_nil
abbrev QM:=@Nat.testBit_or
abbrev QN:=@decide_true
abbrev QC:=@ByteArray.ext
abbrev QD:=@DataW.trod_lt
abbrev QS:=@List.sum_cons
abbrev QT:=@Nat.add_assoc
abbrev QP:=@Nat.lt_irrefl
abbrev QR:=@frozen_of_row
abbrev QL:=@beq_iff_eq
abbrev Q5:=@ne_eq
abbrev OA:=Option Addr
abbrev LI:=List Int
abbrev AV:=Array Value
abbrev BA:=ByteArray
abbrev IK:=IntKind
theorem eX {α:Sort _} (a:α):∃x,x=a:=⟨a,rfl⟩
theorem mS {a b:Nat} (h:a<b:=by simp[intOf];omega):a<b:=h
variable (w:World)
theorem oM {p:Prop} (h:p:=by omega):p:=h
theorem kR {p:Prop} (h:p:=by kernel_rfl):p:=h
theorem sO {p:Prop} (h:p:=by simp;omega):p:=h
theorem sP {p:Prop} (h:p:=by simp):p:=h
theorem dC {p:Prop} (h:p:=by decide):p:=h
theorem oC {p:Prop} (h:p:=by simp[Value.oneCell']):p:=h
theorem lR {n:Nat}:n<=n:=Yh n
theorem bR {n} {w}:Below n w w:=VM n w
instance:Coe World Nat:=⟨fun w=>w.heap.size⟩
theorem z:(∀(a:Act) (t:Tmp) (v:Value),a.put (some t) v={ a with tmps:=a.tmps.setIfInBounds t v }) ∧ (∀(a:Act) (v:Value),a.put none v=a) ∧
    (∀{α:Type} {xs:List α} {i:Nat} {h:i<xs.toArray.size},xs.toArray[i]'h=xs[i]'(by simpa using h)) ∧
    (∀{α:Type} {a:α} {l:List α} {i:Nat} {h:i+1<(a::l).length},(a::l)[i+1]'h=l[i]'(Nat.lt_of_succ_lt_succ h)) ∧
    (∀{α:Type} {a:α} {l:List α} {h:0<(a::l).length},(a::l)[0]'h=a) ∧
    (∀{α:Type} {l:List α} {i:Nat} {a:α},l.toArray.setIfInBounds i a=(l.set i a).toArray) ∧
    (∀{α:Type} {x a:α} {xs:List α},(x::xs).set 0 a=a::xs) ∧ (∀{α:Type} {x a:α} {xs:List α} {i:Nat},(x::xs).set (i+1) a=x::xs.set i a) :=
  ⟨fun _ _ _=>rfl,fun _ _=>rfl,List.getElem_toArray _,List.getElem_cons_succ ..,rfl,Yd ..,YC ..,YL ..⟩
theorem cr9 {w:World} {g} {cs} {t} {fr} (j) (h:w.heap[g]?=some (.cells cs t fr)):w.cell? ⟨g,j,none⟩=cs[j]?:=Jv w g j cs t fr h
theorem fr0 {w:World} {g} {cs} {t} (j) (h:w.heap[g]?=some (.cells cs t (0,0))):w.frozen? ⟨g,j,none⟩=false:=QR w g j cs t h
theorem tk {P:Program} {ops:Array Oper} {Q:Exit->Act->World->Prop} {md:Region.Mode} {S:World->Prop} {i:Nat} {oi:Oper} {v:Value} {n:Nat} {l:Array Bool} {a:Act} {w:World} (hi:ops[i]?=some oi) (hy:YieldsIf P ops S oi v a) (hS:S w) (h:wpAnyH P md ops Q S n (l.setIfInBounds i true) (a.put oi.dst v) w) (hs:(Region.noSelect ops&&Region.free md ops l i&&(Region.ready md ops l).contains i)=true:=by kernel_rfl) (hQ:∀c a w,Q (.panic c) (a.put oi.dst v) w->Q (.panic c) a w:=by exact fun _ _ _ h=>h):wpAnyH P md ops Q S (n+1) l a w:=by
 simp only[Vp] at hs
 exact ZP hi hs.1.1 hs.1.2 hs.2 hQ hy hS h
theorem rd9 {P} {ops} {Q} {md:Region.Mode} {S} {fuel} {listed} {a} {w} (i) {o} (hr:Region.ready md ops listed=[i]) (ho:ops[i]?=some o) (h:∀K':Act->World->Prop,Shut (∀a w,S w->(S w->wpAnyH P md ops Q S fuel (listed.setIfInBounds i true) a w)->K' a w)->if Region.wanted o (yielded ops a.tmps)=true then Oper.wp P o a w K' Q else K' (a.put o.dst undef) w):wpAnyH P md ops Q S (fuel+1) listed a w:=Xc hr (by simp) (XQ ho h Ys)
theorem Z1 {p:Prop} (h:p):Hid p:=Lib.hid h
theorem jT {P:Program} {ops:Array Oper} {Q:Exit->Act->World->Prop} {md:Region.Mode} {S:World->Prop} (i:Nat) {oi:Oper} {v:Value} {n:Nat} {l:Array Bool} {a:Act} {w:World} {G:Prop} (hS:S w) (h:G) (hi:ops[i]?=some oi:=by exact rfl) (hy:YieldsIf P ops S oi v a:=by first|exact .inl ⟨by rfl,fun W' hS'=>by first|(go_simp;done)|(go_simp;rfl)⟩|exact .inr ⟨by rfl,rfl⟩) (hs:(Region.noSelect ops && Region.free md ops l i && (Region.ready md ops l).contains i)=true:=by kernel_rfl) (hQ:∀c a w,Q (.panic c) (a.put oi.dst v) w->Q (.panic c) a w:=by exact fun _ _ _ h=>h) (hG:G->wpAnyH P md ops Q S n (l.setIfInBounds i true) (a.put oi.dst v) w:=by intro h9;(try simp only[Go.Proofs.YtbhdekahdnenjaaGreatDoor.z]);exact h9):wpAnyH P md ops Q S (n+1) l a w:=tk hi hy hS (hG h) hs hQ
theorem rZ {P:Program} {ops:Array Oper} {Q:Exit->Act->World->Prop} {md:Region.Mode} {S:World->Prop} {fuel:Nat} {listed:Array Bool} {a:Act} {w:World} (i:Nat) {o:Oper} (h:∀K':Act->World->Prop,Shut (∀a w,S w->(S w->wpAnyH P md ops Q S fuel (listed.setIfInBounds i true) a w)->K' a w)->if Region.wanted o (yielded ops a.tmps)=true then Oper.wp P o a w K' Q else K' (a.put o.dst undef) w) (hr:Region.ready md ops listed=[i]:=by kernel_rfl) (ho:ops[i]?=some o:=by exact rfl):wpAnyH P md ops Q S (fuel+1) listed a w:=rd9 i hr ho h
theorem jK {P:Program} {ops:Array Oper} {Q:Exit->Act->World->Prop} {md:Region.Mode} {S:World->Prop} {fuel:Nat} {listed:Array Bool} {K:Act->World->Prop} {a:Act} {w:World} {G:Prop} (hK:Shut (∀a w,S w->(S w->wpAnyH P md ops Q S fuel listed a w)->K a w)) (hS:S w) (g:G) (hG:G->wpAnyH P md ops Q S fuel listed a w:=by intro h9;(try simp only[Go.Proofs.YtbhdekahdnenjaaGreatDoor.z]);exact h9):K a w:=hK.out a w hS fun _=>hG g
theorem Z3 {p0 p1 p2:Prop} (h0:p0) (h1:p1) (h2:p2):Hid p0/\Hid p1/\Hid p2:=⟨Z1 h0,Z1 h1,Z1 h2⟩
theorem Z4 {p0 p1 p2 p3:Prop} (h0:p0) (h1:p1) (h2:p2) (h3:p3):Hid p0/\Hid p1/\Hid p2/\Hid p3:=⟨Z1 h0,Z1 h1,Z1 h2,Z1 h3⟩
theorem Z5 {p0 p1 p2 p3 p4:Prop} (h0:p0) (h1:p1) (h2:p2) (h3:p3) (h4:p4):Hid p0/\Hid p1/\Hid p2/\Hid p3/\Hid p4:=⟨Z1 h0,Z1 h1,Z1 h2,Z1 h3,Z1 h4⟩
theorem Z6 {p0 p1 p2 p3 p4 p5:Prop} (h0:p0) (h1:p1) (h2:p2) (h3:p3) (h4:p4) (h5:p5):Hid p0/\Hid p1/\Hid p2/\Hid p3/\Hid p4/\Hid p5:=⟨Z1 h0,Z1 h1,Z1 h2,Z1 h3,Z1 h4,Z1 h5⟩
theorem Z7 {p0 p1 p2 p3 p4 p5 p6:Prop} (h0:p0) (h1:p1) (h2:p2) (h3:p3) (h4:p4) (h5:p5) (h6:p6):Hid p0/\Hid p1/\Hid p2/\Hid p3/\Hid p4/\Hid p5/\Hid p6:=⟨Z1 h0,Z1 h1,Z1 h2,Z1 h3,Z1 h4,Z1 h5,Z1 h6⟩
theorem y9:(∀(a:Act) (t:Tmp) (v:Value),a.put (some t) v={ a with tmps:=a.tmps.setIfInBounds t v }) ∧ (∀(a:Act) (v:Value),a.put none v=a) ∧ (∀{α:Type} {l:List α} {i:Nat} {a:α},l.toArray.setIfInBounds i a=(l.set i a).toArray) ∧ (∀{α:Type} {x a:α} {xs:List α},(x::xs).set 0 a=a::xs) ∧ (∀{α:Type} {x a:α} {xs:List α} {i:Nat},(x::xs).set (i+1) a=x::xs.set i a):=⟨fun _ _ _=>rfl,fun _ _=>rfl,Yd ..,YC ..,YL ..⟩
theorem tse {α:Type} {l:List α} {i} (h:i<l.length):l.take (i+1)=l.take i++[l[i]]:=List.take_succ_eq_append_getElem h
theorem bT {a b c:World} (h:Hid (Below a.heap.size a b)) (k:Below b.heap.size b c):Hid (Below a.heap.size a c):=Z1 (h.out.trans (k.mono h.out.size))
structure ZR0 where
 a:Unit
def ZR:ZR0:=⟨()⟩
instance:Coe ZR0 (Array Value):=⟨fun _=>#[.bool false,.slice none 0 0,.bool false,.slice none 0 0]⟩
structure ZC0 where
 a:Unit
def ZC:ZC0:=⟨()⟩
instance:Coe ZC0 (Array Value):=⟨fun _=>#[.int .i64 0,.int .i64 0,.int .i64 0,.bool false,.slice none 0 0,.bool false,.slice none 0 0,.bool false,.slice none 0 0,.bool false,.slice none 0 0,.slice none 0 0,.slice none 0 0]⟩
instance:Coe ZC0 Value:=⟨fun _=>.agg #[.int .i64 0,.int .i64 0,.int .i64 0,.bool false,.slice none 0 0,.bool false,.slice none 0 0,.bool false,.slice none 0 0,.bool false,.slice none 0 0,.slice none 0 0,.slice none 0 0]⟩
instance:Coe Int Value:=⟨fun x=>.int .i64 x⟩
instance:Coe Nat Value:=⟨fun x=>.int .i64 (x:Int)⟩
instance:Coe Unit Value:=⟨fun _=>.int .i64 0⟩
instance:Coe Bool Value:=⟨fun x=>.bool x⟩
structure CL0 where
 a:Unit
def CL:CL0:=⟨()⟩
instance:CoeFun CL0 (fun _=>FuncId->Array Value->World->Value->Prop):=⟨fun _ n a w v=>Calls Go.Proofs.Tryz.prog n a w fun e w'=>e=.returned v/\Below w.heap.size w w'⟩
end Go.Proofs.YtbhdekahdnenjaaGreatDoor
set_option linter.unusedVariables false
set_option linter.unusedSimpArgs false
set_option maxRecDepth 100000
set_option maxHeartbeats 16000000
namespace Go.Proofs.YtbhdekahdnenjaaGreatDoor
open Go.RowKit
variable (w:World)
structure Acc where
 code:Int
 kind:Int
 basis:Int
 parent:Int
instance:Coe Acc (Array Value):=⟨fun x=>#[.int .i64 x.code,.int .i64 x.kind,.int .i64 x.basis,.int .i64 x.parent]⟩
instance:Coe Acc Value:=⟨fun x=>.agg #[.int .i64 x.code,.int .i64 x.kind,.int .i64 x.basis,.int .i64 x.parent]⟩
instance:Coe Acc (List Value):=⟨fun x=>[.int .i64 x.code,.int .i64 x.kind,.int .i64 x.basis,.int .i64 x.parent]⟩
def Acc.zero:Acc:=⟨0,0,0,0⟩
def Acc.cells (a:Acc):List Value:=a
def Acc.val (a:Acc):Value:=a
namespace Ch
def find (l:List Acc) (c:Int):Option Acc:=l.find? (fun a=>a.code==c)
def found (l:List Acc) (c:Int):Acc:=(find l c).getD Acc.zero
def has (l:List Acc) (c:Int):Bool:=(find l c).isSome
theorem find_take {l:List Acc} {c} {k} (a:k<l.length) (h:find (l.take k) c=none):find (l.take (k+1)) c=if l[k].code=c then some l[k] else none:=by
 unfold find at *;rw[tse a,List.find?_append,h];simp[List.find?_cons]
 split <;> simp_all
theorem find_hit {l} {c} {k} (s:k<l.length) (h:find (l.take k) c=none) (o:l[k].code=c):find l c=some l[k]:=by
 have a:=find_take s h;rw[Vt o] at a;have i:find l c=find (l.take (k+1)++l.drop (k+1)) c:=by rw[X7]
 rw[i];unfold find at *;rw[List.find?_append,a];rfl
theorem find_some {l} {c} {a} (h:find l c=some a):a∈l/\a.code=c:=by
 unfold find at h;exact⟨List.mem_of_find?_eq_some h,by simpa using List.find?_some h⟩
theorem find_mem {l} {a} (h:a∈l):∃b,find l a.code=some b:=by
 unfold find
 cases i:l.find? (fun b=>b.code==a.code) with
 |some b=>exact⟨b,rfl⟩
 |none=>rw[List.find?_eq_none] at i;have:=i a h;simp at this
def basic (gr:Bool) (l:List Acc) (a:Acc):Bool :=
 decide (1<=a.code)&&decide (a.code<=99999)&&decide (1<=a.kind)&&decide (a.kind<=5) &&
 (if gr then decide (1<=a.basis)&&decide (a.basis<=3) else decide (a.basis=0)) &&
 (decide (a.parent=0)||match find l a.parent with|none=>false|some p=>decide (p.code≠a.code)&&decide (p.kind=a.kind))
def climb (l:List Acc):Nat->Int->Nat
 |0,_=>0
 |n+1,c=>match find l c with|none=>0|some a=>1+climb l n a.parent
def at_ (l:List Acc) (i:Nat):Acc:=l.getD i Acc.zero
def okAt (gr:Bool) (l:List Acc) (i:Nat):Bool :=
 basic gr l (at_ l i)&&(decide (i=0)||decide ((at_ l (i-1)).code<(at_ l i).code))&&decide (climb l (l.length+1) (at_ l i).code<=l.length)
def valid (gr:Bool) (l:List Acc):Bool:=decide (l.length<=200)&&(List.range l.length).all (okAt gr l)
theorem all_of {n} {P} (h:∀i,i<n->P i):(List.range n).all P:=by
 rw[Xb];intro i a;exact h i (XK.1 a)
theorem all_not {n i} {P} (a:i<n) (h:P i=false):(List.range n).all P=false:=by
 rw[Yb];exact⟨i,XK.2 a,by simp[h]⟩
theorem at_lt {l} {i} (h:i<l.length):at_ l i=l[i]:=by simp[at_,h]
inductive Up (l:List Acc) (code:Int):List Int->Int->Prop
 |nil:Up l code [] code
 |snoc {p:List Int} {c:Int} {a:Acc} (h:Up l code p c) (hf:find l c=some a) (hn:c ∉ p):Up l code (p++[c]) a.parent
def Ends (l:List Acc) (p:LI) (c:Int):Prop:=find l c=none∨c∈p
theorem Up.nodup {l} {code c} {p} (h:Up l code p c):p.Nodup:=by
 induction h with
 |nil=>exact List.nodup_nil
 |snoc h hf hn ih =>
  rw[List.nodup_append];refine⟨ih,sP,?_⟩;intro a o b i e;rw[VY] at i;subst i e;exact hn o
theorem Up.mem {l} {code c} {p} (h:Up l code p c):∀x∈p,∃a,find l x=some a:=by
 induction h with
 |nil=>intro x i;cases i
 |@snoc p c a h hf hn ih =>
  intro x i;rw[V9] at i
  rcases i with i|i
  ·exact ih x i
  ·rw[VY] at i;subst i;exact⟨a,hf⟩
theorem pigeon:∀(p:LI) (l:List Acc),p.Nodup->(∀x∈p,∃a∈l,a.code=x)->p.length<=l.length
 |[],l,_,_=>Vb _
 |x::p,l,hn,hm=>by
  obtain⟨a,L,I⟩:=hm x (XN);obtain⟨s,t,rfl⟩:=List.append_of_mem L;have E:=KB.1 hn
  have:=pigeon p (s++t) E.2 fun y J=>by
   obtain⟨b,o,i⟩:=hm y (XZ _ J);refine⟨b,?_,i⟩;rw[V9,Yt] at o;rw[V9]
   rcases o with o|rfl|o
   ·exact .inl o
   ·exfalso;rw[I] at i;subst i;exact E.1 J
   ·exact .inr o
  simp at this⊢;omega
theorem Up.length {l} {code c} {p} (h:Up l code p c):p.length<=l.length :=
 pigeon p l h.nodup fun x o=>by
  obtain⟨a,i⟩:=h.mem x o;exact⟨a,find_some i⟩
theorem Up.climb {l} {code c} {p} (h:Up l code p c):∀n,Ch.climb l (p.length+n) code=p.length+Ch.climb l n c:=by
 induction h with
 |nil=>intro n;simp
 |@snoc p c a h hf hn ih =>
  intro n;rw[Vc,Zy,QT,ih (1+n),Nat.add_comm 1 n];show _+Ch.climb l (n+1) c=_;simp only[Ch.climb,hf];omega
theorem climb_none {l} {c} (h:find l c=none) (n):climb l n c=0:=by
 cases n with
 |zero=>rfl
 |succ n=>simp only[climb,h]
theorem a3n {l:List Acc} {p:LI} (h:∀x∈p,∃a,find l x=some a/\a.parent∈p):∀(n:Nat) (x:Int),x∈p->climb l n x=n
 |0,_,_=>rfl
 |n+1,x,hx=>by
  obtain⟨a,o,i⟩:=h x hx;simp only[climb,o];rw[a3n h n _ i];omega
theorem Up.next {l} {code c} {p} (h:Up l code p c):∀x∈p,∃a,find l x=some a/\(a.parent∈p∨a.parent=c):=by
 induction h with
 |nil=>intro x i;cases i
 |@snoc p c a h hf hn ih =>
  intro x i;rw[V9,VY] at i
  rcases i with i|rfl
  ·obtain⟨b,o,s⟩:=ih x i
   refine⟨b,o,.inl ?_⟩;rw[V9,VY];exact s
  ·exact⟨a,hf,.inr rfl⟩
theorem Up.start {l} {code c} {p} (h:Up l code p c):(p=[]/\c=code)∨code∈p:=by
 induction h with
 |nil=>exact .inl ⟨rfl,rfl⟩
 |@snoc p c a h hf hn ih =>
  right
  rw[V9,VY]
  rcases ih with⟨_,e⟩|h
  ·exact .inr e.symm
  ·exact .inl h
theorem Up.last {l} {code c} {p} (h:Up l code p c) (o:0<p.length):∃a,find l (p[p.length-1]' oM)=some a/\a.parent=c:=by
 cases h with
 |nil=>simp at o
 |snoc h i s=>exact⟨_,by simpa using i,rfl⟩
theorem top_iff {gr} {l} (S:∀a∈l,basic gr l a) {a} (ha:a∈l) {p} {c} (h:Up l a.code p c) (o:Ends l p c):c=0 ↔ climb l (l.length+1) a.code<=l.length:=by
 have T:=h.length;have E:=h.climb (l.length+1-p.length);rw[show p.length+(l.length+1-p.length)=l.length+1 by omega] at E
 have O:0<p.length:=by
  rcases h.start with⟨e,W⟩|hm
  ·obtain⟨b,s⟩:=find_mem ha
   rcases o with o|o
   ·rw[W,s] at o;cases o
   ·rw[e] at o;cases o
  ·exact Jc hm
 rcases o with o|o
 ·rw[climb_none o] at E
  refine⟨fun _=>oM,fun _=>?_⟩;obtain⟨b,s,L⟩:=h.last O;have i:=S b (find_some s).1;unfold basic at i;rw[L,o] at i;simp at i;exact i.2
 ·have I:=a3n (l:=l) (p:=p) (fun x hx=>by
   obtain⟨b,s,Q⟩:=h.next x hx;refine⟨b,s,?_⟩
   rcases Q with J|J
   ·exact J
   ·rw[J];exact o) (l.length+1-p.length) c o
  rw[I] at E;refine⟨fun X=>?_,fun hh=>oM⟩;subst X;obtain⟨b,s⟩:=h.mem 0 o;have i:=S b (find_some s).1;rw[basic] at i;simp[(find_some s).2] at i
end Ch
namespace Cal
def leapB (y:Int):Bool:=decide (y % 4=0/\(y % 100≠0∨y % 400=0))
def tab (m:Int):Int:=if m=2 then 28 else if m=4∨m=6∨m=9∨m=11 then 30 else 31
def mlen (y m:Int):Int:=if m=2/\leapB y then 29 else tab m
def days (y m:Int):Int:=if 1900<=y/\y<=2199/\1<=m/\m<=12 then mlen y m else 0
def byear (y:Int):Int:=365*(y-1)+(y-1) / 4-(y-1) / 100+(y-1) / 400-719162
def lp (y:Int):Int:=if leapB y then 1 else 0
def cum (y m:Int):Int :=
 (if m<=1 then 0 else if m=2 then 31 else if m=3 then 59 else if m=4 then 90 else if m=5 then 120 else if m=6 then 151 else if m=7 then 181
  else if m=8 then 212 else if m=9 then 243 else if m=10 then 273 else if m=11 then 304 else if m=12 then 334 else 365)+(if 3<=m then lp y else 0)
def num (y m d:Int):Int:=byear y+cum y m+d-1
def vld (y m d:Int):Prop:=1900<=y/\y<=2199/\1<=m/\m<=12/\1<=d/\d<=mlen y m
theorem lp_01 (y):0<=lp y/\lp y<=1:=by unfold lp;split <;> omega
theorem lp_cases (y):(leapB y/\lp y=1)∨(leapB y=false/\lp y=0):=by
 unfold lp;by_cases h:leapB y <;> simp[h]
theorem leap_iff (y):leapB y ↔ (y % 4=0/\(y % 100≠0∨y % 400=0)):=by unfold leapB;simp
theorem byear_succ (y):byear (y+1)=byear y+365+lp y:=by
 have h:=leap_iff y;unfold byear lp
 by_cases a:leapB y
 ·rw[Vt a];rw[a] at h;simp at h;omega
 ·rw[VB a];have:¬ (y % 4=0/\(y % 100≠0∨y % 400=0)):=fun i=>a (h.2 i);omega
theorem byear_lo:byear 1900=-25567:=dC
theorem byear_hi:byear 2200=84006:=dC
theorem a5b (a b) (i:1<=a) (h:a<=b):byear a<=byear b:=by unfold byear;omega
theorem byear_bd (y) (a:1900<=y) (h:y<=2200):-25567<=byear y/\byear y<=84006:=by unfold byear;omega
theorem b4u (m):28<=tab m/\tab m<=31:=by unfold tab;split <;> (try split) <;> omega
theorem mlen_bd (y m):28<=mlen y m/\mlen y m<=31:=by unfold mlen;have:=b4u m;split <;> omega
theorem b0u (y m):mlen y m=tab m+(if m=2 then lp y else 0):=by
 rcases lp_cases y with⟨h,e⟩|⟨h,e⟩ <;> by_cases a:m=2 <;> simp[mlen,h,e,a,tab]
theorem cum_succ (y m) (i:1<=m) (o:m<=12):cum y (m+1)=cum y m+mlen y m:=by
 have a:m=1∨m=2∨m=3∨m=4∨m=5∨m=6∨m=7∨m=8∨m=9∨m=10∨m=11∨m=12:=oM;rw[b0u]
 rcases a with rfl|rfl|rfl|rfl|rfl|rfl|rfl|rfl|rfl|rfl|rfl|rfl <;> simp[cum,tab] <;> omega
theorem cum_one (y):cum y 1=0:=by simp[cum]
theorem cum_end (y):cum y 13=365+lp y:=by simp[cum]
theorem cum_bd (y m) (i:1<=m) (o:m<=13):0<=cum y m/\cum y m<=366:=by
 have:=lp_01 y;have a:m=1∨m=2∨m=3∨m=4∨m=5∨m=6∨m=7∨m=8∨m=9∨m=10∨m=11∨m=12∨m=13:=oM
 rcases a with rfl|rfl|rfl|rfl|rfl|rfl|rfl|rfl|rfl|rfl|rfl|rfl|rfl <;> simp[cum] <;> omega
theorem b1h (y m k) (o:1<=m) (h:m<k) (s:k<=13):cum y m+mlen y m<=cum y k:=by
 have:=lp_01 y;rw[b0u];have i:m=1∨m=2∨m=3∨m=4∨m=5∨m=6∨m=7∨m=8∨m=9∨m=10∨m=11∨m=12:=oM;have a:k=1∨k=2∨k=3∨k=4∨k=5∨k=6∨k=7∨k=8∨k=9∨k=10∨k=11∨k=12∨k=13:=oM
 rcases i with rfl|rfl|rfl|rfl|rfl|rfl|rfl|rfl|rfl|rfl|rfl|rfl <;>
  rcases a with rfl|rfl|rfl|rfl|rfl|rfl|rfl|rfl|rfl|rfl|rfl|rfl|rfl <;> simp[cum,tab] <;> omega
theorem days_in (y m) (h:1900<=y/\y<=2199/\1<=m/\m<=12):days y m=mlen y m:=by unfold days;rw[Vt h]
theorem days_out (y m) (h:¬ (1900<=y/\y<=2199/\1<=m/\m<=12)):days y m=0:=by unfold days;rw[VB h]
theorem days_bd (y m):0<=days y m/\days y m<=31:=by unfold days;have:=mlen_bd y m;split <;> omega
theorem days_vld (y m d):vld y m d ↔ (1<=d/\d<=days y m):=by
 unfold vld days
 by_cases h:1900<=y/\y<=2199/\1<=m/\m<=12
 ·rw[Vt h];omega
 ·rw[VB h];omega
theorem num_year (y m d) (h:vld y m d):byear y<=num y m d/\num y m d<byear (y+1):=by
 obtain⟨_,_,a,s,_,_⟩:=h;have i:=b1h y m 13 a oM oM;have o:=cum_bd y m a oM;rw[cum_end] at i;rw[byear_succ];unfold num;omega
theorem num_bd (y m d) (h:vld y m d):-25567<=num y m d/\num y m d<=84005:=by
 have i:=num_year y m d h;obtain⟨a,b,_⟩:=h;have:=byear_bd y a oM;have:=byear_bd (y+1) oM oM;omega
theorem num_inj (y m d y' m' d') (h:vld y m d) (s:vld y' m' d') (e:num y m d=num y' m' d'):y=y'/\m=m'/\d=d':=by
 have a:=num_year _ _ _ h;have b:=num_year _ _ _ s;obtain⟨O,Q,J,S,T,W⟩:=h;obtain⟨X,q2,L,q4,q5,q6⟩:=s
 have I:y=y':=by
  rcases Z8 y y' with i|o|i
  ·have:=a5b (y+1) y' oM oM;omega
  ·exact o
  ·have:=a5b (y'+1) y oM oM;omega
 subst I;unfold num at e
 have E:m=m':=by
  rcases Z8 m m' with i|o|i
  ·have:=b1h y m m' J i oM;omega
  ·exact o
  ·have:=b1h y m' m L i oM;omega
 subst E;exact⟨rfl,rfl,oM⟩
def py (Y M p:Int):Int:=(12*Y+M-1+p) / 12
def pm (Y M p:Int):Int:=(12*Y+M-1+p) % 12+1
def first(Y M p:Int):Int:=num (py Y M p) (pm Y M p) 1
def last (Y M p:Int):Int:=first Y M p+mlen (py Y M p) (pm Y M p)-1
def ok (Y M N:Int):Bool:=decide (1<=M/\M<=12/\1<=N/\N<=120/\1900<=Y/\Y<=2199/\py Y M (N-1)<=2199)
def err (Y M N p:Int):Int:=if ok Y M N then(if p<0∨N<=p then 2 else 0) else 1
theorem ok_iff (Y M N):ok Y M N ↔ (1<=M/\M<=12/\1<=N/\N<=120/\1900<=Y/\Y<=2199/\py Y M (N-1)<=2199):=by unfold ok;simp
theorem err_zero (Y M N p):err Y M N p=0 ↔ (ok Y M N/\0<=p/\p<N):=by
 unfold err
 by_cases h:ok Y M N
 ·rw[Vt h];by_cases a:p<0∨N<=p
  ·rw[Vt a];simp;omega
  ·rw[VB a];simp[h];omega
 ·rw[VB h];simp[h]
theorem pvld (Y M N p) (h:ok Y M N) (a:0<=p) (i:p<N):1900<=py Y M p/\py Y M p<=2199/\1<=pm Y M p/\pm Y M p<=12:=by
 rw[ok_iff] at h;unfold py pm at *;omega
theorem first_vld (Y M N p) (h:ok Y M N) (a:0<=p) (i:p<N):vld (py Y M p) (pm Y M p) 1:=by
 have:=pvld Y M N p h a i;have:=mlen_bd (py Y M p) (pm Y M p);exact⟨oM,oM,oM,oM,oM,oM⟩
theorem b2C (Y M N p) (h:ok Y M N) (a:0<=p) (i:p<N):vld (py Y M p) (pm Y M p) (mlen (py Y M p) (pm Y M p)):=by
 have:=pvld Y M N p h a i;have:=mlen_bd (py Y M p) (pm Y M p);exact⟨oM,oM,oM,oM,oM,oM⟩
theorem b4d (Y M p):last Y M p=num (py Y M p) (pm Y M p) (mlen (py Y M p) (pm Y M p)):=by unfold last first num;omega
theorem first_bd (Y M N p) (h:ok Y M N) (i:0<=p) (o:p<N):-25567<=first Y M p/\first Y M p<=last Y M p/\last Y M p<=84005/\last Y M p<=first Y M p+30:=by
 have a:=num_bd _ _ _ (first_vld Y M N p h i o);have b:=num_bd _ _ _ (b2C Y M N p h i o);have c:=mlen_bd (py Y M p) (pm Y M p);rw[<- b4d] at b;refine⟨a.1,?_,b.2,?_⟩ <;> unfold last <;> omega
end Cal
structure Lnk where
 frm:Int
 to:Int
 since:Int
instance:Coe Lnk (Array Value):=⟨fun x=>#[.int .i64 x.frm,.int .i64 x.to,.int .i64 x.since]⟩
instance:Coe Lnk Value:=⟨fun x=>.agg #[.int .i64 x.frm,.int .i64 x.to,.int .i64 x.since]⟩
instance:Coe Lnk (List Value):=⟨fun x=>[.int .i64 x.frm,.int .i64 x.to,.int .i64 x.since]⟩
structure Ent where
 name:ByteArray
 cur:ByteArray
 cA:Option Addr
 cn:Nat
 cc:Nat
 chart:List Acc
 lA:Option Addr
 ln:Nat
 lc:Nat
 links:List Lnk
 joint:Bool
instance:Coe Ent (Array Value):=⟨fun x=>#[.string x.name,.string x.cur,.slice x.cA x.cn x.cc,.slice x.lA x.ln x.lc,.bool x.joint]⟩
instance:Coe Ent Value:=⟨fun x=>.agg #[.string x.name,.string x.cur,.slice x.cA x.cn x.cc,.slice x.lA x.ln x.lc,.bool x.joint]⟩
instance:Coe Ent (List Value):=⟨fun x=>[.string x.name,.string x.cur,.slice x.cA x.cn x.cc,.slice x.lA x.ln x.lc,.bool x.joint]⟩
structure Grp where
 cur:ByteArray
 Y:Int
 M:Int
 N:Int
 cA:Option Addr
 cn:Nat
 cc:Nat
 chart:List Acc
 r0:Int
 r1:Int
 r2:Int
 r3:Int
 r4:Int
 r5:Int
 r6:Int
 r7:Int
 r8:Int
 r9:Int
 r10:Int
 r11:Int
 r12:Int
 r13:Int
 r14:Int
 eA:Option Addr
 en:Nat
 ec:Nat
 ents:List Ent
instance:Coe Grp (Array Value):=⟨fun x=>#[.string x.cur,.int .i64 x.Y,.int .i64 x.M,.int .i64 x.N,.slice x.cA x.cn x.cc,.int .i64 x.r0,.int .i64 x.r1,.int .i64 x.r2,.int .i64 x.r3,.int .i64 x.r4,.int .i64 x.r5,.int .i64 x.r6,.int .i64 x.r7,.int .i64 x.r8,.int .i64 x.r9,.int .i64 x.r10,.int .i64 x.r11,.int .i64 x.r12,.int .i64 x.r13,.int .i64 x.r14,.slice x.eA x.en x.ec]⟩
instance:Coe Grp Value:=⟨fun x=>.agg #[.string x.cur,.int .i64 x.Y,.int .i64 x.M,.int .i64 x.N,.slice x.cA x.cn x.cc,.int .i64 x.r0,.int .i64 x.r1,.int .i64 x.r2,.int .i64 x.r3,.int .i64 x.r4,.int .i64 x.r5,.int .i64 x.r6,.int .i64 x.r7,.int .i64 x.r8,.int .i64 x.r9,.int .i64 x.r10,.int .i64 x.r11,.int .i64 x.r12,.int .i64 x.r13,.int .i64 x.r14,.slice x.eA x.en x.ec]⟩
instance:Coe Grp (List Value):=⟨fun x=>[.string x.cur,.int .i64 x.Y,.int .i64 x.M,.int .i64 x.N,.slice x.cA x.cn x.cc,.int .i64 x.r0,.int .i64 x.r1,.int .i64 x.r2,.int .i64 x.r3,.int .i64 x.r4,.int .i64 x.r5,.int .i64 x.r6,.int .i64 x.r7,.int .i64 x.r8,.int .i64 x.r9,.int .i64 x.r10,.int .i64 x.r11,.int .i64 x.r12,.int .i64 x.r13,.int .i64 x.r14,.slice x.eA x.en x.ec]⟩
structure Role where
 name:ByteArray
 code:Int
 kind:Int
 basis:Int
 mapped:Bool
instance:Coe Role (Array Value):=⟨fun x=>#[.string x.name,.int .i64 x.code,.int .i64 x.kind,.int .i64 x.basis,.bool x.mapped]⟩
instance:Coe Role Value:=⟨fun x=>.agg #[.string x.name,.int .i64 x.code,.int .i64 x.kind,.int .i64 x.basis,.bool x.mapped]⟩
instance:Coe Role (List Value):=⟨fun x=>[.string x.name,.int .i64 x.code,.int .i64 x.kind,.int .i64 x.basis,.bool x.mapped]⟩
def Lnk.zero:Lnk:=⟨0,0,0⟩
def Role.zero:Role:=⟨ByteArray.empty,0,0,0,false⟩
def Ent.zero:Ent:=⟨ByteArray.empty,ByteArray.empty,none,0,0,[],none,0,0,[],false⟩
def Lnk.cells (x:Lnk):List Value:=x
def Ent.cells (x:Ent):List Value:=x
def Role.cells (x:Role):List Value:=x
namespace Gr
def upper (c:UInt8):Bool:=decide (65<=(c.toNat:Int)/\(c.toNat:Int)<=90)
def isCur (s:BA):Bool:=s.data.toList.all upper&&decide (s.size=3)
def letter (x:Int):Bool:=decide (97<=x/\x<=122)||decide (65<=x/\x<=90)
def byteAt (s:BA) (i:Nat):Int:=((s.data.toList.getD i 0).toNat:Int)
def nameAt (s:BA) (i:Nat):Bool:=letter (byteAt s i)||(decide (i≠0)&&(decide (byteAt s i=45)||decide (48<=byteAt s i/\byteAt s i<=57)))
def isName (s:BA):Bool:=(List.range s.size).all (nameAt s)&&decide (1<=s.size/\s.size<=16)
def based (a:Acc):Bool:=if a.kind=1∨a.kind=2 then decide (a.basis=1∨a.basis=3) else if a.kind=3 then decide (a.basis=3) else decide (a.basis=2)
def date (d:Int):Bool:=decide (-25567<=d/\d<=84005)
def linkOk (chart a:List Acc) (x:Lnk):Bool:=Ch.has chart x.frm&&Ch.has a x.to&&decide ((Ch.found chart x.frm).kind=(Ch.found a x.to).kind)&&date x.since
def lat (l:List Lnk) (i:Nat):Lnk:=l.getD i Lnk.zero
def sameKey (x y:Lnk):Bool:=decide (x.frm=y.frm)&&decide (x.since=y.since)
def fresh (l:List Lnk) (i:Nat) (x:Lnk):Bool:=!(l.take i).any (fun y=>sameKey y x)
def linkAt (chart a:List Acc) (l:List Lnk) (i:Nat):Bool:=linkOk chart a (lat l i)&&fresh l i (lat l i)
def mapping (chart a:List Acc) (l:List Lnk):Bool :=
 Ch.valid true a&&Ch.valid false chart&&decide (l.length<=400)&&(List.range l.length).all (linkAt chart a l)
def roles (g:Grp):List Role :=
 [⟨⟨#[105,110,118,101,115,116,109,101,110,116]⟩,g.r0,1,3,true⟩,⟨⟨#[103,111,111,100,119,105,108,108]⟩,g.r1,1,3,false⟩,
  ⟨⟨#[97,115,115,111,99,105,97,116,101,115]⟩,g.r2,1,3,false⟩,⟨⟨#[105,110,118,101,110,116,111,114,121]⟩,g.r3,1,1,true⟩,
  ⟨⟨#[114,101,115,101,114,118,101]⟩,g.r4,3,3,false⟩,⟨⟨#[109,105,110,111,114,105,116,121]⟩,g.r5,3,3,false⟩,⟨⟨#[114,101,116,97,105,110,101,100]⟩,g.r6,3,3,true⟩,
  ⟨⟨#[97,99,113,117,105,114,101,100]⟩,g.r7,3,3,false⟩,⟨⟨#[111,119,110,101,114,115]⟩,g.r8,3,3,false⟩,
  ⟨⟨#[100,105,115,112,111,115,97,108]⟩,g.r9,4,2,false⟩,⟨⟨#[97,115,115,111,99,105,97,116,101,80,114,111,102,105,116]⟩,g.r10,4,2,false⟩,⟨⟨#[100,105,118,105,100,101,110,100,115]⟩,g.r11,4,2,true⟩,
  ⟨⟨#[109,105,110,111,114,105,116,121,80,114,111,102,105,116]⟩,g.r12,5,2,false⟩,⟨⟨#[100,105,102,102,101,114,101,110,99,101]⟩,g.r13,5,2,false⟩,⟨⟨#[109,97,114,103,105,110]⟩,g.r14,5,2,false⟩]
def rat (l:List Role) (i:Nat):Role:=l.getD i Role.zero
def roleAt (chart:List Acc) (l:List Role) (i:Nat):Bool :=
 Ch.has chart (rat l i).code&&decide ((Ch.found chart (rat l i).code).kind=(rat l i).kind)&&decide ((Ch.found chart (rat l i).code).basis=(rat l i).basis)&&!(l.take i).any (fun y=>decide (y.code=(rat l i).code))
def accounts (g:Grp):Bool:=Ch.valid true g.chart&&g.chart.all based&&(List.range (roles g).length).all (roleAt g.chart (roles g))
def openTo (l:List Role) (x:Lnk):Bool:=!l.any (fun y=>decide (y.code=x.to)&&!y.mapped)
def entity (g:Grp) (e:Ent):Bool:=isName e.name&&isCur e.cur&&mapping e.chart g.chart e.links&&e.links.all (openTo (roles g))
def eat (l:List Ent) (i:Nat):Ent:=l.getD i Ent.zero
def entAt (g:Grp) (i:Nat):Bool:=entity g (eat g.ents i)&&!(g.ents.take i).any (fun y=>decide (y.name=(eat g.ents i).name))
def books (g:Grp):Bool:=isCur g.cur&&Cal.ok g.Y g.M g.N&&accounts g
def valid (g:Grp):Bool:=books g&&decide (1<=g.ents.length)&&decide (g.ents.length<=12)&&!(eat g.ents 0).joint&&(List.range g.ents.length).all (entAt g)
end Gr
theorem a1U {a:Func} {t u v x:Tmp} (h:a.results=#[.tmp t,.tmp u,.tmp v,.tmp x]) (tmps) (P) (w) :
  (results a tmps).run P w=.ok (.tuple #[tmps.getD t undef,tmps.getD u undef,tmps.getD v undef,tmps.getD x undef]) w:=by simp[results,h]
theorem a1I {k:IK} {a b} (h:a=b):Ending.returned (.int k a)=.returned (.int k b):=by rw[h]
theorem VV {a b} (h:a=b):Ending.returned (.bool a)=.returned (.bool b):=by rw[h]
theorem bcell {B} {W w1} (a:Below B W w1):(∀b o,b<B->w1.cell? ⟨b,o,none⟩=W.cell? ⟨b,o,none⟩)/\(∀b o,b<B->w1.frozen? ⟨b,o,none⟩=W.frozen? ⟨b,o,none⟩) :=
 ⟨fun b o h=>a.cell (p:=⟨b,o,none⟩) h,fun b o h=>a.frozen (p:=⟨b,o,none⟩) h⟩
open Tryz
namespace Gr
theorem allTake (l:List UInt8) (p:UInt8->Bool) (k) (h:k<l.length):(l.take (k+1)).all p=((l.take k).all p&&p l[k]):=by
 rw[tse h,Yp];simp
theorem allMiss (l:List UInt8) (p:UInt8->Bool) (k) (h:k<l.length) (a:p l[k]=false):l.all p=false:=by
 rw[Yb];exact⟨l[k],Vm h,by simp[a]⟩
theorem range_all {n} {P} (h:(List.range n).all P) (a:P n):(List.range (n+1)).all P:=by
 rw[Ym,Yp,h];simp[a]
theorem byte_at (s) (k) (h:k<s.size):byteAt s k=(s[k].toNat:Int):=by
 unfold byteAt;have:k<s.data.toList.length:=by simpa using h
 rw[List.getD_eq_getElem?_getD,List.getElem?_eq_getElem this];rfl
end Gr
theorem a8h (s) (O:s.size<=maxLen):Calls prog 162 #[.string s] w fun e w'=>e=.returned (.bool (Gr.isCur s))/\w=w':=by
 unfold maxLen at O;have E:s.data.toList.length=s.size:=sP;go_enter func162,ntmps162;go_wp2
 go_loop [6] (fun i=>∃k:Nat,k<=s.size/\i=k/\(s.data.toList.take k).all Gr.upper) (fun i=>s.size-(intOf i).toNat)
 case atStart=>exact⟨0,Vb _,rfl,rfl⟩
 case round =>
  obtain⟨k,T,rfl,J⟩:=hrel;have I:=Z1 J;clear J
  by_cases L:k<s.size
  ·have o:s.data.toList[k]' oM=s[k]:=rfl
   by_cases Q:(s[k].toNat:Int)<65
   ·have a:Hid (Gr.isCur s=false):=by
     show Gr.isCur s=false;unfold Gr.isCur;rw[Gr.allMiss _ _ k oM (by rw[o];unfold Gr.upper;simp only[YF];omega)];rfl
    clear o;go_wp2;go_ret;exact⟨VV a.out.symm,rfl⟩
   ·by_cases S:90<(s[k].toNat:Int)
    ·have a:Hid (Gr.isCur s=false):=by
      show Gr.isCur s=false;unfold Gr.isCur;rw[Gr.allMiss _ _ k oM (by rw[o];unfold Gr.upper;simp only[YF];omega)];rfl
     clear o;go_wp2;go_ret;exact⟨VV a.out.symm,rfl⟩
    ·have a:Hid ((s.data.toList.take (k+1)).all Gr.upper):=by
      show _=true;rw[Gr.allTake _ _ k oM,I,o];unfold Gr.upper;simp;omega
     clear o;go_wp2
     go_round
     case rel=>exact⟨k+1,oM,by go_num,a.out⟩
     case measure=>exact mS
  ·obtain rfl:k=s.size:=oM
   have a:Hid (Gr.isCur s=decide (s.size=3)):=by
    show _=_;have h:=I.out;rw[Vg oM] at h;unfold Gr.isCur;rw[h,Y7]
   clear E;go_wp2;go_ret;refine⟨VV ?_,rfl⟩;rw[a.out,XX];simp;omega
theorem a8g (s) (O:s.size<=maxLen):Calls prog 103 #[.string s] w fun e w'=>e=.returned (.bool (Gr.isCur s))/\w=w':=by
 unfold maxLen at O;have E:s.data.toList.length=s.size:=sP;go_enter func103,ntmps103;go_wp2
 go_loop [3] (fun i=>∃k:Nat,k<=s.size/\i=k/\(s.data.toList.take k).all Gr.upper) (fun i=>s.size-(intOf i).toNat)
 case atStart=>exact⟨0,Vb _,rfl,rfl⟩
 case round =>
  obtain⟨k,T,rfl,J⟩:=hrel;have I:=Z1 J;clear J
  by_cases L:k<s.size
  ·have o:s.data.toList[k]' oM=s[k]:=rfl
   by_cases Q:(s[k].toNat:Int)<65
   ·have a:Hid (Gr.isCur s=false):=by
     show Gr.isCur s=false;unfold Gr.isCur;rw[Gr.allMiss _ _ k oM (by rw[o];unfold Gr.upper;simp only[YF];omega)];rfl
    clear o;go_wp2;go_ret;exact⟨VV a.out.symm,rfl⟩
   ·by_cases S:90<(s[k].toNat:Int)
    ·have a:Hid (Gr.isCur s=false):=by
      show Gr.isCur s=false;unfold Gr.isCur;rw[Gr.allMiss _ _ k oM (by rw[o];unfold Gr.upper;simp only[YF];omega)];rfl
     clear o;go_wp2;go_ret;exact⟨VV a.out.symm,rfl⟩
    ·have a:Hid ((s.data.toList.take (k+1)).all Gr.upper):=by
      show _=true;rw[Gr.allTake _ _ k oM,I,o];unfold Gr.upper;simp;omega
     clear o;go_wp2
     go_round
     case rel=>exact⟨k+1,oM,by go_num,a.out⟩
     case measure=>exact mS
  ·obtain rfl:k=s.size:=oM
   have a:Hid (Gr.isCur s=decide (s.size=3)):=by
    show _=_;have h:=I.out;rw[Vg oM] at h;unfold Gr.isCur;rw[h,Y7]
   clear E;go_wp2;go_ret;refine⟨VV ?_,rfl⟩;rw[a.out,XX];simp;omega
theorem a1g (x):Calls prog 258 #[.int .u8 x] w fun e w'=>e=.returned (.bool (Gr.letter x))/\w=w':=by
 by_cases s:97<=x
 ·by_cases E:x<=122
  ·have a:Hid (Gr.letter x):=by show _=_;simp[Gr.letter];omega
   go_enter func258,ntmps258;go_wp2;go_ret;exact⟨by rw[a.out];rfl,rfl⟩
  ·have i:65<=x:=oM
   have o:¬ x<=90:=oM;have a:Hid (Gr.letter x=false):=by show _=_;simp[Gr.letter];omega
   go_enter func258,ntmps258;go_wp2;go_ret;exact⟨by rw[a.out];rfl,rfl⟩
 ·by_cases i:65<=x
  ·by_cases o:x<=90
   ·have a:Hid (Gr.letter x):=by show _=_;simp[Gr.letter];omega
    go_enter func258,ntmps258;go_wp2;go_ret;exact⟨by rw[a.out];rfl,rfl⟩
   ·have a:Hid (Gr.letter x=false):=by show _=_;simp[Gr.letter];omega
    go_enter func258,ntmps258;go_wp2;go_ret;exact⟨by rw[a.out];rfl,rfl⟩
  ·have a:Hid (Gr.letter x=false):=by show _=_;simp[Gr.letter];omega
   go_enter func258,ntmps258;go_wp2;go_ret;exact⟨by rw[a.out];rfl,rfl⟩
theorem a1f (x):Calls prog 158 #[.int .u8 x] w fun e w'=>e=.returned (.bool (Gr.letter x))/\w=w':=by
 by_cases s:97<=x
 ·by_cases E:x<=122
  ·have a:Hid (Gr.letter x):=by show _=_;simp[Gr.letter];omega
   go_enter func158,ntmps158;go_wp2;go_ret;exact⟨by rw[a.out];rfl,rfl⟩
  ·have i:65<=x:=oM
   have o:¬ x<=90:=oM;have a:Hid (Gr.letter x=false):=by show _=_;simp[Gr.letter];omega
   go_enter func158,ntmps158;go_wp2;go_ret;exact⟨by rw[a.out];rfl,rfl⟩
 ·by_cases i:65<=x
  ·by_cases o:x<=90
   ·have a:Hid (Gr.letter x):=by show _=_;simp[Gr.letter];omega
    go_enter func158,ntmps158;go_wp2;go_ret;exact⟨by rw[a.out];rfl,rfl⟩
   ·have a:Hid (Gr.letter x=false):=by show _=_;simp[Gr.letter];omega
    go_enter func158,ntmps158;go_wp2;go_ret;exact⟨by rw[a.out];rfl,rfl⟩
  ·have a:Hid (Gr.letter x=false):=by show _=_;simp[Gr.letter];omega
   go_enter func158,ntmps158;go_wp2;go_ret;exact⟨by rw[a.out];rfl,rfl⟩
theorem b0q (s) (hs:s.size<=maxLen):Calls prog 219 #[.string s] w fun e w'=>e=.returned (.bool (Gr.isName s))/\w=w':=by
 unfold maxLen at hs;go_enter func219,ntmps219;go_wp2
 go_loop [7] (fun i=>∃k:Nat,k<=s.size/\i=k/\(List.range k).all (Gr.nameAt s)) (fun i=>s.size-(intOf i).toNat)
 case atStart=>exact⟨0,Vb _,rfl,rfl⟩
 case round =>
  obtain⟨k,hk,rfl,ha⟩:=hrel;have X:=Z1 ha;clear ha
  by_cases S:k<s.size
  ·have I:=Z1 (Gr.byte_at s k S)
   have o:Gr.nameAt s k=false->Hid (Gr.isName s=false):=fun h=>by
    show _=_;unfold Gr.isName;rw[Ch.all_not S h];rfl
   have a:Gr.nameAt s k->Hid ((List.range (k+1)).all (Gr.nameAt s)):=fun h=>Gr.range_all X h
   by_cases Q:Gr.letter (s[k].toNat:Int)
   ·have J:=Q
    have E:=a (by rw[Gr.nameAt,I,Q];rfl);clear Q o a;go_wp2_with (go_at_call 258;refine(a1g _ _).mono ?_;rw[J];rintro e T ⟨rfl,rfl⟩)
    go_round
    case rel=>exact⟨k+1,oM,by go_num,E.out⟩
    case measure=>exact mS
   ·have J:Gr.letter (s[k].toNat:Int)=false:=by simpa using Q
    clear Q
    by_cases O:k=0
    ·have E:=o (by rw[Gr.nameAt,I,J];simp[O])
     subst O;clear o a;go_wp2_with (go_at_call 258;refine(a1g _ _).mono ?_;rw[J];rintro e T ⟨rfl,rfl⟩);go_ret;exact⟨VV E.out.symm,rfl⟩
    have a0:((k:Int)==0)=false:=sO
    by_cases L:(s[k].toNat:Int)=45
    ·have W:((s[k].toNat:Int) != 45)=false:=by simp[L]
     have E:=a (by rw[Gr.nameAt,I,J,L];simp[O]);clear o a L;go_wp2_with (go_at_call 258;refine(a1g _ _).mono ?_;rw[J];rintro e T ⟨rfl,rfl⟩)
     go_round
     case rel=>exact⟨k+1,oM,by go_num,E.out⟩
     case measure=>exact mS
    have W:((s[k].toNat:Int) != 45):=by simp[L]
    by_cases h2:(s[k].toNat:Int)<48
    ·have E:=o (by rw[Gr.nameAt,I,J];simp[L];omega)
     clear o a L O;go_wp2_with (go_at_call 258;refine(a1g _ _).mono ?_;rw[J];rintro e T ⟨rfl,rfl⟩);go_ret;exact⟨VV E.out.symm,rfl⟩
    by_cases h3:57<(s[k].toNat:Int)
    ·have E:=o (by rw[Gr.nameAt,I,J];simp[L];omega)
     clear o a L O;go_wp2_with (go_at_call 258;refine(a1g _ _).mono ?_;rw[J];rintro e T ⟨rfl,rfl⟩);go_ret;exact⟨VV E.out.symm,rfl⟩
    ·have E:=a (by rw[Gr.nameAt,I,J];simp[O];omega)
     clear o a L O;go_wp2_with (go_at_call 258;refine(a1g _ _).mono ?_;rw[J];rintro e T ⟨rfl,rfl⟩)
     go_round
     case rel=>exact⟨k+1,oM,by go_num,E.out⟩
     case measure=>exact mS
  ·obtain rfl:k=s.size:=oM
   have E:Hid (Gr.isName s=decide (1<=s.size/\s.size<=16)):=by
    show _=_;unfold Gr.isName;rw[X,Y7]
   by_cases L:(1:Int)<=(s.size:Int)
   ·go_wp2
    go_ret;refine⟨VV ?_,rfl⟩;rw[E.out,XX];simp;omega
   ·go_wp2
    go_ret;refine⟨VV ?_,rfl⟩;rw[E.out,XX];simp;omega
theorem b0p (s) (hs:s.size<=maxLen):Calls prog 108 #[.string s] w fun e w'=>e=.returned (.bool (Gr.isName s))/\w=w':=by
 unfold maxLen at hs;go_enter func108,ntmps108;go_wp2
 go_loop [3] (fun i=>∃k:Nat,k<=s.size/\i=k/\(List.range k).all (Gr.nameAt s)) (fun i=>s.size-(intOf i).toNat)
 case atStart=>exact⟨0,Vb _,rfl,rfl⟩
 case round =>
  obtain⟨k,hk,rfl,ha⟩:=hrel;have X:=Z1 ha;clear ha
  by_cases S:k<s.size
  ·have I:=Z1 (Gr.byte_at s k S)
   have o:Gr.nameAt s k=false->Hid (Gr.isName s=false):=fun h=>by
    show _=_;unfold Gr.isName;rw[Ch.all_not S h];rfl
   have a:Gr.nameAt s k->Hid ((List.range (k+1)).all (Gr.nameAt s)):=fun h=>Gr.range_all X h
   by_cases Q:Gr.letter (s[k].toNat:Int)
   ·have J:=Q
    have E:=a (by rw[Gr.nameAt,I,Q];rfl);clear Q o a;go_wp2_with (go_at_call 158;refine(a1f _ _).mono ?_;rw[J];rintro e T ⟨rfl,rfl⟩)
    go_round
    case rel=>exact⟨k+1,oM,by go_num,E.out⟩
    case measure=>exact mS
   ·have J:Gr.letter (s[k].toNat:Int)=false:=by simpa using Q
    clear Q
    by_cases O:k=0
    ·have E:=o (by rw[Gr.nameAt,I,J];simp[O])
     subst O;clear o a;go_wp2_with (go_at_call 158;refine(a1f _ _).mono ?_;rw[J];rintro e T ⟨rfl,rfl⟩);go_ret;exact⟨VV E.out.symm,rfl⟩
    have a0:((k:Int)==0)=false:=sO
    by_cases L:(s[k].toNat:Int)=45
    ·have W:((s[k].toNat:Int) != 45)=false:=by simp[L]
     have E:=a (by rw[Gr.nameAt,I,J,L];simp[O]);clear o a L;go_wp2_with (go_at_call 158;refine(a1f _ _).mono ?_;rw[J];rintro e T ⟨rfl,rfl⟩)
     go_round
     case rel=>exact⟨k+1,oM,by go_num,E.out⟩
     case measure=>exact mS
    have W:((s[k].toNat:Int) != 45):=by simp[L]
    by_cases h2:(s[k].toNat:Int)<48
    ·have E:=o (by rw[Gr.nameAt,I,J];simp[L];omega)
     clear o a L O;go_wp2_with (go_at_call 158;refine(a1f _ _).mono ?_;rw[J];rintro e T ⟨rfl,rfl⟩);go_ret;exact⟨VV E.out.symm,rfl⟩
    by_cases h3:57<(s[k].toNat:Int)
    ·have E:=o (by rw[Gr.nameAt,I,J];simp[L];omega)
     clear o a L O;go_wp2_with (go_at_call 158;refine(a1f _ _).mono ?_;rw[J];rintro e T ⟨rfl,rfl⟩);go_ret;exact⟨VV E.out.symm,rfl⟩
    ·have E:=a (by rw[Gr.nameAt,I,J];simp[O];omega)
     clear o a L O;go_wp2_with (go_at_call 158;refine(a1f _ _).mono ?_;rw[J];rintro e T ⟨rfl,rfl⟩)
     go_round
     case rel=>exact⟨k+1,oM,by go_num,E.out⟩
     case measure=>exact mS
  ·obtain rfl:k=s.size:=oM
   have E:Hid (Gr.isName s=decide (1<=s.size/\s.size<=16)):=by
    show _=_;unfold Gr.isName;rw[X,Y7]
   by_cases L:(1:Int)<=(s.size:Int)
   ·go_wp2
    go_ret;refine⟨VV ?_,rfl⟩;rw[E.out,XX];simp;omega
   ·go_wp2
    go_ret;refine⟨VV ?_,rfl⟩;rw[E.out,XX];simp;omega
namespace Big
def val (B:Int):List Int->Int
 |[]=>0
 |a::l=>a+B*val B l
def Lim (B:Int) (l:LI):Prop:=∀a∈l,0<=a/\a<B
def Norm (l:LI):Prop:=∀h:l≠[],l.getLast h≠0
def sgn (neg:Bool) (n:Int):Int:=if neg then-n else n
theorem Lim.nil {B}:Lim B []:=fun _ h=>by cases h
theorem Lim.cons {B a} {l}:Lim B (a::l) ↔ (0<=a/\a<B)/\Lim B l:=by unfold Lim;simp
theorem Lim.append {B} {l m}:Lim B (l++m) ↔ Lim B l/\Lim B m:=by
 unfold Lim;simp only[V9];exact⟨fun h=>⟨fun a i=>h a (.inl i),fun a i=>h a (.inr i)⟩,fun h a i=>i.elim (h.1 a) (h.2 a)⟩
theorem Lim.take {B} {l} (h:Lim B l) (k):Lim B (l.take k):=fun a i=>h a (ZV i)
theorem Lim.drop {B} {l} (h:Lim B l) (k):Lim B (l.drop k):=fun a i=>h a (List.mem_of_mem_drop i)
theorem Lim.get {B} {l} (h:Lim B l) (k) (a:k<l.length):0<=l[k]/\l[k]<B:=h _ (Vm a)
theorem Lim.zeros {B} (o:0<B) (k):Lim B (List.replicate k 0):=fun a i=>by
 rw[List.mem_replicate] at i;omega
theorem a3H (B):val B []=0:=rfl
theorem val_cons (B a) (l):val B (a::l)=a+B*val B l:=rfl
theorem val_one (B a):val B [a]=a:=by simp[val]
theorem val_append (B) (l m):val B (l++m)=val B l+B ^ l.length*val B m:=by
 induction l with
 |nil=>simp[val]
 |cons a l ih =>
  rw[XM,val_cons,ih,val_cons,Xl,Zf,XJ];rw[YS (B ^ l.length) B,YG,Int.add_assoc]
theorem val_snoc (B) (l) (a):val B (l++[a])=val B l+B ^ l.length*a:=by rw[val_append,val_one]
theorem val_zeros (B) (k):val B (List.replicate k 0)=0:=by
 induction k with
 |zero=>rfl
 |succ k a=>rw[Yj,val_cons,a];simp
theorem pow_pos {B:Int} (a:0<B) (k):0<B ^ k:=Int.pow_pos a
theorem val_nonneg {B} (i:0<B) {l} (h:Lim B l):0<=val B l:=by
 induction l with
 |nil=>simp[val]
 |cons a l ih =>
  rw[Lim.cons] at h;have:=YR (YQ i) (ih h.2);rw[val_cons];omega
theorem val_lt {B} (o:0<B) {l} (h:Lim B l):val B l<B ^ l.length:=by
 induction l with
 |nil=>simp[val]
 |cons a l ih =>
  rw[Lim.cons] at h;have s:=ih h.2;rw[val_cons,Xl,Zf];have i:B*(val B l+1)<=B*B ^ l.length:=V8 oM (YQ o);rw[XJ,ZD] at i;rw[YS (B ^ l.length) B];omega
theorem val_take_succ (B) (l:LI) (k) (h:k<l.length):val B (l.take (k+1))=val B (l.take k)+B ^ k*l[k]:=by
 rw[tse h,val_snoc,XF,JP (XC h)]
theorem val_split (B) (l) (k) (h:k<=l.length):val B l=val B (l.take k)+B ^ k*val B (l.drop k):=by
 conv=>lhs;rw[<- X7 k l]
 rw[val_append,XF,JP h]
theorem val_drop (B) (l:LI) (k) (h:k<l.length):val B (l.drop k)=l[k]+B*val B (l.drop (k+1)):=by
 rw[XS h,val_cons]
theorem Norm.nil:Norm []:=fun h=>absurd rfl h
theorem norm_snoc {l} {a} (h:a≠0):Norm (l++[a]):=fun _=>by simpa using h
theorem Norm.last {l} (h:Norm l) (a:0<l.length):l[l.length-1]' oM≠0:=by
 have:=h (by intro e;rw[e] at a;simp at a)
 rwa [List.getLast_eq_getElem] at this
theorem a3U {B} (a:0<B) {l} (h:Lim B l) (s:Norm l) (o:0<l.length):B ^ (l.length-1)<=val B l:=by
 have E:=s.last o;have I:=h.get (l.length-1) oM;rw[val_split B l (l.length-1) oM,val_drop B l (l.length-1) oM];have J:=val_nonneg a (h.take (l.length-1));have i:List.drop (l.length-1+1) l=[]:=Yf oM;rw[i,a3H,XR,XP];have L:B ^ (l.length-1)*1<=B ^ (l.length-1)*l[l.length-1]:=V8 oM (YQ (pow_pos a _));omega
theorem val_zero {B} (a:0<B) {l} (h:Lim B l) (o:Norm l):val B l=0 ↔ l=[]:=by
 constructor
 ·intro s
  rcases Y0 l.length with e|i
  ·exact List.length_eq_zero_iff.1 e
  ·have E:=a3U a h o i
   have I:=pow_pos a (l.length-1);omega
 ·rintro rfl;rfl
theorem pow_le {B:Int} (s:1<=B) {a b} (h:a<=b):B ^ a<=B ^ b:=by
 induction h with
 |refl=>exact J7 _
 |@step m _ ih =>
  rw[Zf];have o:0<=B ^ m:=YQ (pow_pos oM m);have i:B ^ m*1<=B ^ m*B:=V8 s o;rw[ZD] at i;exact Int.le_trans ih i
theorem length_le {B} (i:1<=B) {l} (h:Lim B l) (o:Norm l) (k) (hv:val B l<B ^ k):l.length<=k:=by
 rcases Zn k l.length with a|a
 ·have s:=a3U oM h o oM
  have E:=pow_le i (show k<=l.length-1 by omega);omega
 ·exact a
theorem longer_lt {B} (a:1<=B) {l m} (h:Lim B l) (i:Lim B m) (o:Norm m) (J:l.length<m.length):val B l<val B m:=by
 have s:=val_lt oM h;have E:=a3U oM i o oM;have I:=pow_le a (show l.length<=m.length-1 by omega);omega
theorem top_lt {B} (L:1<=B) {l m} (h:Lim B l) (I:Lim B m) (e:l.length=m.length) (k) (s:k<l.length)
  (o:l.drop (k+1)=m.drop (k+1)) (E:l[k]<m[k]' oM):val B l<val B m:=by
 rw[val_split B l k oM,val_split B m k oM,val_drop B l k s,val_drop B m k oM,o];have a:=val_lt oM (h.take k);rw[XF,JP oM] at a;have J:=val_nonneg oM (I.take k);have i:B ^ k*(l[k]+B*val B (List.drop (k+1) m)+1)<=B ^ k*(m[k]' oM+B*val B (List.drop (k+1) m)):=V8 oM (YQ (pow_pos oM _));rw[XJ,ZD] at i;omega
def trim (l:LI):List Int:=(l.reverse.dropWhile (·==0)).reverse
theorem a2s (l):trim (l++[0])=trim l:=by simp[trim]
theorem a5J {l} {a} (h:a≠0):trim (l++[a])=l++[a]:=by simp[trim,h]
theorem a5k {P:List Int->Prop} (i:P []) (o:∀l r,P l->P (l++[r])) (l):P l:=by
 rw[<- KY l]
 induction l.reverse with
 |nil=>exact i
 |cons a t s=>rw[Qk];exact o _ _ s
theorem trim_spec (B) (l):val B (trim l)=val B l/\Norm (trim l)/\(trim l).length<=l.length/\trim l=l.take (trim l).length:=by
 revert l
 refine a5k ⟨rfl,Norm.nil,lR,rfl⟩ fun l a I=>?_
 by_cases h:a=0
 ·subst h
  obtain⟨i,o,s,E⟩:=I;rw[a2s];refine⟨by rw[i,val_snoc];simp,o,sO,?_⟩;rw[YB s];exact E
 ·rw[a5J h]
  exact⟨rfl,norm_snoc h,lR,(Xs).symm⟩
theorem trim_lim {B} {l} (h:Lim B l):Lim B (trim l):=by
 rw[(trim_spec B l).2.2.2];exact h.take _
theorem trim_take {l:LI} {k} (i:k<l.length) (a:l[k]=0):trim (l.take (k+1))=trim (l.take k):=by
 rw[tse i,a,a2s]
theorem trim_take_stop {l:LI} {k} (i:k<l.length) (a:l[k]≠0):trim (l.take (k+1))=l.take (k+1):=by
 rw[tse i,a5J a]
end Big
end Go.Proofs.YtbhdekahdnenjaaGreatDoor
