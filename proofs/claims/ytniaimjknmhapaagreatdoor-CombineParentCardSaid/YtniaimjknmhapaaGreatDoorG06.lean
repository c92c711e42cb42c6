/- My texts IntMem, IntArr, IntAdd, IntSub, IntMul. -/
import Derived.Deep.RegionHeld3
import Derived.OwnWalk
import Derived.Laws.CopyOwn
import Derived.Deep.DeepCutAuto
import Derived.Test.YtniaimjknmhapaaGreatDoorG00
set_option linter.unusedVariables false
set_option linter.unusedSimpArgs false
set_option maxRecDepth 100000
set_option maxHeartbeats 16000000
namespace Go.Proofs.YtniaimjknmhapaaGreatDoor
open Tryz Go.RowKit

def limbTy (K:IntKind):TypeId:=match K with
 | .u32=>138
 | _=>3
def LTyped (K:IntKind) (w:World) (b:Nat):Prop:=∃ cur fr,w.heap[b]?=some (.cells cur (limbTy K) fr)
theorem LTyped.of_block {K:IntKind} {w w':World} {b:Nat} (h:LTyped K w b) (e:w'.heap[b]?=w.heap[b]?):LTyped K w' b:=by
 obtain⟨cur,fr,h⟩:=h
 exact⟨cur,fr,e.trans h⟩
def LimbsAt (K:IntKind) (w:World) (B:Nat) (A:Option Addr) (l:List Int):Prop :=
 l=[]∨∃ b o,A=some ⟨b,o,none⟩/\b<B/\(∀ k (h:k<l.length),(w.cell? ⟨b,o+k,none⟩=some (.int K l[k])))/\LTyped K w b
theorem LimbsAt.below {K:IntKind} {w w':World} {B C:Nat} {A:Option Addr} {l:List Int} (h:LimbsAt K w B A l) (hb:Below C w w') (hC:B<=C):LimbsAt K w' B A l:=by
 rcases h with h | ⟨b,o,e,hl,hc⟩
 ·exact .inl h
 ·exact .inr ⟨b,o,e,hl,fun k hk=>(hb.cell (p:=⟨b,_,none⟩) (Nat.lt_of_lt_of_le hl hC)).trans (hc.1 k hk),hc.2.of_block (hb.block _ (Nat.lt_of_lt_of_le hl hC))⟩
theorem LimbsAt.more {K:IntKind} {w:World} {B C:Nat} {A:Option Addr} {l:List Int} (h:LimbsAt K w B A l) (hC:B<=C):LimbsAt K w C A l:=by
 rcases h with h | ⟨b,o,e,hl,hc⟩
 ·exact .inl h
 ·exact .inr ⟨b,o,e,by omega,hc⟩
theorem LimbsAt.at_ {K:IntKind} {w w':World} {B:Nat} {A:Option Addr} {l:List Int} (h:LimbsAt K w B A l) (hb:Below B w w') (hB:B<=w.heap.size):LimbsAt K w' w'.heap.size A l :=
 (h.below hb (Nat.le_refl _)).more (Nat.le_trans hB hb.size)
theorem LimbsAt.start {K:IntKind} {w:World} {A:Option Addr} {l:List Int} (h:LimbsAt K w w.heap.size A l) (o:Obj):LimbsAt K (w.alloc o) (w.alloc o).heap.size A l :=
 (h.below ((Below.refl w.heap.size w).alloc (Nat.le_refl _) o) (Nat.le_refl _)).more (by simp)
theorem LimbsAt.look {K:IntKind} {w:World} {B:Nat} {A:Option Addr} {l:List Int} (h:LimbsAt K w B A l) {k:Nat} (hk:k<l.length) :
  ∃ b o,A=some ⟨b,o,none⟩/\b<B/\w.cell? ⟨b,o+k,none⟩=some (.int K l[k]):=by
 rcases h with h | ⟨b,o,e,hl,hc⟩
 ·subst h;simp at hk
 ·exact⟨b,o,e,hl,hc.1 k hk⟩
theorem LimbsAt.nil (K:IntKind) (w:World) (B:Nat) (A:Option Addr):LimbsAt K w B A []:=.inl rfl
theorem LimbsAt.take {K:IntKind} {w:World} {B:Nat} {A:Option Addr} {l:List Int} (h:LimbsAt K w B A l) (k:Nat):LimbsAt K w B A (l.take k):=by
 rcases h with h | ⟨b,o,e,hl,hc⟩
 ·subst h;left;simp
 ·refine .inr ⟨b,o,e,hl,fun j hj=>?_,hc.2⟩
  rw [List.length_take] at hj
  rw [List.getElem_take];exact hc.1 j (by omega)

def PI (w:World) (B:Nat) (k:Nat) (v:Value) (z:Int):Prop :=
 ∃(neg:Bool) (A:Option Addr) (n c:Nat) (l:List Int),v=.agg #[.bool neg,.slice A n c]/\l.length=n/\n<=k/\n<=c/\Big.Lim 1000000000 l/\Big.Norm l/\(neg=true->0<n)/\z=Big.sgn neg (Big.val 1000000000 l)/\LimbsAt .u32 w B A l

section
variable (w:World)
theorem trim_any (A:Option Addr) (n c:Nat) (l:List Int) (hl:l.length=n) (hn:n<=100000000000) (hc:n<=c) (h:LimbsAt .u32 w w.heap.size A l) :
  Calls prog 186 #[.slice A n c] w fun e w'=>e=.returned (.slice A (Big.trim l).length c)/\w=w':=by
 subst hl
 go_enter func186,ntmps186
 go_wp2
 go_loop [0] (fun v=>∃ k:Nat,k<=l.length/\v=.slice A k c/\Big.trim (l.take k)=Big.trim l) (fun v=>match v with | .slice _ n _=>n | _=>0)
 case atStart=>exact⟨l.length,Nat.le_refl _,rfl,by rw [List.take_length]⟩
 case round =>
  obtain⟨k,hk,rfl,ht⟩:=hrel
  have Ht:=Z1 ht
  clear ht
  match k,hk with
  | 0,_ =>
   have h0:Hid ((Big.trim l).length=0):=by show _=_;rw [<- Ht.out];rfl
   go_wp2
   go_ret
   exact⟨by rw [h0.out];rfl,rfl⟩
  | k+1,hk =>
   obtain⟨b,o,rfl,hb,hcell⟩:=h.look (show k<l.length by omega)
   by_cases h0:l[k]=0
   ·have hb0:(l[k]==0)=true:=by simp [h0]
    have Hs:Hid (Big.trim (l.take k)=Big.trim l):=by show _=_;rw [<- Big.trim_take (show k<l.length by omega) h0];exact Ht.out
    clear h0
    go_wp2
    go_round
    case rel=>exact⟨k,by omega,by go_num,Hs.out⟩
    case measure=>simp
   ·have hb0:(l[k]==0)=false:=by simp [h0]
    have Hs:Hid ((Big.trim l).length=k+1):=by
     show _=_
     rw [<- Ht.out,Big.trim_take_stop (show k<l.length by omega) h0,List.length_take];omega
    clear h0
    go_wp2
    go_ret
    exact⟨by rw [Hs.out];rfl,rfl⟩

theorem signed_any (neg:Bool) (A:Option Addr) (n c:Nat) (l:List Int) (hl:l.length=n) (hn:n<=100000000000) (hc:n<=c) (h:LimbsAt .u32 w w.heap.size A l) :
  Calls prog 135 #[.bool neg,.slice A n c] w fun e w'=>e=.returned (.agg #[.bool (neg&&decide (0<(Big.trim l).length)),.slice A (Big.trim l).length c])/\Below w.heap.size w w':=by
 have H:=Z1 (h.start (.cells #[.bool false,.slice none 0 0] 41))
 have hB0:=(Below.refl w.heap.size w).alloc (Nat.le_refl _) (.cells #[.bool false,.slice none 0 0] 41)
 clear h
 cases neg
 all_goals
  go_enter func135,ntmps135
  go_wp2_with (go_at_call 186;refine(trim_any _ A n c l hl hn hc H.out).mono ?_;rintro e w1 ⟨rfl,rfl⟩)
 ·refine bodyPost_ret (v:=.agg #[.bool false,.slice A (Big.trim l).length c]) (by simp [results,results135,go_sem]) rfl ⟨rfl,(Below.refl _ _).alloc (Nat.le_refl _) _⟩
 ·refine bodyPost_ret (v:=.agg #[.bool (decide (0<(Big.trim l).length)),.slice A (Big.trim l).length c]) (by simp [results,results135,go_sem]) rfl ⟨by rw [Bool.true_and],(Below.refl _ _).alloc (Nat.le_refl _) _⟩
theorem PI.mk {w:World} {B k:Nat} {neg:Bool} {A:Option Addr} {n c:Nat} {l:List Int} (hl:l.length=n) (hn:n<=k) (hc:n<=c) (hL:Big.Lim 1000000000 l) (h:LimbsAt .u32 w B A l) :
  PI w B k (.agg #[.bool (neg&&decide (0<(Big.trim l).length)),.slice A (Big.trim l).length c]) (Big.sgn neg (Big.val 1000000000 l)):=by
 obtain⟨h1,h2,h3,h4⟩:=Big.trim_spec 1000000000 l
 refine⟨_,A,_,c,Big.trim l,rfl,rfl,by omega,by omega,Big.trim_lim hL,h2,?_,?_,by rw [h4];exact h.take _⟩
 ·intro hp
  simp only [Bool.and_eq_true,decide_eq_true_eq] at hp
  exact hp.2
 ·rw [h1]
  cases neg with
  | false=>rfl
  | true =>
   by_cases h0:0<(Big.trim l).length
   ·simp [h0]
   ·have hv:Big.val 1000000000 l=0:=by rw [<- h1,List.length_eq_zero_iff.1 (show(Big.trim l).length=0 by omega)];rfl
    rw [hv];simp [Big.sgn]
theorem PI.below {w w':World} {B C k:Nat} {v:Value} {z:Int} (h:PI w B k v z) (hb:Below C w w') (hC:B<=C):PI w' B k v z:=by
 obtain⟨neg,A,n,c,l,h1,h2,h3,h4,h5,h6,h7,h8,h9⟩:=h
 exact⟨neg,A,n,c,l,h1,h2,h3,h4,h5,h6,h7,h8,h9.below hb hC⟩
theorem PI.more {w:World} {B C k j:Nat} {v:Value} {z:Int} (h:PI w B k v z) (hC:B<=C) (hk:k<=j):PI w C j v z:=by
 obtain⟨neg,A,n,c,l,h1,h2,h3,h4,h5,h6,h7,h8,h9⟩:=h
 exact⟨neg,A,n,c,l,h1,h2,by omega,h4,h5,h6,h7,h8,h9.more hC⟩
theorem PI.at_ {w w':World} {k:Nat} {v:Value} {z:Int} (h:PI w w.heap.size k v z) (hb:Below w.heap.size w w'):PI w' w'.heap.size k v z :=
 (h.below hb (Nat.le_refl _)).more hb.size (Nat.le_refl _)
theorem PI.tight {w:World} {B k j:Nat} {v:Value} {z:Int} (h:PI w B k v z) (h1:-1000000000 ^ j<z) (h2:z<1000000000 ^ j):PI w B j v z:=by
 obtain⟨neg,A,n,c,l,e1,e2,e3,e4,e5,e6,e7,e8,e9⟩:=h
 refine⟨neg,A,n,c,l,e1,e2,?_,e4,e5,e6,e7,e8,e9⟩
 rw [<- e2]
 refine Big.length_le (by omega) e5 e6 j ?_
 have:=Big.val_nonneg (by omega) e5
 cases neg with
 | false=>simp [Big.sgn] at e8;omega
 | true=>simp [Big.sgn] at e8;omega

def sg (z:Int):Int:=if z=0 then 0 else if z<0 then -1 else 1
theorem PI.parts {w:World} {B k:Nat} {v:Value} {z:Int} (h:PI w B k v z):∃(neg:Bool) (A:Option Addr) (n c:Nat) (l:List Int),v=.agg #[.bool neg,.slice A n c]/\l.length=n/\n<=k/\n<=c/\Big.Lim 1000000000 l/\Big.Norm l/\z=Big.sgn neg (Big.val 1000000000 l)/\LimbsAt .u32 w B A l /\
  ((n=0/\neg=false/\z=0)∨(0<n/\neg=false/\0<z)∨(0<n/\neg=true/\z<0)):=by
 obtain⟨neg,A,n,c,l,h1,h2,h3,h4,h5,h6,h7,h8,h9⟩:=h
 refine⟨neg,A,n,c,l,h1,h2,h3,h4,h5,h6,h8,h9,?_⟩
 have hv:=Big.val_nonneg (by omega) h5
 have hz:=Big.val_zero (by omega) h5 h6
 rcases Nat.eq_zero_or_pos n with h0 | h0
 ·left
  have hl0:l=[]:=List.length_eq_zero_iff.1 (by omega)
  have hng:neg=false:=by
   cases hn:neg with
   | false=>rfl
   | true=>have:=h7 hn;omega
  subst hng hl0
  exact⟨h0,rfl,by rw [h8];rfl⟩
 ·have hne:Big.val 1000000000 l≠0:=fun e=>by have:=hz.1 e;subst this;simp at h2;omega
  cases neg with
  | false=>right;left;exact⟨h0,rfl,by rw [h8];simp [Big.sgn];omega⟩
  | true=>right;right;exact⟨h0,rfl,by rw [h8];simp [Big.sgn];omega⟩

theorem sign_any (k:Nat) (v:Value) (z:Int) (h:PI w w.heap.size k v z) :
  Calls prog 71 #[v] w fun e w'=>e=.returned (.int .i64 (sg z))/\Below w.heap.size w w':=by
 obtain⟨neg,A,n,c,l,rfl,hl,hn,hc,_,_,_,_,hs⟩:=h.parts
 rcases hs with⟨h0,rfl,hz⟩ | ⟨h0,rfl,hz⟩ | ⟨h0,rfl,hz⟩
 ·have E:Hid (sg z=0):=by show _=_;simp [sg,hz]
  subst h0
  clear hz hl
  go_enter func71,ntmps71
  go_wp2
  go_ret
  exact⟨by rw [E.out];rfl,(Below.refl _ _).alloc (Nat.le_refl _) _⟩
 ·have E:Hid (sg z=1):=by show _=_;unfold sg;rw [if_neg (by omega),if_neg (by omega)]
  have hb:((n:Int)==0)=false:=by simp;omega
  clear hz hl
  go_enter func71,ntmps71
  go_wp2
  go_ret
  exact⟨by rw [E.out];rfl,(Below.refl _ _).alloc (Nat.le_refl _) _⟩
 ·have E:Hid (sg z=-1):=by show _=_;unfold sg;rw [if_neg (by omega),if_pos (by omega)]
  have hb:((n:Int)==0)=false:=by simp;omega
  clear hz hl
  go_enter func71,ntmps71
  go_wp2
  go_ret
  exact⟨by rw [E.out];rfl,(Below.refl _ _).alloc (Nat.le_refl _) _⟩

theorem below_drawn {n:Nat} {a w:World} (h:Below n a w) (q:Nat):Below n a (w.drewN q):=⟨h.os,h.tape,h.output,h.size,h.block⟩
def cm (x y:Int):Int:=if x<y then -1 else if y<x then 1 else 0
theorem compare_any (A B:Option Addr) (n m c d:Nat) (l q:List Int) (hl:l.length=n) (hq:q.length=m) (hn:n<=100000000000) (hm:m<=100000000000) (hL:Big.Lim 1000000000 l) (hQ:Big.Lim 1000000000 q) (hNl:Big.Norm l) (hNq:Big.Norm q)
  (hA:LimbsAt .u32 w w.heap.size A l) (hB:LimbsAt .u32 w w.heap.size B q) :
  Calls prog 80 #[.slice A n c,.slice B m d] w fun e w'=>e=.returned (.int .i64 (cm (Big.val 1000000000 l) (Big.val 1000000000 q)))/\Below w.heap.size w w':=by
 subst hl hq
 rcases Nat.lt_trichotomy l.length q.length with hlt | heq | hlt
 ·have E:Hid (cm (Big.val 1000000000 l) (Big.val 1000000000 q)=-1):=by
   show _=_;unfold cm;rw [if_pos (Big.longer_lt (by omega) hL hQ hNq hlt)]
  go_enter func80,ntmps80
  go_wp2
  go_ret
  exact⟨by rw [E.out];rfl,Below.refl _ _⟩
 ·go_enter func80,ntmps80
  go_wp2
  go_loopw [5] (fun i wr=>∃ k:Nat,k<=l.length/\i=.int .i64 ((k:Int)-1)/\l.drop k=q.drop k/\Below w.heap.size w wr) (fun i _=>(intOf i+1).toNat)
  case atStart=>exact⟨l.length,Nat.le_refl _,by first | rfl | (rw [heq]),by rw [List.drop_of_length_le (Nat.le_refl _),List.drop_of_length_le (by omega)],Below.refl _ _⟩
  case round =>
   obtain⟨k,hk,rfl,he,hb⟩:=hrel
   have He:=Z1 he
   clear he
   match k,hk with
   | 0,_ =>
    have E:Hid (cm (Big.val 1000000000 l) (Big.val 1000000000 q)=0):=by
     show _=_
     have h0:=He.out
     simp only [List.drop_zero] at h0
     rw [h0];simp [cm]
    go_wp2
    go_ret
    exact⟨by rw [E.out];rfl,hb⟩
   | k+1,hk =>
    rw [show((k+1:Nat):Int)-1=(k:Int) by omega]
    have hkl:k<l.length:=by omega
    have hkq:k<q.length:=by omega
    obtain⟨b1,o1,rfl,hb1,x1⟩:=(hA.below hb (Nat.le_refl _)).look hkl
    obtain⟨b2,o2,rfl,hb2,x2⟩:=(hB.below hb (Nat.le_refl _)).look hkq
    have i0:(0:Int)<=(k:Int):=by omega
    have i1:(k:Int)<(l.length:Int):=by omega
    have i2:(k:Int)<(q.length:Int):=by omega
    rcases Int.lt_trichotomy l[k] q[k] with hc | hc | hc
    ·have E:Hid (cm (Big.val 1000000000 l) (Big.val 1000000000 q)=-1):=by
      show _=_;unfold cm;rw [if_pos (Big.top_lt (by omega) hL hQ heq k hkl He.out hc)]
     have hne:(l[k] != q[k])=true:=by simp;omega
     go_wp2_with (go_quiet (fail))
     go_ret
     exact⟨by rw [E.out];rfl,below_drawn (below_drawn hb _) _⟩
    ·have hne:(l[k] != q[k])=false:=by simp [hc]
     have Hs:Hid (l.drop k=q.drop k):=by
      show _=_
      rw [List.drop_eq_getElem_cons hkl,List.drop_eq_getElem_cons hkq,He.out,hc]
     clear hc
     go_wp2_with (go_quiet (fail))
     go_roundw
     case rel=>exact⟨k,by omega,by go_num,Hs.out,below_drawn hb _⟩
     case measure=>simp [intOf]
    ·have E:Hid (cm (Big.val 1000000000 l) (Big.val 1000000000 q)=1):=by
      have h1:=Big.top_lt (by omega) hQ hL heq.symm k hkq He.out.symm hc
      show _=_;unfold cm;rw [if_neg (by omega),if_pos h1]
     have hne:(l[k] != q[k])=true:=by simp;omega
     go_wp2_with (go_quiet (fail))
     go_ret
     exact⟨by rw [E.out];rfl,below_drawn (below_drawn hb _) _⟩
 ·have E:Hid (cm (Big.val 1000000000 l) (Big.val 1000000000 q)=1):=by
   show _=_;unfold cm
   have:=Big.longer_lt (by omega) hQ hL hNl hlt
   rw [if_neg (by omega),if_pos (by omega)]
  go_enter func80,ntmps80
  go_wp2
  go_ret
  exact⟨by rw [E.out];rfl,Below.refl _ _⟩

theorem intSize:(prog.info? 41).map (·.size)=some 2:=by kernel_rfl
theorem range_of {w:World} {b:Nat} {cs:Array Value} {t:TypeId} {fr:Nat × Nat} (h:w.heap[b]?=some (.cells cs t fr)):w.rangeAt b 0 cs.toList:=fun j v hj=>by
 rw [Nat.zero_add,cr9 _ h];simpa using hj
theorem cm_sg (x y:Int):(sg x<sg y->cm x y=-1)/\(sg y<sg x->cm x y=1):=by
 unfold sg cm
 by_cases h1:x=0 <;> by_cases h2:y=0 <;> by_cases h3:x<0 <;> by_cases h4:y<0 <;> simp [h1,h2,h3,h4] <;> omega
theorem sg_pos {x:Int}:(sg x=1 ↔ 0<x)/\(sg x=-1 ↔ x<0)/\(sg x=0 ↔ x=0):=by
 unfold sg
 by_cases h1:x=0 <;> by_cases h2:x<0 <;> simp [h1,h2] <;> omega
theorem cm_neg {n m:Nat} {ng mg:Bool} {x y a b:Int} (h:sg x=sg y) (hs:(n=0/\ng=false/\x=0)∨(0<n/\ng=false/\0<x)∨(0<n/\ng=true/\x<0))
  (ht:(m=0/\mg=false/\y=0)∨(0<m/\mg=false/\0<y)∨(0<m/\mg=true/\y<0)) (hg:ng=true) (hx:x=Big.sgn ng a) (hy:y=Big.sgn mg b):cm x y=cm b a:=by
 subst hg
 have hx0:x<0:=by simp at hs;exact hs.2
 have h1:=(@sg_pos x).2.1.2 hx0
 have hy0:y<0:=(@sg_pos y).2.1.1 (by rw [<- h,h1])
 have hmg:mg=true:=by
  rcases ht with⟨_,_,e⟩ | ⟨_,_,e⟩ | ⟨_,e,_⟩
  ·omega
  ·omega
  ·exact e
 subst hmg
 simp [Big.sgn] at hx hy
 unfold cm;rw [hx,hy]
 by_cases h1:a<b <;> by_cases h2:b<a <;> simp [h1,h2] <;> omega
theorem cm_pos {n m:Nat} {ng mg:Bool} {x y a b:Int} (h:sg x=sg y) (hs:(n=0/\ng=false/\x=0)∨(0<n/\ng=false/\0<x)∨(0<n/\ng=true/\x<0))
  (ht:(m=0/\mg=false/\y=0)∨(0<m/\mg=false/\0<y)∨(0<m/\mg=true/\y<0)) (hg:ng=false) (hx:x=Big.sgn ng a) (hy:y=Big.sgn mg b):cm x y=cm a b:=by
 subst hg
 have hx0:¬ x<0:=by
  rcases hs with⟨_,_,e⟩ | ⟨_,_,e⟩ | ⟨_,e,_⟩
  ·omega
  ·omega
  ·cases e
 have hmg:mg=false:=by
  rcases ht with⟨_,e,_⟩ | ⟨_,e,_⟩ | ⟨_,_,e⟩
  ·exact e
  ·exact e
  ·have h1:=(@sg_pos y).2.1.2 e
   exact absurd ((@sg_pos x).2.1.1 (by rw [h,h1])) hx0
 subst hmg
 simp [Big.sgn] at hx hy
 rw [hx,hy]
theorem cmp_int (k j:Nat) (u v:Value) (x y:Int) (hk:k<=100000000000) (hj:j<=100000000000) (hu:PI w w.heap.size k u x) (hv:PI w w.heap.size j v y) :
  Calls prog 43 #[u,v] w fun e w'=>e=.returned (.int .i64 (cm x y))/\Below w.heap.size w w':=by
 obtain⟨ng,A,n,c,l,rfl,hl,hn,hc,hL,hN,hzx,hA,hs⟩:=hu.parts
 obtain⟨mg,B,m,d,q,rfl,hq,hm,hd,hQ,hM,hzy,hB,ht⟩:=hv.parts
 have Hz1:=Z1 hzx
 have Hy1:=Z1 hzy
 clear hzx hzy
 have hB0:=((Below.refl w.heap.size w).alloc (Nat.le_refl _) (.cells #[.bool ng,.slice A n c] 41)).alloc (by simp) (.cells #[.bool mg,.slice B m d] 41)
 obtain⟨W0,hW0⟩:∃ W0,W0=(w.alloc (.cells #[.bool ng,.slice A n c] 41)).alloc (.cells #[.bool mg,.slice B m d] 41):=⟨_,rfl⟩
 have b0:W0.heap[w.heap.size]?=some (.cells #[.bool ng,.slice A n c] 41 (0,0)):=by rw [hW0,Below.heap_alloc _ _ _ (by simp)];exact heap_alloc_new w _
 have b1:W0.heap[w.heap.size+1]?=some (.cells #[.bool mg,.slice B m d] 41 (0,0)):=by
  have:=heap_alloc_new (w.alloc (.cells #[.bool ng,.slice A n c] 41)) (.cells #[.bool mg,.slice B m d] 41)
  rwa [show(w.alloc (.cells #[.bool ng,.slice A n c] 41)).heap.size=w.heap.size+1 by simp,<- hW0] at this
 have hz:W0.heap.size=w.heap.size+1+1:=by rw [hW0];simp
 rw [<- hW0] at hB0
 have hU:=hu.at_ hB0
 have hV:=hv.at_ hB0
 have HW:=Z1 hW0
 have Hz:=Z1 hz
 have Hs:=Z1 hs
 have Ht:=Z1 ht
 clear hW0 hu hv hs ht
 have hS:Below W0.heap.size W0 W0.drew:=below_drawn (Below.refl _ _) 1
 go_enter func43,ntmps43
 go_wp2
 rw [<- HW.out]
 refine wp_region_held (S:=Below W0.heap.size W0) (by kernel_rfl) ?_
 change wpAnyH _ _ _ _ _ _ _ _ W0.drew
 refine tk (i:=0) (v:=.agg #[.bool ng,.slice A n c]) rfl (yieldsIf_load_mid (by rfl) 41 _ rfl w.heap.size 0 rfl [.bool ng,.slice A n c] _ (fun W' hS'=>?_) underlying41 rfl intSize) hS ?_
 ·exact range_of ((hS'.block _ (by have:=Hz.out;omega)).trans b0)
 simp only [Act.put,List.setIfInBounds_toArray,List.set_cons_zero,List.set_cons_succ]
 refine tk (i:=2) (v:=.agg #[.bool mg,.slice B m d]) rfl (yieldsIf_load_mid (by rfl) 41 _ rfl (w.heap.size+1) 0 rfl [.bool mg,.slice B m d] _ (fun W' hS'=>?_) underlying41 rfl intSize) hS ?_
 ·exact range_of ((hS'.block _ (by have:=Hz.out;omega)).trans b1)
 simp only [Act.put,List.setIfInBounds_toArray,List.set_cons_zero,List.set_cons_succ]
 refine rd9 1 (by kernel_rfl) rfl (fun K hK=>?_)
 go_simp
 refine(sign_any _ k _ x (hU.at_ hS)).mono ?_
 rintro e w1 ⟨rfl,hB1⟩
 have hS1:Below W0.heap.size W0 w1:=hS.trans (hB1.mono (Nat.le_refl _))
 refine hK.out _ _ hS1 (fun _=>?_)
 clear hK K
 try simp only [Act.put,List.setIfInBounds_toArray,List.set_cons_zero,List.set_cons_succ]
 refine rd9 3 (by kernel_rfl) rfl (fun K hK=>?_)
 go_simp
 refine(sign_any _ j _ y (hV.at_ hS1)).mono ?_
 rintro e w2 ⟨rfl,hB2⟩
 have hS2:Below W0.heap.size W0 w2:=hS1.trans (hB2.mono hS1.size)
 refine hK.out _ _ hS2 (fun _=>?_)
 clear hK K
 try simp only [Act.put,List.setIfInBounds_toArray,List.set_cons_zero,List.set_cons_succ]
 refine rd9 4 (by kernel_rfl) rfl (fun K hK=>?_)
 go_simp
 refine hK.out _ _ hS2 (fun _=>?_)
 clear hK K
 try simp only [Act.put,List.setIfInBounds_toArray,List.set_cons_zero,List.set_cons_succ]
 refine rd9 5 (by kernel_rfl) rfl (fun K hK=>?_)
 go_simp
 refine hK.out _ _ hS2 (fun _=>?_)
 clear hK K
 try simp only [Act.put,List.setIfInBounds_toArray,List.set_cons_zero,List.set_cons_succ]
 refine wpAnyH_done (by kernel_rfl) ?_ _
 have hBw:=hB0.trans (hS2.mono hB0.size)
 have hb0:=(hS2.block w.heap.size (by have:=Hz.out;omega)).trans b0
 have hb1:=(hS2.block (w.heap.size+1) (by have:=Hz.out;omega)).trans b1
 have c0:=cr9 0 hb0
 have c1:=cr9 1 hb0
 have d1:=cr9 1 hb1
 simp at c0 c1 d1
 have hA2:=Z1 ((hA.below hBw (Nat.le_refl _)).more hBw.size)
 have hB2':=Z1 ((hB.below hBw (Nat.le_refl _)).more hBw.size)
 have hw2:w.heap.size+1<w2.heap.size:=by have:=Hz.out;have:=hS2.size;omega
 have hw2':w.heap.size<w2.heap.size:=by omega
 clear b0 b1 hU hV hb0 hb1 hA hB hS hS1 hB1 hB2
 rcases Int.lt_trichotomy (sg x) (sg y) with h | h | h
 ·have E:=Z1 ((cm_sg x y).1 h)
  have hne:(sg x != sg y)=true:=by simp;omega
  go_wp2
  go_ret
  exact⟨by rw [E.out];rfl,hBw⟩
 ·have hne:(sg x != sg y)=false:=by simp [h]
  have hsg:=Z1 h
  clear h
  cases hg:ng with
  | true =>
   have E:=Z1 (cm_neg hsg.out Hs.out Ht.out hg Hz1.out Hy1.out)
   subst hg
   go_wp2_with (fail)
   refine(compare_any _ B A m n d c q l hq hl (by omega) (by omega) hQ hL hM hN hB2'.out hA2.out).mono ?_
   rintro e w3 ⟨rfl,hB3⟩
   go_wp2
   go_ret
   exact⟨by rw [E.out];rfl,hBw.trans (hB3.mono hBw.size)⟩
  | false =>
   have E:=Z1 (cm_pos hsg.out Hs.out Ht.out hg Hz1.out Hy1.out)
   subst hg
   go_wp2_with (fail)
   refine(compare_any _ A B n m c d l q hl hq (by omega) (by omega) hL hQ hN hM hA2.out hB2'.out).mono ?_
   rintro e w3 ⟨rfl,hB3⟩
   go_wp2
   go_ret
   exact⟨by rw [E.out];rfl,hBw.trans (hB3.mono hBw.size)⟩
 ·have E:=Z1 ((cm_sg x y).2 h)
  have hne:(sg x != sg y)=true:=by simp;omega
  have hlt:¬ sg x<sg y:=by omega
  go_wp2
  go_ret
  exact⟨by rw [E.out];rfl,hBw⟩
end
end Go.Proofs.YtniaimjknmhapaaGreatDoor
namespace Go.Proofs.YtniaimjknmhapaaGreatDoor
open Tryz Go.RowKit

def Arr (K:IntKind) (e:TypeId) (w:World) (g:Nat) (F:List Int):Prop:=w.heap[g]?=some (.cells (F.map (Value.int K)).toArray e (0,0))
section
variable {K:IntKind} {e:TypeId} {w w':World} {g:Nat} {F:List Int}
theorem Arr.lt (h:Arr K e w g F):g<w.heap.size:=(Array.getElem?_eq_some_iff.1 h).1
theorem Arr.cell (h:Arr K e w g F) {k:Nat} (hk:k<F.length):w.cell? ⟨g,k,none⟩=some (.int K F[k]):=by
 rw [cr9 _ h];simp [hk]
theorem Arr.free (h:Arr K e w g F) (k:Nat):w.frozen? ⟨g,k,none⟩=false:=fr0 _ h
theorem Arr.set (h:Arr K e w g F) (k:Nat) (x:Int):Arr K e (w.setCell ⟨g,k,none⟩ (.int K x)) g (F.set k x):=by
 have:=heap_setCell_same w g k _ e (.int K x) h
 unfold Arr
 rw [this]
 congr 2
 simp [List.map_set]
theorem Arr.below {B:Nat} (h:Arr K e w g F) (hb:Below B w w') (hg:g<B):Arr K e w' g F:=(hb.block g hg).trans h
theorem Arr.alloc (h:Arr K e w g F) (o:Obj):Arr K e (w.alloc o) g F:=(Below.heap_alloc w o g h.lt).trans h
theorem Arr.drewN (h:Arr K e w g F) (n:Nat):Arr K e (w.drewN n) g F:=h
theorem Arr.limbs (h:Arr K e w g F) {B:Nat} (hB:g<B) (he:e=limbTy K:=by rfl):LimbsAt K w B (some ⟨g,0,none⟩) F :=
 .inr ⟨g,0,rfl,hB,fun k hk=>by rw [Nat.zero_add];exact h.cell hk,_,_,he ▸ h⟩
theorem limbs_own {W:World} {base n:Nat} {v:Value} {l:List Int} (h:W.ownsRow base e 1 v n (l.map (Value.int K))) (hn:n=l.length) (he:e=limbTy K:=by rfl):∃ A c,v=.slice A n c/\n<=c/\LimbsAt K W W.heap.size A l:=by
 subst hn
 subst he
 rcases h.2 with⟨e,h0⟩ | ⟨g,cap,cur,e,_,hg,hle,_,hsz,htk⟩
 ·exact⟨none,0,by rw [e,h0],by omega,.inl (List.length_eq_zero_iff.1 h0)⟩
 ·refine⟨_,cap,e,hle,.inr ⟨g,0,rfl,(Array.getElem?_eq_some_iff.1 hg).1,fun k hk=>?_,_,_,hg⟩⟩
  rw [Nat.zero_add,cr9 _ hg]
  have:(cur.toList.take (l.length*1))[k]?=some (.int K l[k]):=by rw [htk];simp [hk]
  rw [List.getElem?_take,if_pos (by omega)] at this
  simpa using this
theorem own_base {a:World} {base:Nat} {e:TypeId} {size n:Nat} {v:Value} {xs:List Value} (h:a.ownsRow base e size v n xs):∀ k,v.ownBlock=some k->base<=k:=by
 intro k hk
 rcases h.2 with⟨rfl,_⟩ | ⟨g,cap,cur,rfl,hb,_⟩
 ·simp [Value.ownBlock] at hk
 ·simp [Value.ownBlock] at hk;omega
theorem LimbsAt.cells {B:Nat} {A:Option Addr} {l:List Int} (h:LimbsAt K w B A l) (hl:0<l.length):∃ ad,A=some ad/\∀ j v,(l.map (Value.int K))[j]?=some v->w.cell? (ad.add j)=some v:=by
 rcases h with h | ⟨b,o,e,_,hc⟩
 ·subst h;simp at hl
 ·refine⟨_,e,fun j v hj=>?_⟩
  have hjl:j<l.length:=by have:=(List.getElem?_eq_some_iff.1 hj).1;simpa using this
  rw [Addr.add_mid,hc.1 j hjl]
  simpa [hjl] using hj
theorem LimbsAt.other {B:Nat} {A:Option Addr} {l:List Int} (h:LimbsAt K w B A l) (hg:∀ b o,A=some ⟨b,o,none⟩->w'.heap[b]?=w.heap[b]?):LimbsAt K w' B A l:=by
 rcases h with h | ⟨b,o,e,hl,hc⟩
 ·exact .inl h
 ·exact .inr ⟨b,o,e,hl,fun k hk=>(World.cell?_of_block (w:=w) (hg b o e)).trans (hc.1 k hk),hc.2.of_block (hg b o e)⟩
theorem madeCells_zero (K:IntKind) (n:Nat):madeCells #[Value.int K 0] n=((List.replicate n (0:Int)).map (Value.int K)).toArray:=by
 apply Array.ext
 ·simp [madeCells]
 ·intro i h1 h2
  simp [madeCells,Nat.mod_one]
end

theorem wpList_make_arr {P:Program} {w:World} {ops:Array Oper} {rest:List Oper} {o:Oper} {a:Act} {Q:Exit->Act->World->Prop} (hg:o.guard=none) (l c:Operand) (t:TypeId) (hop:o.op=Op.makeSlice t l c)
  (K:IntKind) (e:TypeId) (i:TypeInfo) (bytes:Nat) (h1:P.underlying t=some (.slice e)) (h2:P.info? e=some i) (h3:i.zero=some (.int K 0)) (h4:i.size=1) (h5:i.bytes=bytes)
  (kl kc:IntKind) (L C:Int) (n m:Nat) (hl:a.eval l=.int kl L) (hc:a.eval c=.int kc C) (hL:L=(n:Int)) (hC:C=(m:Int)) (hnm:n<=m) (b1:bytes<=100) (b2:m<=1000000000000)
  (hK:∀ w',Hid (w'=w.alloc (.cells ((List.replicate m (0:Int)).map (Value.int K)).toArray e))->wpList P ops Q rest (a.put o.dst (.slice (some ⟨w.heap.size,0,none⟩) n m)) w') :
  wpList P ops Q (o::rest) a w:=by
 refine wpList_plain hg fun K' hK'=>?_
 subst hL hC
 have hb:(i.bytes:Int)*(m:Int)<=281474976710656:=by
  rw [h5]
  have:bytes*m<=100*1000000000000:=Nat.mul_le_mul b1 b2
  have h2:((bytes*m:Nat):Int)<=100000000000000:=by omega
  rw [Int.natCast_mul] at h2;omega
 have hrun:=run_make (P:=P) w t e i (.int K 0) h1 h2 h3 kl kc (n:Int) (m:Int) (by omega) (by omega) hb (by omega)
 rw [h4,Nat.mul_one,Int.toNat_natCast,Int.toNat_natCast] at hrun
 have hz:madeCells (Value.int K 0).cells m=((List.replicate m (0:Int)).map (Value.int K)).toArray:=madeCells_zero K m
 rw [hz] at hrun
 unfold Oper.wp
 simp [execOp,hop,hl,hc,hrun,Result.andThen]
 have:=hK _ (Z1 rfl)
 simp at this
 exact hK' _ _ this

theorem uinfo:(prog.info? 138).map (fun i=>(i.zero,i.size,i.bytes))=some (some (.int .u32 0),1,4):=by kernel_rfl
end Go.Proofs.YtniaimjknmhapaaGreatDoor
namespace Go.Proofs.YtniaimjknmhapaaGreatDoor
open Go.RowKit

theorem one_cell {w:World} {g:Nat} {v:Value} {t:TypeId} {fr:Nat × Nat} (h:w.heap[g]?=some (.cells #[v] t fr)):∀ j u,([v]:List Value)[j]?=some u->w.cell? ((⟨g,0,none⟩:Addr).add j)=some u:=by
 intro j u hj
 rw [Addr.add_mid,Nat.zero_add,cr9 _ h]
 simpa using hj
section
variable (w:World)
end
end Go.Proofs.YtniaimjknmhapaaGreatDoor
namespace Go.Proofs.YtniaimjknmhapaaGreatDoor
open Go.RowKit

section
variable (w:World)
end
end Go.Proofs.YtniaimjknmhapaaGreatDoor
namespace Go.Proofs.YtniaimjknmhapaaGreatDoor
open Tryz Go.RowKit

theorem val_set (B:Int):∀(F:List Int) (t:Nat) (x:Int) (h:t<F.length),Big.val B (F.set t x)=Big.val B F+B ^ t*(x-F[t])
 | a::F,0,x,_=>by simp [Big.val];omega
 | a::F,t+1,x,h=>by
  have ih:=val_set B F t x (by simpa using h)
  rw [List.set_cons_succ,Big.val_cons,ih,Big.val_cons,List.getElem_cons_succ,Int.pow_succ,Int.mul_add,Int.mul_comm (B ^ t) B,Int.mul_assoc]
  omega
theorem lim_set {B:Int} {F:List Int} (h:Big.Lim B F) {t:Nat} {x:Int} (h0:0<=x) (h1:x<B):Big.Lim B (F.set t x):=by
 intro a ha
 rcases List.mem_or_eq_of_mem_set ha with ha | rfl
 ·exact h a ha
 ·exact⟨h0,h1⟩
theorem mul_step {B:Int} {F:List Int} {t:Nat} {V x y cy s:Int} {W:Int} (ht:t<F.length) (h:Big.val B F+B ^ t*cy=V+W) (hs:s=x*y+F[t]+cy) :
  Big.val B (F.set t (s % B))+B ^ (t+1)*(s / B)=V+(W+B ^ t*(x*y)):=by
 rw [val_set B F t _ ht,Int.pow_succ,Int.mul_assoc]
 have h1:B ^ t*(s % B)+B ^ t*(B*(s / B))=B ^ t*s:=by rw [<- Int.mul_add,Int.emod_add_mul_ediv]
 have h2:B ^ t*s=B ^ t*(x*y)+B ^ t*F[t]+B ^ t*cy:=by rw [hs,Int.mul_add,Int.mul_add]
 have h3:B ^ t*(s % B-F[t])=B ^ t*(s % B)-B ^ t*F[t]:=Int.mul_sub _ _ _
 omega

theorem mul_w (B x v y:Int) (i j:Nat):B ^ i*(x*(v+B ^ j*y))=B ^ i*(x*v)+B ^ (i+j)*(x*y):=by
 rw [Int.pow_add,Int.mul_add,Int.mul_add,Int.mul_left_comm x (B ^ j) y,Int.mul_assoc]

def TimesPost (k:Nat) (V:Int) (w:World) (e:Ending) (w':World):Prop :=
 Below w.heap.size w w'/\∃ F:List Int,e=.returned (.slice (some ⟨w.heap.size,0,none⟩) k k)/\F.length=k/\Big.Lim 1000000000 F/\Big.val 1000000000 F=V/\Arr .u32 138 w' w.heap.size F
section
variable (w:World)
theorem times_arr (A B:Option Addr) (n m c d:Nat) (p q:List Int) (hl:p.length=n) (hq:q.length=m) (hn:n<=100000000000) (hm:m<=100000000000) (hL:Big.Lim 1000000000 p) (hQ:Big.Lim 1000000000 q)
  (hA:LimbsAt .u32 w w.heap.size A p) (hB:LimbsAt .u32 w w.heap.size B q) :
  Calls prog 139 #[.slice A n c,.slice B m d] w (TimesPost (n+m) (Big.val 1000000000 p*Big.val 1000000000 q) w):=by
 subst hl hq
 obtain⟨i0,hi,hz0,hz1,hz2⟩:=info_parts uinfo
 have Hn1:Hid (((p.length:Int)+(q.length:Int))=((p.length+q.length:Nat):Int)):=by show _=_;omega
 have Hnp:p.length+q.length<=p.length+q.length:=Nat.le_refl _
 have Hb2:p.length+q.length<=1000000000000:=by omega
 go_enter func139,ntmps139
 go_upto_region 2 with(refine wpList_make_arr rfl _ _ 39 rfl .u32 138 i0 4 underlying39 hi hz0 hz1 hz2 _ _ _ _ (p.length+q.length) (p.length+q.length) rfl rfl Hn1.out Hn1.out Hnp (by decide) Hb2 ?_;intro w1 hw1)
 have hB1:Below w.heap.size w w1:=by rw [hw1.out];exact(Below.refl _ _).alloc (Nat.le_refl _) _
 have hArr:Arr .u32 138 w1 w.heap.size (List.replicate (p.length+q.length) 0):=by
  unfold Arr;rw [hw1.out];exact heap_alloc_new w _
 have HL:=Z1 hL
 have HQ:=Z1 hQ
 clear hw1 hL hQ Hn1
 go_wp2
 go_loopw [22] (fun ix wr=>∃(i:Nat) (F:List Int),i<=p.length/\ix=.int .i64 i/\F.length=p.length+q.length/\Big.Lim 1000000000 F/\Big.val 1000000000 F=Big.val 1000000000 (p.take i)*Big.val 1000000000 q /\
  (∀ t (h:t<F.length),i+q.length<=t->F[t]=0)/\Arr .u32 138 wr w.heap.size F/\Below w.heap.size w wr) (fun ix _=>p.length-(intOf ix).toNat)
 case atStart=>exact⟨0,_,Nat.zero_le _,rfl,by simp,Big.Lim.zeros (by omega) _,by simp [Big.val_zeros,Big.val],fun t h _=>by simp,hArr,hB1⟩
 case round =>
  obtain⟨i,F,hi',rfl,hFl,hFL,hv,hz,ha,hb⟩:=hrel
  have HFl:=Z1 hFl
  have HFL:=Z1 hFL
  have Hv:=Z1 hv
  have Hz:=Z1 hz
  have Ha:=Z1 ha
  have hgr:w.heap.size<wr.heap.size:=ha.lt
  clear hFl hFL hv hz ha hArr
  by_cases hlt:i<p.length
  ·obtain⟨b1,o1,rfl,hb1,hx⟩:=(hA.below hb (Nat.le_refl _)).look hlt
   have hxl:=HL.out.get i hlt
   have hx0:=hxl.1
   have hx1:=hxl.2
   have hbwr:b1<wr.heap.size:=by omega
   clear hxl
   obtain⟨wo,rfl⟩:∃ wo:World,wo=wr:=⟨_,rfl⟩
   have hin:i+q.length<p.length+q.length:=by omega
   go_wp2
   go_loopw [8,29] (fun cr ij wr=>∃(j:Nat) (G:List Int) (cy:Int),j<=q.length/\ij=.int .i64 j/\cr=.int .u64 cy/\0<=cy/\cy<1000000000/\G.length=p.length+q.length/\Big.Lim 1000000000 G /\
    Big.val 1000000000 G+1000000000 ^ (i+j)*cy=Big.val 1000000000 (p.take i)*Big.val 1000000000 q+1000000000 ^ i*(p[i]*Big.val 1000000000 (q.take j)) /\
    (∀ t (h:t<G.length),i+q.length<=t->G[t]=0)/\Arr .u32 138 wr w.heap.size G/\Below w.heap.size w wr) (fun _ ij _=>q.length-(intOf ij).toNat)
   case atStart=>exact⟨0,F,0,Nat.zero_le _,rfl,rfl,by omega,by omega,HFl.out,HFL.out,by simp [Big.val,Hv.out],Hz.out,Ha.out,hb⟩
   case round =>
    obtain⟨j,G,cy,hj,rfl,rfl,hc0,hc1,hGl,hGL,hGv,hGz,hGa,hGb⟩:=hrel
    have HGl:=Z1 hGl
    have HGL:=Z1 hGL
    have HGv:=Z1 hGv
    have HGz:=Z1 hGz
    have HGa:=Z1 hGa
    have hgr2:w.heap.size<wr.heap.size:=hGa.lt
    clear hGl hGL hGv hGz hGa hgr
    by_cases hjm:j<q.length
    ·obtain⟨b2,o2,rfl,hb2,hy⟩:=(hB.below hGb (Nat.le_refl _)).look hjm
     have hyl:=HQ.out.get j hjm
     have hy0:=hyl.1
     have hy1:=hyl.2
     have hb2w:b2<wr.heap.size:=by omega
     have hGt:i+j<G.length:=by have:=HGl.out;omega
     have hcell:=HGa.out.cell hGt
     have hfz:=HGa.out.free (i+j)
     have hgl:=HGL.out.get (i+j) hGt
     have hg0:=hgl.1
     have hg1:=hgl.2
     have hxy0:0<=p[i]*q[j]:=Int.mul_nonneg hx0 hy0
     have hxy1:p[i]*q[j]<=999999999*999999999:=Int.mul_le_mul (by omega) (by omega) hy0 (by omega)
     have hij:i+j<p.length+q.length:=by omega
     clear hyl hgl
     go_wp2
     go_roundw
     case rel =>
      refine⟨j+1,G.set (i+j) ((p[i]*q[j]+G[i+j]+cy) % 1000000000),(p[i]*q[j]+G[i+j]+cy) / 1000000000,by omega,by go_num,rfl,by omega,by omega,by rw [List.length_set];exact HGl.out,lim_set HGL.out (by omega) (by omega),?_,?_,HGa.out.set (i+j) _,hGb.setCell (Nat.le_refl _) _⟩
      ·have h1:=mul_step (x:=p[i]) (y:=q[j]) hGt HGv.out rfl
       rw [Big.val_take_succ _ _ _ hjm,mul_w];exact h1
      ·intro t ht htl
       rw [List.getElem_set_ne (by omega)];exact HGz.out t (by simpa using ht) htl
     case measure=>simp [intOf];omega
    ·obtain rfl:j=q.length:=by omega
     have hV:Hid (Big.val 1000000000 G+1000000000 ^ (i+q.length)*cy=Big.val 1000000000 (p.take (i+1))*Big.val 1000000000 q):=by
      show _=_
      rw [HGv.out,List.take_length,Big.val_take_succ _ _ _ hlt,Int.add_mul,Int.mul_assoc]
     clear HGv
     go_wp2
     obtain⟨wi,rfl⟩:∃ wi:World,wi=wr:=⟨_,rfl⟩
     go_loopw [8,12] (fun cr ik wr=>∃(t:Nat) (E:List Int) (cz:Int),i+q.length<=t/\t<=i+q.length+1/\ik=.int .i64 t/\cr=.int .u64 cz/\0<=cz/\cz<1000000000/\(cz=0∨t=i+q.length)/\E.length=p.length+q.length/\Big.Lim 1000000000 E /\
      Big.val 1000000000 E+1000000000 ^ (i+q.length)*cz=Big.val 1000000000 (p.take (i+1))*Big.val 1000000000 q /\
      (∀ s (h:s<E.length),t<=s->E[s]=0)/\Arr .u32 138 wr w.heap.size E/\Below w.heap.size w wr) (fun cr _ _=>(intOf cr).toNat)
     case atStart=>exact⟨i+q.length,G,cy,Nat.le_refl _,by omega,by go_num,rfl,hc0,hc1,.inr rfl,HGl.out,HGL.out,hV.out,HGz.out,HGa.out,hGb⟩
     case round =>
      obtain⟨t,E,cz,ht0,ht1,rfl,rfl,hz0',hz1',hor,hEl,hEL,hEv,hEz,hEa,hEb⟩:=hrel
      have HEl:=Z1 hEl
      have HEL:=Z1 hEL
      have HEv:=Z1 hEv
      have HEz:=Z1 hEz
      have HEa:=Z1 hEa
      have Hor:=Z1 hor
      have hgr3:w.heap.size<wr.heap.size:=hEa.lt
      clear hEl hEL hEv hEz hEa hor hgr2
      by_cases hcz:0<cz
      ·have htl:t<E.length:=by have:=HEl.out;have:=Hor.out;omega
       have hE0:=HEz.out t htl (Nat.le_refl _)
       have hcell:=HEa.out.cell htl
       rw [hE0] at hcell
       have hfz:=HEa.out.free t
       have htn:t<p.length+q.length:=by have:=HEl.out;omega
       have Htt:Hid (t=i+q.length):=by show _=_;have:=Hor.out;omega
       have HE0:=Z1 hE0
       clear hE0
       go_wp2
       go_roundw
       case rel =>
        have hc1':cz % 1000000000=cz:=Int.emod_eq_of_lt (by omega) hz1'
        have hc2':cz / 1000000000=0:=Int.ediv_eq_zero_of_lt (by omega) hz1'
        refine⟨t+1,E.set t (cz % 1000000000),cz / 1000000000,by omega,by have:=Htt.out;omega,by go_num,rfl,by omega,by omega,.inl hc2',by rw [List.length_set];exact HEl.out,lim_set HEL.out (by omega) (by omega),?_,?_,HEa.out.set t _,hEb.setCell (Nat.le_refl _) _⟩
        ·rw [hc1',hc2',val_set _ _ _ _ htl,HE0.out,Int.sub_zero,Int.mul_zero,Int.add_zero]
         have:=HEv.out
         rw [<- Htt.out] at this;exact this
        ·intro s hs hts
         rw [List.getElem_set_ne (by omega)];exact HEz.out s (by simpa using hs) (by omega)
       case measure=>simp [intOf];omega
      ·obtain rfl:cz=0:=by omega
       go_wp2
       go_roundw
       case rel=>exact⟨i+1,E,by omega,by go_num,HEl.out,HEL.out,by have:=HEv.out;rwa [Int.mul_zero,Int.add_zero] at this,fun s hs hts=>HEz.out s hs (by omega),HEa.out,hEb⟩
       case measure=>simp [intOf];omega
  ·obtain rfl:i=p.length:=by omega
   have hEnd:Hid (Big.val 1000000000 F=Big.val 1000000000 p*Big.val 1000000000 q):=by show _=_;have:=Hv.out;rwa [List.take_length] at this
   clear Hv
   go_wp2
   go_ret
   exact⟨hb,F,rfl,HFl.out,HFL.out,hEnd.out,Ha.out⟩
end
end Go.Proofs.YtniaimjknmhapaaGreatDoor
