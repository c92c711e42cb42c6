/- My texts IntMem, IntArr, IntAdd, IntSub, IntMul. -/
import Derived.Deep.RegionHeld3
import Derived.OwnWalk
import Derived.Laws.CopyOwn
import Derived.Deep.DeepCutAuto
import Derived.Test.YtniaimjknmhapaaGreatDoorG00
set_option linter.unusedVariables false
set_option linter.unusedSimpArgs false
set_option maxRecDepth 100000
set_option maxHeartbeats 16000000
namespace Go.Proofs.YtniaimjknmhapaaGreatDoor
open Tryz Go.RowKit

def limbTy (K:IntKind):TypeId:=match K with
 | .u32=>138
 | _=>3
def LTyped (K:IntKind) (w:World) (b:Nat):Prop:=∃ cur fr,w.heap[b]?=some (.cells cur (limbTy K) fr)
theorem LTyped.of_block {K:IntKind} {w w':World} {b:Nat} (h:LTyped K w b) (e:w'.heap[b]?=w.heap[b]?):LTyped K w' b:=by
 obtain⟨cur,fr,h⟩:=h;exact⟨cur,fr,e.trans h⟩
def LimbsAt (K:IntKind) (w:World) (B:Nat) (A:Option Addr) (l:List Int):Prop :=
 l=[]∨∃ b o,A=some ⟨b,o,none⟩/\b<B/\(∀ k (h:k<l.length),(w.cell? ⟨b,o+k,none⟩=some (.int K l[k])))/\LTyped K w b
theorem LimbsAt.below {K:IntKind} {w w':World} {B C:Nat} {A:Option Addr} {l:List Int} (h:LimbsAt K w B A l) (hb:Below C w w') (hC:B<=C):LimbsAt K w' B A l:=by
 rcases h with h | ⟨b,o,e,hl,hc⟩
 ·exact .inl h
 ·exact .inr ⟨b,o,e,hl,fun k hk=>(hb.cell (p:=⟨b,_,none⟩) (Nat.lt_of_lt_of_le hl hC)).trans (hc.1 k hk),hc.2.of_block (hb.block _ (Nat.lt_of_lt_of_le hl hC))⟩
theorem LimbsAt.more {K:IntKind} {w:World} {B C:Nat} {A:Option Addr} {l:List Int} (h:LimbsAt K w B A l) (hC:B<=C):LimbsAt K w C A l:=by
 rcases h with h | ⟨b,o,e,hl,hc⟩
 ·exact .inl h
 ·exact .inr ⟨b,o,e,oM,hc⟩
theorem LimbsAt.at_ {K:IntKind} {w w':World} {B:Nat} {A:Option Addr} {l:List Int} (h:LimbsAt K w B A l) (hb:Below B w w') (hB:B<=w.heap.size):LimbsAt K w' w' A l :=
 (h.below hb lR).more (Nat.le_trans hB hb.size)
theorem LimbsAt.start {K:IntKind} {w:World} {A:Option Addr} {l:List Int} (h:LimbsAt K w w A l) (o:Obj):LimbsAt K (w.alloc o) (w.alloc o).heap.size A l :=
 (h.below ((Below.refl w w).alloc lR o) lR).more sP
theorem LimbsAt.look {K:IntKind} {w:World} {B:Nat} {A:Option Addr} {l:List Int} (h:LimbsAt K w B A l) {k:Nat} (hk:k<l.length) :
  ∃ b o,A=some ⟨b,o,none⟩/\b<B/\w.cell? ⟨b,o+k,none⟩=some (.int K l[k]):=by
 rcases h with h | ⟨b,o,e,hl,hc⟩
 ·subst h;simp at hk
 ·exact⟨b,o,e,hl,hc.1 k hk⟩
theorem LimbsAt.nil (K:IntKind) (w:World) (B:Nat) (A:Option Addr):LimbsAt K w B A []:=.inl rfl
theorem LimbsAt.take {K:IntKind} {w:World} {B:Nat} {A:Option Addr} {l:List Int} (h:LimbsAt K w B A l) (k:Nat):LimbsAt K w B A (l.take k):=by
 rcases h with h | ⟨b,o,e,hl,hc⟩
 ·subst h;left;simp
 ·refine .inr ⟨b,o,e,hl,fun j hj=>?_,hc.2⟩
  rw [List.length_take] at hj;rw [List.getElem_take];exact hc.1 j oM

def PI (w:World) (B:Nat) (k:Nat) (v:Value) (z:Int):Prop :=
 ∃(neg:Bool) (A:Option Addr) (n c:Nat) (l:List Int),v=.agg #[neg,.slice A n c]/\l.length=n/\n<=k/\n<=c/\Big.Lim 1000000000 l/\Big.Norm l/\(neg=true->0<n)/\z=Big.sgn neg (Big.val 1000000000 l)/\LimbsAt .u32 w B A l

section
variable (w:World)
theorem a2Z (A:Option Addr) (n c:Nat) (l:List Int) (hl:l.length=n) (hn:n<=100000000000) (hc:n<=c) (h:LimbsAt .u32 w w A l) :
  Calls prog 186 #[.slice A n c] w fun e w'=>e=.returned (.slice A (Big.trim l).length c)/\w=w':=by
 subst hl;go_enter func186,ntmps186;go_wp2
 go_loop [0] (fun v=>∃ k:Nat,k<=l.length/\v=.slice A k c/\Big.trim (l.take k)=Big.trim l) (fun v=>match v with | .slice _ n _=>n | _=>0)
 case atStart=>exact⟨l.length,lR,rfl,by rw [List.take_length]⟩
 case round =>
  obtain⟨k,hk,rfl,ht⟩:=hrel;have Ht:=Z1 ht;clear ht
  match k,hk with
  | 0,_ =>
   have h0:Hid ((Big.trim l).length=0):=by show _=_;rw [<- Ht.out];rfl
   go_wp2;go_ret;exact⟨by rw [h0.out];rfl,rfl⟩
  | k+1,hk =>
   obtain⟨b,o,rfl,hb,hcell⟩:=h.look (show k<l.length by omega)
   by_cases h0:l[k]=0
   ·have hb0:(l[k]==0)=true:=by simp [h0]
    have Hs:Hid (Big.trim (l.take k)=Big.trim l):=by show _=_;rw [<- Big.trim_take (show k<l.length by omega) h0];exact Ht.out
    clear h0;go_wp2
    go_round
    case rel=>exact⟨k,oM,by go_num,Hs.out⟩
    case measure=>simp
   ·have hb0:(l[k]==0)=false:=by simp [h0]
    have Hs:Hid ((Big.trim l).length=k+1):=by
     show _=_;rw [<- Ht.out,Big.trim_take_stop (show k<l.length by omega) h0,List.length_take];omega
    clear h0;go_wp2;go_ret;exact⟨by rw [Hs.out];rfl,rfl⟩

theorem a0N (neg:Bool) (A:Option Addr) (n c:Nat) (l:List Int) (hl:l.length=n) (hn:n<=100000000000) (hc:n<=c) (h:LimbsAt .u32 w w A l) :
  CL 135 #[neg,.slice A n c] w (.agg #[.bool (neg&&decide (0<(Big.trim l).length)),.slice A (Big.trim l).length c]):=by
 have H:=Z1 (h.start (.cells #[false,.slice none 0 0] 41));have hB0:=(Below.refl w w).alloc lR (.cells #[false,.slice none 0 0] 41);clear h
 cases neg
 all_goals
  go_enter func135,ntmps135;go_wp2_with (go_at_call 186;refine(a2Z _ A n c l hl hn hc H.out).mono ?_;rintro e w1 ⟨rfl,rfl⟩)
 ·refine bodyPost_ret (v:=.agg #[false,.slice A (Big.trim l).length c]) (by simp [results,results135,go_sem]) rfl ⟨rfl,bR.alloc lR _⟩
 ·refine bodyPost_ret (v:=.agg #[.bool (decide (0<(Big.trim l).length)),.slice A (Big.trim l).length c]) (by simp [results,results135,go_sem]) rfl ⟨by rw [Bool.true_and],bR.alloc lR _⟩
theorem PI.mk {w:World} {B k:Nat} {neg:Bool} {A:Option Addr} {n c:Nat} {l:List Int} (hl:l.length=n) (hn:n<=k) (hc:n<=c) (hL:Big.Lim 1000000000 l) (h:LimbsAt .u32 w B A l) :
  PI w B k (.agg #[.bool (neg&&decide (0<(Big.trim l).length)),.slice A (Big.trim l).length c]) (Big.sgn neg (Big.val 1000000000 l)):=by
 obtain⟨h1,h2,h3,h4⟩:=Big.trim_spec 1000000000 l;refine⟨_,A,_,c,Big.trim l,rfl,rfl,oM,oM,Big.trim_lim hL,h2,?_,?_,by rw [h4];exact h.take _⟩
 ·intro hp
  simp only [Bool.and_eq_true,decide_eq_true_eq] at hp;exact hp.2
 ·rw [h1]
  cases neg with
  | false=>rfl
  | true =>
   by_cases h0:0<(Big.trim l).length
   ·simp [h0]
   ·have hv:Big.val 1000000000 l=0:=by rw [<- h1,List.length_eq_zero_iff.1 (show(Big.trim l).length=0 by omega)];rfl
    rw [hv];simp [Big.sgn]
theorem PI.below {w w':World} {B C k:Nat} {v:Value} {z:Int} (h:PI w B k v z) (hb:Below C w w') (hC:B<=C):PI w' B k v z:=by
 obtain⟨neg,A,n,c,l,h1,h2,h3,h4,h5,h6,h7,h8,h9⟩:=h;exact⟨neg,A,n,c,l,h1,h2,h3,h4,h5,h6,h7,h8,h9.below hb hC⟩
theorem PI.more {w:World} {B C k j:Nat} {v:Value} {z:Int} (h:PI w B k v z) (hC:B<=C) (hk:k<=j):PI w C j v z:=by
 obtain⟨neg,A,n,c,l,h1,h2,h3,h4,h5,h6,h7,h8,h9⟩:=h;exact⟨neg,A,n,c,l,h1,h2,oM,h4,h5,h6,h7,h8,h9.more hC⟩
theorem PI.at_ {w w':World} {k:Nat} {v:Value} {z:Int} (h:PI w w k v z) (hb:Below w w w'):PI w' w' k v z :=
 (h.below hb lR).more hb.size lR
theorem PI.tight {w:World} {B k j:Nat} {v:Value} {z:Int} (h:PI w B k v z) (h1:-1000000000 ^ j<z) (h2:z<1000000000 ^ j):PI w B j v z:=by
 obtain⟨neg,A,n,c,l,e1,e2,e3,e4,e5,e6,e7,e8,e9⟩:=h;refine⟨neg,A,n,c,l,e1,e2,?_,e4,e5,e6,e7,e8,e9⟩;rw [<- e2];refine Big.length_le oM e5 e6 j ?_;have:=Big.val_nonneg oM e5
 cases neg with
 | false=>simp [Big.sgn] at e8;omega
 | true=>simp [Big.sgn] at e8;omega

def sg (z:Int):Int:=if z=0 then 0 else if z<0 then -1 else 1
theorem PI.parts {w:World} {B k:Nat} {v:Value} {z:Int} (h:PI w B k v z):∃(neg:Bool) (A:Option Addr) (n c:Nat) (l:List Int),v=.agg #[neg,.slice A n c]/\l.length=n/\n<=k/\n<=c/\Big.Lim 1000000000 l/\Big.Norm l/\z=Big.sgn neg (Big.val 1000000000 l)/\LimbsAt .u32 w B A l /\
  ((n=0/\neg=false/\z=0)∨(0<n/\neg=false/\0<z)∨(0<n/\neg=true/\z<0)):=by
 obtain⟨neg,A,n,c,l,h1,h2,h3,h4,h5,h6,h7,h8,h9⟩:=h;refine⟨neg,A,n,c,l,h1,h2,h3,h4,h5,h6,h8,h9,?_⟩;have hv:=Big.val_nonneg oM h5;have hz:=Big.val_zero oM h5 h6
 rcases Nat.eq_zero_or_pos n with h0 | h0
 ·left
  have hl0:l=[]:=List.length_eq_zero_iff.1 oM
  have hng:neg=false:=by
   cases hn:neg with
   | false=>rfl
   | true=>have:=h7 hn;omega
  subst hng hl0;exact⟨h0,rfl,by rw [h8];rfl⟩
 ·have hne:Big.val 1000000000 l≠0:=fun e=>by have:=hz.1 e;subst this;simp at h2;omega
  cases neg with
  | false=>right;left;exact⟨h0,rfl,by rw [h8];simp [Big.sgn];omega⟩
  | true=>right;right;exact⟨h0,rfl,by rw [h8];simp [Big.sgn];omega⟩

theorem a0Y (k:Nat) (v:Value) (z:Int) (h:PI w w k v z) :
  CL 71 #[v] w (sg z):=by
 obtain⟨neg,A,n,c,l,rfl,hl,hn,hc,_,_,_,_,hs⟩:=h.parts
 rcases hs with⟨h0,rfl,hz⟩ | ⟨h0,rfl,hz⟩ | ⟨h0,rfl,hz⟩
 ·have E:Hid (sg z=0):=by show _=_;simp [sg,hz]
  subst h0;clear hz hl;go_enter func71,ntmps71;go_wp2;go_ret;exact⟨by rw [E.out];rfl,bR.alloc lR _⟩
 ·have E:Hid (sg z=1):=by show _=_;unfold sg;rw [if_neg oM,if_neg oM]
  have hb:((n:Int)==0)=false:=sO;clear hz hl;go_enter func71,ntmps71;go_wp2;go_ret;exact⟨by rw [E.out];rfl,bR.alloc lR _⟩
 ·have E:Hid (sg z=-1):=by show _=_;unfold sg;rw [if_neg oM,if_pos oM]
  have hb:((n:Int)==0)=false:=sO;clear hz hl;go_enter func71,ntmps71;go_wp2;go_ret;exact⟨by rw [E.out];rfl,bR.alloc lR _⟩

theorem b2E (k:Nat) (v:Value) (z:Int) (hk:k<=100000000000) (h:PI w w k v z) :
  Calls prog 72 #[v] w fun e w'=>(∃ u,e=.returned u/\PI w' w' k u (-z))/\Below w w w':=by
 obtain⟨neg,A,n,c,l,rfl,hl,hn,hc,hL,hN,hz,hA,_⟩:=h.parts;have E:Hid (-z=Big.sgn (!neg) (Big.val 1000000000 l)):=by show _=_;rw [hz];cases neg <;> simp [Big.sgn]
 have H:=Z1 ((hA.start (.cells #[neg,.slice A n c] 41)).start (.cells #[false,.slice none 0 0] 41));have hB0:=((Below.refl w w).alloc lR (.cells #[neg,.slice A n c] 41)).alloc sP (.cells #[false,.slice none 0 0] 41);have hZ:=heap_alloc_new (w.alloc (.cells #[neg,.slice A n c] 41)) (.cells #[false,.slice none 0 0] 41);rw [show(w.alloc (.cells #[neg,.slice A n c] 41)).heap.size=w.heap.size+1 by simp] at hZ;have hP:=Z1 (PI.mk (neg:=!neg) hl hn hc hL hA);clear hz hA h;go_enter func72,ntmps72;go_wp2_with (fail);refine(a0N _ (!neg) A n c l hl oM hc H.out).mono ?_;rintro e w1 ⟨rfl,hB⟩;have hq:=hB.size;simp at hq;have hB1:=hB0.trans (hB.mono sO);have hZ1:=(hB.block _ sP).trans hZ;have z0:=cr9 0 hZ1;have z1:=cr9 1 hZ1;have zf:=fun j=>fr0 j hZ1;simp at z0 z1;clear hZ hZ1;go_wp2;have hBf:=(hB1.setCell (p:=⟨w.heap.size+1,0,none⟩) sP (.bool (!neg&&decide (0<(Big.trim l).length)))).setCell (p:=⟨w.heap.size+1,1,none⟩) sP (.slice A (Big.trim l).length c);refine bodyPost_ret (v:=.agg #[.bool (!neg&&decide (0<(Big.trim l).length)),.slice A (Big.trim l).length c]) (by simp [results,results72,go_sem,z0,z1]) rfl ⟨⟨_,rfl,?_⟩,hBf⟩;rw [E.out];exact hP.out.at_ hBf

theorem Vw {n:Nat} {a w:World} (h:Below n a w) (q:Nat):Below n a (w.drewN q):=⟨h.os,h.tape,h.output,h.size,h.block⟩
def cm (x y:Int):Int:=if x<y then -1 else if y<x then 1 else 0
theorem a0V (A B:Option Addr) (n m c d:Nat) (l q:List Int) (hl:l.length=n) (hq:q.length=m) (hn:n<=100000000000) (hm:m<=100000000000) (hL:Big.Lim 1000000000 l) (hQ:Big.Lim 1000000000 q) (hNl:Big.Norm l) (hNq:Big.Norm q)
  (hA:LimbsAt .u32 w w A l) (hB:LimbsAt .u32 w w B q) :
  CL 80 #[.slice A n c,.slice B m d] w (.int .i64 (cm (Big.val 1000000000 l) (Big.val 1000000000 q))):=by
 subst hl hq
 rcases Nat.lt_trichotomy l.length q.length with hlt | heq | hlt
 ·have E:Hid (cm (Big.val 1000000000 l) (Big.val 1000000000 q)=-1):=by
   show _=_;unfold cm;rw [if_pos (Big.longer_lt oM hL hQ hNq hlt)]
  go_enter func80,ntmps80;go_wp2;go_ret;exact⟨by rw [E.out];rfl,bR⟩
 ·go_enter func80,ntmps80
  go_wp2
  go_loopw [5] (fun i wr=>∃ k:Nat,k<=l.length/\i=.int .i64 ((k:Int)-1)/\l.drop k=q.drop k/\Below w w wr) (fun i _=>(intOf i+1).toNat)
  case atStart=>exact⟨l.length,lR,by first | rfl | (rw [heq]),by rw [List.drop_of_length_le lR,List.drop_of_length_le oM],bR⟩
  case round =>
   obtain⟨k,hk,rfl,he,hb⟩:=hrel;have He:=Z1 he;clear he
   match k,hk with
   | 0,_ =>
    have E:Hid (cm (Big.val 1000000000 l) (Big.val 1000000000 q)=0):=by
     show _=_;have h0:=He.out;simp only [List.drop_zero] at h0;rw [h0];simp [cm]
    go_wp2;go_ret;exact⟨by rw [E.out];rfl,hb⟩
   | k+1,hk =>
    rw [show((k+1:Nat):Int)-1=(k:Int) by omega];have hkl:k<l.length:=oM;have hkq:k<q.length:=oM;obtain⟨b1,o1,rfl,hb1,x1⟩:=(hA.below hb lR).look hkl;obtain⟨b2,o2,rfl,hb2,x2⟩:=(hB.below hb lR).look hkq;have i0:(0:Int)<=(k:Int):=oM;have i1:(k:Int)<(l.length:Int):=oM;have i2:(k:Int)<(q.length:Int):=oM
    rcases Int.lt_trichotomy l[k] q[k] with hc | hc | hc
    ·have E:Hid (cm (Big.val 1000000000 l) (Big.val 1000000000 q)=-1):=by
      show _=_;unfold cm;rw [if_pos (Big.top_lt oM hL hQ heq k hkl He.out hc)]
     have hne:(l[k] != q[k])=true:=sO;go_wp2_with (go_quiet (fail));go_ret;exact⟨by rw [E.out];rfl,Vw (Vw hb _) _⟩
    ·have hne:(l[k] != q[k])=false:=by simp [hc]
     have Hs:Hid (l.drop k=q.drop k):=by
      show _=_;rw [List.drop_eq_getElem_cons hkl,List.drop_eq_getElem_cons hkq,He.out,hc]
     clear hc;go_wp2_with (go_quiet (fail));go_roundw
     case rel=>exact⟨k,oM,by go_num,Hs.out,Vw hb _⟩
     case measure=>simp [intOf]
    ·have E:Hid (cm (Big.val 1000000000 l) (Big.val 1000000000 q)=1):=by
      have h1:=Big.top_lt oM hQ hL heq.symm k hkq He.out.symm hc;show _=_;unfold cm;rw [if_neg oM,if_pos h1]
     have hne:(l[k] != q[k])=true:=sO;go_wp2_with (go_quiet (fail));go_ret;exact⟨by rw [E.out];rfl,Vw (Vw hb _) _⟩
 ·have E:Hid (cm (Big.val 1000000000 l) (Big.val 1000000000 q)=1):=by
   show _=_;unfold cm;have:=Big.longer_lt oM hQ hL hNl hlt;rw [if_neg oM,if_pos oM]
  go_enter func80,ntmps80;go_wp2;go_ret;exact⟨by rw [E.out];rfl,bR⟩

theorem VQ:(prog.info? 41).map (·.size)=some 2:=kR
theorem Xx {w:World} {b:Nat} {cs:Array Value} {t:TypeId} {fr:Nat × Nat} (h:w.heap[b]?=some (.cells cs t fr)):w.rangeAt b 0 cs.toList:=fun j v hj=>by
 rw [Nat.zero_add,cr9 _ h];simpa using hj
theorem b3o (x y:Int):(sg x<sg y->cm x y=-1)/\(sg y<sg x->cm x y=1):=by
 unfold sg cm
 by_cases h1:x=0 <;> by_cases h2:y=0 <;> by_cases h3:x<0 <;> by_cases h4:y<0 <;> simp [h1,h2,h3,h4] <;> omega
theorem a1r {x:Int}:(sg x=1 ↔ 0<x)/\(sg x=-1 ↔ x<0)/\(sg x=0 ↔ x=0):=by
 unfold sg
 by_cases h1:x=0 <;> by_cases h2:x<0 <;> simp [h1,h2] <;> omega
theorem b3q {n m:Nat} {ng mg:Bool} {x y a b:Int} (h:sg x=sg y) (hs:(n=0/\ng=false/\x=0)∨(0<n/\ng=false/\0<x)∨(0<n/\ng=true/\x<0))
  (ht:(m=0/\mg=false/\y=0)∨(0<m/\mg=false/\0<y)∨(0<m/\mg=true/\y<0)) (hg:ng=true) (hx:x=Big.sgn ng a) (hy:y=Big.sgn mg b):cm x y=cm b a:=by
 subst hg;have hx0:x<0:=by simp at hs;exact hs.2
 have h1:=(@a1r x).2.1.2 hx0;have hy0:y<0:=(@a1r y).2.1.1 (by rw [<- h,h1])
 have hmg:mg=true:=by
  rcases ht with⟨_,_,e⟩ | ⟨_,_,e⟩ | ⟨_,e,_⟩
  ·omega
  ·omega
  ·exact e
 subst hmg;simp [Big.sgn] at hx hy;unfold cm;rw [hx,hy]
 by_cases h1:a<b <;> by_cases h2:b<a <;> simp [h1,h2] <;> omega
theorem b3p {n m:Nat} {ng mg:Bool} {x y a b:Int} (h:sg x=sg y) (hs:(n=0/\ng=false/\x=0)∨(0<n/\ng=false/\0<x)∨(0<n/\ng=true/\x<0))
  (ht:(m=0/\mg=false/\y=0)∨(0<m/\mg=false/\0<y)∨(0<m/\mg=true/\y<0)) (hg:ng=false) (hx:x=Big.sgn ng a) (hy:y=Big.sgn mg b):cm x y=cm a b:=by
 subst hg
 have hx0:¬ x<0:=by
  rcases hs with⟨_,_,e⟩ | ⟨_,_,e⟩ | ⟨_,e,_⟩
  ·omega
  ·omega
  ·cases e
 have hmg:mg=false:=by
  rcases ht with⟨_,e,_⟩ | ⟨_,e,_⟩ | ⟨_,_,e⟩
  ·exact e
  ·exact e
  ·have h1:=(@a1r y).2.1.2 e
   exact absurd ((@a1r x).2.1.1 (by rw [h,h1])) hx0
 subst hmg;simp [Big.sgn] at hx hy;rw [hx,hy]
theorem a2j (k j:Nat) (u v:Value) (x y:Int) (hk:k<=100000000000) (hj:j<=100000000000) (hu:PI w w k u x) (hv:PI w w j v y) :
  CL 43 #[u,v] w (cm x y):=by
 obtain⟨ng,A,n,c,l,rfl,hl,hn,hc,hL,hN,hzx,hA,hs⟩:=hu.parts;obtain⟨mg,B,m,d,q,rfl,hq,hm,hd,hQ,hM,hzy,hB,ht⟩:=hv.parts;have Hz1:=Z1 hzx;have Hy1:=Z1 hzy;clear hzx hzy;have hB0:=((Below.refl w w).alloc lR (.cells #[ng,.slice A n c] 41)).alloc sP (.cells #[mg,.slice B m d] 41);obtain⟨W0,hW0⟩:∃ W0,W0=(w.alloc (.cells #[ng,.slice A n c] 41)).alloc (.cells #[mg,.slice B m d] 41):=⟨_,rfl⟩;have b0:W0.heap[w.heap.size]?=some (.cells #[ng,.slice A n c] 41 (0,0)):=by rw [hW0,Below.heap_alloc _ _ _ sP];exact heap_alloc_new w _
 have b1:W0.heap[w.heap.size+1]?=some (.cells #[mg,.slice B m d] 41 (0,0)):=by
  have:=heap_alloc_new (w.alloc (.cells #[ng,.slice A n c] 41)) (.cells #[mg,.slice B m d] 41)
  rwa [show(w.alloc (.cells #[ng,.slice A n c] 41)).heap.size=w.heap.size+1 by simp,<- hW0] at this
 have hz:W0.heap.size=w.heap.size+1+1:=by rw [hW0];simp
 rw [<- hW0] at hB0;have hU:=hu.at_ hB0;have hV:=hv.at_ hB0;obtain⟨HW,Hz,Hs,Ht⟩:=Z4 hW0 hz hs ht;clear hW0 hu hv hs ht;have hS:Below W0 W0 W0.drew:=Vw bR 1;go_enter func43,ntmps43;go_wp2;rw [<- HW.out];refine wp_region_held (S:=Below W0 W0) kR ?_;change wpAnyH _ _ _ _ _ _ _ _ W0.drew;refine tk (i:=0) (v:=.agg #[ng,.slice A n c]) rfl (yieldsIf_load_mid (by rfl) 41 _ rfl w.heap.size 0 rfl [ng,.slice A n c] _ (fun W' hS'=>?_) underlying41 rfl VQ) hS ?_
 ·exact Xx ((hS'.block _ (by have:=Hz.out;omega)).trans b0)
 try simp only [y9]
 refine tk (i:=2) (v:=.agg #[mg,.slice B m d]) rfl (yieldsIf_load_mid (by rfl) 41 _ rfl (w.heap.size+1) 0 rfl [mg,.slice B m d] _ (fun W' hS'=>?_) underlying41 rfl VQ) hS ?_
 ·exact Xx ((hS'.block _ (by have:=Hz.out;omega)).trans b1)
 try simp only [y9]
 refine rZ 1 fun K hK=>?_;go_simp;refine(a0Y _ k _ x (hU.at_ hS)).mono ?_;rintro e w1 ⟨rfl,hB1⟩;have hS1:Below W0 W0 w1:=hS.trans (hB1.mono lR);refine jK hK hS1 ?_;clear hK K;refine rZ 3 fun K hK=>?_;go_simp;refine(a0Y _ j _ y (hV.at_ hS1)).mono ?_;rintro e w2 ⟨rfl,hB2⟩;have hS2:Below W0 W0 w2:=hS1.trans (hB2.mono hS1.size);refine jK hK hS2 ?_;clear hK K;refine rZ 4 fun K hK=>?_;go_simp;refine jK hK hS2 ?_;clear hK K;refine rZ 5 fun K hK=>?_;go_simp;refine jK hK hS2 ?_;clear hK K;refine wpAnyH_done kR ?_ _;have hBw:=hB0.trans (hS2.mono hB0.size);have hb0:=(hS2.block w (by have:=Hz.out;omega)).trans b0;have hb1:=(hS2.block (w.heap.size+1) (by have:=Hz.out;omega)).trans b1;have c0:=cr9 0 hb0;have c1:=cr9 1 hb0;have d1:=cr9 1 hb1;simp at c0 c1 d1;have hA2:=Z1 ((hA.below hBw lR).more hBw.size);have hB2':=Z1 ((hB.below hBw lR).more hBw.size);have hw2:w.heap.size+1<w2.heap.size:=by have:=Hz.out;have:=hS2.size;omega
 have hw2':w.heap.size<w2.heap.size:=oM;clear b0 b1 hU hV hb0 hb1 hA hB hS hS1 hB1 hB2
 rcases Int.lt_trichotomy (sg x) (sg y) with h | h | h
 ·have E:=Z1 ((b3o x y).1 h)
  have hne:(sg x != sg y)=true:=sO;go_wp2;go_ret;exact⟨by rw [E.out];rfl,hBw⟩
 ·have hne:(sg x != sg y)=false:=by simp [h]
  have hsg:=Z1 h;clear h
  cases hg:ng with
  | true =>
   have E:=Z1 (b3q hsg.out Hs.out Ht.out hg Hz1.out Hy1.out);subst hg;go_wp2_with (fail);refine(a0V _ B A m n d c q l hq hl oM oM hQ hL hM hN hB2'.out hA2.out).mono ?_;rintro e w3 ⟨rfl,hB3⟩;go_wp2;go_ret;exact⟨by rw [E.out];rfl,hBw.trans (hB3.mono hBw.size)⟩
  | false =>
   have E:=Z1 (b3p hsg.out Hs.out Ht.out hg Hz1.out Hy1.out);subst hg;go_wp2_with (fail);refine(a0V _ A B n m c d l q hl hq oM oM hL hQ hN hM hA2.out hB2'.out).mono ?_;rintro e w3 ⟨rfl,hB3⟩;go_wp2;go_ret;exact⟨by rw [E.out];rfl,hBw.trans (hB3.mono hBw.size)⟩
 ·have E:=Z1 ((b3o x y).2 h)
  have hne:(sg x != sg y)=true:=sO;have hlt:¬ sg x<sg y:=oM;go_wp2;go_ret;exact⟨by rw [E.out];rfl,hBw⟩
end
open Tryz Go.RowKit

def Arr (K:IntKind) (e:TypeId) (w:World) (g:Nat) (F:List Int):Prop:=w.heap[g]?=some (.cells (F.map (Value.int K)).toArray e (0,0))
section
variable {K:IntKind} {e:TypeId} {w w':World} {g:Nat} {F:List Int}
theorem Arr.lt (h:Arr K e w g F):g<w.heap.size:=(Array.getElem?_eq_some_iff.1 h).1
theorem Arr.cell (h:Arr K e w g F) {k:Nat} (hk:k<F.length):w.cell? ⟨g,k,none⟩=some (.int K F[k]):=by
 rw [cr9 _ h];simp [hk]
theorem Arr.free (h:Arr K e w g F) (k:Nat):w.frozen? ⟨g,k,none⟩=false:=fr0 _ h
theorem Arr.set (h:Arr K e w g F) (k:Nat) (x:Int):Arr K e (w.setCell ⟨g,k,none⟩ (.int K x)) g (F.set k x):=by
 have:=heap_setCell_same w g k _ e (.int K x) h;unfold Arr;rw [this]
 congr 2
 simp [List.map_set]
theorem Arr.below {B:Nat} (h:Arr K e w g F) (hb:Below B w w') (hg:g<B):Arr K e w' g F:=(hb.block g hg).trans h
theorem Arr.alloc (h:Arr K e w g F) (o:Obj):Arr K e (w.alloc o) g F:=(Below.heap_alloc w o g h.lt).trans h
theorem Arr.drewN (h:Arr K e w g F) (n:Nat):Arr K e (w.drewN n) g F:=h
theorem Arr.limbs (h:Arr K e w g F) {B:Nat} (hB:g<B) (he:e=limbTy K:=by rfl):LimbsAt K w B (some ⟨g,0,none⟩) F :=
 .inr ⟨g,0,rfl,hB,fun k hk=>by rw [Nat.zero_add];exact h.cell hk,_,_,he ▸ h⟩
theorem Arr.owns (h:Arr K e w g F) {base n:Nat} (hb:base<=g) (hn:n<=F.length) (hm:F.length<=maxLen) :
  w.ownsRow base e 1 (.slice (some ⟨g,0,none⟩) n F.length) n ((F.take n).map (Value.int K)):=by
 refine⟨sO,.inr ⟨g,F.length,_,rfl,hb,h,hn,hm,sP,?_⟩⟩;simp [List.map_take]
theorem a1w {W:World} {base n:Nat} {v:Value} {l:List Int} (h:W.ownsRow base e 1 v n (l.map (Value.int K))) (hn:n=l.length) (he:e=limbTy K:=by rfl):∃ A c,v=.slice A n c/\n<=c/\LimbsAt K W W A l:=by
 subst hn;subst he
 rcases h.2 with⟨e,h0⟩ | ⟨g,cap,cur,e,_,hg,hle,_,hsz,htk⟩
 ·exact⟨none,0,by rw [e,h0],oM,.inl (List.length_eq_zero_iff.1 h0)⟩
 ·refine⟨_,cap,e,hle,.inr ⟨g,0,rfl,(Array.getElem?_eq_some_iff.1 hg).1,fun k hk=>?_,_,_,hg⟩⟩
  rw [Nat.zero_add,cr9 _ hg];have:(cur.toList.take (l.length*1))[k]?=some (.int K l[k]):=by rw [htk];simp [hk]
  rw [List.getElem?_take,if_pos oM] at this;simpa using this
theorem a0D {a:World} {base:Nat} {e:TypeId} {size n:Nat} {v:Value} {xs:List Value} (h:a.ownsRow base e size v n xs):∀ k,v.ownBlock=some k->base<=k:=by
 intro k hk
 rcases h.2 with⟨rfl,_⟩ | ⟨g,cap,cur,rfl,hb,_⟩
 ·simp [Value.ownBlock] at hk
 ·simp [Value.ownBlock] at hk;omega
theorem LimbsAt.cells {B:Nat} {A:Option Addr} {l:List Int} (h:LimbsAt K w B A l) (hl:0<l.length):∃ ad,A=some ad/\∀ j v,(l.map (Value.int K))[j]?=some v->w.cell? (ad.add j)=some v:=by
 rcases h with h | ⟨b,o,e,_,hc⟩
 ·subst h;simp at hl
 ·refine⟨_,e,fun j v hj=>?_⟩
  have hjl:j<l.length:=by have:=(List.getElem?_eq_some_iff.1 hj).1;simpa using this
  rw [Addr.add_mid,hc.1 j hjl];simpa [hjl] using hj
theorem LimbsAt.copied {B:Nat} {A:Option Addr} {l:List Int} (h:LimbsAt K w B A l) (a:Addr):0<(l.map (Value.int K)).length->some a=some a/\∃ ad,A=some ad/\∀ j v,(l.map (Value.int K))[j]?=some v->w.cell? (ad.add j)=some v :=
 fun hp=>⟨rfl,h.cells (by simpa using hp)⟩
theorem LimbsAt.other {B:Nat} {A:Option Addr} {l:List Int} (h:LimbsAt K w B A l) (hg:∀ b o,A=some ⟨b,o,none⟩->w'.heap[b]?=w.heap[b]?):LimbsAt K w' B A l:=by
 rcases h with h | ⟨b,o,e,hl,hc⟩
 ·exact .inl h
 ·exact .inr ⟨b,o,e,hl,fun k hk=>(World.cell?_of_block (w:=w) (hg b o e)).trans (hc.1 k hk),hc.2.of_block (hg b o e)⟩
theorem a6G (l:List Int):∀ v∈l.map (Value.int K),v.oneCell'=true:=by
 intro v hv;rw [List.mem_map] at hv;obtain⟨x,_,rfl⟩:=hv;rfl
theorem a2d (K:IntKind) (n:Nat):madeCells #[Value.int K 0] n=((List.replicate n (0:Int)).map (Value.int K)).toArray:=by
 apply Array.ext
 ·simp [madeCells]
 ·intro i h1 h2
  simp [madeCells,Nat.mod_one]
end

theorem a0G {P:Program} {w:World} {ops:Array Oper} {rest:List Oper} {o:Oper} {a:Act} {Q:Exit->Act->World->Prop} (hg:o.guard=none) (l c:Operand) (t:TypeId) (hop:o.op=Op.makeSlice t l c)
  (K:IntKind) (e:TypeId) (i:TypeInfo) (bytes:Nat) (h1:P.underlying t=some (.slice e)) (h2:P.info? e=some i) (h3:i.zero=some (.int K 0)) (h4:i.size=1) (h5:i.bytes=bytes)
  (kl kc:IntKind) (L C:Int) (n m:Nat) (hl:a.eval l=.int kl L) (hc:a.eval c=.int kc C) (hL:L=(n:Int)) (hC:C=(m:Int)) (hnm:n<=m) (b1:bytes<=100) (b2:m<=1000000000000)
  (hK:∀ w',Hid (w'=w.alloc (.cells ((List.replicate m (0:Int)).map (Value.int K)).toArray e))->wpList P ops Q rest (a.put o.dst (.slice (some ⟨w,0,none⟩) n m)) w') :
  wpList P ops Q (o::rest) a w:=by
 refine wpList_plain hg fun K' hK'=>?_;subst hL hC
 have hb:(i.bytes:Int)*(m:Int)<=281474976710656:=by
  rw [h5];have:bytes*m<=100*1000000000000:=Nat.mul_le_mul b1 b2;have h2:((bytes*m:Nat):Int)<=100000000000000:=oM;rw [Int.natCast_mul] at h2;omega
 have hrun:=run_make (P:=P) w t e i (.int K 0) h1 h2 h3 kl kc (n:Int) (m:Int) oM oM hb oM;rw [h4,Nat.mul_one,Int.toNat_natCast,Int.toNat_natCast] at hrun;have hz:madeCells (Value.int K 0).cells m=((List.replicate m (0:Int)).map (Value.int K)).toArray:=a2d K m;rw [hz] at hrun;unfold Oper.wp;simp [execOp,hop,hl,hc,hrun,Result.andThen];have:=hK _ (Z1 rfl);simp at this;exact hK' _ _ this

theorem uinfo:(prog.info? 138).map (fun i=>(i.zero,i.size,i.bytes))=some (some (.int .u32 0),1,4):=kR
theorem usize:(prog.info? 138).map (·.size)=some 1:=kR
open Tryz Go.RowKit

def LimbPost (k:Nat) (V:Int) (w:World) (e:Ending) (w':World):Prop :=
 Below w w w'/\∃(A:Option Addr) (n c:Nat) (r:List Int),e=.returned (.slice A n c)/\r.length=n/\n<=k/\n<=c/\Big.Lim 1000000000 r/\Big.val 1000000000 r=V/\LimbsAt .u32 w' w' A r/\∀ b o,A=some ⟨b,o,none⟩->w.heap.size<=b

theorem a2w {w:World} {g:Nat} {v:Value} {t:TypeId} {fr:Nat × Nat} (h:w.heap[g]?=some (.cells #[v] t fr)):∀ j u,([v]:List Value)[j]?=some u->w.cell? ((⟨g,0,none⟩:Addr).add j)=some u:=by
 intro j u hj;rw [Addr.add_mid,Nat.zero_add,cr9 _ h];simpa using hj
theorem a3f {B:Int} {P p q:List Int} {k:Nat} {x y cy s:Int} (h:Big.val B P+B ^ k*cy=Big.val B (p.take k)+Big.val B (q.take k)) (hP:P.length=k) (hs:s=x+cy+y)
  (hx:Big.val B (p.take (k+1))=Big.val B (p.take k)+B ^ k*x) (hy:Big.val B (q.take (k+1))=Big.val B (q.take k)+B ^ k*y) :
  Big.val B (P++[s % B])+B ^ (k+1)*(s / B)=Big.val B (p.take (k+1))+Big.val B (q.take (k+1)):=by
 rw [Big.val_snoc,hP,hx,hy,Int.pow_succ,Int.mul_assoc];have h1:B ^ k*(s % B)+B ^ k*(B*(s / B))=B ^ k*s:=by rw [<- Int.mul_add,Int.emod_add_mul_ediv]
 have h2:B ^ k*s=B ^ k*x+B ^ k*cy+B ^ k*y:=by rw [hs,Int.mul_add,Int.mul_add]
 omega

section
variable (w:World)
theorem b2C (A B:Option Addr) (n m c d:Nat) (p q:List Int) (hl:p.length=n) (hq:q.length=m) (hge:m<=n) (hn:n<=100000000000) (hm:m<=100000000000) (hL:Big.Lim 1000000000 p) (hQ:Big.Lim 1000000000 q)
  (hA:LimbsAt .u32 w w A p) (hB:LimbsAt .u32 w w B q) :
  Calls prog 137 #[.slice A n c,.slice B m d] w (LimbPost (n+1) (Big.val 1000000000 p+Big.val 1000000000 q) w):=by
 subst hl hq;obtain⟨i0,hi,hz0,hz1,hz2⟩:=info_parts uinfo;have Hn1:Hid (((p.length:Int)+1)=((p.length+1:Nat):Int)):=by show _=_;omega
 have Hlen:Hid ((p.map (Value.int .u32)).length=Nat.min p.length p.length):=by show _=_;simp
 have Hfit:Hid (0+(p.map (Value.int .u32)).length<=((List.replicate (p.length+1) (0:Int)).map (Value.int .u32)).length):=by show _<=_;simp
 have Hnp:p.length<=p.length+1:=Nat.le_succ _;have Hb2:p.length+1<=1000000000000:=oM;go_enter func137,ntmps137;go_upto_region 4 with(refine a0G rfl _ _ 39 rfl .u32 138 i0 4 underlying39 hi hz0 hz1 hz2 _ _ _ _ p.length (p.length+1) rfl rfl rfl Hn1.out Hnp dC Hb2 ?_;intro w1 hw1);have hB1:Below w w w1:=by rw [hw1.out];exact bR.alloc lR _
 have hz1':w1.heap.size=w.heap.size+1:=by rw [hw1.out];simp
 have hG1:=Z1 (show w1.heap[w.heap.size]?=some (.cells ((List.replicate (p.length+1) (0:Int)).map (Value.int .u32)).toArray 138 (0,0)) by rw [hw1.out];exact heap_alloc_new w _);have HA1:=Z1 (hA.at_ hB1 lR);have Hz:=Z1 hz1';clear hw1 hz1';go_upto_region 5 with((refine wpList_copy_splice rfl (.tmp 22) (.tmp 23) 39 39 rfl 138 underlying39 usize (some ⟨w,0,none⟩) A p.length (p.length+1) p.length c rfl rfl w.heap.size 0 _ 138 hG1.out (p.map (Value.int .u32)) Hlen.out (HA1.out.copied _) Hfit.out (a6G p) w w hB1 lR ?_);intro w2 hsp hB2)
 have hArr:Arr .u32 138 w2 w (p++[0]):=by
  unfold Arr;rw [hsp.out]
  congr 3
  rw [splice];simp
 clear hsp hG1 HA1 Hlen Hfit;have HL:=Z1 hL;have HQ:=Z1 hQ;clear hL hQ;go_wp2
 go_loopw [6,27] (fun cr i wr=>∃(k:Nat) (P:List Int) (cy:Int),k<=p.length/\i=.int .i64 k/\cr=.int .u32 cy/\(cy=0∨cy=1)/\P.length=k/\Big.Lim 1000000000 P /\
  Big.val 1000000000 P+1000000000 ^ k*cy=Big.val 1000000000 (p.take k)+Big.val 1000000000 (q.take k)/\Arr .u32 138 wr w (P++p.drop k++[0])/\Below w w wr) (fun _ i _=>p.length-(intOf i).toNat)
 case atStart=>exact⟨0,[],0,Nat.zero_le _,rfl,rfl,.inl rfl,rfl,Big.Lim.nil,by simp [Big.val],by simpa using hArr,hB2⟩
 case round =>
  obtain⟨k,P,cy,hk,rfl,rfl,hcy,hPl,hPL,hv,ha,hb⟩:=hrel;have Hcy:=Z1 hcy;have hcy0:0<=cy:=oM;have hcy1:cy<=1:=oM;obtain⟨HPl,HPL,Hv⟩:=Z3 hPl hPL hv;have hgr:w.heap.size<wr.heap.size:=ha.lt;clear hcy hPl hPL hv hArr
  by_cases hlt:k<p.length
  ·have hFl:k<(P++p.drop k++[0]).length:=by have:=HPl.out;simp;omega
   have hFk:(P++p.drop k++[0])[k]=p[k]:=by
    have:=HPl.out;rw [List.getElem_append_left sO,List.getElem_append_right oM];simp [this]
   have hc:=ha.cell hFl;rw [hFk] at hc;have hfz:=ha.free k;have hx:=HL.out.get k hlt;have hx0:=hx.1;have hx1:=hx.2;have Ha:=Z1 ha
   have hset:∀ y:Int,Hid ((P++p.drop k++[0]).set k y=(P++[y])++p.drop (k+1)++[0]):=fun y=>by
    show _=_;have:=HPl.out;rw [List.set_append_left _ _ sO,List.set_append_right _ _ oM,this,Nat.sub_self,List.drop_eq_getElem_cons hlt,List.set_cons_zero];simp only [List.append_assoc,List.cons_append,List.nil_append]
   clear hx hFl hFk ha
   by_cases hkm:k<q.length
   ·obtain⟨b,o,rfl,hbB,hy⟩:=(hB.below hb lR).look hkm
    have hyl:=HQ.out.get k hkm;have hy0:=hyl.1;have hy1:=hyl.2;have hbw:b<wr.heap.size:=oM;clear hyl;go_wp2;go_roundw
    case rel =>
     refine⟨k+1,P++[(p[k]+cy+q[k]) % 1000000000],(p[k]+cy+q[k]) / 1000000000,oM,by go_num,rfl,oM,by simp [HPl.out],Big.Lim.append.2 ⟨HPL.out,fun a ha=>?_⟩,a3f Hv.out HPl.out rfl (Big.val_take_succ _ _ _ hlt) (Big.val_take_succ _ _ _ hkm),?_,hb.setCell lR _⟩
     ·rw [List.mem_singleton] at ha;subst ha;omega
     ·have:=Ha.out.set k ((p[k]+cy+q[k]) % 1000000000)
      rwa [(hset _).out] at this
    case measure=>simp [intOf];omega
   ·have htq:Hid (q.take k=q):=by show _=_;exact List.take_of_length_le oM
    have htq1:Hid (q.take (k+1)=q):=by show _=_;exact List.take_of_length_le oM
    rcases Hcy.out with h0 | h0
    ·subst h0
     have Hend:Hid (Big.val 1000000000 (P++p.drop k)=Big.val 1000000000 p+Big.val 1000000000 q):=by
      have h1:=Hv.out;rw [htq.out,Int.mul_zero,Int.add_zero] at h1;show _=_;rw [Big.val_append,HPl.out,h1,Big.val_split 1000000000 p k oM];omega
     go_wp2;go_ret;have hpl:=HPl.out
     have htk:(P++p.drop k++[0]).take p.length=P++p.drop k:=by
      rw [List.take_append_of_le_length sO,List.take_of_length_le sO]
     exact⟨hb,_,p.length,p.length+1,P++p.drop k,rfl,sO,oM,oM,Big.Lim.append.2 ⟨HPL.out,HL.out.drop k⟩,Hend.out,by rw [<- htk];exact(Ha.out.limbs hgr).take _,fun b o h=>by cases h;exact lR⟩
    ·subst h0
     go_wp2;go_roundw
     case rel =>
      refine⟨k+1,P++[(p[k]+1) % 1000000000],(p[k]+1) / 1000000000,oM,by go_num,rfl,oM,by simp [HPl.out],Big.Lim.append.2 ⟨HPL.out,fun a ha=>?_⟩,a3f (x:=p[k]) (y:=0) (cy:=1) Hv.out HPl.out oM (Big.val_take_succ _ _ _ hlt) (by rw [htq.out,htq1.out,Int.mul_zero,Int.add_zero]),?_,hb.setCell lR _⟩
      ·rw [List.mem_singleton] at ha;subst ha;omega
      ·have:=Ha.out.set k ((p[k]+1) % 1000000000)
       rwa [(hset _).out] at this
     case measure=>simp [intOf];omega
  ·obtain rfl:k=p.length:=oM
   have hpl:=HPl.out;have hv:=Hv.out;rw [List.take_length,List.take_of_length_le (show q.length<=p.length by omega)] at hv;rw [List.drop_length,List.append_nil] at ha;have hlen:(P++[(0:Int)]).length=p.length+1:=by simp [hpl]
   have htk:(P++[(0:Int)]).take p.length=P:=by rw [List.take_append_of_le_length oM,List.take_of_length_le oM]
   rcases Hcy.out with h0 | h0
   ·subst h0
    have Hend:Hid (Big.val 1000000000 P=Big.val 1000000000 p+Big.val 1000000000 q):=by show _=_;rw [Int.mul_zero,Int.add_zero] at hv;exact hv
    have Hlim:=Z1 ((ha.limbs hgr).take p.length);have Htk:=Z1 htk;clear hv htk ha hpl hlen Hv;go_wp2;go_ret;have hpl:=HPl.out;exact⟨hb,_,p.length,p.length+1,P,rfl,oM,oM,oM,HPL.out,Hend.out,by rw [<- Htk.out];exact Hlim.out,fun b o h=>by cases h;exact lR⟩
   ·subst h0
    have Hend:Hid (Big.val 1000000000 (P++[1])=Big.val 1000000000 p+Big.val 1000000000 q):=by show _=_;rw [Big.val_snoc,hpl];exact hv
    have hown:=ha.owns (base:=w.heap.size) (n:=p.length) lR oM (by rw [hlen];unfold maxLen;omega);rw [hlen,htk] at hown;have Hown:=Z1 (hown.alloc (.cells #[.int .u32 1] 138));have Hnew:=Z1 (fun j u (hj:([Value.int .u32 1]:List Value)[j]?=some u)=>a2w (heap_alloc_new wr (.cells #[.int .u32 1] 138)) j u hj);have Hcap:p.length+1<=p.length+1:=Nat.le_refl _;have Hone:Hid (∀ u∈([Value.int .u32 1]:List Value),u.oneCell'=true):=by show ∀ u∈_,_;simp [Value.oneCell']
    clear hv htk ha hpl hlen Hv hown;go_wp2_with (at_builtin;refine wpList_append_fits _ rfl _ _ 39 rfl w.heap.size 138 i0 1 underlying39 hi hz1 w p.length (p.length+1) _ rfl Hown.out ⟨wr,0,none⟩ 1 1 [Value.int .u32 1] rfl rfl Hnew.out Hone.out Hcap ?_;intro w3 hown3 hgrow);go_ret;have hpl:=HPl.out;obtain⟨A',c',e',hc',hlim⟩:=a1w (K:=.u32) (l:=P++[1]) (n:=p.length+1) (by rw [List.map_append];exact hown3) (by simp [hpl]);have hBf:Below w w w3:=(hb.alloc hb.size (.cells #[.int .u32 1] 138)).grown hgrow sO (fun k hk=>by cases hk;exact lR);injection e' with ea _ ec;subst ea ec;exact⟨hBf,_,p.length+1,_,P++[1],rfl,by simp [hpl],lR,hc',Big.Lim.append.2 ⟨HPL.out,fun a ha=>by rw [List.mem_singleton] at ha;subst ha;omega⟩,Hend.out,hlim,fun b o h=>by cases h;exact lR⟩
theorem b2B (A B:Option Addr) (n m c d:Nat) (p q:List Int) (hl:p.length=n) (hq:q.length=m) (hlt:m<n) (hn:n<=100000000000) (hm:m<=100000000000) (hL:Big.Lim 1000000000 p) (hQ:Big.Lim 1000000000 q)
  (hA:LimbsAt .u32 w w A p) (hB:LimbsAt .u32 w w B q) :
  Calls prog 137 #[.slice B m d,.slice A n c] w (LimbPost (n+1) (Big.val 1000000000 p+Big.val 1000000000 q) w):=by
 subst hl hq;obtain⟨i0,hi,hz0,hz1,hz2⟩:=info_parts uinfo;have Hn1:Hid (((p.length:Int)+1)=((p.length+1:Nat):Int)):=by show _=_;omega
 have Hlen:Hid ((p.map (Value.int .u32)).length=Nat.min p.length p.length):=by show _=_;simp
 have Hfit:Hid (0+(p.map (Value.int .u32)).length<=((List.replicate (p.length+1) (0:Int)).map (Value.int .u32)).length):=by show _<=_;simp
 have Hnp:p.length<=p.length+1:=Nat.le_succ _;have Hb2:p.length+1<=1000000000000:=oM;go_enter func137,ntmps137;go_upto_region 4 with(refine a0G rfl _ _ 39 rfl .u32 138 i0 4 underlying39 hi hz0 hz1 hz2 _ _ _ _ p.length (p.length+1) rfl rfl rfl Hn1.out Hnp dC Hb2 ?_;intro w1 hw1);have hB1:Below w w w1:=by rw [hw1.out];exact bR.alloc lR _
 have hz1':w1.heap.size=w.heap.size+1:=by rw [hw1.out];simp
 have hG1:=Z1 (show w1.heap[w.heap.size]?=some (.cells ((List.replicate (p.length+1) (0:Int)).map (Value.int .u32)).toArray 138 (0,0)) by rw [hw1.out];exact heap_alloc_new w _);have HA1:=Z1 (hA.at_ hB1 lR);have Hz:=Z1 hz1';clear hw1 hz1';go_upto_region 5 with((refine wpList_copy_splice rfl (.tmp 22) (.tmp 23) 39 39 rfl 138 underlying39 usize (some ⟨w,0,none⟩) A p.length (p.length+1) p.length c rfl rfl w.heap.size 0 _ 138 hG1.out (p.map (Value.int .u32)) Hlen.out (HA1.out.copied _) Hfit.out (a6G p) w w hB1 lR ?_);intro w2 hsp hB2)
 have hArr:Arr .u32 138 w2 w (p++[0]):=by
  unfold Arr;rw [hsp.out]
  congr 3
  rw [splice];simp
 clear hsp hG1 HA1 Hlen Hfit;have HL:=Z1 hL;have HQ:=Z1 hQ;clear hL hQ;go_wp2
 go_loopw [6,27] (fun cr i wr=>∃(k:Nat) (P:List Int) (cy:Int),k<=p.length/\i=.int .i64 k/\cr=.int .u32 cy/\(cy=0∨cy=1)/\P.length=k/\Big.Lim 1000000000 P /\
  Big.val 1000000000 P+1000000000 ^ k*cy=Big.val 1000000000 (p.take k)+Big.val 1000000000 (q.take k)/\Arr .u32 138 wr w (P++p.drop k++[0])/\Below w w wr) (fun _ i _=>p.length-(intOf i).toNat)
 case atStart=>exact⟨0,[],0,Nat.zero_le _,rfl,rfl,.inl rfl,rfl,Big.Lim.nil,by simp [Big.val],by simpa using hArr,hB2⟩
 case round =>
  obtain⟨k,P,cy,hk,rfl,rfl,hcy,hPl,hPL,hv,ha,hb⟩:=hrel;have Hcy:=Z1 hcy;have hcy0:0<=cy:=oM;have hcy1:cy<=1:=oM;obtain⟨HPl,HPL,Hv⟩:=Z3 hPl hPL hv;have hgr:w.heap.size<wr.heap.size:=ha.lt;clear hcy hPl hPL hv hArr
  by_cases hlt:k<p.length
  ·have hFl:k<(P++p.drop k++[0]).length:=by have:=HPl.out;simp;omega
   have hFk:(P++p.drop k++[0])[k]=p[k]:=by
    have:=HPl.out;rw [List.getElem_append_left sO,List.getElem_append_right oM];simp [this]
   have hc:=ha.cell hFl;rw [hFk] at hc;have hfz:=ha.free k;have hx:=HL.out.get k hlt;have hx0:=hx.1;have hx1:=hx.2;have Ha:=Z1 ha
   have hset:∀ y:Int,Hid ((P++p.drop k++[0]).set k y=(P++[y])++p.drop (k+1)++[0]):=fun y=>by
    show _=_;have:=HPl.out;rw [List.set_append_left _ _ sO,List.set_append_right _ _ oM,this,Nat.sub_self,List.drop_eq_getElem_cons hlt,List.set_cons_zero];simp only [List.append_assoc,List.cons_append,List.nil_append]
   clear hx hFl hFk ha
   by_cases hkm:k<q.length
   ·obtain⟨b,o,rfl,hbB,hy⟩:=(hB.below hb lR).look hkm
    have hyl:=HQ.out.get k hkm;have hy0:=hyl.1;have hy1:=hyl.2;have hbw:b<wr.heap.size:=oM;clear hyl;go_wp2;go_roundw
    case rel =>
     refine⟨k+1,P++[(p[k]+cy+q[k]) % 1000000000],(p[k]+cy+q[k]) / 1000000000,oM,by go_num,rfl,oM,by simp [HPl.out],Big.Lim.append.2 ⟨HPL.out,fun a ha=>?_⟩,a3f Hv.out HPl.out rfl (Big.val_take_succ _ _ _ hlt) (Big.val_take_succ _ _ _ hkm),?_,hb.setCell lR _⟩
     ·rw [List.mem_singleton] at ha;subst ha;omega
     ·have:=Ha.out.set k ((p[k]+cy+q[k]) % 1000000000)
      rwa [(hset _).out] at this
    case measure=>simp [intOf];omega
   ·have htq:Hid (q.take k=q):=by show _=_;exact List.take_of_length_le oM
    have htq1:Hid (q.take (k+1)=q):=by show _=_;exact List.take_of_length_le oM
    rcases Hcy.out with h0 | h0
    ·subst h0
     have Hend:Hid (Big.val 1000000000 (P++p.drop k)=Big.val 1000000000 p+Big.val 1000000000 q):=by
      have h1:=Hv.out;rw [htq.out,Int.mul_zero,Int.add_zero] at h1;show _=_;rw [Big.val_append,HPl.out,h1,Big.val_split 1000000000 p k oM];omega
     go_wp2;go_ret;have hpl:=HPl.out
     have htk:(P++p.drop k++[0]).take p.length=P++p.drop k:=by
      rw [List.take_append_of_le_length sO,List.take_of_length_le sO]
     exact⟨hb,_,p.length,p.length+1,P++p.drop k,rfl,sO,oM,oM,Big.Lim.append.2 ⟨HPL.out,HL.out.drop k⟩,Hend.out,by rw [<- htk];exact(Ha.out.limbs hgr).take _,fun b o h=>by cases h;exact lR⟩
    ·subst h0
     go_wp2;go_roundw
     case rel =>
      refine⟨k+1,P++[(p[k]+1) % 1000000000],(p[k]+1) / 1000000000,oM,by go_num,rfl,oM,by simp [HPl.out],Big.Lim.append.2 ⟨HPL.out,fun a ha=>?_⟩,a3f (x:=p[k]) (y:=0) (cy:=1) Hv.out HPl.out oM (Big.val_take_succ _ _ _ hlt) (by rw [htq.out,htq1.out,Int.mul_zero,Int.add_zero]),?_,hb.setCell lR _⟩
      ·rw [List.mem_singleton] at ha;subst ha;omega
      ·have:=Ha.out.set k ((p[k]+1) % 1000000000)
       rwa [(hset _).out] at this
     case measure=>simp [intOf];omega
  ·obtain rfl:k=p.length:=oM
   have hpl:=HPl.out;have hv:=Hv.out;rw [List.take_length,List.take_of_length_le (show q.length<=p.length by omega)] at hv;rw [List.drop_length,List.append_nil] at ha;have hlen:(P++[(0:Int)]).length=p.length+1:=by simp [hpl]
   have htk:(P++[(0:Int)]).take p.length=P:=by rw [List.take_append_of_le_length oM,List.take_of_length_le oM]
   rcases Hcy.out with h0 | h0
   ·subst h0
    have Hend:Hid (Big.val 1000000000 P=Big.val 1000000000 p+Big.val 1000000000 q):=by show _=_;rw [Int.mul_zero,Int.add_zero] at hv;exact hv
    have Hlim:=Z1 ((ha.limbs hgr).take p.length);have Htk:=Z1 htk;clear hv htk ha hpl hlen Hv;go_wp2;go_ret;have hpl:=HPl.out;exact⟨hb,_,p.length,p.length+1,P,rfl,oM,oM,oM,HPL.out,Hend.out,by rw [<- Htk.out];exact Hlim.out,fun b o h=>by cases h;exact lR⟩
   ·subst h0
    have Hend:Hid (Big.val 1000000000 (P++[1])=Big.val 1000000000 p+Big.val 1000000000 q):=by show _=_;rw [Big.val_snoc,hpl];exact hv
    have hown:=ha.owns (base:=w.heap.size) (n:=p.length) lR oM (by rw [hlen];unfold maxLen;omega);rw [hlen,htk] at hown;have Hown:=Z1 (hown.alloc (.cells #[.int .u32 1] 138));have Hnew:=Z1 (fun j u (hj:([Value.int .u32 1]:List Value)[j]?=some u)=>a2w (heap_alloc_new wr (.cells #[.int .u32 1] 138)) j u hj);have Hcap:p.length+1<=p.length+1:=Nat.le_refl _;have Hone:Hid (∀ u∈([Value.int .u32 1]:List Value),u.oneCell'=true):=by show ∀ u∈_,_;simp [Value.oneCell']
    clear hv htk ha hpl hlen Hv hown;go_wp2_with (at_builtin;refine wpList_append_fits _ rfl _ _ 39 rfl w.heap.size 138 i0 1 underlying39 hi hz1 w p.length (p.length+1) _ rfl Hown.out ⟨wr,0,none⟩ 1 1 [Value.int .u32 1] rfl rfl Hnew.out Hone.out Hcap ?_;intro w3 hown3 hgrow);go_ret;have hpl:=HPl.out;obtain⟨A',c',e',hc',hlim⟩:=a1w (K:=.u32) (l:=P++[1]) (n:=p.length+1) (by rw [List.map_append];exact hown3) (by simp [hpl]);have hBf:Below w w w3:=(hb.alloc hb.size (.cells #[.int .u32 1] 138)).grown hgrow sO (fun k hk=>by cases hk;exact lR);injection e' with ea _ ec;subst ea ec;exact⟨hBf,_,p.length+1,_,P++[1],rfl,by simp [hpl],lR,hc',Big.Lim.append.2 ⟨HPL.out,fun a ha=>by rw [List.mem_singleton] at ha;subst ha;omega⟩,Hend.out,hlim,fun b o h=>by cases h;exact lR⟩
end
open Tryz Go.RowKit

theorem a3a {B:Int} {P p q:List Int} {k:Nat} {x y bw dg bw':Int} (h:Big.val B P-B ^ k*bw=Big.val B (p.take k)-Big.val B (q.take k)) (hP:P.length=k) (hd:dg-B*bw'=x-(bw+y))
  (hx:Big.val B (p.take (k+1))=Big.val B (p.take k)+B ^ k*x) (hy:Big.val B (q.take (k+1))=Big.val B (q.take k)+B ^ k*y) :
  Big.val B (P++[dg])-B ^ (k+1)*bw'=Big.val B (p.take (k+1))-Big.val B (q.take (k+1)):=by
 rw [Big.val_snoc,hP,hx,hy,Int.pow_succ,Int.mul_assoc];have h1:B ^ k*dg-B ^ k*(B*bw')=B ^ k*x-B ^ k*(bw+y):=by rw [<- Int.mul_sub,hd,Int.mul_sub]
 have h2:B ^ k*(bw+y)=B ^ k*bw+B ^ k*y:=Int.mul_add _ _ _;omega

section
variable (w:World)
theorem b0S (A B:Option Addr) (n m c d:Nat) (p q:List Int) (hl:p.length=n) (hq:q.length=m) (hn:n<=100000000000) (hm:m<=100000000000) (hL:Big.Lim 1000000000 p) (hQ:Big.Lim 1000000000 q)
  (hA:LimbsAt .u32 w w A p) (hB:LimbsAt .u32 w w B q) :
  Calls prog 137 #[.slice A n c,.slice B m d] w (LimbPost (max n m+1) (Big.val 1000000000 p+Big.val 1000000000 q) w):=by
 rcases Nat.lt_or_ge n m with h | h
 ·have:=b2B w B A m n d c q p hq hl h hm hn hQ hL hB hA
  rw [Nat.max_eq_right (Nat.le_of_lt h),Int.add_comm];exact this
 ·have:=b2C w A B n m c d p q hl hq h hn hm hL hQ hA hB
  rw [Nat.max_eq_left h];exact this

theorem a5L (A B:Option Addr) (n m c d:Nat) (p q:List Int) (hl:p.length=n) (hq:q.length=m) (hge:m<=n) (hn:n<=100000000000) (hm:m<=100000000000) (hL:Big.Lim 1000000000 p) (hQ:Big.Lim 1000000000 q) (hle:Big.val 1000000000 q<=Big.val 1000000000 p)
  (hA:LimbsAt .u32 w w A p) (hB:LimbsAt .u32 w w B q) :
  Calls prog 138 #[.slice A n c,.slice B m d] w (LimbPost n (Big.val 1000000000 p-Big.val 1000000000 q) w):=by
 subst hl hq;obtain⟨i0,hi,hz0,hz1,hz2⟩:=info_parts uinfo;have Hlen:Hid ((p.map (Value.int .u32)).length=Nat.min p.length p.length):=by show _=_;simp
 have Hfit:Hid (0+(p.map (Value.int .u32)).length<=((List.replicate p.length (0:Int)).map (Value.int .u32)).length):=by show _<=_;simp
 have Hnp:p.length<=p.length:=Nat.le_refl _;have Hb2:p.length<=1000000000000:=oM;go_enter func138,ntmps138;go_upto_region 2 with(refine a0G rfl _ _ 39 rfl .u32 138 i0 4 underlying39 hi hz0 hz1 hz2 _ _ _ _ p.length p.length rfl rfl rfl rfl Hnp dC Hb2 ?_;intro w1 hw1);have hB1:Below w w w1:=by rw [hw1.out];exact bR.alloc lR _
 have hG1:=Z1 (show w1.heap[w.heap.size]?=some (.cells ((List.replicate p.length (0:Int)).map (Value.int .u32)).toArray 138 (0,0)) by rw [hw1.out];exact heap_alloc_new w _);have HA1:=Z1 (hA.at_ hB1 lR);clear hw1;go_upto_region 3 with(refine wpList_copy_splice rfl (.tmp 12) (.tmp 13) 39 39 rfl 138 underlying39 usize (some ⟨w,0,none⟩) A p.length p.length p.length c rfl rfl w.heap.size 0 _ 138 hG1.out (p.map (Value.int .u32)) Hlen.out (HA1.out.copied _) Hfit.out (a6G p) w w hB1 lR ?_;intro w2 hsp hB2)
 have hArr:Arr .u32 138 w2 w p:=by
  unfold Arr;rw [hsp.out]
  congr 3
  rw [splice];simp
 clear hsp hG1 HA1 Hlen Hfit;obtain⟨HL,HQ,Hle⟩:=Z3 hL hQ hle;clear hL hQ hle;go_wp2
 go_loopw [6,17] (fun cr i wr=>∃(k:Nat) (P:List Int) (bw:Int),k<=p.length/\i=.int .i64 k/\cr=.int .u32 bw/\(bw=0∨bw=1)/\P.length=k/\Big.Lim 1000000000 P /\
  Big.val 1000000000 P-1000000000 ^ k*bw=Big.val 1000000000 (p.take k)-Big.val 1000000000 (q.take k)/\Arr .u32 138 wr w (P++p.drop k)/\Below w w wr) (fun _ i _=>p.length-(intOf i).toNat)
 case atStart=>exact⟨0,[],0,Nat.zero_le _,rfl,rfl,.inl rfl,rfl,Big.Lim.nil,by simp [Big.val],by simpa using hArr,hB2⟩
 case round =>
  obtain⟨k,P,bw,hk,rfl,rfl,hbw,hPl,hPL,hv,ha,hb⟩:=hrel;have Hbw:=Z1 hbw;have hbw0:0<=bw:=oM;have hbw1:bw<=1:=oM;obtain⟨HPl,HPL,Hv⟩:=Z3 hPl hPL hv;have hgr:w.heap.size<wr.heap.size:=ha.lt;clear hbw hPl hPL hv hArr
  by_cases hlt:k<p.length
  ·have hFl:k<(P++p.drop k).length:=by have:=HPl.out;simp;omega
   have hFk:(P++p.drop k)[k]=p[k]:=by
    have:=HPl.out;rw [List.getElem_append_right oM];simp [this]
   have hc:=ha.cell hFl;rw [hFk] at hc;have hfz:=ha.free k;have hx:=HL.out.get k hlt;have hx0:=hx.1;have hx1:=hx.2;have Ha:=Z1 ha
   have hset:∀ y:Int,Hid ((P++p.drop k).set k y=(P++[y])++p.drop (k+1)):=fun y=>by
    show _=_;have:=HPl.out;rw [List.set_append_right _ _ oM,this,Nat.sub_self,List.drop_eq_getElem_cons hlt,List.set_cons_zero];simp only [List.append_assoc,List.cons_append,List.nil_append]
   have hset2:∀ x y:Int,Hid (((P++p.drop k).set k x).set k y=(P++[y])++p.drop (k+1)):=fun x y=>by
    show _=_;rw [List.set_set];exact(hset y).out
   clear hx hFl hFk ha
   by_cases hkm:k<q.length
   ·obtain⟨b,o,rfl,hbB,hy⟩:=(hB.below hb lR).look hkm
    have hyl:=HQ.out.get k hkm;have hy0:=hyl.1;have hy1:=hyl.2;have hbwr:b<wr.heap.size:=oM;clear hyl
    by_cases hlo:p[k]<bw+q[k]
    ·go_wp2
     go_roundw
     case rel =>
      refine⟨k+1,P++[p[k]+1000000000-(bw+q[k])],1,oM,by go_num,rfl,oM,by simp [HPl.out],Big.Lim.append.2 ⟨HPL.out,fun a ha=>?_⟩,a3a (x:=p[k]) (y:=q[k]) (bw:=bw) (dg:=p[k]+1000000000-(bw+q[k])) (bw':=1) Hv.out HPl.out oM (Big.val_take_succ _ _ _ hlt) (Big.val_take_succ _ _ _ hkm),?_,(hb.setCell lR _).setCell lR _⟩
      ·rw [List.mem_singleton] at ha;subst ha;omega
      ·have:=(Ha.out.set k (p[k]+1000000000)).set k (p[k]+1000000000-(bw+q[k]))
       rwa [(hset2 _ _).out] at this
     case measure=>simp [intOf];omega
    ·go_wp2
     go_roundw
     case rel =>
      refine⟨k+1,P++[p[k] - (bw+q[k])],0,oM,by go_num,rfl,oM,by simp [HPl.out],Big.Lim.append.2 ⟨HPL.out,fun a ha=>?_⟩,a3a (x:=p[k]) (y:=q[k]) (bw:=bw) (dg:=p[k] - (bw+q[k])) (bw':=0) Hv.out HPl.out oM (Big.val_take_succ _ _ _ hlt) (Big.val_take_succ _ _ _ hkm),?_,hb.setCell lR _⟩
      ·rw [List.mem_singleton] at ha;subst ha;omega
      ·have:=Ha.out.set k (p[k] - (bw+q[k]))
       rwa [(hset _).out] at this
     case measure=>simp [intOf];omega
   ·have htq:Hid (q.take k=q):=by show _=_;exact List.take_of_length_le oM
    have htq1:Hid (q.take (k+1)=q):=by show _=_;exact List.take_of_length_le oM
    by_cases hlo:p[k]<bw
    ·go_wp2
     go_roundw
     case rel =>
      refine⟨k+1,P++[p[k]+1000000000-bw],1,oM,by go_num,rfl,oM,by simp [HPl.out],Big.Lim.append.2 ⟨HPL.out,fun a ha=>?_⟩,a3a (x:=p[k]) (y:=0) (bw:=bw) (dg:=p[k]+1000000000-bw) (bw':=1) Hv.out HPl.out oM (Big.val_take_succ _ _ _ hlt) (by rw [htq.out,htq1.out,Int.mul_zero,Int.add_zero]),?_,(hb.setCell lR _).setCell lR _⟩
      ·rw [List.mem_singleton] at ha;subst ha;omega
      ·have:=(Ha.out.set k (p[k]+1000000000)).set k (p[k]+1000000000-bw)
       rwa [(hset2 _ _).out] at this
     case measure=>simp [intOf];omega
    ·go_wp2
     go_roundw
     case rel =>
      refine⟨k+1,P++[p[k] - bw],0,oM,by go_num,rfl,oM,by simp [HPl.out],Big.Lim.append.2 ⟨HPL.out,fun a ha=>?_⟩,a3a (x:=p[k]) (y:=0) (bw:=bw) (dg:=p[k] - bw) (bw':=0) Hv.out HPl.out oM (Big.val_take_succ _ _ _ hlt) (by rw [htq.out,htq1.out,Int.mul_zero,Int.add_zero]),?_,hb.setCell lR _⟩
      ·rw [List.mem_singleton] at ha;subst ha;omega
      ·have:=Ha.out.set k (p[k] - bw)
       rwa [(hset _).out] at this
     case measure=>simp [intOf];omega
  ·obtain rfl:k=p.length:=oM
   have hpl:=HPl.out;have hv:=Hv.out;rw [List.take_length,List.take_of_length_le (show q.length<=p.length by omega)] at hv;rw [List.drop_length,List.append_nil] at ha
   have h0:bw=0:=by
    rcases Hbw.out with h | h
    ·exact h
    ·exfalso
     subst h;have h1:=Big.val_lt (B:=1000000000) oM HPL.out;rw [hpl] at h1;have h2:=Hle.out;rw [Int.mul_one] at hv;omega
   subst h0;have Hend:Hid (Big.val 1000000000 P=Big.val 1000000000 p-Big.val 1000000000 q):=by show _=_;rw [Int.mul_zero,Int.sub_zero] at hv;exact hv
   have Hlim:=Z1 (ha.limbs hgr);clear hv ha hpl Hv;go_wp2;go_ret;have hpl:=HPl.out;exact⟨hb,_,p.length,p.length,P,rfl,hpl,lR,lR,HPL.out,Hend.out,Hlim.out,fun b o h=>by cases h;exact lR⟩
end
open Tryz Go.RowKit

theorem a6s (B:Int):∀(F:List Int) (t:Nat) (x:Int) (h:t<F.length),Big.val B (F.set t x)=Big.val B F+B ^ t*(x-F[t])
 | a::F,0,x,_=>by simp [Big.val];omega
 | a::F,t+1,x,h=>by
  have ih:=a6s B F t x (by simpa using h);rw [List.set_cons_succ,Big.val_cons,ih,Big.val_cons,List.getElem_cons_succ,Int.pow_succ,Int.mul_add,Int.mul_comm (B ^ t) B,Int.mul_assoc];omega
theorem a1N {B:Int} {F:List Int} (h:Big.Lim B F) {t:Nat} {x:Int} (h0:0<=x) (h1:x<B):Big.Lim B (F.set t x):=by
 intro a ha
 rcases List.mem_or_eq_of_mem_set ha with ha | rfl
 ·exact h a ha
 ·exact⟨h0,h1⟩
theorem b1d {B:Int} {F:List Int} {t:Nat} {V x y cy s:Int} {W:Int} (ht:t<F.length) (h:Big.val B F+B ^ t*cy=V+W) (hs:s=x*y+F[t]+cy) :
  Big.val B (F.set t (s % B))+B ^ (t+1)*(s / B)=V+(W+B ^ t*(x*y)):=by
 rw [a6s B F t _ ht,Int.pow_succ,Int.mul_assoc];have h1:B ^ t*(s % B)+B ^ t*(B*(s / B))=B ^ t*s:=by rw [<- Int.mul_add,Int.emod_add_mul_ediv]
 have h2:B ^ t*s=B ^ t*(x*y)+B ^ t*F[t]+B ^ t*cy:=by rw [hs,Int.mul_add,Int.mul_add]
 have h3:B ^ t*(s % B-F[t])=B ^ t*(s % B)-B ^ t*F[t]:=Int.mul_sub _ _ _;omega

theorem b3v (B x v y:Int) (i j:Nat):B ^ i*(x*(v+B ^ j*y))=B ^ i*(x*v)+B ^ (i+j)*(x*y):=by
 rw [Int.pow_add,Int.mul_add,Int.mul_add,Int.mul_left_comm x (B ^ j) y,Int.mul_assoc]

def TimesPost (k:Nat) (V:Int) (w:World) (e:Ending) (w':World):Prop :=
 Below w w w'/\∃ F:List Int,e=.returned (.slice (some ⟨w,0,none⟩) k k)/\F.length=k/\Big.Lim 1000000000 F/\Big.val 1000000000 F=V/\Arr .u32 138 w' w F
section
variable (w:World)
theorem a3n (A B:Option Addr) (n m c d:Nat) (p q:List Int) (hl:p.length=n) (hq:q.length=m) (hn:n<=100000000000) (hm:m<=100000000000) (hL:Big.Lim 1000000000 p) (hQ:Big.Lim 1000000000 q)
  (hA:LimbsAt .u32 w w A p) (hB:LimbsAt .u32 w w B q) :
  Calls prog 139 #[.slice A n c,.slice B m d] w (TimesPost (n+m) (Big.val 1000000000 p*Big.val 1000000000 q) w):=by
 subst hl hq;obtain⟨i0,hi,hz0,hz1,hz2⟩:=info_parts uinfo;have Hn1:Hid (((p.length:Int)+(q.length:Int))=((p.length+q.length:Nat):Int)):=by show _=_;omega
 have Hnp:p.length+q.length<=p.length+q.length:=Nat.le_refl _;have Hb2:p.length+q.length<=1000000000000:=oM;go_enter func139,ntmps139;go_upto_region 2 with(refine a0G rfl _ _ 39 rfl .u32 138 i0 4 underlying39 hi hz0 hz1 hz2 _ _ _ _ (p.length+q.length) (p.length+q.length) rfl rfl Hn1.out Hn1.out Hnp dC Hb2 ?_;intro w1 hw1);have hB1:Below w w w1:=by rw [hw1.out];exact bR.alloc lR _
 have hArr:Arr .u32 138 w1 w (List.replicate (p.length+q.length) 0):=by
  unfold Arr;rw [hw1.out];exact heap_alloc_new w _
 have HL:=Z1 hL;have HQ:=Z1 hQ;clear hw1 hL hQ Hn1;go_wp2
 go_loopw [22] (fun ix wr=>∃(i:Nat) (F:List Int),i<=p.length/\ix=.int .i64 i/\F.length=p.length+q.length/\Big.Lim 1000000000 F/\Big.val 1000000000 F=Big.val 1000000000 (p.take i)*Big.val 1000000000 q /\
  (∀ t (h:t<F.length),i+q.length<=t->F[t]=0)/\Arr .u32 138 wr w F/\Below w w wr) (fun ix _=>p.length-(intOf ix).toNat)
 case atStart=>exact⟨0,_,Nat.zero_le _,rfl,sP,Big.Lim.zeros oM _,by simp [Big.val_zeros,Big.val],fun t h _=>sP,hArr,hB1⟩
 case round =>
  obtain⟨i,F,hi',rfl,hFl,hFL,hv,hz,ha,hb⟩:=hrel;obtain⟨HFl,HFL,Hv,Hz,Ha⟩:=Z5 hFl hFL hv hz ha;have hgr:w.heap.size<wr.heap.size:=ha.lt;clear hFl hFL hv hz ha hArr
  by_cases hlt:i<p.length
  ·obtain⟨b1,o1,rfl,hb1,hx⟩:=(hA.below hb lR).look hlt
   have hxl:=HL.out.get i hlt;have hx0:=hxl.1;have hx1:=hxl.2;have hbwr:b1<wr.heap.size:=oM;clear hxl;obtain⟨wo,rfl⟩:∃ wo:World,wo=wr:=⟨_,rfl⟩;have hin:i+q.length<p.length+q.length:=oM;go_wp2
   go_loopw [8,29] (fun cr ij wr=>∃(j:Nat) (G:List Int) (cy:Int),j<=q.length/\ij=.int .i64 j/\cr=.int .u64 cy/\0<=cy/\cy<1000000000/\G.length=p.length+q.length/\Big.Lim 1000000000 G /\
    Big.val 1000000000 G+1000000000 ^ (i+j)*cy=Big.val 1000000000 (p.take i)*Big.val 1000000000 q+1000000000 ^ i*(p[i]*Big.val 1000000000 (q.take j)) /\
    (∀ t (h:t<G.length),i+q.length<=t->G[t]=0)/\Arr .u32 138 wr w G/\Below w w wr) (fun _ ij _=>q.length-(intOf ij).toNat)
   case atStart=>exact⟨0,F,0,Nat.zero_le _,rfl,rfl,oM,oM,HFl.out,HFL.out,by simp [Big.val,Hv.out],Hz.out,Ha.out,hb⟩
   case round =>
    obtain⟨j,G,cy,hj,rfl,rfl,hc0,hc1,hGl,hGL,hGv,hGz,hGa,hGb⟩:=hrel;obtain⟨HGl,HGL,HGv,HGz,HGa⟩:=Z5 hGl hGL hGv hGz hGa;have hgr2:w.heap.size<wr.heap.size:=hGa.lt;clear hGl hGL hGv hGz hGa hgr
    by_cases hjm:j<q.length
    ·obtain⟨b2,o2,rfl,hb2,hy⟩:=(hB.below hGb lR).look hjm
     have hyl:=HQ.out.get j hjm;have hy0:=hyl.1;have hy1:=hyl.2;have hb2w:b2<wr.heap.size:=oM;have hGt:i+j<G.length:=by have:=HGl.out;omega
     have hcell:=HGa.out.cell hGt;have hfz:=HGa.out.free (i+j);have hgl:=HGL.out.get (i+j) hGt;have hg0:=hgl.1;have hg1:=hgl.2;have hxy0:0<=p[i]*q[j]:=Int.mul_nonneg hx0 hy0;have hxy1:p[i]*q[j]<=999999999*999999999:=Int.mul_le_mul oM oM hy0 oM;have hij:i+j<p.length+q.length:=oM;clear hyl hgl;go_wp2;go_roundw
     case rel =>
      refine⟨j+1,G.set (i+j) ((p[i]*q[j]+G[i+j]+cy) % 1000000000),(p[i]*q[j]+G[i+j]+cy) / 1000000000,oM,by go_num,rfl,oM,oM,by rw [List.length_set];exact HGl.out,a1N HGL.out oM oM,?_,?_,HGa.out.set (i+j) _,hGb.setCell lR _⟩
      ·have h1:=b1d (x:=p[i]) (y:=q[j]) hGt HGv.out rfl
       rw [Big.val_take_succ _ _ _ hjm,b3v];exact h1
      ·intro t ht htl
       rw [List.getElem_set_ne oM];exact HGz.out t (by simpa using ht) htl
     case measure=>simp [intOf];omega
    ·obtain rfl:j=q.length:=oM
     have hV:Hid (Big.val 1000000000 G+1000000000 ^ (i+q.length)*cy=Big.val 1000000000 (p.take (i+1))*Big.val 1000000000 q):=by
      show _=_;rw [HGv.out,List.take_length,Big.val_take_succ _ _ _ hlt,Int.add_mul,Int.mul_assoc]
     clear HGv;go_wp2;obtain⟨wi,rfl⟩:∃ wi:World,wi=wr:=⟨_,rfl⟩
     go_loopw [8,12] (fun cr ik wr=>∃(t:Nat) (E:List Int) (cz:Int),i+q.length<=t/\t<=i+q.length+1/\ik=.int .i64 t/\cr=.int .u64 cz/\0<=cz/\cz<1000000000/\(cz=0∨t=i+q.length)/\E.length=p.length+q.length/\Big.Lim 1000000000 E /\
      Big.val 1000000000 E+1000000000 ^ (i+q.length)*cz=Big.val 1000000000 (p.take (i+1))*Big.val 1000000000 q /\
      (∀ s (h:s<E.length),t<=s->E[s]=0)/\Arr .u32 138 wr w E/\Below w w wr) (fun cr _ _=>(intOf cr).toNat)
     case atStart=>exact⟨i+q.length,G,cy,lR,oM,by go_num,rfl,hc0,hc1,.inr rfl,HGl.out,HGL.out,hV.out,HGz.out,HGa.out,hGb⟩
     case round =>
      obtain⟨t,E,cz,ht0,ht1,rfl,rfl,hz0',hz1',hor,hEl,hEL,hEv,hEz,hEa,hEb⟩:=hrel;obtain⟨HEl,HEL,HEv,HEz,HEa,Hor⟩:=Z6 hEl hEL hEv hEz hEa hor;have hgr3:w.heap.size<wr.heap.size:=hEa.lt;clear hEl hEL hEv hEz hEa hor hgr2
      by_cases hcz:0<cz
      ·have htl:t<E.length:=by have:=HEl.out;have:=Hor.out;omega
       have hE0:=HEz.out t htl lR;have hcell:=HEa.out.cell htl;rw [hE0] at hcell;have hfz:=HEa.out.free t;have htn:t<p.length+q.length:=by have:=HEl.out;omega
       have Htt:Hid (t=i+q.length):=by show _=_;have:=Hor.out;omega
       have HE0:=Z1 hE0;clear hE0;go_wp2;go_roundw
       case rel =>
        have hc1':cz % 1000000000=cz:=Int.emod_eq_of_lt oM hz1';have hc2':cz / 1000000000=0:=Int.ediv_eq_zero_of_lt oM hz1';refine⟨t+1,E.set t (cz % 1000000000),cz / 1000000000,oM,by have:=Htt.out;omega,by go_num,rfl,oM,oM,.inl hc2',by rw [List.length_set];exact HEl.out,a1N HEL.out oM oM,?_,?_,HEa.out.set t _,hEb.setCell lR _⟩
        ·rw [hc1',hc2',a6s _ _ _ _ htl,HE0.out,Int.sub_zero,Int.mul_zero,Int.add_zero]
         have:=HEv.out;rw [<- Htt.out] at this;exact this
        ·intro s hs hts
         rw [List.getElem_set_ne oM];exact HEz.out s (by simpa using hs) oM
       case measure=>simp [intOf];omega
      ·obtain rfl:cz=0:=oM
       go_wp2;go_roundw
       case rel=>exact⟨i+1,E,oM,by go_num,HEl.out,HEL.out,by have:=HEv.out;rwa [Int.mul_zero,Int.add_zero] at this,fun s hs hts=>HEz.out s hs oM,HEa.out,hEb⟩
       case measure=>simp [intOf];omega
  ·obtain rfl:i=p.length:=oM
   have hEnd:Hid (Big.val 1000000000 F=Big.val 1000000000 p*Big.val 1000000000 q):=by show _=_;have:=Hv.out;rwa [List.take_length] at this
   clear Hv;go_wp2;go_ret;exact⟨hb,F,rfl,HFl.out,HFL.out,hEnd.out,Ha.out⟩
theorem a8z (A B:Option Addr) (n m c d:Nat) (p q:List Int) (hl:p.length=n) (hq:q.length=m) (hn:n<=100000000000) (hm:m<=100000000000) (hL:Big.Lim 1000000000 p) (hQ:Big.Lim 1000000000 q)
  (hA:LimbsAt .u32 w w A p) (hB:LimbsAt .u32 w w B q) :
  Calls prog 139 #[.slice A n c,.slice B m d] w (LimbPost (n+m) (Big.val 1000000000 p*Big.val 1000000000 q) w):=by
 refine(a3n w A B n m c d p q hl hq hn hm hL hQ hA hB).mono ?_;rintro e w' ⟨hb,F,rfl,h1,h2,h3,h4⟩;exact⟨hb,_,n+m,n+m,F,rfl,h1,lR,lR,h2,h3,h4.limbs h4.lt,fun b o h=>by cases h;exact lR⟩
end
end Go.Proofs.YtniaimjknmhapaaGreatDoor
