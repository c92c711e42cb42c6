/- Lemmas. -/
import Derived.Deep.RegionHeld3
import Derived.OwnWalk
import Derived.Laws.CopyOwn
import Derived.Deep.DeepCutAuto
import Derived.Test.YtbhdekahdnenjaaGreatDoorG00
set_option linter.unusedVariables false
set_option linter.unusedSimpArgs false
set_option maxRecDepth 100000
set_option maxHeartbeats 16000000
namespace Go.Proofs.YtbhdekahdnenjaaGreatDoor
open Tryz Go.RowKit
variable (w:World)
def limbTy (K:IK):TypeId:=match K with
 |.u32=>120
 |_=>3
def LTyped (K:IK) (w:World) (b:Nat):Prop:=∃cur a,w.heap[b]?=some (.cells cur (limbTy K) a)
theorem LTyped.of_block {K:IK} {w w'} {b} (h:LTyped K w b) (e:w'.heap[b]?=w.heap[b]?):LTyped K w' b:=by
 obtain⟨cur,a,h⟩:=h;exact⟨cur,a,e.trans h⟩
def LimbsAt (K:IK) (w:World) (B:Nat) (A:OA) (l:LI):Prop :=
 l=[]∨∃b o,A=some ⟨b,o,none⟩/\b<B/\(∀k (h:k<l.length),(w.cell? ⟨b,o+k,none⟩=some (.int K l[k])))/\LTyped K w b
theorem LimbsAt.below {K:IK} {w w'} {B C} {A} {l} (h:LimbsAt K w B A l) (s:Below C w w') (i:B<=C):LimbsAt K w' B A l:=by
 rcases h with h|⟨b,o,e,a,E⟩
 ·exact .inl h
 ·exact .inr ⟨b,o,e,a,fun k I=>(s.cell (p:=⟨b,_,none⟩) (Xg a i)).trans (E.1 k I),E.2.of_block (s.block _ (Xg a i))⟩
theorem LimbsAt.more {K:IK} {w} {B C} {A} {l} (h:LimbsAt K w B A l) (i:B<=C):LimbsAt K w C A l:=by
 rcases h with h|⟨b,o,e,s,a⟩
 ·exact .inl h
 ·exact .inr ⟨b,o,e,oM,a⟩
theorem LimbsAt.at_ {K:IK} {w w'} {B} {A} {l} (h:LimbsAt K w B A l) (a:Below B w w') (i:B<=w):LimbsAt K w' w' A l :=
 (h.below a lR).more (Vn i a.size)
theorem LimbsAt.start {K:IK} {w} {A} {l} (h:LimbsAt K w w A l) (o):LimbsAt K (w.alloc o) (w.alloc o).heap.size A l :=
 (h.below ((VM w w).alloc lR o) lR).more sP
theorem LimbsAt.look {K:IK} {w} {B} {A} {l} (h:LimbsAt K w B A l) {k} (a:k<l.length) :
  ∃b o,A=some ⟨b,o,none⟩/\b<B/\w.cell? ⟨b,o+k,none⟩=some (.int K l[k]):=by
 rcases h with h|⟨b,o,e,s,i⟩
 ·subst h;simp at a
 ·exact⟨b,o,e,s,i.1 k a⟩
theorem LimbsAt.nil (K:IK) (w) (B) (A):LimbsAt K w B A []:=.inl rfl
theorem LimbsAt.take {K:IK} {w} {B} {A} {l} (h:LimbsAt K w B A l) (k):LimbsAt K w B A (l.take k):=by
 rcases h with h|⟨b,o,e,s,a⟩
 ·subst h;left;simp
 ·refine .inr ⟨b,o,e,s,fun j i=>?_,a.2⟩
  rw[XF] at i;rw[List.getElem_take];exact a.1 j oM
def PI (w:World) (B:Nat) (k:Nat) (v:Value) (z:Int):Prop :=
 ∃(neg:Bool) (A:OA) (n c:Nat) (l:LI),v=.agg #[neg,.slice A n c]/\l.length=n/\n<=k/\n<=c/\Big.Lim 1000000000 l/\Big.Norm l/\(neg->0<n)/\z=Big.sgn neg (Big.val 1000000000 l)/\LimbsAt .u32 w B A l
theorem a3s (A) (n c) (l) (O:l.length=n) (S:n<=100000000000) (Q:n<=c) (h:LimbsAt .u32 w w A l) :
  Calls prog 93 #[.slice A n c] w fun e w'=>e=.returned (.slice A (Big.trim l).length c)/\w=w':=by
 subst O;go_enter func93,ntmps93;go_wp2
 go_loop [0] (fun v=>∃k:Nat,k<=l.length/\v=.slice A k c/\Big.trim (l.take k)=Big.trim l) (fun v=>match v with|.slice _ n _=>n|_=>0)
 case atStart=>exact⟨l.length,lR,rfl,by rw[Xs]⟩
 case round =>
  obtain⟨k,J,rfl,L⟩:=hrel;have s:=Z1 L;clear L
  match k,J with
  |0,_ =>
   have a:Hid ((Big.trim l).length=0):=by show _=_;rw[<- s];rfl
   go_wp2;go_ret;exact⟨by rw[a.out];rfl,rfl⟩
  |k+1,J =>
   obtain⟨b,o,rfl,_,I⟩:=h.look (show k<l.length by omega)
   by_cases a:l[k]=0
   ·have E:(l[k]==0):=by simp[a]
    have i:Hid (Big.trim (l.take k)=Big.trim l):=by show _=_;rw[<- Big.trim_take (show k<l.length by omega) a];exact s
    clear a;go_wp2
    go_round
    case rel=>exact⟨k,oM,by go_num,i⟩
    case measure=>simp
   ·have E:(l[k]==0)=false:=by simp[a]
    have i:Hid ((Big.trim l).length=k+1):=by
     show _=_;rw[<- s,Big.trim_take_stop (show k<l.length by omega) a,XF];omega
    clear a;go_wp2;go_ret;exact⟨by rw[i];rfl,rfl⟩
theorem a0R (neg:Bool) (A) (n c) (l) (i:l.length=n) (o:n<=100000000000) (a:n<=c) (h:LimbsAt .u32 w w A l) :
  CL 44 #[neg,.slice A n c] w (.agg #[.bool (neg&&decide (0<(Big.trim l).length)),.slice A (Big.trim l).length c]):=by
 have H:=Z1 (h.start (.cells #[false,.slice none 0 0] 50));clear h
 cases neg
 all_goals
  go_enter func44,ntmps44;go_wp2_with (go_at_call 93;refine(a3s _ A n c l i o a H).mono ?_;rintro e s ⟨rfl,rfl⟩)
 ·refine VG (v:=.agg #[false,.slice A (Big.trim l).length c]) (by simp[results,results44,go_sem]) rfl ⟨rfl,bR.alloc lR _⟩
 ·refine VG (v:=.agg #[.bool (decide (0<(Big.trim l).length)),.slice A (Big.trim l).length c]) (by simp[results,results44,go_sem]) rfl ⟨by rw[Y7],bR.alloc lR _⟩
theorem PI.mk {w} {B k} {neg} {A} {n c} {l} (O:l.length=n) (Q:n<=k) (L:n<=c) (I:Big.Lim 1000000000 l) (h:LimbsAt .u32 w B A l) :
  PI w B k (.agg #[.bool (neg&&decide (0<(Big.trim l).length)),.slice A (Big.trim l).length c]) (Big.sgn neg (Big.val 1000000000 l)):=by
 obtain⟨a,s,J,E⟩:=Big.trim_spec 1000000000 l;refine⟨_,A,_,c,Big.trim l,rfl,rfl,oM,oM,Big.trim_lim I,s,?_,?_,by rw[E];exact h.take _⟩
 ·intro i
  simp only[Vp,Xm] at i;exact i.2
 ·rw[a]
  cases neg with
  |false=>rfl
  |true =>
   by_cases o:0<(Big.trim l).length
   ·simp[o]
   ·have hv:Big.val 1000000000 l=0:=by rw[<- a,List.length_eq_zero_iff.1 (show(Big.trim l).length=0 by omega)];rfl
    rw[hv];simp[Big.sgn]
theorem PI.below {w w'} {B C k} {v} {z} (h:PI w B k v z) (Q:Below C w w') (O:B<=C):PI w' B k v z:=by
 obtain⟨neg,A,n,c,l,a,i,o,s,E,I,J,L,h9⟩:=h;exact⟨neg,A,n,c,l,a,i,o,s,E,I,J,L,h9.below Q O⟩
theorem PI.more {w} {B C k j} {v} {z} (h:PI w B k v z) (L:B<=C) (Q:k<=j):PI w C j v z:=by
 obtain⟨neg,A,n,c,l,a,i,O,o,s,E,I,J,h9⟩:=h;exact⟨neg,A,n,c,l,a,i,oM,o,s,E,I,J,h9.more L⟩
theorem PI.at_ {w w'} {k} {v} {z} (h:PI w w k v z) (a:Below w w w'):PI w' w' k v z :=
 (h.below a lR).more a.size lR
theorem PI.tight {w} {B k j} {v} {z} (h:PI w B k v z) (O:-1000000000 ^ j<z) (Q:z<1000000000 ^ j):PI w B j v z:=by
 obtain⟨neg,A,n,c,l,E,o,_,I,a,s,J,i,L⟩:=h;refine⟨neg,A,n,c,l,E,o,?_,I,a,s,J,i,L⟩;rw[<- o];refine Big.length_le oM a s j ?_;have:=Big.val_nonneg oM a
 cases neg with
 |false=>simp[Big.sgn] at i;omega
 |true=>simp[Big.sgn] at i;omega
def sg (z:Int):Int:=if z=0 then 0 else if z<0 then-1 else 1
theorem PI.parts {w} {B k} {v} {z} (h:PI w B k v z):∃(neg:Bool) (A:OA) (n c:Nat) (l:LI),v=.agg #[neg,.slice A n c]/\l.length=n/\n<=k/\n<=c/\Big.Lim 1000000000 l/\Big.Norm l/\z=Big.sgn neg (Big.val 1000000000 l)/\LimbsAt .u32 w B A l /\
  ((n=0/\neg=false/\z=0)∨(0<n/\neg=false/\0<z)∨(0<n/\neg/\z<0)):=by
 obtain⟨neg,A,n,c,l,L,I,O,Q,o,J,S,i,h9⟩:=h;refine⟨neg,A,n,c,l,L,I,O,Q,o,J,i,h9,?_⟩;have hv:=Big.val_nonneg oM o;have X:=Big.val_zero oM o J
 rcases Y0 n with a|a
 ·left
  have s:l=[]:=List.length_eq_zero_iff.1 oM
  have E:neg=false:=by
   cases T:neg with
   |false=>rfl
   |true=>have:=S T;omega
  subst E s;exact⟨a,rfl,by rw[i];rfl⟩
 ·have W:Big.val 1000000000 l≠0:=fun e=>by have:=X.1 e;subst this;simp at I;omega
  cases neg with
  |false=>right;left;exact⟨a,rfl,by rw[i];simp[Big.sgn];omega⟩
  |true=>right;right;exact⟨a,rfl,by rw[i];simp[Big.sgn];omega⟩
theorem a0Y (k) (v) (z) (h:PI w w k v z) :
  CL 42 #[v] w (sg z):=by
 obtain⟨neg,A,n,c,l,rfl,o,L,J,_,_,_,_,I⟩:=h.parts
 rcases I with⟨i,rfl,a⟩|⟨i,rfl,a⟩|⟨i,rfl,a⟩
 ·have E:Hid (sg z=0):=by show _=_;simp[sg,a]
  subst i;clear a o;go_enter func42,ntmps42;go_wp2;go_ret;exact⟨by rw[E.out];rfl,bR.alloc lR _⟩
 ·have E:Hid (sg z=1):=by show _=_;unfold sg;rw[VB oM,VB oM]
  have s:((n:Int)==0)=false:=sO;clear a o;go_enter func42,ntmps42;go_wp2;go_ret;exact⟨by rw[E.out];rfl,bR.alloc lR _⟩
 ·have E:Hid (sg z=-1):=by show _=_;unfold sg;rw[VB oM,Vt oM]
  have s:((n:Int)==0)=false:=sO;clear a o;go_enter func42,ntmps42;go_wp2;go_ret;exact⟨by rw[E.out];rfl,bR.alloc lR _⟩
theorem b3X (k) (v) (z) (hk:k<=100000000000) (h:PI w w k v z) :
  Calls prog 205 #[v] w fun e w'=>(∃u,e=.returned u/\PI w' w' k u (-z))/\Below w w w':=by
 obtain⟨neg,A,n,c,l,rfl,Q,hn,O,X,_,S,o,_⟩:=h.parts;have E:Hid (-z=Big.sgn (!neg) (Big.val 1000000000 l)):=by show _=_;rw[S];cases neg <;> simp[Big.sgn]
 have H:=Z1 ((o.start (.cells #[neg,.slice A n c] 50)).start (.cells #[false,.slice none 0 0] 50));have s:=((VM w w).alloc lR (.cells #[neg,.slice A n c] 50)).alloc sP (.cells #[false,.slice none 0 0] 50);have J:=Vh (w.alloc (.cells #[neg,.slice A n c] 50)) (.cells #[false,.slice none 0 0] 50);rw[show(w.alloc (.cells #[neg,.slice A n c] 50)).heap.size=w.heap.size+1 by simp] at J;have hP:=Z1 (PI.mk (neg:=!neg) Q hn O X o);clear S o h;go_enter func205,ntmps205;go_wp2_with (fail);refine(a0R _ (!neg) A n c l Q oM O H).mono ?_;rintro e w1 ⟨rfl,L⟩;have I:=s.trans (L.mono sO);have a:=(L.block _ sP).trans J;have T:=cr9 0 a;have W:=cr9 1 a;have zf:=fun j=>fr0 j a;simp at T W;clear J a;go_wp2;have i:=(I.setCell (p:=⟨w+1,0,none⟩) sP (.bool (!neg&&decide (0<(Big.trim l).length)))).setCell (p:=⟨w+1,1,none⟩) sP (.slice A (Big.trim l).length c);refine VG (v:=.agg #[.bool (!neg&&decide (0<(Big.trim l).length)),.slice A (Big.trim l).length c]) (by simp[results,results205,go_sem,T,W]) rfl ⟨⟨_,rfl,?_⟩,i⟩;rw[E.out];exact hP.out.at_ i
theorem Vw {n} {a w} (h:Below n a w) (q):Below n a (w.drewN q):=⟨h.os,h.tape,h.output,h.size,h.block⟩
def cm (x y:Int):Int:=if x<y then-1 else if y<x then 1 else 0
theorem a0V (A B) (n m c d) (l q) (hl:l.length=n) (hq:q.length=m) (hn:n<=100000000000) (hm:m<=100000000000) (S:Big.Lim 1000000000 l) (T:Big.Lim 1000000000 q) (W:Big.Norm l) (X:Big.Norm q)
  (hA:LimbsAt .u32 w w A l) (hB:LimbsAt .u32 w w B q) :
  CL 43 #[.slice A n c,.slice B m d] w (.int .i64 (cm (Big.val 1000000000 l) (Big.val 1000000000 q))):=by
 subst hl hq
 rcases Kz l.length q.length with J|o|J
 ·have E:Hid (cm (Big.val 1000000000 l) (Big.val 1000000000 q)=-1):=by
   show _=_;unfold cm;rw[Vt (Big.longer_lt oM S T X J)]
  go_enter func43,ntmps43;go_wp2;go_ret;exact⟨by rw[E.out];rfl,bR⟩
 ·go_enter func43,ntmps43
  go_wp2
  go_loopw [5] (fun i wr=>∃k:Nat,k<=l.length/\i=.int .i64 ((k:Int)-1)/\l.drop k=q.drop k/\Below w w wr) (fun i _=>(intOf i+1).toNat)
  case atStart=>exact⟨l.length,lR,by first|rfl|(rw[o]),by rw[Yf lR,Yf oM],bR⟩
  case round =>
   obtain⟨k,hk,rfl,he,L⟩:=hrel;have Q:=Z1 he;clear he
   match k,hk with
   |0,_ =>
    have E:Hid (cm (Big.val 1000000000 l) (Big.val 1000000000 q)=0):=by
     show _=_;have h0:=Q.out;simp only[YX] at h0;rw[h0];simp[cm]
    go_wp2;go_ret;exact⟨by rw[E.out];rfl,L⟩
   |k+1,hk =>
    rw[show((k+1:Nat):Int)-1=(k:Int) by omega];have s:k<l.length:=oM;have I:k<q.length:=oM;obtain⟨b1,o1,rfl,_,x1⟩:=(hA.below L lR).look s;obtain⟨b2,o2,rfl,_,x2⟩:=(hB.below L lR).look I;have i0:(0:Int)<=(k:Int):=oM;have i2:(k:Int)<(q.length:Int):=oM
    rcases Z8 l[k] q[k] with a|a|a
    ·have E:Hid (cm (Big.val 1000000000 l) (Big.val 1000000000 q)=-1):=by
      show _=_;unfold cm;rw[Vt (Big.top_lt oM S T o k s Q a)]
     have O:(l[k] != q[k]):=sO;go_wp2_with (go_quiet (fail));go_ret;exact⟨by rw[E.out];rfl,Vw (Vw L _) _⟩
    ·have O:(l[k] != q[k])=false:=by simp[a]
     have Hs:Hid (l.drop k=q.drop k):=by
      show _=_;rw[XS s,XS I,Q,a]
     clear a;go_wp2_with (go_quiet (fail));go_roundw
     case rel=>exact⟨k,oM,by go_num,Hs,Vw L _⟩
     case measure=>simp[intOf]
    ·have E:Hid (cm (Big.val 1000000000 l) (Big.val 1000000000 q)=1):=by
      have h1:=Big.top_lt oM T S o.symm k I Q.symm a;show _=_;unfold cm;rw[VB oM,Vt h1]
     have O:(l[k] != q[k]):=sO;go_wp2_with (go_quiet (fail));go_ret;exact⟨by rw[E.out];rfl,Vw (Vw L _) _⟩
 ·have E:Hid (cm (Big.val 1000000000 l) (Big.val 1000000000 q)=1):=by
   show _=_;unfold cm;have:=Big.longer_lt oM T S W J;rw[VB oM,Vt oM]
  go_enter func43,ntmps43;go_wp2;go_ret;exact⟨by rw[E.out];rfl,bR⟩
theorem VZ:(prog.info? 50).map (·.size)=some 2:=kR
theorem Xq {w:World} {b} {cs} {t} {fr} (h:w.heap[b]?=some (.cells cs t fr)):w.rangeAt b 0 cs.toList:=fun j v a=>by
 rw[VN,cr9 _ h];simpa using a
theorem b4K (x y):(sg x<sg y->cm x y=-1)/\(sg y<sg x->cm x y=1):=by
 unfold sg cm
 by_cases a:x=0 <;> by_cases i:y=0 <;> by_cases o:x<0 <;> by_cases s:y<0 <;> simp[a,i,o,s] <;> omega
theorem a1w {x}:(sg x=1 ↔ 0<x)/\(sg x=-1 ↔ x<0)/\(sg x=0 ↔ x=0):=by
 unfold sg
 by_cases a:x=0 <;> by_cases i:x<0 <;> simp[a,i] <;> omega
theorem b4M {n m} {ng mg} {x y a b} (h:sg x=sg y) (E:(n=0/\ng=false/\x=0)∨(0<n/\ng=false/\0<x)∨(0<n/\ng/\x<0))
  (O:(m=0/\mg=false/\y=0)∨(0<m/\mg=false/\0<y)∨(0<m/\mg/\y<0)) (L:ng) (I:x=Big.sgn ng a) (hy:y=Big.sgn mg b):cm x y=cm b a:=by
 subst L;have s:x<0:=by simp at E;exact E.2
 have i:=(@a1w x).2.1.2 s;have Q:y<0:=(@a1w y).2.1.1 (by rw[<- h,i])
 have o:mg:=by
  rcases O with⟨_,_,e⟩|⟨_,_,e⟩|⟨_,e,_⟩
  ·omega
  ·omega
  ·exact e
 subst o;simp[Big.sgn] at I hy;unfold cm;rw[I,hy]
 by_cases i:a<b <;> by_cases J:b<a <;> simp[i,J] <;> omega
theorem b4L {n m} {ng mg} {x y a b} (h:sg x=sg y) (J:(n=0/\ng=false/\x=0)∨(0<n/\ng=false/\0<x)∨(0<n/\ng/\x<0))
  (L:(m=0/\mg=false/\y=0)∨(0<m/\mg=false/\0<y)∨(0<m/\mg/\y<0)) (I:ng=false) (s:x=Big.sgn ng a) (hy:y=Big.sgn mg b):cm x y=cm a b:=by
 subst I
 have o:¬ x<0:=by
  rcases J with⟨_,_,e⟩|⟨_,_,e⟩|⟨_,e,_⟩
  ·omega
  ·omega
  ·cases e
 have i:mg=false:=by
  rcases L with⟨_,e,_⟩|⟨_,e,_⟩|⟨_,_,e⟩
  ·exact e
  ·exact e
  ·have E:=(@a1w y).2.1.2 e
   exact absurd ((@a1w x).2.1.1 (by rw[h,E])) o
 subst i;simp[Big.sgn] at s hy;rw[s,hy]
theorem a2d (k j) (u v) (x y) (hk:k<=100000000000) (hj:j<=100000000000) (hu:PI w w k u x) (hv:PI w w j v y) :
  CL 18 #[u,v] w (cm x y):=by
 obtain⟨T,A,n,c,l,rfl,hl,hn,_,hL,hN,ac,hA,hs⟩:=hu.parts;obtain⟨mg,B,m,d,q,rfl,hq,hm,_,hQ,hM,ad,hB,ht⟩:=hv.parts;have a5:=Z1 ac;have a4:=Z1 ad;clear ac ad;have J:=((VM w w).alloc lR (.cells #[T,.slice A n c] 50)).alloc sP (.cells #[mg,.slice B m d] 50);obtain⟨o,I⟩:=eX ((w.alloc (.cells #[T,.slice A n c] 50)).alloc (.cells #[mg,.slice B m d] 50));have b0:o.heap[w.heap.size]?=some (.cells #[T,.slice A n c] 50 (0,0)):=by rw[I,VD _ _ _ sP];exact Vh w _
 have b1:o.heap[w.heap.size+1]?=some (.cells #[mg,.slice B m d] 50 (0,0)):=by
  have:=Vh (w.alloc (.cells #[T,.slice A n c] 50)) (.cells #[mg,.slice B m d] 50)
  rwa [show(w.alloc (.cells #[T,.slice A n c] 50)).heap.size=w.heap.size+1 by simp,<- I] at this
 have hz:(o:Nat)=w+1+1:=by rw[I];simp
 rw[<- I] at J;have hU:=hu.at_ J;have hV:=hv.at_ J;obtain⟨HW,Hz,Hs,Ht⟩:=Z4 I hz hs ht;clear I hu hv hs ht;have hS:Below o o o.drew:=Vw bR 1;go_enter func18,ntmps18;go_wp2;rw[<- HW];refine Vs (S:=Below o o) kR ?_;change wpAnyH _ _ _ _ _ _ _ _ o.drew;refine tk (i:=0) (v:=.agg #[T,.slice A n c]) rfl (Vf (by rfl) 50 _ rfl w.heap.size 0 rfl [T,.slice A n c] _ (fun W' X=>?_) Xy rfl VZ) hS ?_
 ·exact Xq ((X.block _ (by have:=Hz.out;omega)).trans b0)
 try simp only[y9]
 refine tk (i:=2) (v:=.agg #[mg,.slice B m d]) rfl (Vf (by rfl) 50 _ rfl (w+1) 0 rfl [mg,.slice B m d] _ (fun W' X=>?_) Xy rfl VZ) hS ?_
 ·exact Xq ((X.block _ (by have:=Hz.out;omega)).trans b1)
 try simp only[y9]
 refine rZ 1 fun K L=>?_;go_simp;refine(a0Y _ k _ x (hU.at_ hS)).mono ?_;rintro e w1 ⟨rfl,a7⟩;have O:Below o o w1:=hS.trans (a7.mono lR);refine jK L O ?_;clear L K;refine rZ 3 fun K L=>?_;go_simp;refine(a0Y _ j _ y (hV.at_ O)).mono ?_;rintro e w2 ⟨rfl,a8⟩;have s:Below o o w2:=O.trans (a8.mono O.size);refine jK L s ?_;clear L K;refine rZ 4 fun K L=>?_;go_simp;refine jK L s ?_;clear L K;refine rZ 5 fun K L=>?_;go_simp;refine jK L s ?_;clear L K;refine VF kR ?_ _;have a:=J.trans (s.mono J.size);have a0:=(s.block w (by have:=Hz.out;omega)).trans b0;have a9:=(s.block (w+1) (by have:=Hz.out;omega)).trans b1;have c0:=cr9 0 a0;have c1:=cr9 1 a0;have d1:=cr9 1 a9;simp at c0 c1 d1;have a6:=Z1 ((hA.below a lR).more a.size);have Q:=Z1 ((hB.below a lR).more a.size)
 clear b0 b1 hU hV a0 a9 hA hB hS O a7 a8
 rcases Z8 (sg x) (sg y) with h|h|h
 ·have E:=Z1 ((b4K x y).1 h)
  have aa:(sg x != sg y):=sO;go_wp2;go_ret;exact⟨by rw[E.out];rfl,a⟩
 ·have aa:(sg x != sg y)=false:=by simp[h]
  have ab:=Z1 h;clear h
  cases hg:T with
  |true =>
   have E:=Z1 (b4M ab.out Hs Ht hg a5 a4);subst hg;go_wp2_with (fail);refine(a0V _ B A m n d c q l hq hl oM oM hQ hL hM hN Q.out a6.out).mono ?_;rintro e w3 ⟨rfl,W⟩;go_wp2;go_ret;exact⟨by rw[E.out];rfl,a.trans (W.mono a.size)⟩
  |false =>
   have E:=Z1 (b4L ab.out Hs Ht hg a5 a4);subst hg;go_wp2_with (fail);refine(a0V _ A B n m c d l q hl hq oM oM hL hQ hN hM a6.out Q.out).mono ?_;rintro e w3 ⟨rfl,W⟩;go_wp2;go_ret;exact⟨by rw[E.out];rfl,a.trans (W.mono a.size)⟩
 ·have E:=Z1 ((b4K x y).2 h)
  have aa:(sg x != sg y):=sO;have ae:¬ sg x<sg y:=oM;go_wp2;go_ret;exact⟨by rw[E.out];rfl,a⟩
def Arr (K:IK) (e:TypeId) (w:World) (g:Nat) (F:LI):Prop:=w.heap[g]?=some (.cells (F.map (Value.int K)).toArray e (0,0))
section
variable {K:IntKind} {e:TypeId} {w w':World} {g:Nat} {F:List Int}
theorem Arr.lt (h:Arr K e w g F):g<w:=(Array.getElem?_eq_some_iff.1 h).1
theorem Arr.cell (h:Arr K e w g F) {k} (a:k<F.length):w.cell? ⟨g,k,none⟩=some (.int K F[k]):=by
 rw[cr9 _ h];simp[a]
theorem Arr.free (h:Arr K e w g F) (k):w.frozen? ⟨g,k,none⟩=false:=fr0 _ h
theorem Arr.set (h:Arr K e w g F) (k) (x):Arr K e (w.setCell ⟨g,k,none⟩ (.int K x)) g (F.set k x):=by
 have:=Xh w g k _ e (.int K x) h;unfold Arr;rw[this]
 congr 2
 simp[ZM]
theorem Arr.below {B} (h:Arr K e w g F) (a:Below B w w') (i:g<B):Arr K e w' g F:=(a.block g i).trans h
theorem Arr.alloc (h:Arr K e w g F) (o):Arr K e (w.alloc o) g F:=(VD w o g h.lt).trans h
theorem Arr.drewN (h:Arr K e w g F) (n):Arr K e (w.drewN n) g F:=h
theorem Arr.limbs (h:Arr K e w g F) {B} (a:g<B) (i:e=limbTy K:=by rfl):LimbsAt K w B (some ⟨g,0,none⟩) F :=
 .inr ⟨g,0,rfl,a,fun k o=>by rw[VN];exact h.cell o,_,_,i ▸ h⟩
theorem Arr.owns (h:Arr K e w g F) {base n} (a:base<=g) (o:n<=F.length) (i:F.length<=maxLen) :
  w.ownsRow base e 1 (.slice (some ⟨g,0,none⟩) n F.length) n ((F.take n).map (Value.int K)):=by
 refine⟨sO,.inr ⟨g,F.length,_,rfl,a,h,o,i,sP,?_⟩⟩;simp[Qt]
theorem a1k {W} {base n} {v} {l} (h:W.ownsRow base e 1 v n (l.map (Value.int K))) (L:n=l.length) (I:e=limbTy K:=by rfl):∃A c,v=.slice A n c/\n<=c/\LimbsAt K W W A l:=by
 subst L;subst I
 rcases h.2 with⟨e,E⟩|⟨g,a,cur,e,_,i,o,_,_,s⟩
 ·exact⟨none,0,by rw[e,E],oM,.inl (List.length_eq_zero_iff.1 E)⟩
 ·refine⟨_,a,e,o,.inr ⟨g,0,rfl,(Array.getElem?_eq_some_iff.1 i).1,fun k J=>?_,_,_,i⟩⟩
  rw[VN,cr9 _ i];have:(cur.toList.take (l.length*1))[k]?=some (.int K l[k]):=by rw[s];simp[J]
  rw[List.getElem?_take,Vt oM] at this;simpa using this
theorem a0B {a:World} {base} {e} {size n} {v} {xs} (h:a.ownsRow base e size v n xs):∀k,v.ownBlock=some k->base<=k:=by
 intro k i
 rcases h.2 with⟨rfl,_⟩|⟨g,o,cur,rfl,s,_⟩
 ·simp[Value.ownBlock] at i
 ·simp[Value.ownBlock] at i;omega
theorem LimbsAt.cells {B} {A} {l} (h:LimbsAt K w B A l) (E:0<l.length):∃ad,A=some ad/\∀j v,(l.map (Value.int K))[j]?=some v->w.cell? (ad.add j)=some v:=by
 rcases h with h|⟨b,o,e,_,s⟩
 ·subst h;simp at E
 ·refine⟨_,e,fun j v i=>?_⟩
  have a:j<l.length:=by have:=(List.getElem?_eq_some_iff.1 i).1;simpa using this
  rw[Zb,s.1 j a];simpa[a] using i
theorem LimbsAt.copied {B} {A} {l} (h:LimbsAt K w B A l) (a:Addr):0<(l.map (Value.int K)).length->some a=some a/\∃ad,A=some ad/\∀j v,(l.map (Value.int K))[j]?=some v->w.cell? (ad.add j)=some v :=
 fun i=>⟨rfl,h.cells (by simpa using i)⟩
theorem LimbsAt.other {B} {A} {l} (h:LimbsAt K w B A l) (i:∀b o,A=some ⟨b,o,none⟩->w'.heap[b]?=w.heap[b]?):LimbsAt K w' B A l:=by
 rcases h with h|⟨b,o,e,E,a⟩
 ·exact .inl h
 ·exact .inr ⟨b,o,e,E,fun k s=>(World.cell?_of_block (w:=w) (i b o e)).trans (a.1 k s),a.2.of_block (i b o e)⟩
theorem a7p (l:LI):∀v∈l.map (Value.int K),v.oneCell':=by
 intro v hv;rw[Yg] at hv;obtain⟨x,_,rfl⟩:=hv;rfl
theorem a2t (K:IK) (n):madeCells #[Value.int K 0] n=((List.replicate n (0:Int)).map (Value.int K)).toArray:=by
 apply Array.ext
 ·simp[madeCells]
 ·intro i a o
  simp[madeCells,Nat.mod_one]
end
theorem a0H {P} {w} {ops} {rest} {o} {a} {Q} (hg:o.guard=none) (l c:Operand) (t) (J:o.op=Op.makeSlice t l c)
  (K:IK) (e) (i:TypeInfo) (bytes) (X:P.underlying t=some (.slice e)) (E:P.info? e=some i) (h3:i.zero=some (.int K 0)) (h4:i.size=1) (h5:i.bytes=bytes)
  (S O:IK) (L C) (n m:Nat) (hl:a.eval l=.int S L) (hc:a.eval c=.int O C) (hL:L=(n:Int)) (hC:C=(m:Int)) (a0:n<=m) (T:bytes<=100) (W:m<=1000000000000)
  (hK:∀w',Hid (w'=w.alloc (.cells ((List.replicate m (0:Int)).map (Value.int K)).toArray e))->wpList P ops Q rest (a.put o.dst (.slice (some ⟨w,0,none⟩) n m)) w') :
  wpList P ops Q (o::rest) a w:=by
 refine Jt hg fun K' I=>?_;subst hL hC
 have hb:(i.bytes:Int)*(m:Int)<=281474976710656:=by
  rw[h5];have:bytes*m<=100*1000000000000:=ZL T W;have E:((bytes*m:Nat):Int)<=100000000000000:=oM;rw[KG] at E;omega
 have s:=run_make (P:=P) w t e i (.int K 0) X E h3 S O (n:Int) (m:Int) oM oM hb oM;rw[h4,Nat.mul_one,ZZ,ZZ] at s;have hz:madeCells (Value.int K 0).cells m=((List.replicate m (0:Int)).map (Value.int K)).toArray:=a2t K m;rw[hz] at s;unfold Oper.wp;simp[execOp,J,hl,hc,s,Result.andThen];have:=hK _ (Z1 rfl);simp at this;exact I _ _ this
theorem uinfo:(prog.info? 120).map (fun i=>(i.zero,i.size,i.bytes))=some (some (.int .u32 0),1,4):=kR
theorem usize:(prog.info? 120).map (·.size)=some 1:=kR
def LimbPost (k:Nat) (V:Int) (w:World) (e:Ending) (w':World):Prop :=
 Below w w w'/\∃(A:OA) (n c:Nat) (r:LI),e=.returned (.slice A n c)/\r.length=n/\n<=k/\n<=c/\Big.Lim 1000000000 r/\Big.val 1000000000 r=V/\LimbsAt .u32 w' w' A r/\∀b o,A=some ⟨b,o,none⟩->w<=b
theorem a2m {w:World} {g} {v} {t} {fr} (h:w.heap[g]?=some (.cells #[v] t fr)):∀j u,([v]:List Value)[j]?=some u->w.cell? ((⟨g,0,none⟩:Addr).add j)=some u:=by
 intro j u a;rw[Zb,VN,cr9 _ h];simpa using a
theorem a3C {B} {P p q:LI} {k} {x y cy s} (h:Big.val B P+B ^ k*cy=Big.val B (p.take k)+Big.val B (q.take k)) (a:P.length=k) (i:s=x+cy+y)
  (o:Big.val B (p.take (k+1))=Big.val B (p.take k)+B ^ k*x) (hy:Big.val B (q.take (k+1))=Big.val B (q.take k)+B ^ k*y) :
  Big.val B (P++[s % B])+B ^ (k+1)*(s / B)=Big.val B (p.take (k+1))+Big.val B (q.take (k+1)):=by
 rw[Big.val_snoc,a,o,hy,Zf,YG];have E:B ^ k*(s % B)+B ^ k*(B*(s / B))=B ^ k*s:=by rw[<- XJ,Zj]
 have I:B ^ k*s=B ^ k*x+B ^ k*cy+B ^ k*y:=by rw[i,XJ,XJ]
 omega
theorem b3U (A B) (n m c d) (p q) (hl:p.length=n) (hq:q.length=m) (b8:m<=n) (hn:n<=100000000000) (hm:m<=100000000000) (hL:Big.Lim 1000000000 p) (hQ:Big.Lim 1000000000 q)
  (hA:LimbsAt .u32 w w A p) (hB:LimbsAt .u32 w w B q) :
  Calls prog 251 #[.slice A n c,.slice B m d] w (LimbPost (n+1) (Big.val 1000000000 p+Big.val 1000000000 q) w):=by
 subst hl hq;obtain⟨i0,hi,b3,av,b4⟩:=XW uinfo;have ax:Hid (((p.length:Int)+1)=((p.length+1:Nat):Int)):=by show _=_;omega
 have X:Hid ((p.map (Value.int .u32)).length=Nat.min p.length p.length):=by show _=_;simp
 have W:Hid (0+(p.map (Value.int .u32)).length<=((List.replicate (p.length+1) (0:Int)).map (Value.int .u32)).length):=by show _<=_;simp
 have ay:p.length<=p.length+1:=J8 _;have aw:p.length+1<=1000000000000:=oM;go_enter func251,ntmps251;go_upto_region 4 with(refine a0H rfl _ _ 48 rfl .u32 120 i0 4 Zh hi b3 av b4 _ _ _ _ p.length (p.length+1) rfl rfl rfl ax ay dC aw ?_;intro w1 a8);have ah:Below w w w1:=by rw[a8.out];exact bR.alloc lR _
 have ak:=Z1 (show w1.heap[w.heap.size]?=some (.cells ((List.replicate (p.length+1) (0:Int)).map (Value.int .u32)).toArray 120 (0,0)) by rw[a8.out];exact Vh w _);have aa:=Z1 (hA.at_ ah lR);clear a8;go_upto_region 5 with((refine wpList_copy_splice rfl (.tmp 22) (.tmp 23) 48 48 rfl 120 Zh usize (some ⟨w,0,none⟩) A p.length (p.length+1) p.length c rfl rfl w.heap.size 0 _ 120 ak.out (p.map (Value.int .u32)) X (aa.copied _) W (a7p p) w w ah lR ?_);intro w2 aq b0)
 have a0:Arr .u32 120 w2 w (p++[0]):=by
  unfold Arr;rw[aq.out]
  congr 3
  rw[splice];simp
 clear aq ak aa X W;have HL:=Z1 hL;have HQ:=Z1 hQ;clear hL hQ;go_wp2
 go_loopw [6,27] (fun cr i wr=>∃(k:Nat) (P:LI) (cy:Int),k<=p.length/\i=k/\cr=.int .u32 cy/\(cy=0∨cy=1)/\P.length=k/\Big.Lim 1000000000 P /\
  Big.val 1000000000 P+1000000000 ^ k*cy=Big.val 1000000000 (p.take k)+Big.val 1000000000 (q.take k)/\Arr .u32 120 wr w (P++p.drop k++[0])/\Below w w wr) (fun _ i _=>p.length-(intOf i).toNat)
 case atStart=>exact⟨0,[],0,Vb _,rfl,rfl,.inl rfl,rfl,Big.Lim.nil,by simp[Big.val],by simpa using a0,b0⟩
 case round =>
  obtain⟨k,P,cy,hk,rfl,rfl,an,am,al,hv,E,hb⟩:=hrel;have ac:=Z1 an;have b5:0<=cy:=oM;have b6:cy<=1:=oM;obtain⟨s,Q,Hv⟩:=Z3 am al hv;have ao:(w:Nat)<wr:=E.lt;clear an am al hv a0
  by_cases T:k<p.length
  ·have aj:k<(P++p.drop k++[0]).length:=by have:=s.out;simp;omega
   have ai:(P++p.drop k++[0])[k]=p[k]:=by
    have:=s.out;rw[Jy sO,JC oM];simp[this]
   have hc:=E.cell aj;rw[ai] at hc;have b7:=E.free k;have hx:=HL.out.get k T;have b9:=hx.1;have ba:=hx.2;have Ha:=Z1 E
   have a4:∀y:Int,Hid ((P++p.drop k++[0]).set k y=(P++[y])++p.drop (k+1)++[0]):=fun y=>by
    show _=_;have:=s.out;rw[JG _ _ sO,Yv _ _ oM,this,Kk,XS T,YC];simp only[XH,XM,Xr]
   clear hx aj ai E
   by_cases a6:k<q.length
   ·obtain⟨b,o,rfl,_,hy⟩:=(hB.below hb lR).look a6
    have a9:=HQ.out.get k a6;have bb:=a9.1;have bc:=a9.2;clear a9;go_wp2;go_roundw
    case rel =>
     refine⟨k+1,P++[(p[k]+cy+q[k]) % 1000000000],(p[k]+cy+q[k]) / 1000000000,oM,by go_num,rfl,oM,by simp[s.out],Big.Lim.append.2 ⟨Q,fun a E=>?_⟩,a3C Hv s rfl (Big.val_take_succ _ _ _ T) (Big.val_take_succ _ _ _ a6),?_,hb.setCell lR _⟩
     ·rw[VY] at E;subst E;omega
     ·have:=Ha.out.set k ((p[k]+cy+q[k]) % 1000000000)
      rwa [(a4 _).out] at this
    case measure=>exact mS
   ·have ar:Hid (q.take k=q):=by show _=_;exact Vg oM
    have au:Hid (q.take (k+1)=q):=by show _=_;exact Vg oM
    rcases ac with h0|h0
    ·subst h0
     have J:Hid (Big.val 1000000000 (P++p.drop k)=Big.val 1000000000 p+Big.val 1000000000 q):=by
      have h1:=Hv.out;rw[ar.out,XR,XP] at h1;show _=_;rw[Big.val_append,s,h1,Big.val_split 1000000000 p k oM];omega
     go_wp2;go_ret;have I:=s.out
     have O:(P++p.drop k++[0]).take p.length=P++p.drop k:=by
      rw[YB sO,Vg sO]
     exact⟨hb,_,p.length,p.length+1,P++p.drop k,rfl,sO,oM,oM,Big.Lim.append.2 ⟨Q,HL.drop k⟩,J,by rw[<- O];exact(Ha.limbs ao).take _,fun b o h=>by cases h;exact lR⟩
    ·subst h0
     go_wp2;go_roundw
     case rel =>
      refine⟨k+1,P++[(p[k]+1) % 1000000000],(p[k]+1) / 1000000000,oM,by go_num,rfl,oM,by simp[s.out],Big.Lim.append.2 ⟨Q,fun a E=>?_⟩,a3C (x:=p[k]) (y:=0) (cy:=1) Hv s oM (Big.val_take_succ _ _ _ T) (by rw[ar.out,au.out,XR,XP]),?_,hb.setCell lR _⟩
      ·rw[VY] at E;subst E;omega
      ·have:=Ha.out.set k ((p[k]+1) % 1000000000)
       rwa [(a4 _).out] at this
     case measure=>exact mS
  ·obtain rfl:k=p.length:=oM
   have I:=s.out;have hv:=Hv.out;rw[Xs,Vg (show q.length<=p.length by omega)] at hv;rw[Kr,XG] at E;have L:(P++[(0:Int)]).length=p.length+1:=by simp[I]
   have O:(P++[(0:Int)]).take p.length=P:=by rw[YB oM,Vg oM]
   rcases ac with h0|h0
   ·subst h0
    have J:Hid (Big.val 1000000000 P=Big.val 1000000000 p+Big.val 1000000000 q):=by show _=_;rw[XR,XP] at hv;exact hv
    have ad:=Z1 ((E.limbs ao).take p.length);have az:=Z1 O;clear hv O E I L Hv;go_wp2;go_ret;have I:=s.out;exact⟨hb,_,p.length,p.length+1,P,rfl,oM,oM,oM,Q,J,by rw[<- az];exact ad,fun b o h=>by cases h;exact lR⟩
   ·subst h0
    have J:Hid (Big.val 1000000000 (P++[1])=Big.val 1000000000 p+Big.val 1000000000 q):=by show _=_;rw[Big.val_snoc,I];exact hv
    have S:=E.owns (base:=w.heap.size) (n:=p.length) lR oM (by rw[L];unfold maxLen;omega);rw[L,O] at S;have ag:=Z1 (S.alloc (.cells #[.int .u32 1] 120));have ae:=Z1 (fun j u (hj:([Value.int .u32 1]:List Value)[j]?=some u)=>a2m (Vh wr (.cells #[.int .u32 1] 120)) j u hj);have ab:p.length+1<=p.length+1:=Yh _;have af:Hid (∀u∈([Value.int .u32 1]:List Value),u.oneCell'):=by show∀u∈_,_;simp[Value.oneCell']
    clear hv O E I L Hv S;go_wp2_with (at_builtin;refine wpList_append_fits _ rfl _ _ 48 rfl w.heap.size 120 i0 1 Zh hi av w p.length (p.length+1) _ rfl ag ⟨wr,0,none⟩ 1 1 [Value.int .u32 1] rfl rfl ae af ab ?_;intro w3 a7 a5);go_ret;have I:=s.out;obtain⟨A',c',e',b2,ap⟩:=a1k (K:=.u32) (l:=P++[1]) (n:=p.length+1) (by rw[Xn];exact a7) (by simp[I]);have b1:Below w w w3:=(hb.alloc hb.size (.cells #[.int .u32 1] 120)).grown a5 sO (fun k hk=>by cases hk;exact lR);injection e' with ea _ ec;subst ea ec;exact⟨b1,_,p.length+1,_,P++[1],rfl,by simp[I],lR,b2,Big.Lim.append.2 ⟨Q,fun a E=>by rw[VY] at E;subst E;omega⟩,J,ap,fun b o h=>by cases h;exact lR⟩
theorem b3T (A B) (n m c d) (p q) (hl:p.length=n) (hq:q.length=m) (S:m<n) (hn:n<=100000000000) (hm:m<=100000000000) (hL:Big.Lim 1000000000 p) (hQ:Big.Lim 1000000000 q)
  (hA:LimbsAt .u32 w w A p) (hB:LimbsAt .u32 w w B q) :
  Calls prog 251 #[.slice B m d,.slice A n c] w (LimbPost (n+1) (Big.val 1000000000 p+Big.val 1000000000 q) w):=by
 subst hl hq;obtain⟨i0,hi,b3,av,b4⟩:=XW uinfo;have ax:Hid (((p.length:Int)+1)=((p.length+1:Nat):Int)):=by show _=_;omega
 have X:Hid ((p.map (Value.int .u32)).length=Nat.min p.length p.length):=by show _=_;simp
 have W:Hid (0+(p.map (Value.int .u32)).length<=((List.replicate (p.length+1) (0:Int)).map (Value.int .u32)).length):=by show _<=_;simp
 have ay:p.length<=p.length+1:=J8 _;have aw:p.length+1<=1000000000000:=oM;go_enter func251,ntmps251;go_upto_region 4 with(refine a0H rfl _ _ 48 rfl .u32 120 i0 4 Zh hi b3 av b4 _ _ _ _ p.length (p.length+1) rfl rfl rfl ax ay dC aw ?_;intro w1 a8);have ah:Below w w w1:=by rw[a8.out];exact bR.alloc lR _
 have ak:=Z1 (show w1.heap[w.heap.size]?=some (.cells ((List.replicate (p.length+1) (0:Int)).map (Value.int .u32)).toArray 120 (0,0)) by rw[a8.out];exact Vh w _);have aa:=Z1 (hA.at_ ah lR);clear a8;go_upto_region 5 with((refine wpList_copy_splice rfl (.tmp 22) (.tmp 23) 48 48 rfl 120 Zh usize (some ⟨w,0,none⟩) A p.length (p.length+1) p.length c rfl rfl w.heap.size 0 _ 120 ak.out (p.map (Value.int .u32)) X (aa.copied _) W (a7p p) w w ah lR ?_);intro w2 aq b0)
 have a0:Arr .u32 120 w2 w (p++[0]):=by
  unfold Arr;rw[aq.out]
  congr 3
  rw[splice];simp
 clear aq ak aa X W;have HL:=Z1 hL;have HQ:=Z1 hQ;clear hL hQ;go_wp2
 go_loopw [6,27] (fun cr i wr=>∃(k:Nat) (P:LI) (cy:Int),k<=p.length/\i=k/\cr=.int .u32 cy/\(cy=0∨cy=1)/\P.length=k/\Big.Lim 1000000000 P /\
  Big.val 1000000000 P+1000000000 ^ k*cy=Big.val 1000000000 (p.take k)+Big.val 1000000000 (q.take k)/\Arr .u32 120 wr w (P++p.drop k++[0])/\Below w w wr) (fun _ i _=>p.length-(intOf i).toNat)
 case atStart=>exact⟨0,[],0,Vb _,rfl,rfl,.inl rfl,rfl,Big.Lim.nil,by simp[Big.val],by simpa using a0,b0⟩
 case round =>
  obtain⟨k,P,cy,hk,rfl,rfl,an,am,al,hv,E,hb⟩:=hrel;have ac:=Z1 an;have b5:0<=cy:=oM;have b6:cy<=1:=oM;obtain⟨s,Q,Hv⟩:=Z3 am al hv;have ao:(w:Nat)<wr:=E.lt;clear an am al hv a0
  by_cases S:k<p.length
  ·have aj:k<(P++p.drop k++[0]).length:=by have:=s.out;simp;omega
   have ai:(P++p.drop k++[0])[k]=p[k]:=by
    have:=s.out;rw[Jy sO,JC oM];simp[this]
   have hc:=E.cell aj;rw[ai] at hc;have b7:=E.free k;have hx:=HL.out.get k S;have b8:=hx.1;have b9:=hx.2;have Ha:=Z1 E
   have a4:∀y:Int,Hid ((P++p.drop k++[0]).set k y=(P++[y])++p.drop (k+1)++[0]):=fun y=>by
    show _=_;have:=s.out;rw[JG _ _ sO,Yv _ _ oM,this,Kk,XS S,YC];simp only[XH,XM,Xr]
   clear hx aj ai E
   by_cases a6:k<q.length
   ·obtain⟨b,o,rfl,_,hy⟩:=(hB.below hb lR).look a6
    have a9:=HQ.out.get k a6;have ba:=a9.1;have bb:=a9.2;clear a9;go_wp2;go_roundw
    case rel =>
     refine⟨k+1,P++[(p[k]+cy+q[k]) % 1000000000],(p[k]+cy+q[k]) / 1000000000,oM,by go_num,rfl,oM,by simp[s.out],Big.Lim.append.2 ⟨Q,fun a E=>?_⟩,a3C Hv s rfl (Big.val_take_succ _ _ _ S) (Big.val_take_succ _ _ _ a6),?_,hb.setCell lR _⟩
     ·rw[VY] at E;subst E;omega
     ·have:=Ha.out.set k ((p[k]+cy+q[k]) % 1000000000)
      rwa [(a4 _).out] at this
    case measure=>exact mS
   ·have ar:Hid (q.take k=q):=by show _=_;exact Vg oM
    have au:Hid (q.take (k+1)=q):=by show _=_;exact Vg oM
    rcases ac with h0|h0
    ·subst h0
     have J:Hid (Big.val 1000000000 (P++p.drop k)=Big.val 1000000000 p+Big.val 1000000000 q):=by
      have h1:=Hv.out;rw[ar.out,XR,XP] at h1;show _=_;rw[Big.val_append,s,h1,Big.val_split 1000000000 p k oM];omega
     go_wp2;go_ret;have I:=s.out
     have O:(P++p.drop k++[0]).take p.length=P++p.drop k:=by
      rw[YB sO,Vg sO]
     exact⟨hb,_,p.length,p.length+1,P++p.drop k,rfl,sO,oM,oM,Big.Lim.append.2 ⟨Q,HL.drop k⟩,J,by rw[<- O];exact(Ha.limbs ao).take _,fun b o h=>by cases h;exact lR⟩
    ·subst h0
     go_wp2;go_roundw
     case rel =>
      refine⟨k+1,P++[(p[k]+1) % 1000000000],(p[k]+1) / 1000000000,oM,by go_num,rfl,oM,by simp[s.out],Big.Lim.append.2 ⟨Q,fun a E=>?_⟩,a3C (x:=p[k]) (y:=0) (cy:=1) Hv s oM (Big.val_take_succ _ _ _ S) (by rw[ar.out,au.out,XR,XP]),?_,hb.setCell lR _⟩
      ·rw[VY] at E;subst E;omega
      ·have:=Ha.out.set k ((p[k]+1) % 1000000000)
       rwa [(a4 _).out] at this
     case measure=>exact mS
  ·obtain rfl:k=p.length:=oM
   have I:=s.out;have hv:=Hv.out;rw[Xs,Vg (show q.length<=p.length by omega)] at hv;rw[Kr,XG] at E;have L:(P++[(0:Int)]).length=p.length+1:=by simp[I]
   have O:(P++[(0:Int)]).take p.length=P:=by rw[YB oM,Vg oM]
   rcases ac with h0|h0
   ·subst h0
    have J:Hid (Big.val 1000000000 P=Big.val 1000000000 p+Big.val 1000000000 q):=by show _=_;rw[XR,XP] at hv;exact hv
    have ad:=Z1 ((E.limbs ao).take p.length);have az:=Z1 O;clear hv O E I L Hv;go_wp2;go_ret;have I:=s.out;exact⟨hb,_,p.length,p.length+1,P,rfl,oM,oM,oM,Q,J,by rw[<- az];exact ad,fun b o h=>by cases h;exact lR⟩
   ·subst h0
    have J:Hid (Big.val 1000000000 (P++[1])=Big.val 1000000000 p+Big.val 1000000000 q):=by show _=_;rw[Big.val_snoc,I];exact hv
    have T:=E.owns (base:=w.heap.size) (n:=p.length) lR oM (by rw[L];unfold maxLen;omega);rw[L,O] at T;have ag:=Z1 (T.alloc (.cells #[.int .u32 1] 120));have ae:=Z1 (fun j u (hj:([Value.int .u32 1]:List Value)[j]?=some u)=>a2m (Vh wr (.cells #[.int .u32 1] 120)) j u hj);have ab:p.length+1<=p.length+1:=Yh _;have af:Hid (∀u∈([Value.int .u32 1]:List Value),u.oneCell'):=by show∀u∈_,_;simp[Value.oneCell']
    clear hv O E I L Hv T;go_wp2_with (at_builtin;refine wpList_append_fits _ rfl _ _ 48 rfl w.heap.size 120 i0 1 Zh hi av w p.length (p.length+1) _ rfl ag ⟨wr,0,none⟩ 1 1 [Value.int .u32 1] rfl rfl ae af ab ?_;intro w3 a7 a5);go_ret;have I:=s.out;obtain⟨A',c',e',b2,ap⟩:=a1k (K:=.u32) (l:=P++[1]) (n:=p.length+1) (by rw[Xn];exact a7) (by simp[I]);have b1:Below w w w3:=(hb.alloc hb.size (.cells #[.int .u32 1] 120)).grown a5 sO (fun k hk=>by cases hk;exact lR);injection e' with ea _ ec;subst ea ec;exact⟨b1,_,p.length+1,_,P++[1],rfl,by simp[I],lR,b2,Big.Lim.append.2 ⟨Q,fun a E=>by rw[VY] at E;subst E;omega⟩,J,ap,fun b o h=>by cases h;exact lR⟩
theorem a3t {B} {P p q:LI} {k} {x y bw dg bw'} (h:Big.val B P-B ^ k*bw=Big.val B (p.take k)-Big.val B (q.take k)) (a:P.length=k) (i:dg-B*bw'=x-(bw+y))
  (o:Big.val B (p.take (k+1))=Big.val B (p.take k)+B ^ k*x) (hy:Big.val B (q.take (k+1))=Big.val B (q.take k)+B ^ k*y) :
  Big.val B (P++[dg])-B ^ (k+1)*bw'=Big.val B (p.take (k+1))-Big.val B (q.take (k+1)):=by
 rw[Big.val_snoc,a,o,hy,Zf,YG];have s:B ^ k*dg-B ^ k*(B*bw')=B ^ k*x-B ^ k*(bw+y):=by rw[<- KZ,i,KZ]
 have E:B ^ k*(bw+y)=B ^ k*bw+B ^ k*y:=XJ _ _ _;omega
theorem b2d (A B) (n m c d) (p q) (E:p.length=n) (L:q.length=m) (J:n<=100000000000) (I:m<=100000000000) (o:Big.Lim 1000000000 p) (s:Big.Lim 1000000000 q)
  (a:LimbsAt .u32 w w A p) (i:LimbsAt .u32 w w B q) :
  Calls prog 251 #[.slice A n c,.slice B m d] w (LimbPost (max n m+1) (Big.val 1000000000 p+Big.val 1000000000 q) w):=by
 rcases Zn n m with h|h
 ·have:=b3T w B A m n d c q p L E h I J s o i a
  rw[Nat.max_eq_right (XC h),QV];exact this
 ·have:=b3U w A B n m c d p q E L h J I o s a i
  rw[Nat.max_eq_left h];exact this
theorem a6j (A B) (n m c d) (p q) (hl:p.length=n) (hq:q.length=m) (ay:m<=n) (hn:n<=100000000000) (hm:m<=100000000000) (hL:Big.Lim 1000000000 p) (hQ:Big.Lim 1000000000 q) (ag:Big.val 1000000000 q<=Big.val 1000000000 p)
  (hA:LimbsAt .u32 w w A p) (hB:LimbsAt .u32 w w B q) :
  Calls prog 252 #[.slice A n c,.slice B m d] w (LimbPost n (Big.val 1000000000 p-Big.val 1000000000 q) w):=by
 subst hl hq;obtain⟨i0,hi,aq,ar,au⟩:=XW uinfo;have W:Hid ((p.map (Value.int .u32)).length=Nat.min p.length p.length):=by show _=_;simp
 have T:Hid (0+(p.map (Value.int .u32)).length<=((List.replicate p.length (0:Int)).map (Value.int .u32)).length):=by show _<=_;simp
 have am:p.length<=p.length:=Yh _;have aj:p.length<=1000000000000:=oM;go_enter func252,ntmps252;go_upto_region 2 with(refine a0H rfl _ _ 48 rfl .u32 120 i0 4 Zh hi aq ar au _ _ _ _ p.length p.length rfl rfl rfl rfl am dC aj ?_;intro w1 a4);have a9:Below w w w1:=by rw[a4.out];exact bR.alloc lR _
 have ac:=Z1 (show w1.heap[w.heap.size]?=some (.cells ((List.replicate p.length (0:Int)).map (Value.int .u32)).toArray 120 (0,0)) by rw[a4.out];exact Vh w _);have a6:=Z1 (hA.at_ a9 lR);clear a4;go_upto_region 3 with(refine wpList_copy_splice rfl (.tmp 12) (.tmp 13) 48 48 rfl 120 Zh usize (some ⟨w,0,none⟩) A p.length p.length p.length c rfl rfl w.heap.size 0 _ 120 ac.out (p.map (Value.int .u32)) W (a6.copied _) T (a7p p) w w a9 lR ?_;intro w2 ah an)
 have X:Arr .u32 120 w2 w p:=by
  unfold Arr;rw[ah.out]
  congr 3
  rw[splice];simp
 clear ah ac a6 W T;obtain⟨HL,HQ,al⟩:=Z3 hL hQ ag;clear hL hQ ag;go_wp2
 go_loopw [6,17] (fun cr i wr=>∃(k:Nat) (P:LI) (bw:Int),k<=p.length/\i=k/\cr=.int .u32 bw/\(bw=0∨bw=1)/\P.length=k/\Big.Lim 1000000000 P /\
  Big.val 1000000000 P-1000000000 ^ k*bw=Big.val 1000000000 (p.take k)-Big.val 1000000000 (q.take k)/\Arr .u32 120 wr w (P++p.drop k)/\Below w w wr) (fun _ i _=>p.length-(intOf i).toNat)
 case atStart=>exact⟨0,[],0,Vb _,rfl,rfl,.inl rfl,rfl,Big.Lim.nil,by simp[Big.val],by simpa using X,an⟩
 case round =>
  obtain⟨k,P,bw,hk,rfl,rfl,af,ae,ad,hv,E,hb⟩:=hrel;have ak:=Z1 af;have av:0<=bw:=oM;have aw:bw<=1:=oM;obtain⟨s,I,Hv⟩:=Z3 ae ad hv;have ao:(w:Nat)<wr:=E.lt;clear af ae ad hv X
  by_cases J:k<p.length
  ·have ab:k<(P++p.drop k).length:=by have:=s.out;simp;omega
   have aa:(P++p.drop k)[k]=p[k]:=by
    have:=s.out;rw[JC oM];simp[this]
   have hc:=E.cell ab;rw[aa] at hc;have ax:=E.free k;have hx:=HL.out.get k J;have az:=hx.1;have b0:=hx.2;have Ha:=Z1 E
   have L:∀y:Int,Hid ((P++p.drop k).set k y=(P++[y])++p.drop (k+1)):=fun y=>by
    show _=_;have:=s.out;rw[Yv _ _ oM,this,Kk,XS J,YC];simp only[XH,XM,Xr]
   have O:∀x y:Int,Hid (((P++p.drop k).set k x).set k y=(P++[y])++p.drop (k+1)):=fun x y=>by
    show _=_;rw[List.set_set];exact(L y).out
   clear hx ab aa E
   by_cases Q:k<q.length
   ·obtain⟨b,o,rfl,_,hy⟩:=(hB.below hb lR).look Q
    have a5:=HQ.out.get k Q;have b1:=a5.1;have b2:=a5.2;clear a5
    by_cases ap:p[k]<bw+q[k]
    ·go_wp2
     go_roundw
     case rel =>
      refine⟨k+1,P++[p[k]+1000000000-(bw+q[k])],1,oM,by go_num,rfl,oM,by simp[s.out],Big.Lim.append.2 ⟨I,fun a E=>?_⟩,a3t (x:=p[k]) (y:=q[k]) (bw:=bw) (dg:=p[k]+1000000000-(bw+q[k])) (bw':=1) Hv s oM (Big.val_take_succ _ _ _ J) (Big.val_take_succ _ _ _ Q),?_,(hb.setCell lR _).setCell lR _⟩
      ·rw[VY] at E;subst E;omega
      ·have:=(Ha.set k (p[k]+1000000000)).set k (p[k]+1000000000-(bw+q[k]))
       rwa [(O _ _).out] at this
     case measure=>exact mS
    ·go_wp2
     go_roundw
     case rel =>
      refine⟨k+1,P++[p[k] - (bw+q[k])],0,oM,by go_num,rfl,oM,by simp[s.out],Big.Lim.append.2 ⟨I,fun a E=>?_⟩,a3t (x:=p[k]) (y:=q[k]) (bw:=bw) (dg:=p[k] - (bw+q[k])) (bw':=0) Hv s oM (Big.val_take_succ _ _ _ J) (Big.val_take_succ _ _ _ Q),?_,hb.setCell lR _⟩
      ·rw[VY] at E;subst E;omega
      ·have:=Ha.out.set k (p[k] - (bw+q[k]))
       rwa [(L _).out] at this
     case measure=>exact mS
   ·have ai:Hid (q.take k=q):=by show _=_;exact Vg oM
    have a0:Hid (q.take (k+1)=q):=by show _=_;exact Vg oM
    by_cases ap:p[k]<bw
    ·go_wp2
     go_roundw
     case rel =>
      refine⟨k+1,P++[p[k]+1000000000-bw],1,oM,by go_num,rfl,oM,by simp[s.out],Big.Lim.append.2 ⟨I,fun a E=>?_⟩,a3t (x:=p[k]) (y:=0) (bw:=bw) (dg:=p[k]+1000000000-bw) (bw':=1) Hv s oM (Big.val_take_succ _ _ _ J) (by rw[ai.out,a0.out,XR,XP]),?_,(hb.setCell lR _).setCell lR _⟩
      ·rw[VY] at E;subst E;omega
      ·have:=(Ha.set k (p[k]+1000000000)).set k (p[k]+1000000000-bw)
       rwa [(O _ _).out] at this
     case measure=>exact mS
    ·go_wp2
     go_roundw
     case rel =>
      refine⟨k+1,P++[p[k] - bw],0,oM,by go_num,rfl,oM,by simp[s.out],Big.Lim.append.2 ⟨I,fun a E=>?_⟩,a3t (x:=p[k]) (y:=0) (bw:=bw) (dg:=p[k] - bw) (bw':=0) Hv s oM (Big.val_take_succ _ _ _ J) (by rw[ai.out,a0.out,XR,XP]),?_,hb.setCell lR _⟩
      ·rw[VY] at E;subst E;omega
      ·have:=Ha.out.set k (p[k] - bw)
       rwa [(L _).out] at this
     case measure=>exact mS
  ·obtain rfl:k=p.length:=oM
   have S:=s.out;have hv:=Hv.out;rw[Xs,Vg (show q.length<=p.length by omega)] at hv;rw[Kr,XG] at E
   have h0:bw=0:=by
    rcases ak with h|h
    ·exact h
    ·exfalso
     subst h;have h1:=Big.val_lt (B:=1000000000) oM I;rw[S] at h1;have h2:=al.out;rw[ZD] at hv;omega
   subst h0;have a7:Hid (Big.val 1000000000 P=Big.val 1000000000 p-Big.val 1000000000 q):=by show _=_;rw[XR,QZ] at hv;exact hv
   have a8:=Z1 (E.limbs ao);clear hv E S Hv;go_wp2;go_ret;have S:=s.out;exact⟨hb,_,p.length,p.length,P,rfl,S,lR,lR,I,a7,a8,fun b o h=>by cases h;exact lR⟩
theorem a6U (B):∀(F:LI) (t:Nat) (x:Int) (h:t<F.length),Big.val B (F.set t x)=Big.val B F+B ^ t*(x-F[t])
 |a::F,0,x,_=>by simp[Big.val];omega
 |a::F,t+1,x,h=>by
  have i:=a6U B F t x (by simpa using h);rw[YL,Big.val_cons,i,Big.val_cons,List.getElem_cons_succ,Zf,XJ,YS (B ^ t) B,YG];omega
theorem a1Y {B} {F} (h:Big.Lim B F) {t} {x} (o:0<=x) (s:x<B):Big.Lim B (F.set t x):=by
 intro a i
 rcases JD i with i|rfl
 ·exact h a i
 ·exact⟨o,s⟩
theorem b2r {B} {F} {t} {V x y cy s} {W} (i:t<F.length) (h:Big.val B F+B ^ t*cy=V+W) (a:s=x*y+F[t]+cy) :
  Big.val B (F.set t (s % B))+B ^ (t+1)*(s / B)=V+(W+B ^ t*(x*y)):=by
 rw[a6U B F t _ i,Zf,YG];have o:B ^ t*(s % B)+B ^ t*(B*(s / B))=B ^ t*s:=by rw[<- XJ,Zj]
 have E:B ^ t*s=B ^ t*(x*y)+B ^ t*F[t]+B ^ t*cy:=by rw[a,XJ,XJ]
 have I:B ^ t*(s % B-F[t])=B ^ t*(s % B)-B ^ t*F[t]:=KZ _ _ _;omega
theorem b4R (B x v y:Int) (i j):B ^ i*(x*(v+B ^ j*y))=B ^ i*(x*v)+B ^ (i+j)*(x*y):=by
 rw[Int.pow_add,XJ,XJ,Zk x (B ^ j) y,YG]
def TimesPost (k:Nat) (V:Int) (w:World) (e:Ending) (w':World):Prop :=
 Below w w w'/\∃F:LI,e=.returned (.slice (some ⟨w,0,none⟩) k k)/\F.length=k/\Big.Lim 1000000000 F/\Big.val 1000000000 F=V/\Arr .u32 120 w' w F
theorem a3J (A B) (n m c d) (p q) (hl:p.length=n) (hq:q.length=m) (hn:n<=100000000000) (hm:m<=100000000000) (hL:Big.Lim 1000000000 p) (hQ:Big.Lim 1000000000 q)
  (hA:LimbsAt .u32 w w A p) (hB:LimbsAt .u32 w w B q) :
  Calls prog 45 #[.slice A n c,.slice B m d] w (TimesPost (n+m) (Big.val 1000000000 p*Big.val 1000000000 q) w):=by
 subst hl hq;obtain⟨i0,hi,bj,bk,bl⟩:=XW uinfo;have a5:Hid (((p.length:Int)+(q.length:Int))=((p.length+q.length:Nat):Int)):=by show _=_;omega
 have ba:p.length+q.length<=p.length+q.length:=Yh _;have b9:p.length+q.length<=1000000000000:=oM;go_enter func45,ntmps45;go_upto_region 2 with(refine a0H rfl _ _ 48 rfl .u32 120 i0 4 Zh hi bj bk bl _ _ _ _ (p.length+q.length) (p.length+q.length) rfl rfl a5 a5 ba dC b9 ?_;intro w1 ad);have bb:Below w w w1:=by rw[ad.out];exact bR.alloc lR _
 have Q:Arr .u32 120 w1 w (List.replicate (p.length+q.length) 0):=by
  unfold Arr;rw[ad.out];exact Vh w _
 have HL:=Z1 hL;have HQ:=Z1 hQ;clear ad hL hQ a5;go_wp2
 go_loopw [22] (fun ix wr=>∃(i:Nat) (F:LI),i<=p.length/\ix=i/\F.length=p.length+q.length/\Big.Lim 1000000000 F/\Big.val 1000000000 F=Big.val 1000000000 (p.take i)*Big.val 1000000000 q /\
  (∀t (h:t<F.length),i+q.length<=t->F[t]=0)/\Arr .u32 120 wr w F/\Below w w wr) (fun ix _=>p.length-(intOf ix).toNat)
 case atStart=>exact⟨0,_,Vb _,rfl,sP,Big.Lim.zeros oM _,by simp[Big.val_zeros,Big.val],fun t h _=>sP,Q,bb⟩
 case round =>
  obtain⟨i,F,bu,rfl,ax,aw,hv,hz,ha,hb⟩:=hrel;obtain⟨aj,ai,Hv,Hz,Ha⟩:=Z5 ax aw hv hz ha;have bg:(w:Nat)<wr:=ha.lt;clear ax aw hv hz ha Q
  by_cases ac:i<p.length
  ·obtain⟨b1,o1,rfl,bq,hx⟩:=(hA.below hb lR).look ac
   have ae:=HL.out.get i ac;have bi:=ae.1;have c0:=ae.2;have bm:b1<wr:=oM;clear ae;obtain⟨wo,rfl⟩:=eX (wr:World);go_wp2
   go_loopw [8,29] (fun cr ij wr=>∃(j:Nat) (G:LI) (O:Int),j<=q.length/\ij=j/\cr=.int .u64 O/\0<=O/\O<1000000000/\G.length=p.length+q.length/\Big.Lim 1000000000 G /\
    Big.val 1000000000 G+1000000000 ^ (i+j)*O=Big.val 1000000000 (p.take i)*Big.val 1000000000 q+1000000000 ^ i*(p[i]*Big.val 1000000000 (q.take j)) /\
    (∀t (h:t<G.length),i+q.length<=t->G[t]=0)/\Arr .u32 120 wr w G/\Below w w wr) (fun _ ij _=>q.length-(intOf ij).toNat)
   case atStart=>exact⟨0,F,0,Vb _,rfl,rfl,oM,oM,aj,ai,by simp[Big.val,Hv.out],Hz,Ha,hb⟩
   case round =>
    obtain⟨j,G,O,hj,rfl,rfl,bc,be,az,ay,b0,b3,a7,a8⟩:=hrel;obtain⟨a0,X,a4,ak,L⟩:=Z5 az ay b0 b3 a7;have b5:(w:Nat)<wr:=a7.lt;clear az ay b0 b3 a7 bg
    by_cases ab:j<q.length
    ·obtain⟨b2,o2,rfl,_,hy⟩:=(hB.below a8 lR).look ab
     have af:=HQ.out.get j ab;have b7:=af.1;have c1:=af.2;have a9:i+j<G.length:=by have:=a0.out;omega
     have a:=L.out.cell a9;have bf:=L.out.free (i+j);have aa:=X.out.get (i+j) a9;have bs:=aa.1;have bt:=aa.2;have bn:0<=p[i]*q[j]:=YR bi b7;have bo:p[i]*q[j]<=999999999*999999999:=JY oM oM b7 oM;have bv:i+j<p.length+q.length:=oM;clear af aa;go_wp2;go_roundw
     case rel =>
      refine⟨j+1,G.set (i+j) ((p[i]*q[j]+G[i+j]+O) % 1000000000),(p[i]*q[j]+G[i+j]+O) / 1000000000,oM,by go_num,rfl,oM,oM,by rw[Y9];exact a0,a1Y X oM oM,?_,?_,L.set (i+j) _,a8.setCell lR _⟩
      ·have h1:=b2r (x:=p[i]) (y:=q[j]) a9 a4 rfl
       rw[Big.val_take_succ _ _ _ ab,b4R];exact h1
      ·intro t ht o
       rw[KC oM];exact ak t (by simpa using ht) o
     case measure=>exact mS
    ·obtain rfl:j=q.length:=oM
     have hV:Hid (Big.val 1000000000 G+1000000000 ^ (i+q.length)*O=Big.val 1000000000 (p.take (i+1))*Big.val 1000000000 q):=by
      show _=_;rw[a4,Xs,Big.val_take_succ _ _ _ ac,QF,YG]
     clear a4;go_wp2;obtain⟨wi,rfl⟩:=eX (wr:World)
     go_loopw [8,12] (fun cr ik wr=>∃(t:Nat) (E:LI) (cz:Int),i+q.length<=t/\t<=i+q.length+1/\ik=t/\cr=.int .u64 cz/\0<=cz/\cz<1000000000/\(cz=0∨t=i+q.length)/\E.length=p.length+q.length/\Big.Lim 1000000000 E /\
      Big.val 1000000000 E+1000000000 ^ (i+q.length)*cz=Big.val 1000000000 (p.take (i+1))*Big.val 1000000000 q /\
      (∀s (h:s<E.length),t<=s->E[s]=0)/\Arr .u32 120 wr w E/\Below w w wr) (fun cr _ _=>(intOf cr).toNat)
     case atStart=>exact⟨i+q.length,G,O,lR,oM,by go_num,rfl,bc,be,.inr rfl,a0,X,hV.out,ak,L,a8⟩
     case round =>
      obtain⟨t,E,cz,bw,bx,rfl,rfl,bp,T,b6,aq,an,au,av,ao,ap⟩:=hrel;obtain⟨J,ag,ah,W,I,al⟩:=Z6 aq an au av ao b6;clear aq an au av ao b6 b5
      by_cases br:0<cz
      ·have o:t<E.length:=by have:=J.out;have:=al.out;omega
       have a6:=W.out t o lR;have a:=I.out.cell o;rw[a6] at a;have bf:=I.out.free t;have bz:t<p.length+q.length:=by have:=J.out;omega
       have am:Hid (t=i+q.length):=by show _=_;have:=al.out;omega
       have b8:=Z1 a6;clear a6;go_wp2;go_roundw
       case rel =>
        have b4:cz % 1000000000=cz:=Int.emod_eq_of_lt oM T;have S:cz / 1000000000=0:=Int.ediv_eq_zero_of_lt oM T;refine⟨t+1,E.set t (cz % 1000000000),cz / 1000000000,oM,by have:=am.out;omega,by go_num,rfl,oM,oM,.inl S,by rw[Y9];exact J,a1Y ag oM oM,?_,?_,I.set t _,ap.setCell lR _⟩
        ·rw[b4,S,a6U _ _ _ _ o,b8,QZ,XR,XP]
         have:=ah.out;rw[<- am] at this;exact this
        ·intro s hs bh
         rw[KC oM];exact W s (by simpa using hs) oM
       case measure=>exact mS
      ·obtain rfl:cz=0:=oM
       go_wp2;go_roundw
       case rel=>exact⟨i+1,E,oM,by go_num,J,ag,by have:=ah.out;rwa [XR,XP] at this,fun s hs bh=>W s hs oM,I,ap⟩
       case measure=>exact mS
  ·obtain rfl:i=p.length:=oM
   have ar:Hid (Big.val 1000000000 F=Big.val 1000000000 p*Big.val 1000000000 q):=by show _=_;have:=Hv.out;rwa [Xs] at this
   clear Hv;go_wp2;go_ret;exact⟨hb,F,rfl,aj,ai,ar.out,Ha⟩
theorem a9y (A B) (n m c d) (p q) (S:p.length=n) (X:q.length=m) (W:n<=100000000000) (T:m<=100000000000) (L:Big.Lim 1000000000 p) (O:Big.Lim 1000000000 q)
  (I:LimbsAt .u32 w w A p) (J:LimbsAt .u32 w w B q) :
  Calls prog 45 #[.slice A n c,.slice B m d] w (LimbPost (n+m) (Big.val 1000000000 p*Big.val 1000000000 q) w):=by
 refine(a3J w A B n m c d p q S X W T L O I J).mono ?_;rintro e w' ⟨Q,F,rfl,i,s,E,a⟩;exact⟨Q,_,n+m,n+m,F,rfl,i,lR,lR,s,E,a.limbs a.lt,fun b o h=>by cases h;exact lR⟩
end Go.Proofs.YtbhdekahdnenjaaGreatDoor
