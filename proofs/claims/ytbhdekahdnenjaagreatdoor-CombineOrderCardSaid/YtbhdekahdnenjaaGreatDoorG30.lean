/- Lemmas. -/
import Derived.Lib.SliceRun
import Derived.OrdersIn
import Derived.OrdersHeld
import Derived.Laws.Small
import Derived.Test.YtbhdekahdnenjaaGreatDoorG29
set_option linter.unusedVariables false
set_option linter.unusedSimpArgs false
set_option maxRecDepth 100000
set_option maxHeartbeats 16000000
namespace Go.Proofs.YtbhdekahdnenjaaGreatDoor
open Go.Proofs.Tryz Go.RowKit
variable (w:World)
def Itv.cells (x:Itv):List Value:=[.int .i64 x.frm,.int .i64 x.to,.int .i64 x.meth]
abbrev ItvsAt:=RowsAt Itv.cells 3
theorem a1h:(prog.info? 93).map (·.size)=some 3:=kR
namespace Iv
def inside (d:Int) (y:Itv):Bool:=decide (y.frm<d)&&decide (d<y.to)
def off (f l:Int) (y:Itv):Bool:=decide (y.meth≠3)||decide (l<y.frm)||decide (y.to<=f)
def gone (g:Grp) (f l:Int) (full:List Itv) (x:Itm):Bool:=full.any (inside x.date)&&Gr.isResult g x.acct&&decide (f<=x.date)&&decide (x.date<=l)
end Iv
def IdxI (p:Itv->Bool) (l:List Itv) (w:World) (e:Ending) (w':World):Prop :=
 Below w w w'/\((e=.returned (.int .i64 (-1))/\∀x∈l,p x=false)∨∃(k:Nat) (h:k<l.length),e=.returned (.int .i64 k)/\p l[k]/\∀x∈l.take k,p x=false)
theorem b2I (y:Itv) (x:Itm) (L:Nat) (I:w.heap[L]?=some (.cells x 70 (0,0))) :
  CL 92 #[.agg #[y.frm,y.to,y.meth],.pointer (some ⟨L,0,none⟩)] w (Iv.inside x.date y):=by
 obtain⟨X,s,i,a,Q⟩:=nw1 w #[y.frm,y.to,y.meth] 93;have O:=Z1 s;have o:=gbox I i (Vq I);have s1:=Vq a;have s2:=Vq o;have T:=cr9 0 a;have W:=cr9 1 a;have S:=cr9 5 o;simp at T W S;clear s Q a I o;go_enter func92,ntmps92;go_upto_region 1 with(fail);rw[<- O]
 by_cases J:y.frm<x.date
 ·have E:Hid (Iv.inside x.date y=decide (x.date<y.to)):=by show _=_;unfold Iv.inside;simp[J]
  go_wp2;go_ret;exact⟨by rw[E];rfl,i⟩
 ·have E:Hid (Iv.inside x.date y=false):=by show _=_;unfold Iv.inside;simp[J]
  go_wp2;go_ret;exact⟨by rw[E];rfl,i⟩
theorem a7Q (y:Itv) (f l:Int) (O:Nat) (J:w.heap[O]?=some (.cells #[f,l] 91 (0,0))) :
  CL 81 #[.agg #[y.frm,y.to,y.meth],.pointer (some ⟨O,0,none⟩)] w (Iv.off f l y):=by
 obtain⟨W1,I,i,a,S⟩:=nw1 w #[y.frm,y.to,y.meth] 93;have Q:=Z1 I;have o:=gbox J i (Vq J);have s1:=Vq a;have s2:=Vq o;have z0:=cr9 0 a;have z1:=cr9 1 a;have z2:=cr9 2 a;have W:=cr9 0 o;have X:=cr9 1 o;simp at z0 z1 z2 W X;clear I S a J o;go_enter func81,ntmps81;go_upto_region 1 with(fail);rw[<- Q]
 by_cases s:y.meth=3
 case neg =>
  have T:(y.meth != 3):=by simpa using s
  have E:Hid (Iv.off f l y):=by show _=_;unfold Iv.off;simp[s]
  clear s;go_wp2;go_ret;exact⟨by rw[E];rfl,i⟩
 have T:(y.meth != 3)=false:=by simpa using s
 by_cases L:l<y.frm
 ·have E:Hid (Iv.off f l y):=by show _=_;unfold Iv.off;simp[L]
  clear s;go_wp2;go_ret;exact⟨by rw[E];rfl,i⟩
 ·have E:Hid (Iv.off f l y=decide (y.to<=f)):=by show _=_;unfold Iv.off;simp[s,L]
  clear s;go_wp2;go_ret;exact⟨by rw[E];rfl,i⟩
theorem a9b (A:OA) (n c:Nat) (l:List Itv) (s:Itm) (ib:Nat) (a:w.heap[ib]?=some (.cells s 70 (0,0))) (hl:l.length=n) (hn:n<=1000) (h:ItvsAt w w A l) :
  Calls prog 136 #[.slice A n c,.func (.func 92) #[] #[.pointer (some ⟨ib,0,none⟩)]] w (IdxI (Iv.inside s.date) l w):=by
 subst hl;have Hb:=Z1 a;have X:=Vq a;clear a;go_enter func136,ntmps136;go_wp2
 go_loopw [8] (fun i wr=>∃k:Nat,k<=l.length/\i=k/\(∀x∈l.take k,(Iv.inside s.date) x=false)/\Below w w wr) (fun i _=>l.length-(intOf i).toNat)
 case atStart=>exact⟨0,Vb _,rfl,sP,bR⟩
 case round =>
  obtain⟨k,hk,rfl,ha,a⟩:=hrel;have S:=Z1 ha;clear ha
  by_cases I:k<l.length
  ·obtain⟨b,o,rfl,W,O⟩:=RowsAt.look (RowsAt.below h a lR) I
   have a0:b<wr:=Xg W a.size;obtain⟨y,hy⟩:=eX (l[k]);have Hy:=Z1 hy;rw[<- hy] at O;have O:wr.rangeAt b (o+k*3) [y.frm,y.to,y.meth]:=O;have Hr:=Z1 O;have Q:=Z1 (b2I wr y s ib (gbox Hb a X));clear hy O
   cases J:(Iv.inside s.date) y with
   |true =>
    rw[J] at Q;have T:Hid ((Iv.inside s.date) l[k]):=by show _=_;rw[<- Hy];exact J
    clear J;go_wp2_with (refine VH rfl 93 (.tmp 14) rfl b (o+k*3) rfl [y.frm,y.to,y.meth] _ Hr ZX rfl a1h ?_);refine Q.mono ?_;rintro e w4 ⟨rfl,E⟩;go_wp2;go_ret;exact⟨a.trans (E.mono a.size),.inr ⟨k,I,rfl,T,S⟩⟩
   |false =>
    rw[J] at Q
    have T:Hid (∀x∈l.take (k+1),(Iv.inside s.date) x=false):=Z1 fun x L=>by
     rw[tse I,V9] at L
     rcases L with L|L
     ·exact S x L
     ·rw[VY.1 L,<- Hy];exact J
    clear J;go_wp2_with (refine VH rfl 93 (.tmp 14) rfl b (o+k*3) rfl [y.frm,y.to,y.meth] _ Hr ZX rfl a1h ?_);refine Q.mono ?_;rintro e w4 ⟨rfl,E⟩;go_wp2;go_roundw
    case rel=>exact⟨k+1,oM,by go_num,T,a.trans (E.mono a.size)⟩
    case measure=>exact mS
  ·obtain rfl:k=l.length:=oM
   have hf:Hid (∀x∈l,(Iv.inside s.date) x=false):=Z1 (by have:=S.out;rwa [Xs] at this);clear h;go_wp2;go_ret;exact⟨a,.inl ⟨rfl,hf.out⟩⟩
theorem a9a (A:OA) (n c:Nat) (l:List Itv) (f a:Int) (ib:Nat) (s:w.heap[ib]?=some (.cells #[f,a] 91 (0,0))) (hl:l.length=n) (hn:n<=1000) (h:ItvsAt w w A l) :
  Calls prog 136 #[.slice A n c,.func (.func 81) #[] #[.pointer (some ⟨ib,0,none⟩)]] w (IdxI (Iv.off f a) l w):=by
 subst hl;have Hb:=Z1 s;have X:=Vq s;clear s;go_enter func136,ntmps136;go_wp2
 go_loopw [8] (fun i wr=>∃k:Nat,k<=l.length/\i=k/\(∀x∈l.take k,(Iv.off f a) x=false)/\Below w w wr) (fun i _=>l.length-(intOf i).toNat)
 case atStart=>exact⟨0,Vb _,rfl,sP,bR⟩
 case round =>
  obtain⟨k,hk,rfl,ha,s⟩:=hrel;have S:=Z1 ha;clear ha
  by_cases I:k<l.length
  ·obtain⟨b,o,rfl,W,O⟩:=RowsAt.look (RowsAt.below h s lR) I
   have a0:b<wr:=Xg W s.size;obtain⟨y,hy⟩:=eX (l[k]);have Hy:=Z1 hy;rw[<- hy] at O;have O:wr.rangeAt b (o+k*3) [y.frm,y.to,y.meth]:=O;have Hr:=Z1 O;have Q:=Z1 (a7Q wr y f a ib (gbox Hb s X));clear hy O
   cases J:(Iv.off f a) y with
   |true =>
    rw[J] at Q;have T:Hid ((Iv.off f a) l[k]):=by show _=_;rw[<- Hy];exact J
    clear J;go_wp2_with (refine VH rfl 93 (.tmp 14) rfl b (o+k*3) rfl [y.frm,y.to,y.meth] _ Hr ZX rfl a1h ?_);refine Q.mono ?_;rintro e w4 ⟨rfl,E⟩;go_wp2;go_ret;exact⟨s.trans (E.mono s.size),.inr ⟨k,I,rfl,T,S⟩⟩
   |false =>
    rw[J] at Q
    have T:Hid (∀x∈l.take (k+1),(Iv.off f a) x=false):=Z1 fun x L=>by
     rw[tse I,V9] at L
     rcases L with L|L
     ·exact S x L
     ·rw[VY.1 L,<- Hy];exact J
    clear J;go_wp2_with (refine VH rfl 93 (.tmp 14) rfl b (o+k*3) rfl [y.frm,y.to,y.meth] _ Hr ZX rfl a1h ?_);refine Q.mono ?_;rintro e w4 ⟨rfl,E⟩;go_wp2;go_roundw
    case rel=>exact⟨k+1,oM,by go_num,T,s.trans (E.mono s.size)⟩
    case measure=>exact mS
  ·obtain rfl:k=l.length:=oM
   have hf:Hid (∀x∈l,(Iv.off f a) x=false):=Z1 (by have:=S.out;rwa [Xs] at this);clear h;go_wp2;go_ret;exact⟨s,.inl ⟨rfl,hf.out⟩⟩
theorem b1i (A:OA) (n c:Nat) (l:List Itv) (a:Itm) (o:Nat) (I:w.heap[o]?=some (.cells a 70 (0,0))) (J:l.length=n) (L:n<=1000) (h:ItvsAt w w A l) :
  CL 91 #[.slice A n c,.func (.func 92) #[] #[.pointer (some ⟨o,0,none⟩)]] w (.bool (l.any (Iv.inside a.date))):=by
 have H:=Z1 (a9b w A n c l a o I J L h);clear J L h I;go_enter func91,ntmps91;go_wp2_with (fail);refine H.mono ?_;rintro e W ⟨s,⟨rfl,E⟩|⟨k,Q,rfl,O,_⟩⟩
 ·have i:Hid (l.any (Iv.inside a.date)=false):=by show _=_;rw[Z9];intro x T;rw[E x T];simp
  clear E;go_wp2;go_ret;exact⟨by rw[i];rfl,s⟩
 ·have i:Hid (l.any (Iv.inside a.date)):=by show _=_;rw[YY];exact⟨_,Vm Q,O⟩
  have S:decide (((k:Nat):Int) ≥ 0):=sP;clear O;go_wp2;go_ret;exact⟨by rw[i];simp,s⟩
theorem a1d {B:Nat} {a:World} (b:Nat) (i:B<=b):∀(s:List Value) (o:Nat) {w:World},Below B a w->Below B a (w.setCells b o s)
 |[],_,_,h=>h
 |v::r,o,_,h=>a1d b i r (o+1) (h.setCell (p:=⟨b,o,none⟩) i v)
theorem a4t {P:Program} (w:World) (n:Nat) (t e L:TypeId) (z:Value) (J:P.underlying t=some (.slice e)) (hv:∀w,(zeroValue e).run P w=.ok z w) (I:∀v∈(Builtin.zeroCells z.cells n).toList,v.oneCell') (b o c m:Nat) (O:0<n) (E:(Builtin.zeroCells z.cells n).toList.length=m)
  (s:w.there b o m) :
  (Builtin.clear_ #[t] L #[.slice (some ⟨b,o,none⟩) n c]).run P w=.ok (.tuple #[]) (w.setCells b o (Builtin.zeroCells z.cells n).toList):=by
 have a:=run_storeCells_cells (P:=P) b o (Builtin.zeroCells z.cells n).toList 0 w (fun j i=>(s j (by rw[<- E];exact i)).1) (fun j i=>(s j (by rw[<- E];exact i)).2) I;simp only[KL] at a;obtain⟨k,rfl⟩:∃k,n=k+1:=⟨n-1,oM⟩;simp[Builtin.clear_,run_underlying J,hv,a]
theorem zero3 (n:Nat):(Builtin.zeroCells #[Value.int .i64 0,(),()] n).toList.length=n*3/\∀v∈(Builtin.zeroCells #[Value.int .i64 0,(),()] n).toList,v.oneCell':=by
 refine⟨by simp[Builtin.zeroCells],fun v hv=>?_⟩;simp[Builtin.zeroCells] at hv;obtain⟨i,a,rfl⟩:=hv;have:i % 3=0∨i % 3=1∨i % 3=2:=oM
 rcases this with h|h|h <;> simp[h,Value.oneCell']
theorem a2u {w w':World} {b o n C:Nat} (h:w.there b o n) (i:Below C w w') (a:b<C):w'.there b o n:=fun j s=>by
 obtain⟨a1,a2⟩:=h j s;refine⟨by rw[i.cell (p:=⟨b,o+j,none⟩) a];exact a1,?_⟩;rw[<- a2];unfold World.frozen?;simp only[i.block b a]
def DelPost (base:Nat) (L:List Itv) (w:World) (e:Ending) (w':World):Prop :=
 Below base w w'/\∃A c,e=.returned (.slice A L.length c)/\ItvsAt w' w' A L
theorem itvInfo:(prog.info? 93).map (fun i=>(i.zero,i.size,i.bytes))=some (some (.agg #[(),(),()]),3,24):=kR
theorem b1l (A:OA) (n c:Nat) (l:List Itv) (Q:l.length=n) (hn:n<=100000) (h:RowsAt Itv.cells 3 w w A l) :
  Calls prog 80 #[.slice A n c] w (ClonePost Itv.cells 3 93 n l w):=by
 have qn:=fun(w:World) (a:OA) (n c n' c':Nat)=>Zp (P:=prog) w _ _ a n c n' c' underlying97
 cases A with
 |none =>
  have T:l=[]:=by rcases h with h|⟨b,o,e,_⟩;exact h;cases e
  subst T;obtain rfl:n=0:=by simpa using Q.symm
  clear Q h hn;go_enter func80,ntmps80;go_wp2;go_ret;exact ClonePost.nil
 |some ad =>
  obtain⟨i0,hi,a4,a5,a6⟩:=XW itvInfo;have E:Hid (∀j u,(l.flatMap Itv.cells)[j]?=some u->(w.alloc (.cells #[] 93)).cell? (ad.add j)=some u):=Z1 fun j u hj=>Lib.cell?_alloc_some _ (a0N (f:=Itv.cells) (sz:=3) dC (fun _=>rfl) h j u hj);have J:Hid ((l.flatMap Itv.cells).length=n*3):=by show _=_;rw[Xj (f:=Itv.cells) (sz:=3) (fun _=>rfl),Q]
  have L:Hid (∀u∈l.flatMap Itv.cells,u.oneCell'):=Z1 fun u hu=>by
   rw[Yz] at hu;obtain⟨x,_,hx⟩:=hu;revert u;simp[Itv.cells,Value.oneCell']
  have W:0+n<=maxLen:=by unfold maxLen;omega
  have X:(0+n)*24<=140737488355328:=oM;have a0:w.heap.size<=(w.alloc (.cells #[] 93)).heap.size:=sP;have s:=Y5 (e:=93) (size:=3) w #[] 0 lR (Vb _) rfl;clear Q h;go_enter func80,ntmps80;go_wp2_with (at_builtin;refine Hid.out ?_);show wpList _ _ _ _ _ _;refine Xd _ rfl _ _ 97 rfl w.heap.size 93 i0 (.agg #[(),(),()]) 3 24 underlying97 hi a4 a5 a6 rfl dC _ _ _ rfl s ad n c (l.flatMap Itv.cells) rfl J E L W X a0 ?_;intro v' w1 i I _;have hb:Below w w w1:=((VM _ w).alloc lR _).grown I sP (fun k hk=>(s.lt k hk).1);rw[VN,Xr] at i
  obtain⟨S,c',rfl⟩:∃S c',v'=.slice S n c':=by
   rcases i.2 with⟨e,T⟩|⟨g,a7,cur,e,_⟩
   ·exact⟨none,0,by rw[e,T]⟩
   ·exact⟨_,_,e⟩
  have O:=Z1 i;have Hb:=Z1 hb;clear i hb;go_wp2;go_ret;exact⟨Hb,S,c',rfl,O⟩
theorem a7y (base:Nat) (A:OA) (n c:Nat) (l:List Itv) (f S:Int) (ib:Nat) (hb:w.heap[ib]?=some (.cells #[f,S] 91 (0,0))) (au:ib<base) (I:base<=w) (hl:l.length=n) (hn:n<=1000)
  (s:w.ownsRow base 93 3 (.slice A n c) n (l.flatMap Itv.cells)) :
  Calls prog 79 #[.slice A n c,.func (.func 81) #[] #[.pointer (some ⟨ib,0,none⟩)]] w (DelPost base (l.filter (fun x=>!Iv.off f S x)) w):=by
 subst hl;obtain⟨kp,ah⟩:=eX ((fun x=>!Iv.off f S x):Itv->Bool);rw[<- ah];have T:=Z1 ah;clear ah;obtain⟨A0,c0,b0,a0⟩:=Xw (f:=Itv.cells) (sz:=3) dC (fun _=>rfl) s rfl
 cases b0
 obtain⟨H,Hb,a7,al⟩:=Z4 (a9a w A l.length c l f S ib hb rfl hn a0) hb a0 s;clear hb a0 s;go_enter func79,ntmps79;go_wp2_with (fail);refine H.mono ?_;rintro e W2 ⟨E,⟨rfl,ha⟩|⟨k0,b4,rfl,hq,ha⟩⟩
 ·have hL:l.filter kp=l:=List.filter_eq_self.2 fun x hx=>by rw[T];simp[ha x hx]
  have HP:Hid (DelPost base (l.filter kp) w (.returned (.slice A l.length c)) W2):=by
   show DelPost _ _ _ _ _;rw[hL];exact⟨E.mono I,A,c,rfl,RowsAt.at_ a7 E⟩
  clear hL ha E;go_wp2;go_ret;exact HP
 have s:=al.out
 rcases s.2 with⟨e0,_⟩|⟨g,b9,cur,e0,ag,X,bk,bc,b1,_⟩
 ·simp only[Value.slice.injEq] at e0;omega
 simp only[Value.slice.injEq,Jl] at e0;obtain⟨rfl,rfl⟩:=e0;have ar:=Vq X
 have a4:w.there g 0 (l.length*3):=fun j hj=>by
  refine⟨?_,?_⟩
  ·rw[VN,cr9 _ X];simp;omega
  ·rw[VN];exact fr0 _ X
 have ay:Hid (W2.there g 0 (l.length*3)):=Z1 fun j hj=>by
  obtain⟨a1,a2⟩:=a4 j hj;refine⟨by rw[E.cell (p:=⟨g,0+j,none⟩) ar];exact a1,?_⟩;rw[VN];exact fr0 _ (gbox X E ar)
 have a6:Hid ((l.take (k0+1)).filter kp=l.take k0):=by
  show _=_;rw[a1v b4,VB (by rw[T];simp[hq]),XG];exact List.filter_eq_self.2 fun x hx=>by rw[T];simp[ha x hx]
 have O:Hid (∀k v,l[k]?=some v->W2.rangeAt g (k*3) v.cells):=Z1 fun k v hv=>by
  obtain⟨hk,rfl⟩:=List.getElem?_eq_some_iff.1 hv;obtain⟨b',o',e',ba,aw⟩:=RowsAt.look (RowsAt.below a7 E lR) hk
  cases e'
  rw[VN] at aw;exact aw
 have ai:=Z1 (E.mono I);have bm:=E.size;have b8:=Z1 (gbox Hb ai au);have b7:((k0:Int)==-1)=false:=Jf.2 oM;clear hq ha a4 E s X b1;go_wp2
 go_loopw [5,6] (fun a b' wr=>∃i j:Nat,a=i/\b'=j/\i<j/\j<=l.length/\((l.take j).filter kp).length=i/\(∀k v,((l.take j).filter kp)[k]?=some v->wr.rangeAt g (k*3) v.cells)/\(∀k v,j<=k->l[k]?=some v->wr.rangeAt g (k*3) v.cells)/\wr.there g 0 (l.length*3)/\Below base w wr) (fun _ b' _=>l.length-(intOf b').toNat)
 case atStart =>
  refine⟨k0,k0+1,rfl,by go_num,oM,oM,by rw[a6.out];simp;omega,fun k v hv=>?_,fun k v _ hv=>O.out k v hv,ay.out,ai⟩;rw[a6.out,List.getElem?_take] at hv
  split at hv
  ·exact O.out k v hv
  ·cases hv
 case round =>
  obtain⟨i,j,rfl,rfl,b2,hj,hi,ao,an,a4,J⟩:=hrel;obtain⟨ac,ab,a5,Hi⟩:=Z4 ao an a4 hi;have L:g<wr:=by have:=J.size;omega
  have ak:=gB Hb J au;clear ao an a4 hi
  by_cases av:j<l.length
  case neg =>
   obtain rfl:j=l.length:=oM;have hF:(l.take l.length).filter kp=l.filter kp:=by rw[Xs]
   have hz:∀W:World,(zeroValue 93).run prog W=.ok (.agg #[(),(),()]) W:=fun W=>kR;have aa:wr.there g (i*3) ((l.length-i)*3):=fun q hq=>by have:=a5.out (i*3+q) oM;rwa [VN] at this
   obtain⟨z1,z2⟩:=zero3 (l.length-i)
   have bb:∀ty,(Builtin.clear_ #[97] ty #[.slice (some ⟨g,i*3,none⟩) (l.length-i) (c-i)]).run prog wr=.ok (.tuple #[]) (wr.setCells g (i*3) (Builtin.zeroCells #[Value.int .i64 0,(),()] (l.length-i)).toList) :=
    fun ty=>a4t wr (l.length-i) _ _ ty _ underlying97 hz z2 g (i*3) (c-i) _ oM z1 aa
   have HP:Hid (DelPost base (l.filter kp) w (.returned (.slice (some ⟨g,0,none⟩) i c)) (wr.setCells g (i*3) (Builtin.zeroCells #[Value.int .i64 0,(),()] (l.length-i)).toList)):=by
    have hi:=Hi.out;rw[hF] at hi;refine⟨a1d g ag _ _ J,some ⟨g,0,none⟩,c,by rw[hi],.inr ⟨g,0,rfl,by have:=(a1d (a:=wr) g ag (Builtin.zeroCells #[Value.int .i64 0,(),()] (l.length-i)).toList (i*3) (VM base wr)).size;omega,fun k hk q v hv=>?_⟩⟩;have a6:=ac.out k _ (by rw[hF];exact List.getElem?_eq_getElem hk);rw[VN];exact Jp a6 g (i*3) _ (.inr (.inl (by show k*3+3<=i*3;omega))) q v hv
   have b3:(i:Int)<=(l.length:Int):=oM;have bh:¬ c<=i:=oM;have b6:¬ (c=i):=oM;clear hF hz aa z1 z2 J;go_wp2;go_ret;exact HP
  obtain⟨y,hy⟩:=eX (l[j]);have hr:=ab.out j y lR (by rw[hy];exact List.getElem?_eq_getElem av);have hr:wr.rangeAt g (j*3) [y.frm,y.to,y.meth]:=hr;have Hr:=Z1 hr;have ae:=Z1 (a1v (P:=kp) av);rw[<- hy] at ae;have Hy:=Z1 hy;obtain⟨Wa,ap,af,ax,b5⟩:=nw1 wr #[y.frm,y.to,y.meth] 93;obtain⟨az,ad,aj⟩:=Z3 ap ax af;have aq:=gbox ak af (Vq ak);have HC:=Z1 (a7Q Wa y f S ib aq);have sa:(wr:Nat)<Wa:=oM;clear hr hy ap ax b5 af aq;go_upto_region 8 with(refine VH rfl 93 (.tmp 24) rfl g (j*3) rfl [y.frm,y.to,y.meth] _ Hr ZX rfl a1h ?_);rw[<- az];have bl:i<j:=b2;have bg:(l.take j).filter kp=(l.take j).filter kp:=rfl
  cases hq:Iv.off f S y with
  |true =>
   rw[hq] at HC;have HS:Hid ((l.take (j+1)).filter kp=(l.take j).filter kp):=by show _=_;rw[ae,VB (by rw[T];simp[hq]),XG]
   clear hq;go_wp2_with (refine Vd rfl 93 _ rfl _ rfl _ _ _ _ ad ZX rfl a1h ?_);refine HC.mono ?_;rintro e W3 ⟨rfl,Q⟩;have o:=bT aj Q;clear Q;go_wp2;go_roundw
   case rel =>
    refine⟨i,j+1,rfl,by go_num,oM,oM,by rw[HS];exact Hi,fun k v hv=>?_,fun k v hk hv=>?_,a2u a5 o L,J.trans (o.mono (Vn I J.size))⟩
    ·rw[HS] at hv
     exact VK (ac k v hv) o L
    ·exact VK (ab k v oM hv) o L
   case measure=>exact mS
  |false =>
   rw[hq] at HC;have HS:Hid ((l.take (j+1)).filter kp=(l.take j).filter kp++[y]):=by show _=_;rw[ae,Vt (by rw[T];simp[hq])]
   clear hq;go_wp2_with (refine Vd rfl 93 _ rfl _ rfl _ _ _ _ ad ZX rfl a1h ?_);refine HC.mono ?_;rintro e W3 ⟨rfl,Q⟩;have o:=bT aj Q;have am:=gB ad Q sa;have a8:=a2u a5 o L;have a9:Hid (W3.there g (i*3) 3):=Z1 fun q hq=>by have:=a8 (i*3+q) oM;rwa [VN] at this
   have be:g<W3:=by have:=o.out.size;omega
   have bi:(i:Int)<(l.length:Int):=oM;have bf:(0:Int)<=(i:Int):=oM;clear Q a8;go_wp2_with (first|(refine Vd rfl 93 _ rfl _ rfl _ _ _ _ am ZX rfl a1h ?_)|(refine KX rfl 93 (.tmp 33) (.tmp 32) rfl g (i*3) #[y.frm,y.to,y.meth] rfl rfl a9.out a1h oC ?_));go_roundw
   case rel =>
    refine⟨i+1,j+1,by go_num,by go_num,oM,oM,by rw[HS,Vc,Hi];rfl,fun k v hv=>?_,fun k v hk hv=>?_,World.there_setCells (a2u a5 o L) _ _ _,a1d g ag _ _ (J.trans (o.mono (Vn I J.size)))⟩
    ·rw[HS] at hv
     have hi:=Hi.out
     by_cases bj:k<i
     ·rw[List.getElem?_append_left oM] at hv
      exact Jp (VK (ac k v hv) o L) _ _ _ (.inr (.inl (by show k*3+3<=i*3;omega)))
     ·rw[List.getElem?_append_right oM] at hv
      obtain rfl:k=i:=by have:=(List.getElem?_eq_some_iff.1 hv).1;simp at this;omega
      rw[hi,Kk] at hv
      cases hv
      exact World.rangeAt_setCells_same _ _ _ _ a9.out
    ·exact Jp (VK (ab k v oM hv) o L) _ _ _ (.inr (.inr (by show i*3+3<=k*3;omega)))
   case measure=>exact mS
theorem a4M (k n:Int) (p:Nat) (I:w.cell? ⟨p,0,none⟩=some (.int .i64 n)) (E:p<w) :
  Calls prog 122 #[k,.pointer (some ⟨p,0,none⟩)] w fun e w'=>e=.returned (.bool (decide (0<=k/\k<n)))/\w=w':=by
 have o:∀v:Bool,v=(decide (0<=k)&&decide (k<n))->v=decide (0<=k/\k<n):=fun v h=>by rw[h];simp
 by_cases i:0<=k
 ·have s:decide (k ≥ 0):=by simpa using i
  have a:Hid (decide (0<=k/\k<n)=decide (k<n)):=by show _=_;simp[i]
  clear o;go_enter func122,ntmps122;go_wp2;go_ret;exact⟨by first|rfl|(rw[a];rfl),rfl⟩
 ·have s:decide (k ≥ 0)=false:=by simpa using i
  have a:Hid (decide (0<=k/\k<n)=false):=by show _=_;simp[i]
  clear o;go_enter func122,ntmps122;go_wp2;go_ret;exact⟨by first|rfl|(rw[a];rfl),rfl⟩
theorem a8P (n:Int) (x:Hld):CL 67 #[n,x] w (Hd.proper n x):=by
 obtain⟨W1,X,i,O,o,hz⟩:=nw2 w #[n] x 3 43;have HW:=Z1 X;have c0:=cr9 0 O;have z0:=cr9 0 o;have z1:=cr9 1 o;have z2:=cr9 2 o;have z3:=cr9 3 o;simp at c0 z0 z1 z2 z3;have s1:=Vq O;have s2:=Vq o;obtain⟨T,W,S⟩:=Z3 (a4M W1 x.hdr n w c0 s1) (a4M W1 x.ent n w c0 s1) (a0S x.date W1)
 have hV:Hd.proper n x=(decide (0<=x.hdr/\x.hdr<n)&&decide (0<=x.ent/\x.ent<n)&&decide (x.hdr≠x.ent)&&decide (-25567<=x.date/\x.date<=84005)&&decide (0<=x.shr)&&decide (x.shr<=10000)):=by
  unfold Hd.proper Gr.date;rw[XX];simp;omega
 obtain⟨v,hv⟩:=eX (Hd.proper n x);rw[<- hv] at hV⊢;have Q:=Z1 hV;obtain⟨b1,I⟩:=eX (decide (0<=x.hdr/\x.hdr<n));obtain⟨b2,J⟩:=eX (decide (0<=x.ent/\x.ent<n));obtain⟨b4,L⟩:=eX (decide (-25567<=x.date/\x.date<=84005));rw[<- I,<- J,<- L] at Q;rw[<- I] at T;rw[<- J] at W;rw[<- L] at S;clear X hz O o hV hv I J L c0;go_enter func67,ntmps67;go_upto_region 1 with(fail);rw[<- HW];go_wp2_with (fail);refine T.mono ?_;rintro e W2 ⟨rfl,rfl⟩
 cases b1 with
 |false =>
  have a:Hid (v=false):=by show _=_;rw[Q];rfl
  go_wp2;go_ret;exact⟨by rw[a];rfl,i⟩
 |true =>
 go_wp2_with (fail);refine W.mono ?_;rintro e W2 ⟨rfl,rfl⟩
 cases b2 with
 |false =>
  have a:Hid (v=false):=by show _=_;rw[Q];rfl
  go_wp2;go_ret;exact⟨by rw[a];rfl,i⟩
 |true =>
 by_cases s:x.hdr=x.ent
 ·have k1:(x.hdr != x.ent)=false:=by simp[s]
  have a:Hid (v=false):=by show _=_;rw[Q];simp[s]
  clear s;go_wp2;go_ret;exact⟨by rw[a];rfl,i⟩
 have k1:(x.hdr != x.ent):=by simp[s]
 have E:Hid (v=(b4&&decide (0<=x.shr)&&decide (x.shr<=10000))):=by show _=_;rw[Q];simp[s]
 clear s;go_wp2_with (fail);refine S.mono ?_;rintro e W2 ⟨rfl,rfl⟩
 cases b4 with
 |false =>
  have a:Hid (v=false):=by show _=_;rw[E];rfl
  go_wp2;go_ret;exact⟨by rw[a];rfl,i⟩
 |true =>
 by_cases hs:0<=x.shr
 case neg =>
  have k2:decide (x.shr ≥ 0)=false:=by simpa using hs
  have a:Hid (v=false):=by show _=_;rw[E];simp[hs]
  go_wp2;go_ret;exact⟨by rw[a];rfl,i⟩
 have k2:decide (x.shr ≥ 0):=by simpa using hs
 have a0:Hid (v=decide (x.shr<=10000)):=by show _=_;rw[E];simp[hs]
 go_wp2;go_ret;exact⟨by rw[a0];rfl,i⟩
open Go.Shelf
attribute [local go_sem] Oper.semAt_some
def KeepR (n lo i:Nat) (W a:World):Prop:=∀b,b<n->(b<lo∨i<=b)->a.heap[b]?=W.heap[b]?
theorem KeepR.refl (n lo a:Nat) (W:World):KeepR n lo a W W:=fun _ _ _=>rfl
theorem KeepR.trans {n lo a:Nat} {A B C:World} (h:KeepR n lo a A B) (k:KeepR n lo a B C):KeepR n lo a A C:=fun b o i=>(k b o i).trans (h b o i)
theorem KeepR.putObj {n lo a:Nat} {w:World} (I:n<=w) (W:World) (l:Nat) (o i:Obj) (E:w<=l) (_:W.heap[l]?=some o) (_:o.isCells=false) (_:o.isWalk=false):KeepR n lo a W (W.putObj l i) :=
 fun _ s _=>World.putObj_heap_other oM
theorem KeepR.alloc {n lo a:Nat} {A W:World} (h:KeepR n lo a A W) (E:n<=W) (o:Obj):KeepR n lo a A (W.alloc o):=fun b s i=>(VD W o b oM).trans (h b s i)
theorem KeepR.cell {n lo a:Nat} {A B:World} (h:KeepR n lo a A B) {b:Nat} (s:b<n) (i:b<lo∨a<=b) (o:Nat):B.cell? ⟨b,o,none⟩=A.cell? ⟨b,o,none⟩:=World.cell?_of_block (w:=A) (h b s i)
theorem RowsAt.keepR {α:Type} {f:α->List Value} {sz:Nat} {w w':World} {B n lo s:Nat} {A:OA} {l:List α} (h:RowsAt f sz w B A l) (a:KeepR n lo s w w') (J:B<=n) (L:B<=lo):RowsAt f sz w' B A l:=by
 rcases h with h|⟨b,o,e,I,i⟩
 ·exact .inl h
 ·exact .inr ⟨b,o,e,I,fun k E j v hv=>(a.cell (b:=b) oM (.inl oM) _).trans (i k E j v hv)⟩
theorem b2j (A:OA) (n c:Nat) (h e:Int) :
  Calls prog 178 #[.slice A n c,h,e] w fun ev w' =>
   ev=.returned (.func (.func 230) #[] #[.pointer (some ⟨w,0,none⟩),.pointer (some ⟨w+1,0,none⟩),.pointer (some ⟨w+2,0,none⟩)]) /\
   w'=((w.alloc (.cells #[.slice A n c] 32)).alloc (.cells #[h] 3)).alloc (.cells #[e] 3):=by
 go_enter func178,ntmps178;go_wp2;go_ret;exact⟨rfl,rfl⟩
def encH (x:Hld):Array Value:=#[x]
theorem a5r (l:List Hld) (p:Hld->Bool) (k:Nat) (h:k<l.length) (a:p l[k]):(l.take (k+1)).filter p=(l.take k).filter p++[l[k]]:=by
 rw[tse h,Yq,Jh a,ZF]
theorem a4u (l:List Hld) (p:Hld->Bool) (k:Nat) (h:k<l.length) (a:p l[k]=false):(l.take (k+1)).filter p=(l.take k).filter p:=by
 rw[tse h,Yq,Jg (by simp[a]),ZF,XG]
theorem b2k (m:Nat) (hm:1<=m) (l n₀ lo hi:Nat) (B0 B1 B2:Nat) (A:OA) (n c:Nat) (E:List Hld) (h L:Int) (hl:E.length=n) (hn:n<=1000)
  (q:Nat) (hq:q<=n₀) (a9:q<=lo) (aa:B1<n₀) (ab:B2<n₀) (ae:B1<lo∨hi<=B1) (af:B2<lo∨hi<=B2)
  (J Jx:List Hld->World->Prop) (W:World) (hW:n₀<=W) (hJ:AbidesFrom W J)
  (hY:∀pre x W1,J pre W1->pre.length<E.length->YieldAt Fence.wide (m-1) prog l (encH x) W1 fun e W' =>
   (e=.returned (.bool true)/\J (pre++[x]) W'/\(KeepR n₀ lo hi W1 W'/\(W1:Nat)<=W'))∨(e=.returned (.bool false)/\Jx (pre++[x]) W'))
  (c0:W.cell? ⟨B0,0,none⟩=some (.slice A n c)) (c1:W.cell? ⟨B1,0,none⟩=some (.int .i64 h)) (c2:W.cell? ⟨B2,0,none⟩=some (.int .i64 L))
  (hA:RowsAt Hld.cells 4 W q A E) (h0:J [] W) :
  CallsIn Fence.wide m prog 230 #[.func (.yield l) #[] #[],.pointer (some ⟨B0,0,none⟩),.pointer (some ⟨B1,0,none⟩),.pointer (some ⟨B2,0,none⟩)] W fun e W'=>(∃v,e=.returned v) /\
   ((∃ys,ys=E.filter (Hd.pair h L)/\J ys W')∨(∃pre,True/\Jx pre W')):=by
 subst hl;refine Qr func230 rfl trivial ?_ rfl;simp only[ntmps230,Yn,Xl,Y8,Nat.reduceAdd,Nat.reduceSub,Yr,Yl,YT,YW,Xr,XM]
 gi_wp2
 gi_loopw [9] (fun i wr=>∃k:Nat,k<=E.length/\i=k/\J ((E.take k).filter (Hd.pair h L)) wr/\KeepR n₀ lo hi W wr/\(W:Nat)<=wr) (fun i _=>E.length-(intOf i).toNat)
 case atStart=>exact⟨0,Vb _,rfl,h0,KeepR.refl _ _ _ _,lR⟩
 case round =>
  obtain⟨k,hk,rfl,O,Q,al⟩:=hrel
  by_cases a0:k<E.length
  ·obtain⟨bb,o,rfl,aj,hr⟩:=RowsAt.look (RowsAt.keepR hA Q hq a9) a0
   have d0:=hr 0 _ rfl;have d1:=hr 1 _ rfl;have d2:=hr 2 _ rfl;have d3:=hr 3 _ rfl;simp at d0 d1 d2 d3;have ak:bb<wr:=oM;have e1:=(Q.cell aa ae 0).trans c1;have e2:=(Q.cell ab af 0).trans c2;have f1:B1<wr:=oM;have f2:B2<wr:=oM;obtain⟨x,hx⟩:=eX (E[k]);have I:∀pre,J pre wr->J pre (wr.alloc (.cells #[x.hdr,x.ent,x.date,x.shr] 43)):=fun pre hp=>hJ _ _ _ none hp (KP _ _ none) sP;rw[<- hx] at d0 d1 d2 d3
   by_cases a:Hd.pair h L x
   ·have S:=Z1 (a5r E (Hd.pair h L) k a0 (by rw[<- hx];exact a))
    rw[<- hx] at S;have X:((E.take k).filter (Hd.pair h L)).length<E.length:=Jd (XY _ _) (by rw[XF];omega);have T:=I _ O;obtain⟨fn,ai,a6,ah,hy,hR⟩:=hY _ x _ T X;have q1:(x.hdr==h):=by unfold Hd.pair at a;simp at a;simp[a.1]
    have q2:(x.ent==L):=by unfold Hd.pair at a;simp at a;simp[a.2]
    clear a X T hr hx I;unfold encH at hy
    gi_wp2
    refine hR.mono ?_;rintro ev W3 (⟨rfl,a7,ad,ag⟩|⟨rfl,a4⟩)
    ·have a8:=(Q.alloc oM _).trans ad
     have a5:=ag;simp at a5
     gi_wp2
     go_roundw
     case rel=>exact⟨k+1,oM,by go_num,by rw[S.out];exact a7,a8,oM⟩
     case measure=>exact mS
    ·gi_wp2
     refine VG (Kb rfl _ _ _) rfl ?_;exact⟨⟨_,rfl⟩,.inr ⟨_,trivial,a4⟩⟩
   ·have s:Hd.pair h L x=false:=by simpa using a
    have S:=a4u E (Hd.pair h L) k a0 (by rw[<- hx];exact s)
    have T:Hid (J ((E.take (k+1)).filter (Hd.pair h L)) (wr.alloc (.cells x 43))):=by
     show J _ _;rw[S];exact I _ O
    have ac:(x.hdr==h)=false∨((x.hdr==h)/\(x.ent==L)=false):=by
     unfold Hd.pair at s
     by_cases g1:x.hdr=h
     ·right;simp[g1] at s⊢;exact s
     ·left;simp[g1]
    clear S a O hY hJ h0 I hx hr
    rcases ac with q1|⟨q1,q2⟩
    all_goals
     clear s
     gi_wp2
     refine⟨fun _ _=>trivial,?_⟩
     gi_wp2
     go_roundw
     case rel=>exact⟨k+1,oM,by go_num,T.out,Q.alloc oM _,sO⟩
     case measure=>exact mS
  ·obtain rfl:k=E.length:=oM
   rw[Xs] at O
   gi_wp2
   go_end0
   exact⟨⟨_,rfl⟩,.inl ⟨_,rfl,O⟩⟩
def plainOp (o:Oper):Bool:=match o.op with
 |.load _ _|.store _ _ _|.fieldAddr _ _ _|.assign _|.move _=>true
 |_=>false
def plainRes:Result Next->Prop
 |.ok (.value _) _=>True
 |.ok .skip _=>True
 |.halt _ _=>True
 |_=>False
theorem b0d {P:Program} {o:Oper} (h:plainOp o) (ρ:Operand->Value) (w:World):plainRes ((execOp ρ o).run P w):=by
 unfold plainOp at h
 split at h
 all_goals first|(cases h;done)|skip
 all_goals
  rename_i a;unfold execOp;simp only[a]
  try simp only[Jz,K7]
  first
   |trivial
   |(generalize Sem.run _ _ _=r;cases r <;> trivial)
   |skip
def onlyN (Q:Exit->Act->World->Prop):Exit->Act->World->Prop
 |.normal,a,w=>Q .normal a w
 |_,_,_=>False
theorem b2o (Q:Exit->Act->World->Prop):¬ LetsOut (onlyN Q):=fun⟨_,_,h⟩=>h
theorem a9u {F:Fence} {n:Nat} {P:Program} {E:Array Oper} {Q:Exit->Act->World->Prop} {i:Nat} {K K':Act->World->Prop} {a:Act} {w:World} (hp:∀o,E[i]?=some o->plainOp o) (L:∀a w,K a w->K' a w)
  (h:wpOp P E (onlyN Q) i K a w):wpOpIn F n P E Q i K' a w:=by
 unfold wpOp at h;unfold wpOpIn
 cases O:E[i]? with
 |none=>rw[O] at h;exact L _ _ h
 |some o =>
  rw[O] at h;simp only at h⊢;have s:=hp o O
  have I:o.about P w a.eval=none:=by
   unfold plainOp at s;unfold Oper.about
   split at s <;> first|(cases s;done)|(rename_i X;simp only[X])
  have S:∀c,o.op≠.defer c:=fun c e=>by unfold plainOp at s;rw[e] at s;cases s
  split
  ·rename_i T
   rw[Vt T] at h
   rcases h with h|⟨_,h⟩
   ·unfold Oper.wpIn
    refine⟨fun f J=>(by rw[I] at J;cases J),?_⟩;rw[Oper.semAt_plain F _ _ S];unfold Oper.wp at h;have W:=b0d (P:=P) s a.eval w
    generalize (execOp a.eval o).run P w=r at h W⊢
    cases r with
    |ok x w'=>cases x <;> first|exact L _ _ h|exact W.elim
    |halt x w'=>cases x <;> exact h.elim
   ·exact absurd h (b2o Q)
  ·rename_i T
   rw[VB T] at h;exact⟨fun f J=>(by rw[I] at J;cases J),L _ _ h⟩
theorem a4B {F:Fence} {n:Nat} {P:Program} {L:Region.Mode} {I:Array Oper} {Q:Exit->Act->World->Prop} (J:∀(i:Nat) (o:Oper),I[i]?=some o->plainOp o) :
  ∀(s:Nat) (E:Array Bool) (a:Act) (w:World),wpAny P L I (onlyN Q) s E a w->wpAnyIn F n P L I Q s E a w
 |0,_,_,_,h=>h
 |s+1,_,_,_,h=>⟨h.1,fun i S=>a9u (J i) (fun _ _ O=>a4B J s _ _ _ O) (h.2 i S)⟩
theorem a1D {F:Fence} {n:Nat} {P:Program} {J:Nat} {s:Array Oper} {Q:Exit->Act->World->Prop} {S:World->Prop} {a:Act} {w:World} (E:P.follows .mixedOrders) (I:∀(i:Nat) (o:Oper),s[i]?=some o->plainOp o)
  (h:wpAnyH P .any s (onlyN Q) S s.size (Array.replicate s.size false) a { w with drawn:=w.drawn+1 }):(Code.region J s true).wpIn F n P Q a w :=
 wpIn_region_any E (a4B I _ _ _ _ (wpAny_of_held _ _ _ _ h))
theorem a6e {a:Array Oper} (h:a.all plainOp):∀(i:Nat) (o:Oper),a[i]?=some o->plainOp o:=fun i o E=>by
 obtain⟨s,rfl⟩:=Array.getElem?_eq_some_iff.1 E;exact(Array.all_eq_true.1 h) i s
structure IRow where
 A:Option Addr
 n:Nat
 c:Nat
 l:List Int
def IRow.cells (r:IRow):List Value:=[.slice r.A r.n r.c]
def icell (x:Int):List Value:=[.int .i64 x]
structure IRow.At (w:World) (B:Nat) (r:IRow):Prop where
 hl:r.l.length=r.n
 hA:RowsAt icell 1 w B r.A r.l
theorem IRow.At.below {w w':World} {B C:Nat} {r:IRow} (h:r.At w B) (i:Below C w w') (a:B<=C):r.At w' B:=⟨h.hl,RowsAt.below h.hA i a⟩
theorem IRow.At.more {w:World} {B C:Nat} {r:IRow} (h:r.At w B) (a:B<=C):r.At w C:=⟨h.hl,RowsAt.more h.hA a⟩
structure MatI (w:World) (B:Nat) (A:Option Addr) (n k:Nat) (m:List IRow):Prop where
 hl:m.length=n
 hA:RowsAt IRow.cells 1 w B A m
 hx:∀r∈m,r.At w B/\r.n=k
def matL (m:List IRow):List (List Int):=m.map (·.l)
theorem a3E (n:Int):IntKind.u16.wrap n=n % 65536:=by simp[IntKind.wrap,IntKind.bits,IntKind.signed]
theorem a2Q (a b:Nat) (s:a<65536) (E:b<65536):bits .and .u16 (a:Int) (b:Int)=((a &&& b:Nat):Int):=by
 have I:a &&& b<2 ^ 16:=Nat.and_lt_two_pow _ oM
 have i:(BitVec.ofInt 16 (a:Int)).toNat=a:=by
  rw[JW,JL];exact Jb oM
 have o:(BitVec.ofInt 16 (b:Int)).toNat=b:=by
  rw[JW,JL];exact Jb oM
 show IntKind.u16.wrap ((BitVec.ofInt 16 (a:Int) &&& BitVec.ofInt 16 (b:Int)).toNat:Int)=_;rw[BitVec.toNat_and,i,o,a3E];omega
theorem bit16 (set q:Nat) (i:set<65536):(bits .and .u16 ((set:Int) / 2 ^ q) 1==1)=set.testBit q:=by
 have e:((set:Int) / 2 ^ q)=((set / 2 ^ q:Nat):Int):=by rw[Int.natCast_ediv,QW];rfl
 have h:=a2Q (set / 2 ^ q) 1 (Jd (Nat.div_le_self _ _) i) oM;have a:((1:Nat):Int)=1:=rfl;rw[a] at h;rw[e,h,Nat.and_one_is_mod,Kj,XX];simp;omega
theorem b4G (m:List IRow) (o:∀r∈m,∀x∈r.l,0<=x/\x<=10000) (h e:Nat):0<=Ct.mat (matL m) h e/\Ct.mat (matL m) h e<=10000:=by
 unfold Ct.mat matL
 by_cases a:h<m.length
 ·by_cases i:e<m[h].l.length
  ·have:=o m[h] (Vm a) m[h].l[e] (Vm i)
   simp[a,i];omega
  ·simp[a,i]
 ·simp[a]
theorem a7G (m:List IRow) (a:∀r∈m,∀x∈r.l,0<=x/\x<=10000) (set e:Nat):∀q,q<=12->0<=Ct.votes (matL m) set e q/\Ct.votes (matL m) set e q<=10000*q
 |0,_=>by simp[Ct.votes]
 |q+1,hq=>by
  have i:=a7G m a set e q oM;have o:=b4G m a q e;unfold Ct.votes
  split <;> omega
theorem a5H (A:OA) (n c k:Nat) (m:List IRow) (set e:Nat) (hm:MatI w w A n k m) (hn:n<=12) (he:e<k) (hs:set<65536) (T:∀r∈m,∀x∈r.l,0<=x/\x<=10000) :
  Calls prog 272 #[.slice A n c,.int .u16 set,e] w fun ev w'=>ev=.returned (.int .i64 (Ct.votes (matL m) set e n))/\w=w':=by
 have HM:=Z1 hm;have hl:=hm.hl;clear hm;go_enter func272,ntmps272;go_wp2
 go_loop [7,12] (fun s i=>∃q:Nat,q<=n/\i=q/\s=.int .i64 (Ct.votes (matL m) set e q)) (fun _ i=>n-(intOf i).toNat)
 case atStart=>exact⟨0,Vb _,rfl,rfl⟩
 case round =>
  obtain⟨q,hq,rfl,rfl⟩:=hrel
  by_cases aa:q<n
  case neg =>
   obtain rfl:q=n:=oM;go_wp2;go_ret;exact⟨rfl,rfl⟩
  have E:q<m.length:=oM;obtain⟨b,o,rfl,hb,hr⟩:=RowsAt.look HM.hA E;have c0:=hr 0 _ rfl;simp at c0;obtain⟨r,a⟩:=eX (m[q]);rw[<- a] at c0;have a4:=HM.out.hx r (by rw[a];exact Vm E);have I:=bit16 set q hs;have X:Ct.votes (matL m) set e (q+1)=Ct.votes (matL m) set e q+(if set.testBit q then Ct.mat (matL m) q e else 0):=rfl;have S:=Z1 X;clear hr X
  cases O:set.testBit q with
  |false =>
   rw[O] at I;have H2:Hid (Ct.votes (matL m) set e (q+1)=Ct.votes (matL m) set e q):=by show _=_;rw[S,O];simp
   clear O;go_wp2
   go_round
   case rel=>exact⟨q+1,oM,by go_num,by rw[H2]⟩
   case measure=>exact mS
  |true =>
   rw[O] at I;obtain⟨J,ab⟩:=a4;have L:e<r.l.length:=by have:=J.hl;omega
   obtain⟨b2,o2,a0,a7,W⟩:=RowsAt.look J.hA L;have d0:=W 0 _ rfl;simp at d0;rw[a0] at c0
   have H2:Hid (Ct.votes (matL m) set e (q+1)=Ct.votes (matL m) set e q+r.l[e]):=by
    show _=_;rw[S,O,Vt rfl]
    congr 1
    unfold Ct.mat matL;simp[E,<- a,L]
   have a9:(e:Int)<(r.n:Int):=oM;have a8:(0:Int)<=(e:Int):=oM;obtain⟨x,hx⟩:=eX (r.l[e]);rw[<- hx] at d0 H2
   have Q:Hid (-9223372036854775808<=Ct.votes (matL m) set e q+x/\Ct.votes (matL m) set e q+x<=9223372036854775807):=by
    have ad:=T r (by rw[a];exact Vm E) x (by rw[hx];exact Vm L);have ac:=a7G m T set e q oM;show _/\_;omega
   have a5:=Q.out.1;have a6:=Q.out.2;clear O W hx a;go_wp2
   go_round
   case rel=>exact⟨q+1,oM,by go_num,by rw[H2]⟩
   case measure=>exact mS
theorem a3l (g:Grp) (A:OA) (n c:Nat) (l:LT) (f S:Int) (A3:OA) (n3 c3:Nat) (full:List Itv) (hg:g.At w w) (hl:l.length=n) (hn:n<=4000) (hA:RowsAt Itm.cells 7 w w A l) (b3:full.length=n3) (bn:n3<=1000) (ap:ItvsAt w w A3 full) :
  Calls prog 41 #[.agg #[f,S],g,.slice A n c,.slice A3 n3 c3] w (SlicePost (l.filter (Iv.gone g f S full)) w):=by
 obtain⟨W1,aq,ac,b8,au,hz⟩:=nw2 w #[f,S] g 91 29;have HW:=Z1 aq;have be:=Z1 (hg.at_ ac);have s1:(w:Nat)<W1:=oM;have bs:(w:Nat)+1<W1:=oM;obtain⟨bc,bh,a9,HA,ba,Hl,bf⟩:=Z7 au b8 ac hA ap hl b3;obtain⟨i0,hi,bo,bp,bq⟩:=XW itemInfo;obtain⟨P,hP⟩:=eX (Iv.gone g f S full);rw[<- hP];have HP:=Z1 hP;clear aq hz au b8 hg ac hA ap hl b3 hP;go_enter func41,ntmps41;go_upto_region 1 with(fail);rw[<- HW];go_wp2
 go_loopw [9,15] (fun v i wr=>∃k:Nat,k<=n/\i=k/\wr.ownsRow W1.heap.size 70 7 v ((l.take k).filter P).length (((l.take k).filter P).flatMap Itm.cells)/\Below W1 W1 wr) (fun _ i _=>n-(intOf i).toNat)
 case atStart=>exact⟨0,Vb _,rfl,Xp _ _ _ _,bR⟩
 case round =>
  obtain⟨k,hk,rfl,a,Q⟩:=hrel;have b9:=Q.size
  by_cases bu:k<n
  case neg =>
   obtain rfl:k=n:=oM;rw[Vg (by have:=Hl.out;omega)] at a;obtain⟨A2,c2,rfl,ao⟩:=Xw (f:=Itm.cells) (sz:=7) dC (fun _=>rfl) a rfl;have az:=a0K a;have bb:Hid (SlicePost (l.filter P) w (.returned (.slice A2 (l.filter P).length c2)) wr):=Z1 ⟨a9.out.trans (Q.mono oM),A2,c2,rfl,ao,fun ad q=>Vn oM (az ad q)⟩;clear a ao az Q;go_wp2;go_ret;exact bb
  have b2:k<l.length:=by have:=Hl.out;omega
  have a7:=a9.out.trans (Q.mono (XC s1));obtain⟨bl,ol,bm,bt,hr⟩:=RowsAt.look (RowsAt.below HA a7 lR) b2;subst bm;obtain⟨x,hx⟩:=eX (l[k]);have s:=Z1 (a1v (P:=P) b2);have b4:((l.take k).filter P).length<=4000:=Vn (XY _ _) sO;rw[<- hx] at hr s;have Hr:=Z1 hr;have aw:bl<wr:=oM;obtain⟨L,hL⟩:=eX ((l.take k).filter P);rw[<- hL] at a s b4;obtain⟨Wa,ar,ae,ah,br⟩:=nw1 wr x 70;obtain⟨aj,ai,am,I⟩:=Z4 ar (Q.trans (ae.mono b9)) (Vj a ae) ah;have HC:=Z1 (b1i Wa A3 n3 c3 full x wr ah bf bn (RowsAt.at_ ba (a9.out.trans (ai.mono (XC s1))) ));clear a Q a7 hr hx hL ar br ae ah;go_upto_region 5 with(refine VH rfl 70 (.tmp 17) rfl bl (ol+k*7) rfl x _ Hr Zz rfl a0P ?_);rw[<- aj];obtain⟨ib,b0⟩:=eX wr.heap.size;rw[<- b0] at HC I aw⊢;clear b0 aj;go_wp2_with (fail);refine HC.mono ?_;rintro ev W2 ⟨rfl,a5⟩;have a8:=Vq I;have a0:=gB I a5 a8;have T:=bT ai a5;obtain⟨a6,al,ak,a4⟩:=Z4 (Vj am a5) (be.at_ T) (gbox bc T bs) (gbox bh T s1);have bg:=Z1 (Xq ak);have y3:=cr9 3 a0;have y5:=cr9 5 a0;have u0:=cr9 0 a4;have u1:=cr9 1 a4;simp at y3 y5 u0 u1;have q1:=Vq a0;have q2:=Vq ak;have q3:=Vq a4;have W:Hid (P x=(full.any (Iv.inside x.date)&&Gr.isResult g x.acct&&decide (f<=x.date)&&decide (x.date<=S))):=by show _=_;rw[HP];rfl
  clear a5 HC I a8
  cases b1:full.any (Iv.inside x.date) with
  |false =>
   have o:Hid ((l.take (k+1)).filter P=L):=by show _=_;rw[s,VB (by rw[W];rw[b1];simp),XG]
   go_wp2;go_roundw
   case rel=>exact⟨k+1,oM,by go_num,by rw[o];exact a6,T⟩
   case measure=>exact mS
  |true =>
  go_wp2_with (refine Vv (by rfl) 29 (.tmp 5) rfl (w+1) 0 rfl _ _ bg VS rfl VJ ?_);refine(a5n W2 g x.acct al).mono ?_;rintro ev W3 ⟨rfl,X⟩;have aa:=gB a0 X q1;have O:=bT T X;have E:=Z1 (Vj a6 X);have ab:=gB a4 X q3;have v5:=cr9 5 aa;have t0:=cr9 0 ab;have t1:=cr9 1 ab;simp at v5 t0 t1;have p1:=Vq aa;have p3:=Vq ab;clear X y3 y5 u0 u1 q1 q2 q3
  cases b7:Gr.isResult g x.acct with
  |false =>
   have o:Hid ((l.take (k+1)).filter P=L):=by show _=_;rw[s,VB (by rw[W];rw[b7];simp),XG]
   go_wp2;go_roundw
   case rel=>exact⟨k+1,oM,by go_num,by rw[o];exact E,O⟩
   case measure=>exact mS
  |true =>
  by_cases ax:f<=x.date
  case neg =>
   have k1:decide (x.date ≥ f)=false:=sO;have o:Hid ((l.take (k+1)).filter P=L):=by show _=_;rw[s,VB (by rw[W];simp[ax]),XG]
   go_wp2;go_roundw
   case rel=>exact⟨k+1,oM,by go_num,by rw[o];exact E,O⟩
   case measure=>exact mS
  by_cases ay:x.date<=S
  case neg =>
   have o:Hid ((l.take (k+1)).filter P=L):=by show _=_;rw[s,VB (by rw[W];simp[ay]),XG]
   go_wp2;go_roundw
   case rel=>exact⟨k+1,oM,by go_num,by rw[o];exact E,O⟩
   case measure=>exact mS
  have o:Hid ((l.take (k+1)).filter P=L++[x]):=by show _=_;rw[s,Vt (by rw[W,b1,b7];simp[ax,ay])]
  have k1:decide (x.date ≥ f):=sO;have J:=E.out.alloc (.cells x 70);have b5:=Xk W3 x 70;have b6:∀u∈(x:List Value),u.oneCell':=oC;have bi:L.length+1<=maxLen:=by unfold maxLen;omega
  have bj:(L.length+1)*56<=140737488355328:=oM;have an:W1.heap.size<=(W3.alloc (.cells x 70)).heap.size:=by have:=O.out.size;simp;omega
  have av:=O.out.alloc O.size (.cells x 70);go_wp2_with (first|(refine Vd rfl 70 _ rfl _ rfl _ _ _ _ aa Zz rfl a0P ?_)|(at_builtin;refine Hid.out ?_));show wpList _ _ _ _ _ _;refine Xd _ rfl _ _ 53 rfl W1.heap.size 70 i0 (.agg #[(),(),(),(),(),(),()]) 7 56 JN hi bo bp bq rfl dC _ _ _ rfl J ⟨W3,0,none⟩ 1 1 x rfl rfl b5 b6 bi bj an ?_;intro v' w1 ag af _;have bk:=av.grown af an (fun j hj=>(J.lt j hj).1);go_wp2;go_roundw
  case rel=>exact⟨k+1,oM,by go_num,by rw[o,Vc,VL];simpa[Itm.cells] using ag,bk⟩
  case measure=>exact mS
namespace Cb
def scale1 (N D:Int) (y:Itm):Option Itm:=(Sc.out y.amt N D).map (fun n=>{ y with amt:=n })
def scaled (N D:Int) (l:LT):Option (List Itm):=allSome (l.map (scale1 N D))
theorem scaled_none {N D:Int} {l:LT} {k:Nat} (a:k<l.length) (h:scale1 N D l[k]=none):scaled N D l=none:=by
 unfold scaled
 have e:l.map (scale1 N D)=(l.take k).map (scale1 N D)++none::(l.drop (k+1)).map (scale1 N D):=by
  conv=>lhs;rw[<- X7 k l,XS a,Xn,X5,h]
 rw[e];exact a1z _ _
end Cb
def ItsPost (o:Option (List Itm)) (w:World) (a:Ending) (w':World):Prop :=
 Below w w w'/\((o=none/\∃n,n=2/\a=.returned (.tuple #[.slice none 0 0,.int .i64 n])) ∨
  (∃l A c,o=some l/\a=.returned (.tuple #[.slice A l.length c,()])/\RowsAt Itm.cells 7 w' w' A l/\Fresh w A))
theorem a8z (k j:Nat) (r:Value) (N D:Int) (A:OA) (n c:Nat) (l:LT) (bf:3*k+3*j+1000<=10000000000) (hr:RI w w k j r N D) (hl:l.length=n) (hn:n<=4000) (hA:RowsAt Itm.cells 7 w w A l) :
  Calls prog 40 #[.slice A n c,r] w (ItsPost (Cb.scaled N D l) w):=by
 obtain⟨g1,A1,n1,c1,g2,A2,n2,c2,rfl⟩:=hr.open;obtain⟨W1,ao,a0,aq,hz⟩:=nw1 w #[g1,.slice A1 n1 c1,g2,.slice A2 n2 c2] 52;have HW:=Z1 ao;have H1:=Z1 (hr.at_ a0);have s1:(w:Nat)<W1:=oM;obtain⟨b4,T,HA,Hl⟩:=Z4 aq a0 hA hl;obtain⟨i0,hi,bh,bi,bj⟩:=XW itemInfo;clear ao hz aq a0 hA hl hr;go_enter func40,ntmps40;go_upto_region 1 with(fail);rw[<- HW];go_wp2
 go_loopw [6,13] (fun v i wr=>∃(k:Nat) (L:LT),k<=n/\i=k/\L.length=k/\wr.ownsRow W1.heap.size 70 7 v L.length (L.flatMap Itm.cells)/\allSome ((l.take k).map (Cb.scale1 N D))=some L/\Below W1 W1 wr) (fun _ i _=>n-(intOf i).toNat)
 case atStart=>exact⟨0,[],Vb _,rfl,rfl,Xp _ _ _ _,rfl,bR⟩
 case round =>
  obtain⟨q,L,hk,rfl,bo,a,o,E⟩:=hrel;have b0:=E.size
  by_cases bq:q<n
  case neg =>
   obtain rfl:q=n:=oM;rw[Vg (by have:=Hl.out;omega)] at o;obtain⟨A3,c3,rfl,an⟩:=Xw (f:=Itm.cells) (sz:=7) dC (fun _=>rfl) a rfl;have au:=a0K a;have HP:Hid (ItsPost (Cb.scaled N D l) w (.returned (.tuple #[.slice A3 L.length c3,()])) wr):=Z1 ⟨T.out.trans (E.mono oM),.inr ⟨L,A3,c3,o,rfl,an,fun ad q=>Vn oM (au ad q)⟩⟩;clear a an au E o;go_wp2
   go_ret2
   exact HP
  have a8:q<l.length:=by have:=Hl.out;omega
  have S:=T.out.trans (E.mono (XC s1));obtain⟨bl,ol,bg,bp,hr⟩:=RowsAt.look (RowsAt.below HA S lR) a8;subst bg;obtain⟨x,hx⟩:=eX (l[q]);have ba:Hid ((l.take (q+1)).map (Cb.scale1 N D)=(l.take q).map (Cb.scale1 N D)++[Cb.scale1 N D x]):=by show _=_;rw[tse a8,Xn,hx];rfl
  have ag:=Z1 (fun(h:Cb.scale1 N D l[q]=none)=>Cb.scaled_none a8 h);rw[<- hx] at hr ag;have Hr:=Z1 hr;have ac:=Z1 o;have bn:bl<wr:=oM;have b7:=Z1 a.lt;obtain⟨Wa,ap,a4,aa,bk⟩:=nw1 wr x 70;have b3:=Z1 ap;have ak:=Z1 aa;have sa:(wr:Nat)<Wa:=oM;have X:=Z1 (E.trans (a4.mono b0));have aj:=Z1 (Vj a a4);have af:=Z1 (gbox b4 X s1);have b5:=Z1 (H1.at_ X);have y6:=cr9 6 aa;simp at y6;have sg:=Vq af;obtain⟨ib,a7⟩:=eX wr.heap.size;have ax:some ib≠u6.ownBlock:=fun q=>by have:=(b7 ib q.symm).2;omega
  have bm:bl<ib:=oM;rw[<- a7] at ak sa y6;have aw:ib<Wa:=oM;have av:W1<=ib:=oM;have b6:=Z1 a7;have b8:=Z1 ax;obtain⟨am,a5⟩:=eX x.amt;rw[<- a5] at y6;have ae:=Z1 a5;clear a E S hr hx ap aa bk a4 ax a7 a5 o;go_upto_region 5 with(refine VH rfl 70 (.tmp 15) rfl bl (ol+q*7) rfl x _ Hr Zz rfl a0P ?_);rw[<- b3,<- b6];go_wp2_with (refine Vd rfl 52 (.tmp 3) rfl _ rfl _ _ _ _ af Xf rfl Vy ?_);refine(a9O Wa am k j _ N D bf b5).mono ?_;rintro ev W2 ⟨I,h⟩;have O:=gB ak I aw;have ab:=bT X I;have ah:=Z1 (Vj aj I)
  rcases h with⟨ho,m,hm,rfl⟩|⟨z,ho,rfl⟩
  ·have k1:(m != 0):=by simpa using hm
   have HN:Hid (Cb.scaled N D l=none):=ag (by unfold Cb.scale1;rw[<- ae,ho];rfl);have b1:=Z1 (T.out.trans (ab.mono (XC s1)));clear hm ho I y6;go_wp2
   go_ret2
   exact⟨b1,.inl ⟨HN,2,dC,rfl⟩⟩
  have HX:Hid (Cb.scale1 N D x=some { x with amt:=z }):=by show _=_;unfold Cb.scale1;rw[<- ae,ho];rfl
  have z6:=cr9 6 O;have zf:=fun j=>fr0 j O;simp at z6;have s2:=Vq O;have Q:=Xh W2 ib 6 _ _ (.int .i64 z) O;simp at Q;obtain⟨W5,J⟩:=eX (W2.setCell ⟨ib,6,none⟩ (.int .i64 z));have ai:Hid (W5.ownsRow W1.heap.size 70 7 u6 L.length (L.flatMap Itm.cells)):=by show World.ownsRow _ _ _ _ _ _ _;rw[J];exact a7m ah b8
  have W:Hid (Below W1 W1 W5):=by show Below _ _ _;rw[J];exact ab.setCell (p:=⟨ib,6,none⟩) av _
  rw[<- J] at Q;have b2:=Z1 J;have b9:=Z1 Q;clear Q J I y6 ho;go_upto_region 9 with(fail);rw[<- b2];have s:=ai.out.alloc (.cells #[x.ent0,x.lin,x.ent,x.acct,x.partner,x.date,z] 70);have ay:=Xk W5 [x.ent0,x.lin,x.ent,x.acct,x.partner,x.date,z] 70;have az:∀u∈([x.ent0,x.lin,x.ent,x.acct,x.partner,x.date,z]:List Value),u.oneCell':=oC;have bb:L.length+1<=maxLen:=by unfold maxLen;omega
  have bc:(L.length+1)*56<=140737488355328:=oM;have al:W1.heap.size<=(W5.alloc (.cells #[x.ent0,x.lin,x.ent,x.acct,x.partner,x.date,z] 70)).heap.size:=by have:=W.out.size;simp;omega
  have ar:=W.out.alloc W.size (.cells #[x.ent0,x.lin,x.ent,x.acct,x.partner,x.date,z] 70);go_wp2_with (first|(refine Vd rfl 70 _ rfl _ rfl _ _ _ _ b9 Zz rfl a0P ?_)|(at_builtin;refine Hid.out ?_));show wpList _ _ _ _ _ _;refine Xd _ rfl _ _ 53 rfl W1.heap.size 70 i0 (.agg #[(),(),(),(),(),(),()]) 7 56 JN hi bh bi bj rfl dC _ _ _ rfl s ⟨W5,0,none⟩ 1 1 [x.ent0,x.lin,x.ent,x.acct,x.partner,x.date,z] rfl rfl ay az bb bc al ?_;intro v' w1 a9 a6 _;have be:=ar.grown a6 al (fun j hj=>(s.lt j hj).1);go_wp2;go_roundw
  case rel=>exact⟨q+1,L++[{ x with amt:=z }],oM,by go_num,sO,by rw[Vc,VL];simpa[Itm.cells] using a9,by rw[ba,HX];exact a2f _ _ _ ac,be⟩
  case measure=>exact mS
end Go.Proofs.YtbhdekahdnenjaaGreatDoor
