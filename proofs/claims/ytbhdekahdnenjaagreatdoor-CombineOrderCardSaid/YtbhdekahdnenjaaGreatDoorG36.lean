/- Lemmas. -/
import Derived.WalkMore
import Derived.Test.YtbhdekahdnenjaaGreatDoorG33
set_option linter.unusedVariables false
set_option linter.unusedSimpArgs false
set_option maxRecDepth 100000
set_option maxHeartbeats 16000000
namespace Go.Proofs.YtbhdekahdnenjaaGreatDoor
namespace El
def at_ (l:List Fr) (j:Nat):Fr:=l.getD j (0,0)
def upd (f:Fr) (row a:List Fr) (j:Nat):Fr:=Fr.sub (at_ row j) (Fr.mul f (at_ a j))
def clr1 (c:Nat) (a row:List Fr):List Fr :=
 if sg (at_ row c).1=0 then row else(List.range row.length).map (upd (Fr.div (at_ row c) (at_ a c)) row a)
def clr (r c:Nat) (M:Nat->List Fr) (q:Nat):List Fr:=if q=r then M q else clr1 c (M r) (M q)
def piv (n c r:Nat) (M:Nat->List Fr):Option Nat:=(List.range n).find? (fun i=>decide (r<=i)&&decide (sg (at_ (M i) c).1≠0))
def swp (i r:Nat) (M:Nat->List Fr) (q:Nat):List Fr:=if q=r then M i else if q=i then M r else M q
def stp (n:Nat) (s:Nat × (Nat->List Fr)) (c:Nat):Nat × (Nat->List Fr):=(piv n c s.1 s.2).elim s (fun i=>(s.1+1,clr s.1 c (swp i s.1 s.2)))
def run (n cols:Nat) (M:Nat->List Fr):Nat × (Nat->List Fr):=(List.range cols).foldl (stp n) (0,M)
theorem a7M (n c:Nat) (M:Nat->List Fr):run n (c+1) M=stp n (run n c M) c:=by
 unfold run;rw[Ym,YH];rfl
theorem at_map {l:List Rn} {c:Nat} {x:Rn} (h:l[c]?=some x):at_ (l.map Rn.q) c=x.q:=by
 unfold at_;rw[List.getD_eq_getElem?_getD,List.getElem?_map,h];rfl
theorem at_set (l:List Rn) (q j:Nat) (v:Rn) (a:q<l.length):at_ ((l.set q v).map Rn.q) j=if j=q then v.q else at_ (l.map Rn.q) j:=by
 unfold at_;rw[List.getD_eq_getElem?_getD,List.getD_eq_getElem?_getD,List.getElem?_map,List.getElem?_map,List.getElem?_set]
 by_cases h:j=q
 ·subst h;simp[a]
 ·rw[VB (fun e=>h e.symm),VB h]
theorem clr_next {n k:Nat} {F G H H':Nat->List Fr} (h:∀q,q<n->H q=if q<k then F q else G q) (i:H' k=F k) (o:∀q,q≠k->H' q=H q):∀q,q<n->H' q=if q<k+1 then F q else G q:=by
 intro q s
 by_cases e:q=k
 ·subst e;rw[Vt oM];exact i
 ·rw[o q e,h q s]
  by_cases a:q<k
  ·rw[Vt a,Vt oM]
  ·rw[VB a,VB oM]
theorem row_done {l:List Rn} {row a:List Fr} {c wd:Nat} {f:Fr} (o:l.length=wd) (I:row.length=wd) (J:¬ sg (at_ row c).1=0) (s:f=Fr.div (at_ row c) (at_ a c)) (h:∀j,j<wd->at_ (l.map Rn.q) j=upd f row a j):l.map Rn.q=clr1 c a row:=by
 unfold clr1;rw[VB J,<- s];apply Zl
 ·simp[o,I]
 ·intro j i L
  have E:j<wd:=by simpa[o] using i
  have e:=h j E;unfold at_ at e;rw[List.getD_eq_getElem?_getD,List.getElem?_eq_getElem i,JB] at e;rw[e,Zw,Jn]
end El
def ofR (n:Nat) (R:Nat->MRow) (i:Nat):List Fr:=if i<n then(R i).l.map Rn.q else[]
theorem a3T {n i:Nat} {R:Nat->MRow} (h:i<n):ofR n R i=(R i).l.map Rn.q:=Vt h
theorem b0n {n:Nat} {R:Nat->MRow} {F:Nat->List Fr} (h:∀i,i<n->(R i).l.map Rn.q=F i) (o:∀i,¬ i<n->F i=[]):ofR n R=F:=by
 funext i
 unfold ofR
 by_cases a:i<n
 ·rw[Vt a,h i a]
 ·rw[VB a,o i a]
theorem El.clr_out {n r c i:Nat} {R:Nat->MRow} (o:¬ i<n):El.clr r c (ofR n R) i=[]:=by
 have a:ofR n R i=[]:=VB o;unfold El.clr El.clr1;rw[a]
 by_cases h:i=r
 ·rw[Vt h]
 ·rw[VB h,Vt (by unfold El.at_;rfl)]
theorem b3W {n i r:Nat} {R:Nat->MRow} (o:i<n) (s:r<n):ofR n (fun q=>if q=r then R i else if q=i then R r else R q)=El.swp i r (ofR n R):=by
 funext q
 unfold El.swp
 by_cases h:q=r
 ·subst h;rw[Vt rfl,a3T s,a3T o];simp
 ·rw[VB h]
  by_cases a:q=i
  ·subst a;rw[Vt rfl,a3T o,a3T s];simp[h]
  ·rw[VB a];unfold ofR;simp[h,a]
namespace El
theorem swp_same (r:Nat) (M:Nat->List Fr):swp r r M=M:=by
 funext q;unfold swp;by_cases h:q=r
 ·subst h;simp
 ·simp[h]
theorem b2e {n c r i:Nat} {M:Nat->List Fr} (o:i<n) (a:r<=i) (E:¬ sg (at_ (M i) c).1=0) (I:∀p,r<=p->p<i->sg (at_ (M p) c).1=0):piv n c r M=some i:=by
 unfold piv;rw[List.find?_eq_some_iff_getElem];refine⟨by simp[a,E],i,by simpa using o,sP,fun j s=>?_⟩
 by_cases h:r<=j
 ·simp[I j h s]
 ·simp[h]
theorem b2f {n c r:Nat} {M:Nat->List Fr} (i:∀p,r<=p->p<n->sg (at_ (M p) c).1=0):piv n c r M=none:=by
 unfold piv;rw[List.find?_eq_none];intro p a;rw[XK] at a
 by_cases h:r<=p
 ·simp[i p h a]
 ·simp[h]
theorem run_piv {n q r i:Nat} {s M o:Nat->List Fr} (h:(r,M)=run n q s) (I:i<n) (a:r<=i) (J:¬ sg (at_ (M i) q).1=0) (L:∀p,r<=p->p<i->sg (at_ (M p) q).1=0) (E:o=clr r q (swp i r M)):(r+1,o)=run n (q+1) s:=by
 rw[a7M,<- h,E];unfold stp;rw[show piv n q (r,M).1 (r,M).2=some i from b2e I a J L];rfl
theorem run_none {n q r:Nat} {a M:Nat->List Fr} (h:(r,M)=run n q a) (i:∀p,r<=p->p<n->sg (at_ (M p) q).1=0):(r,M)=run n (q+1) a:=by
 rw[a7M,<- h];unfold stp;rw[show piv n q (r,M).1 (r,M).2=none from b2f i];rfl
end El
def mq (m:List RRow) (i:Nat):List Fr:=(m[i]?).elim [] (fun r=>r.l.map Rn.q)
theorem b3Y {m:List RRow} {i:Nat} (h:i<m.length):mq m i=m[i].l.map Rn.q:=by unfold mq;rw[List.getElem?_eq_getElem h];rfl
theorem b3C {m:List RRow} {i:Nat} (h:¬ i<m.length):mq m i=[]:=by unfold mq;rw[List.getElem?_eq_none oM];rfl
namespace El
def wide (n:Nat) (M:Nat->List Fr) (b:List Fr) (i:Nat):List Fr:=if i<n then M i++[at_ b i] else[]
def quo (n:Nat) (M:Nat->List Fr) (i:Nat):Fr:=Fr.div (at_ (M i) n) (at_ (M i) i)
def solve (n:Nat) (M:Nat->List Fr) (b:List Fr):Option (List Fr) :=
 if(run n n (wide n M b)).1<n then none else some ((List.range n).map (quo n (run n n (wide n M b)).2))
theorem solve_no {n r:Nat} {M a:Nat->List Fr} {b:List Fr} (h:(r,a)=run n n (wide n M b)) (i:r<n):solve n M b=none:=by unfold solve;rw[<- h];exact Vt i
theorem solve_yes {n r:Nat} {M a:Nat->List Fr} {b:List Fr} (h:(r,a)=run n n (wide n M b)) (i:¬ r<n):solve n M b=some ((List.range n).map (quo n a)):=by unfold solve;rw[<- h];exact VB i
end El
theorem b4F {n:Nat} {rows:List RRow} {F:Nat->List Fr} (h:rows.map (fun r=>r.l.map Rn.q)=(List.range n).map F) (s:∀i,¬ i<n->F i=[]):mq rows=F:=by
 have E:rows.length=n:=by simpa using QQ List.length h
 funext i
 by_cases o:i<n
 ·have a:i<rows.length:=oM
  rw[b3Y a];have:=QQ (fun l=>l[i]?) h;simpa[a,o] using this
 ·rw[b3C oM,s i o]
theorem El.wide_out {n i:Nat} {M:Nat->List Fr} {b:List Fr} (h:¬ i<n):El.wide n M b i=[]:=VB h
end Go.Proofs.YtbhdekahdnenjaaGreatDoor
namespace Go.Proofs.YtbhdekahdnenjaaGreatDoor
open Go.Proofs.Tryz Go.RowKit
variable (w:World)
structure KeepX (S:Nat->Prop) (w w':World):Prop where
 os:w'.os=w.os
 tape:w'.tape=w.tape
 output:w'.output=w.output
 size:(w:Nat)<=w'
 block:∀b,b<w.heap.size->¬ S b->w'.heap[b]?=w.heap[b]?
theorem KeepX.refl (S:Nat->Prop) (w:World):KeepX S w w:=⟨rfl,rfl,rfl,lR,fun _ _ _=>rfl⟩
theorem KeepX.trans {S:Nat->Prop} {a b c:World} (h:KeepX S a b) (k:KeepX S b c):KeepX S a c :=
 ⟨k.os.trans h.os,k.tape.trans h.tape,k.output.trans h.output,Vn h.size k.size,fun i o s=>(k.block i (Xg o h.size) s).trans (h.block i o s)⟩
theorem KeepX.below {S:Nat->Prop} {a b c:World} (h:KeepX S a b) (k:Below b.heap.size b c):KeepX S a c :=
 h.trans ⟨k.os,k.tape,k.output,k.size,fun i o _=>k.block i o⟩
theorem a0J (b:Nat):∀(a:List Value) (o:Nat) (w:World),(w.setCells b o a).os=w.os/\(w.setCells b o a).tape=w.tape/\(w.setCells b o a).output=w.output
 |[],_,_=>⟨rfl,rfl,rfl⟩
 |v::a,o,w=>a0J b a (o+1) (w.setCell ⟨b,o,none⟩ v)
theorem KeepX.put {S:Nat->Prop} {a w:World} (h:KeepX S a w) {b:Nat} (E:S b) (o:Nat) (s:List Value):KeepX S a (w.setCells b o s) :=
 h.trans ⟨(a0J b s o w).1,(a0J b s o w).2.1,(a0J b s o w).2.2,X6 (a0E b s o w).symm,fun i _ I=>a0L b s o w i (fun e=>I (e ▸ E))⟩
theorem KeepX.to_below {S:Nat->Prop} {a w:World} {B:Nat} (h:KeepX S a w) (o:B<=a) (s:∀b,b<B->¬ S b):Below B a w :=
 ⟨h.os,h.tape,h.output,h.size,fun k i=>h.block k (Xg i o) (s k i)⟩
theorem KeepX.cell {S:Nat->Prop} {a w:World} (h:KeepX S a w) {b:Nat} (i:b<a) (s:¬ S b) (o:Nat):w.cell? ⟨b,o,none⟩=a.cell? ⟨b,o,none⟩:=World.cell?_of_block (w:=a) (h.block b i s)
theorem KeepX.range {S:Nat->Prop} {a w:World} (h:KeepX S a w) {b o:Nat} {cs:List Value} (E:a.rangeAt b o cs) (i:b<a) (I:¬ S b):w.rangeAt b o cs:=fun j v s=>(h.cell i I _).trans (E j v s)
def rowsOf (n:Nat) (R:Nat->MRow) (b:Nat):Prop:=∃q,q<n/\b=(R q).b
def ClearPost (lo g n wd i r c:Nat) (R:Nat->MRow) (w:World) (e:Ending) (w':World):Prop :=
 (∃v,e=.returned v)/\KeepX (rowsOf n R) w w'/\∃a,(∀q,q<n->(a q).b=(R q).b)/\Mx w' lo g n n wd a (fun _=>4*i+1)/\∀q,q<n->(a q).l.map Rn.q=El.clr r c (ofR n R) q
theorem b1o (mb g lo n wd r c J:Nat) (R:Nat->MRow) (hn:n<=24) (et:wd<=30) (hr:r<n) (hc:c<wd) (I:3<=J) (ei:30*J+1000<=10000000000) (bx:mb<w)
  (hm:w.cell? ⟨mb,0,none⟩=some (.slice (some ⟨g,0,none⟩) n n)) (dd:¬ rowsOf n R mb) (hM:Mx w lo g n n wd R (fun _=>J)) :
  Calls prog 275 #[r,c,.pointer (some ⟨mb,0,none⟩)] w (ClearPost lo g n wd J r c R w):=by
 obtain⟨HM,Hm,b7⟩:=Z3 hM hm dd;have eq:(r:Int)<(n:Int):=oM;have ep:(0:Int)<=(r:Int):=oM;have ek:(c:Int)<(wd:Int):=oM;have ej:(0:Int)<=(c:Int):=oM;clear hM dd;go_enter func275,ntmps275;go_wp2
 go_loopw [11] (fun i wr=>∃(k:Nat) (R1:Nat->MRow),k<=n/\i=k/\(∀q,q<n->(R1 q).b=(R q).b)/\Mx wr lo g n n wd R1 (fun q=>if q<k/\q≠r then 4*J+1 else J)/\KeepX (rowsOf n R) w wr/\∀q,q<n->(R1 q).l.map Rn.q=if q<k then El.clr r c (ofR n R) q else ofR n R q) (fun i _=>n-(intOf i).toNat)
 case atStart=>exact⟨0,R,Vb _,rfl,fun _ _=>rfl,HM.wider (fun i _=>sP),KeepX.refl _ _,fun q hq=>by rw[VB oM,a3T hq]⟩
 case round =>
  obtain⟨V,rfl⟩:=eX wr;obtain⟨k,R1,hk,rfl,bw,T,hX,hQ⟩:=hrel;have HQ:=Z1 hQ;clear hQ;have di:∀q,q<n->rowsOf n R (R1 q).b:=fun q hq=>⟨q,hq,bw q hq⟩;obtain⟨a5,ef,HX⟩:=Z3 bw di hX;have cm:=(World.cell?_of_block (w:=w) (hX.block mb bx b7):V.cell? ⟨mb,0,none⟩=_).trans Hm;have es:=hX.size;have de:mb<V:=oM;clear bw di hX
  by_cases E:k<n
  case neg =>
   obtain rfl:k=n:=oM;have HP:Hid (ClearPost lo g k wd J r c R w (.returned (.tuple #[])) V):=Z1 ⟨⟨_,rfl⟩,HX,R1,a5,T.wider (fun i _=>by split <;> omega),fun q hq=>by have:=HQ.out q hq;rwa [Vt hq] at this⟩;clear T cm;go_wp2
   go_end0
   exact HP
  have em:(k:Int)<(n:Int):=oM;have el:(0:Int)<=(k:Int):=oM
  by_cases ag:k=r
  ·subst ag
   have k1:((k:Int)==(k:Int)):=sP;have ai:=Z1 (T.wider (K':=fun q=>if q<k+1/\q≠k then 4*J+1 else J) (fun i _=>by split <;> split <;> omega));have aj:=Z1 (El.clr_next (H:=fun q=>(R1 q).l.map Rn.q) (H':=fun q=>(R1 q).l.map Rn.q) HQ (by have:=HQ.out k E;rw[VB (QP k)] at this;show(R1 k).l.map Rn.q=_;rw[this];unfold El.clr;rw[Vt rfl]) (fun _ _=>rfl));clear T cm;go_wp2;go_roundw
   case rel=>exact⟨k+1,R1,oM,by go_num,a5,ai,HX,aj⟩
   case measure=>exact mS
  have k1:((k:Int)==(r:Int))=false:=sO;have ck:=T.head E E;have cr:=T.head hr hr;obtain⟨x,dj,c6,bf⟩:=T.get E hc;obtain⟨y,dk,c7,cb⟩:=T.get hr hc;have bc:=HQ.out k E;rw[VB (QP k)] at bc;have c5:(R1 r).l.map Rn.q=ofR n R r:=by have:=HQ.out r hr;rw[this];split;unfold El.clr;rw[Vt rfl];rfl
  have bo:=Z1 bc;have dw:=Z1 c5;have bs:Hid (El.at_ (ofR n R k) c=x.q):=by show _=_;rw[<- bc];exact El.at_map dj
  have e4:Hid (El.at_ (ofR n R r) c=y.q):=by show _=_;rw[<- c5];exact El.at_map dk
  clear bc c5;simp only[show¬ (k<k/\k≠r) by omega,if_false] at bf;simp only[show¬ (r<k/\r≠r) by simp,if_false] at cb;have d6:=Vq (T.hr k E).1;have d7:=Vq (T.hr r hr).1;have d5:=Vq T.hg;obtain⟨bk,ar⟩:=eX ((R1 k).b);obtain⟨br,au⟩:=eX ((R1 r).b);rw[<- ar] at ck c6 d6;rw[<- au] at cr c7 d7;obtain⟨Hs,cj,dx,e0,e3,cf,ak⟩:=Z7 (a9V V J x bf) c6 c7 bf cb T ar;have dr:=Z1 au;clear T c6 c7 bf cb ar au dj dk;go_wp2_with (refine Vv (by rfl) 52 (.tmp 23) rfl bk (c*4) rfl x _ cj Xf rfl Vy ?_);refine Hs.mono ?_;rintro e W2 ⟨⟨s,rfl,df⟩,Q⟩;have cs:=Z1 df;clear df;have er:=Q.size;have ai:=Z1 (cf.below Q);have ch:=Z1 (HX.below Q);have b8:=(Q.cell (p:=⟨mb,0,none⟩) de).trans cm;have bt:=(Q.cell (p:=⟨g,k,none⟩) d5).trans ck;have bu:=(Q.cell (p:=⟨g,r,none⟩) d5).trans cr;obtain⟨cw,cy,cn,co⟩:=Z4 ((e0.below Q lR).more Q.size lR) ((e3.below Q lR).more Q.size lR) (VK cj Q d6) (VK dx Q d7);clear cm ck cr Q
  by_cases hz:s=0
  ·have k2:(s==0):=by simp[hz]
   have dm:=Z1 (ai.wider (K':=fun q=>if q<k+1/\q≠r then 4*J+1 else J) (fun i _=>by split <;> split <;> omega));have aj:=Z1 (El.clr_next (H:=fun q=>(R1 q).l.map Rn.q) (H':=fun q=>(R1 q).l.map Rn.q) HQ (by show(R1 k).l.map Rn.q=_;rw[bo];unfold El.clr El.clr1;rw[VB ag,Vt (by rw[bs,<- cs];exact hz)]) (fun _ _=>rfl));clear hz b8 bt bu;go_wp2;go_roundw
   case rel=>exact⟨k+1,R1,oM,by go_num,a5,dm,ch,aj⟩
   case measure=>exact mS
  have k2:(s==0)=false:=by simp[hz]
  have HZ:Hid (¬ sg (El.at_ (ofR n R k) c).1=0):=by show¬ _=_;rw[bs,<- cs];exact hz
  have da:g<W2:=oM;have e9:bk<W2:=oM;have ed:br<W2:=oM;have dc:mb<W2:=oM;have al:=fun(W:World) (hB:Below W2 W2 W)=>Z1 (b3y W J J x y I I oM ((cw.below hB lR).more hB.size lR) ((cy.below hB lR).more hB.size lR));clear hz;go_upto_region 4 with(fail);have a:Below W2 W2 W2.drew:=Vw bR 1;refine Vs (S:=Below W2 W2) kR ?_;change wpAnyH _ _ _ _ _ _ _ _ (World.drew W2);obtain⟨W0,d1⟩:=eX W2.drew;rw[<- d1] at a⊢;clear d1;refine jT 0 a ?_ (v:=.slice (some ⟨g,0,none⟩) n n) (hy:=(.inl ⟨by rfl,fun W' o=>by have c0:=(o.cell (p:=⟨mb,0,none⟩) dc).trans b8;have c1:=o.size;have c2:mb<W':=oM;go_simp⟩));refine jT 1 a ?_;refine jT 2 a ?_;refine jT 3 a ?_ (v:=.slice (some ⟨bk,0,none⟩) wd wd) (hy:=(.inl ⟨by rfl,fun W' o=>by have c0:=(o.cell (p:=⟨g,k,none⟩) da).trans bt;have c1:=o.size;have c2:g<W':=oM;go_simp⟩));refine jT 4 a ?_;refine jT 5 a ?_;refine jT 6 a ?_ (v:=x) (hy:=(Vf (by rfl) 52 _ rfl bk (c*4) rfl x _ (fun W' o=>VK cn o e9) Xf rfl Vy));refine jT 7 a ?_ (v:=.slice (some ⟨g,0,none⟩) n n) (hy:=(.inl ⟨by rfl,fun W' o=>by have c0:=(o.cell (p:=⟨mb,0,none⟩) dc).trans b8;have c1:=o.size;have c2:mb<W':=oM;go_simp⟩));refine jT 8 a ?_;refine jT 9 a ?_;refine jT 10 a ?_ (v:=.slice (some ⟨br,0,none⟩) wd wd) (hy:=(.inl ⟨by rfl,fun W' o=>by have c0:=(o.cell (p:=⟨g,r,none⟩) da).trans bu;have c1:=o.size;have c2:g<W':=oM;go_simp⟩));refine jT 11 a ?_;refine jT 12 a ?_;refine jT 13 a ?_ (v:=y) (hy:=(Vf (by rfl) 52 _ rfl br (c*4) rfl y _ (fun W' o=>VK co o ed) Xf rfl Vy));refine Xc (rs:=[14,18]) kR sP (XQ rfl (fun K I=>?_) (XQ rfl (fun K I=>?_) Ys))
  focus
   go_simp;refine(al W0 a).out.mono ?_;rintro e W3 ⟨⟨z,m,rfl,hz,b6⟩,ap⟩;have cz:=Z1 b6;clear b6;have O:=a.trans (ap.mono a.size);refine I.out _ _ O (fun _=>?_);clear I K;unfold Rn.v
   try simp only[z]
   refine jT 15 O ?_;refine jT 16 O ?_;refine jT 17 O ?_;refine rZ 18 fun K I=>?_;obtain⟨W4,d3,a8,a6,_⟩:=nw1 W3 ZR 52;go_simp;rw[<- d3];have aa:=O.trans (a8.mono O.size);refine jK I aa ?_;clear I K;obtain⟨fb,av⟩:=eX W3.heap.size;rw[<- av] at a6⊢;have d9:W2<=fb:=by have:=O.size;omega
   have cc:=(hz.below a8 lR).more a8.size lR;clear d3 a8 ap O hz av
  rotate_left
  focus
   obtain⟨W3,d2,ap,a7,_⟩:=nw1 W0 ZR 52;go_simp;rw[<- d2];have O:=a.trans (ap.mono a.size);refine jK I O ?_;clear I K;obtain⟨fb,av⟩:=eX W0.heap.size;rw[<- av] at a7⊢;have d9:W2<=fb:=by have:=a.size;omega
   clear d2 ap av;refine rZ 14 fun K I=>?_;go_simp;refine(al W3 O).out.mono ?_;rintro e W4 ⟨⟨z,m,rfl,cc,b6⟩,a8⟩;have cz:=Z1 b6;clear b6;have aa:=O.trans (a8.mono O.size);have a6:=gbox a7 a8 (Vq a7);refine I.out _ _ aa (fun _=>?_);clear I K;unfold Rn.v
   try simp only[z]
   refine jT 15 aa ?_;refine jT 16 aa ?_;refine jT 17 aa ?_;clear a8 O a7
  rotate_left
  all_goals
   refine rZ 19 fun K I=>?_;rw[Vt (by rfl)];refine VQ 52 _ _ none rfl rfl fb 52 _ z rfl rfl a6 rfl Vy oC ?_;have ae:Below W2 W2 (W4.setRow fb z):=below_setRow aa d9 _;refine jK I ae ?_;clear I K;have ac:=VC W4 fb _ z _ _ a6;have cd:z.At (W4.setRow fb z) (W4.setRow fb z).heap.size (J+J):=(cc.other a6 a0G (fun c hc=>Vl _ _ _ _ hc)).more sP lR;obtain⟨W5,d4⟩:=eX (W4.setRow fb z);rw[<- d4] at ae ac cd⊢;obtain⟨bn,ci,bp,e5⟩:=Z4 (ai.below ae) (ch.below ae) ac cd;have d8:¬ rowsOf n R fb:=fun⟨q,hq,e⟩=>by have:=Vq (ai.hr q hq).1;rw[a5 q hq] at this;omega
   clear d4 aa a6 cc ac cd a al;refine rZ 20 fun K I=>?_;go_simp;refine jK I ae ?_;clear I K;refine VF kR ?_ _;have eh:=(World.cell?_of_block (w:=w) (ci.block mb bx b7):W5.cell? ⟨mb,0,none⟩=_).trans Hm;have e8:=bn.out.head E E;rw[<- ak] at e8
   clear b8 bt bu;clear ae;go_wp2
   go_loopw [51] (fun v wi=>∃(q:Nat) (R2:Nat->MRow),q<=wd/\v=q/\(∀p,p<n->(R2 p).b=(R p).b)/\Mx wi lo g n n wd R2 (fun p=>if p<k+1/\p≠r then 4*J+1 else J)/\(∀p,q<=p->∀u,(R2 k).l[p]?=some u->u.At wi wi J)/\KeepX (rowsOf n R) w wi/\(∀p,p≠k->(R2 p).l=(R1 p).l)/\(∀j,j<wd->El.at_ ((R2 k).l.map Rn.q) j=if j<q then El.upd z.q (ofR n R k) (ofR n R r) j else El.at_ (ofR n R k) j)/\Row wi fb 52 z/\z.At wi wi (J+J)) (fun v _=>wd-(intOf v).toNat)
   case atStart=>exact⟨0,R1,Vb _,rfl,a5,bn.wider (fun i _=>by split <;> split <;> omega),fun p _ u hu=>by have:=bn.out.hx k E u (List.mem_of_getElem? hu);simpa using this,ci,fun _ _=>rfl,fun j _=>by rw[VB (QY j),bo],bp,e5⟩
   case round =>
    obtain⟨U,rfl⟩:=eX wr;obtain⟨q,R2,hq,rfl,a4,L,bb,aq,bj,ax,ba,ce⟩:=hrel;have an:=Z1 bj;have bq:=Z1 ax;clear bj ax
    by_cases ah:q<wd
    case neg =>
     have aj:=Z1 (El.clr_next (H:=fun q=>(R1 q).l.map Rn.q) (H':=fun q=>(R2 q).l.map Rn.q) HQ (by show(R2 k).l.map Rn.q=_;unfold El.clr;rw[VB ag];exact El.row_done (f:=z.q) (L.hr k E).2.1 (by rw[<- bo,Xt];exact(cf.hr k E).2.1) HZ (by rw[cz,bs,e4]) (fun j hj=>by rw[bq j hj,Vt oM])) (fun p hp=>by show(R2 p).l.map Rn.q=_;rw[an p hp]));have dn:=Z1 L;clear bb L;go_wp2;go_roundw
     case rel=>exact⟨k+1,R2,oM,by go_num,a4,dn,aq,aj⟩
     case measure=>exact mS
    have c1:=(World.cell?_of_block (w:=w) (aq.block mb bx b7):U.cell? ⟨mb,0,none⟩=_).trans Hm;have c2:=L.head E E;have c3:=L.head hr hr;obtain⟨x3,be,ay,_⟩:=L.get E ah;obtain⟨y3,dl,az,b0⟩:=L.get hr ah;simp only[show¬ (r<k+1/\r≠r) by simp,if_false] at b0;have cu:Hid (x3.q=El.at_ (ofR n R k) q):=by show _=_;rw[<- El.at_map be,bq q ah,VB (QP q)]
    have cx:Hid (y3.q=El.at_ (ofR n R r) q):=by show _=_;rw[<- El.at_map dl,an r (fun e=>ag e.symm),dw]
    have bm:=bb q lR x3 be;have b1:=Vq (L.hr k E).1;have b2:=Vq (L.hr r hr).1;have b3:=Vq L.hg;have b4:=Vq ba;have b5:mb<U:=by have:=aq.size;omega
    have e1:(R2 k).b=bk:=by rw[a4 k E,<- a5 k E,ak]
    have e2:(R2 r).b=br:=by rw[a4 r hr,<- a5 r hr,dr]
    have aw:=fun(W:World) (hB:Below U.heap.size U W) (v:Rn) (hv:v.At W W (4*J+1))=>Z1 ((L.below hB).put (K':=fun p=>if p<k+1/\p≠r then 4*J+1 else J) E ah v (fun _ _=>Yh _) (by show v.At W W (if k<k+1/\k≠r then 4*J+1 else J);rw[Vt ⟨oM,ag⟩];exact hv));have c9:=fun(W:World) (hB:Below U.heap.size U W)=>Z1 ((L.below hB).there E ah);have du:=Z1 (L.hr k E).2.1;rw[e1] at c2 ay b1;simp only[e1] at aw c9;rw[e2] at c3 az b2;have eo:(q:Int)<(wd:Int):=oM;have en:(0:Int)<=(q:Int):=oM;have am:=fun(W:World) (hB:Below U.heap.size U W)=>Z1 (b3x W (J+J) J z y3 oM I oM ((ce.below hB lR).more hB.size lR) ((b0.below hB lR).more hB.size lR));have ao:=fun(W:World) (v:Rn) (hB:Below U.heap.size U W) (hv:v.At W W (J+J+J))=>Z1 (b4y W J (J+J+J) x3 v I oM oM ((bm.below hB lR).more hB.size lR) hv);obtain⟨cg,dv,dq,dt,e7,eg⟩:=Z6 a4 bb aq ba ce be;have bz:¬ g=bk:=fun e=>by have:=L.ne E;omega
    have ec:¬ br=bk:=fun e=>by have:=L.inj k E r hr oM;exact ag this
    have c4:¬ mb=bk:=fun e=>b7 ⟨k,E,by rw[<- a4 k E];omega⟩;have eb:¬ fb=bk:=fun e=>d8 ⟨k,E,by rw[<- a4 k E];omega⟩;obtain⟨bh,cp,ee⟩:=Z3 ay az (Xq ba);clear L bb a4 aq ba ce bm b0 ay az e1 e2 be dl;unfold Rn.v at am ao;go_upto_region 8 with(fail);have a:KeepX (fun b=>b=bk) U U.drew:=(KeepX.refl _ _).below (Vw bR 1);have a9:Below U.heap.size U U.drew:=Vw bR 1;refine Vs (S:=KeepX (fun b=>b=bk) U) kR ?_;change wpAnyH _ _ _ _ _ _ _ _ (World.drew U);obtain⟨U0,d0⟩:=eX U.drew;rw[<- d0] at a a9⊢;clear d0;refine jT 0 a ?_ (v:=.slice (some ⟨g,0,none⟩) n n) (hy:=(.inl ⟨by rfl,fun W' o=>by have c8:=(o.cell b5 c4 0).trans c1;go_simp⟩));refine jT 1 a ?_;refine jT 2 a ?_;refine jT 3 a ?_ (v:=.slice (some ⟨bk,0,none⟩) wd wd) (hy:=(.inl ⟨by rfl,fun W' o=>by have c8:=(o.cell b3 bz k).trans c2;go_simp⟩));refine jT 4 a ?_;refine jT 5 a ?_ (v:=.slice (some ⟨g,0,none⟩) n n) (hy:=(.inl ⟨by rfl,fun W' o=>by have c8:=(o.cell b5 c4 0).trans c1;go_simp⟩));refine jT 6 a ?_;refine jT 7 a ?_;refine jT 8 a ?_ (v:=.slice (some ⟨bk,0,none⟩) wd wd) (hy:=(.inl ⟨by rfl,fun W' o=>by have c8:=(o.cell b3 bz k).trans c2;go_simp⟩));refine jT 9 a ?_;refine jT 10 a ?_;refine jT 12 a ?_ (v:=z) (hy:=(Vf (by rfl) 52 _ rfl fb 0 rfl z _ (fun W' o=>o.range ee.out b4 eb) Xf rfl Vy));refine jT 13 a ?_ (v:=.slice (some ⟨g,0,none⟩) n n) (hy:=(.inl ⟨by rfl,fun W' o=>by have c8:=(o.cell b5 c4 0).trans c1;go_simp⟩));refine jT 14 a ?_;refine jT 15 a ?_;refine jT 16 a ?_ (v:=.slice (some ⟨br,0,none⟩) wd wd) (hy:=(.inl ⟨by rfl,fun W' o=>by have c8:=(o.cell b3 bz r).trans c3;go_simp⟩));refine jT 17 a ?_;refine jT 18 a ?_;refine jT 19 a ?_ (v:=y3) (hy:=(Vf (by rfl) 52 _ rfl br (q*4) rfl y3 _ (fun W' o=>o.range cp b2 ec) Xf rfl Vy));refine Xc (rs:=[11,20]) kR sP (XQ rfl (fun K I=>?_) (XQ rfl (fun K I=>?_) Ys))
    focus
     rw[Vt (by rfl)];refine Qb 52 (.tmp 64) rfl bk (q*4) rfl x3 _ (VK bh a9 b1) Xf rfl Vy ?_;refine jK I a ?_;clear I K;refine rZ 20 fun K I=>?_;go_simp;refine(am U0 a9).out.mono ?_;rintro e W6 ⟨⟨v6,rfl,ca,ab⟩,a0⟩;have bi:=Z1 ab;clear ab;have ad:=a9.trans (a0.mono a9.size);have af:=a.below a0;refine I.out _ _ af (fun _=>?_);clear I K a0;unfold Rn.v
     try simp only[z]
    rotate_left
    focus
     go_simp;refine(am U0 a9).out.mono ?_;rintro e W6 ⟨⟨v6,rfl,ca,ab⟩,a0⟩;have bi:=Z1 ab;clear ab;have ad:=a9.trans (a0.mono a9.size);have af:=a.below a0;refine I.out _ _ af (fun _=>?_);clear I K a0;unfold Rn.v
     try simp only[z]
     refine rZ 11 fun K I=>?_;rw[Vt (by rfl)];refine Qb 52 (.tmp 64) rfl bk (q*4) rfl x3 _ (VK bh ad b1) Xf rfl Vy ?_;refine jK I af ?_;clear I K
    rotate_left
    all_goals
     have cq:=ao W6 v6 ad ca;refine rZ 21 fun K I=>?_;go_simp;refine cq.mono ?_;rintro e W7 ⟨⟨v7,rfl,dh,bl⟩,bv⟩;have ct:Hid (v7.q=El.upd z.q (ofR n R k) (ofR n R r) q):=by show _=_;rw[bl,bi,cu,cx];rfl
     clear bl;have b9:=af.below bv;refine I.out _ _ b9 (fun _=>?_);clear I K;unfold Rn.v
     try simp only[z]
     have X:=ad.trans (bv.mono ad.size);have Hp:=aw W7 X v7 (dh.more lR oM);have dy:=c9 W7 X;have dp:=Z1 ((dq.below X).put (b:=bk) ⟨k,E,by rw[<- a5 k E,ak]⟩ (q*4) v7.cells);have ds:=gB dt X b4;have e6:=Z1 ((e7.below X lR).more X.size lR);have bg:=Z1 X;clear cq ao aw c9 ad bv ca dh X af;refine jT 22 b9 ?_;refine rZ 23 fun K I=>?_;rw[Vt (by rfl)];refine wp_store_mid 52 (.tmp 76) (.tmp 75) rfl bk (q*4) v7 rfl rfl dy Vy oC ?_;refine jK I (b9.put rfl _ _) ?_;clear I K;refine VF kR ?_ _;clear b9;go_wp2;go_roundw
     case rel =>
      refine⟨q+1,_,oM,by go_num,fun p hp=>?_,Hp.1,fun p hp u hu=>?_,dp,fun p hp=>?_,fun j hj=>?_,?_,Hp.2 _ _ e6⟩
      ·have:=cg.out p hp
       by_cases e:p=k
       ·rw[e];simpa using ak.out.trans (a5 k E)
       ·simpa[e] using this
      ·rw[Vt rfl] at hu
       have dg:((R2 k).l.set q v7)[p]?=some u:=hu;rw[List.getElem?_set_ne oM] at dg;replace hu:=dg;exact Hp.2 _ _ (((dv p oM u hu).below bg lR).more bg.size lR)
      ·show(if p=k then(⟨_,_⟩:MRow) else R2 p).l=_
       rw[VB hp];exact an p hp
      ·show El.at_ ((if k=k then(⟨_,(R2 k).l.set q v7⟩:MRow) else R2 k).l.map Rn.q) j=_
       rw[Vt rfl,El.at_set _ _ _ _ (by rw[du];exact ah)]
       by_cases e:j=q
       ·subst e;rw[Vt rfl,Vt oM,ct]
       ·rw[VB e,bq j hj]
        by_cases h2:j<q
        ·rw[Vt h2,Vt oM]
        ·rw[VB h2,VB oM]
      ·have ea:fb≠bk:=fun e=>d8 ⟨k,E,by rw[e,<- a5 k E,ak]⟩
       exact(a0L _ _ _ _ _ ea).trans ds
     case measure=>exact mS
end Go.Proofs.YtbhdekahdnenjaaGreatDoor
namespace Go.Proofs.YtbhdekahdnenjaaGreatDoor
open Go.Proofs.Tryz Go.RowKit
variable (w:World)
def kk (a:Nat):Nat->Nat
 |0=>a
 |c+1=>4*kk a c+1
theorem b4H (a c:Nat):a<=kk a c:=by
 induction c with
 |zero=>exact lR
 |succ c i=>show a<=4*kk a c+1;omega
theorem a3W (a:Nat) {c d:Nat} (h:c<=d):kk a c<=kk a d:=by
 induction h with
 |refl=>exact lR
 |step _ i=>exact Vn i (by show _<=4*kk a _+1;omega)
theorem a7t (n wd:Nat) (R:Nat->MRow):hcells n 0 wd R=((List.replicate n (0:Nat)).flatMap (fun _=>[Value.slice none 0 0])).toArray:=by
 unfold hcells
 congr 1
 apply List.ext_getElem?;intro j
 have e:(List.replicate n (0:Nat)).flatMap (fun _=>[Value.slice none 0 0])=List.replicate n (Value.slice none 0 0):=by
  induction n with
  |zero=>rfl
  |succ n i=>rw[Yj,XB,i];rfl
 rw[e]
 by_cases a:j<n <;> simp[a]
theorem a7j {cur l:List Rn} (h:cur.length=l.length):((rcells cur).toList.take 0++l.flatMap Rn.cells++(rcells cur).toList.drop (0+(l.flatMap Rn.cells).length)).toArray=rcells l:=by
 unfold rcells;have a:=Xj (f:=Rn.cells) (sz:=4) (fun _=>rfl) cur;have i:=Xj (f:=Rn.cells) (sz:=4) (fun _=>rfl) l;rw[YV,Xr,Yf (by simp[a,i,h])];simp
section
variable {w:World} {lo g n k wd:Nat} {R:Nat->MRow} {K:Nat->Nat}
theorem Mx.row {w':World} {b:Nat} {l:List Rn} (h:Mx w lo g n k wd R K) (hk:k<n) (W:Below w w w') (hb:w<=b) (O:lo<=b) (s:Row w' b 52 (rcells l)) (hl:l.length=wd) (hx:∀x∈l,x.At w' w' (K k)) :
  Mx (w'.setCell ⟨g,k,none⟩ (.slice (some ⟨b,0,none⟩) wd wd)) lo g n (k+1) wd (fun q=>if q=k then⟨b,l⟩ else R q) K:=by
 have i:=h.below W;have L:b≠g:=by have:=Vq h.hg;omega
 have a:∀c,c≠g->(w'.setCell ⟨g,k,none⟩ (.slice (some ⟨b,0,none⟩) wd wd)).heap[c]?=w'.heap[c]?:=fun c X=>VR _ _ _ _ (by show c≠g;exact X);have Q:(w'.setCell ⟨g,k,none⟩ (.slice (some ⟨b,0,none⟩) wd wd)).heap.size=w'.heap.size:=by simp[World.setCell]
 have o:∀q,q<k->(R q).b<w.heap.size:=fun q I=>Vq (h.hr q I).1;refine⟨?_,fun q I=>?_,fun q I p hp e=>?_,fun q I y J=>?_⟩
 ·have T:=Row.set i.hg k (.slice (some ⟨b,0,none⟩) wd wd)
  have e:(hcells n k wd R).setIfInBounds k (.slice (some ⟨b,0,none⟩) wd wd)=hcells n (k+1) wd (fun q=>if q=k then⟨b,l⟩ else R q):=by
   unfold hcells;simp only[Yd,a2K]
   congr 1
   apply ZH;intro q _
   by_cases E:q=k
   ·simp[E]
   ·have:(q<k+1) ↔ (q<k):=oM
    simp[E,this]
  rw[<- e];exact T
 ·by_cases e:q=k
  ·subst e;simp only[Vt rfl];exact⟨(a b L).trans s,hl,O⟩
  ·simp only[VB e];exact⟨(a _ (i.ne oM)).trans (i.hr q oM).1,(i.hr q oM).2⟩
 ·by_cases E:q=k <;> by_cases S:p=k <;> simp[E,S] at e⊢
  ·have:=o p oM;omega
  ·have:=o q oM;omega
  ·exact h.inj q oM p oM e
 ·rw[Q]
  by_cases e:q=k
  ·subst e;simp only[Vt rfl] at J;exact(hx y J).other i.hg (a1L _ _ _ _) a
  ·simp only[VB e] at J;exact(i.hx q oM y J).other i.hg (a1L _ _ _ _) a
end
theorem PI.others {w w':World} {B k:Nat} {v:Value} {z:Int} (h:PI w B k v z) {S:Nat->Prop} (hS:∀b,S b->∃(cs:AV) (t:TypeId) (J:Nat × Nat),w.heap[b]?=some (Obj.cells cs t J)/\∀(j:Nat) (n:Int),cs[j]?≠some (.int .u32 n)) (L:∀c,c<B->¬ S c->w'.heap[c]?=w.heap[c]?):PI w' B k v z:=by
 obtain⟨g,A,n,c,l,O,Q,T,W,X,h6,h7,h8,h9⟩:=h;refine⟨g,A,n,c,l,O,Q,T,W,X,h6,h7,h8,?_⟩
 rcases h9 with h|⟨d,o,e,I,s⟩
 ·exact .inl h
 ·rcases Y0 l.length with i|i
  ·exact .inl (List.length_eq_zero_iff.1 i)
  ·have a:¬ S d:=fun hd=>by
    obtain⟨cs,t,J,hb,E⟩:=hS d hd;have:=s.1 0 i;rw[cr9 _ hb] at this;exact E _ _ this
   exact .inr ⟨d,o,e,I,fun j hj=>(World.cell?_of_block (w:=w) (L d I a)).trans (s.1 j hj),s.2.of_block (L d I a)⟩
theorem Rn.At.keepX {w w':World} {K:Nat} {x:Rn} {S:Nat->Prop} (h:x.At w w K) (i:∀b,S b->∃(cs:AV) (t:TypeId) (J:Nat × Nat),w.heap[b]?=some (Obj.cells cs t J)/\∀(j:Nat) (n:Int),cs[j]?≠some (.int .u32 n)) (a:KeepX S w w'):x.At w' w' K:=by
 obtain⟨L,o,W,E,O,s,X,I,e,Q,T⟩:=h;exact Rn.At.more ⟨L,o,W,E,O,s,X,I,e,Q.others i a.block,T.others i a.block⟩ a.size lR
structure EI (w wr:World) (g mb db n wd K KD:Nat) (R:Nat->MRow) (d:Rn):Prop where
 hM:Mx wr (mb+1) g n n wd R (fun _=>K)
 hlt:∀p,p<n->(R p).b<db
 hd:Row wr db 52 d
 hda:d.At wr wr KD
 hB:Below w w wr
 hm:Row wr mb 262 #[.slice (some ⟨g,0,none⟩) n n]
 hR:Row wr w.heap.size 52 ZR
 ord:w<g/\g<mb/\mb<db
section
variable {w wr w':World} {g mb db n wd K KD:Nat} {R:Nat->MRow} {d:Rn}
theorem EI.below (h:EI w wr g mb db n wd K KD R d) (a:Below wr wr w'):EI w w' g mb db n wd K KD R d :=
 ⟨h.hM.below a,h.hlt,(a.block db (Vq h.hd)).trans h.hd,(h.hda.below a lR).more a.size lR,h.hB.trans (a.mono h.hB.size),(a.block mb (Vq h.hm)).trans h.hm,(a.block _ (Vq h.hR)).trans h.hR,h.ord⟩
theorem EI.wider {K':Nat} (h:EI w wr g mb db n wd K K R d) (a:K<=K'):EI w wr g mb db n wd K' K' R d :=
 ⟨h.hM.wider (fun _ _=>a),h.hlt,h.hd,h.hda.more lR a,h.hB,h.hm,h.hR,h.ord⟩
theorem EI.no (h:EI w wr g mb db n wd K KD R d) {b:Nat} (s:b<=mb∨db<=b):¬ rowsOf n R b:=fun⟨q,a,e⟩=>by
 have i:=(h.hM.hr q a).2.2;have o:=h.hlt q a;omega
theorem EI.rows {K':Nat} {i:Nat->MRow} (h:EI w wr g mb db n wd K KD R d) (a:KeepX (rowsOf n R) wr w') (o:∀p,p<n->(i p).b=(R p).b) (E:Mx w' (mb+1) g n n wd i (fun _=>K')):EI w w' g mb db n wd K' KD i d:=by
 have I:=h.ord
 exact⟨E,fun p s=>by rw[o p s];exact h.hlt p s,(a.block db (Vq h.hd) (h.no (.inr lR))).trans h.hd,h.hda.keepX (fun b ⟨q,J,e⟩=>by subst e;exact⟨_,_,_,(h.hM.hr q J).1,a0O _⟩) a,
  h.hB.trans (a.to_below h.hB.size (fun b L=>h.no (.inl oM))),(a.block mb (Vq h.hm) (h.no (.inl lR))).trans h.hm,(a.block _ (Vq h.hR) (h.no (.inl oM))).trans h.hR,I⟩
theorem EI.det {K':Nat} {s:Rn} (h:EI w wr g mb db n wd K KD R d) (E:s.At wr wr K') :
  EI w (wr.setRow db s) g mb db n wd K K' R s:=by
 have L:=h.ord;have a:=fun c (I:c≠db)=>Vl wr db c s I;have o:∀(j:Nat) (z:Int),(d:AV)[j]?≠some (.int .u32 z):=a0O [d];refine⟨h.hM.other h.hd o oM (fun i J e=>by have:=h.hlt i J;omega) a sP,h.hlt,VC _ _ _ _ _ _ h.hd,?_,below_setRow h.hB oM _,(a mb oM).trans h.hm,(a _ oM).trans h.hR,L⟩;exact(E.other h.hd o a).more sP lR
theorem EI.swap (h:EI w wr g mb db n wd K KD R d) {i j:Nat} (s:i<n) (E:j<n) :
  EI w ((wr.setCell ⟨g,i,none⟩ (.slice (some ⟨(R j).b,0,none⟩) wd wd)).setCell ⟨g,j,none⟩ (.slice (some ⟨(R i).b,0,none⟩) wd wd)) g mb db n wd K KD (fun q=>if q=j then R i else if q=i then R j else R q) d:=by
 have I:=h.ord
 have a:∀c,c≠g->((wr.setCell ⟨g,i,none⟩ (.slice (some ⟨(R j).b,0,none⟩) wd wd)).setCell ⟨g,j,none⟩ (.slice (some ⟨(R i).b,0,none⟩) wd wd)).heap[c]?=wr.heap[c]?:=fun c o=>by
  rw[VR _ _ _ _ (by show c≠g;exact o),VR _ _ _ _ (by show c≠g;exact o)]
 refine⟨h.hM.swap s E,fun p J=>?_,(a db oM).trans h.hd,?_,(h.hB.setCell (p:=⟨g,i,none⟩) (by show _<=g;omega) _).setCell (p:=⟨g,j,none⟩) (by show _<=g;omega) _,(a mb oM).trans h.hm,(a _ oM).trans h.hR,I⟩
 ·show(if p=j then R i else if p=i then R j else R p).b<db
  split
  ·exact h.hlt i s
  ·split
   ·exact h.hlt j E
   ·exact h.hlt p J
 ·exact(h.hda.other h.hM.hg (a1L _ _ _ _) a).more (by simp[World.setCell]) lR
end
def ElimPost (i:Nat->List Fr) (n wd cols a:Nat) (w:World) (e:Ending) (w':World):Prop :=
 Below w w w'/\∃g lo R r det,e=.returned (.tuple #[.slice (some ⟨g,0,none⟩) n n,.int .i64 (r:Nat),Rn.v det])/\r<=n/\Mx w' lo g n n wd R (fun _=>kk a cols)/\(r,ofR n R)=El.run n cols i
theorem rowInfo2:(prog.info? 161).map (fun i=>(i.zero,i.size,i.bytes))=some (some (.slice none 0 0),1,24):=kR
theorem ratInfo:(prog.info? 52).map (fun i=>(i.zero,i.size,i.bytes))=some (some (.agg ZR),4,64):=kR
theorem b2W (A:OA) (n c wd cols I:Nat) (m:List RRow) (ga:1<=n) (hn:n<=24) (fi:wd<=30) (g0:cols<=wd) (gg:1<=wd) (L:3<=I) (fx:30*kk I cols+1000<=10000000000) (hl:m.length=n)
  (hA:MatR w w A m) (hx:∀r∈m,r.At w w I/\r.n=wd) :
  Calls prog 238 #[.slice A n c,cols] w (ElimPost (mq m) n wd cols I w):=by
 obtain⟨bA,oA,rfl,f8,e0⟩:=RowsAt.base hA oM;obtain⟨i0,hi,fm,fn,gj⟩:=XW rowInfo2;obtain⟨i1,fc,fk,fl,gi⟩:=XW ratInfo
 have em:=fun q (hq:q<n)=>Z1 (show∃(b o c':Nat) (l:List Rn),w.cell? ⟨bA,oA+q,none⟩=some (.slice (some ⟨b,o,none⟩) wd c')/\b<w/\RowsAt Rn.cells 4 w w (some ⟨b,o,none⟩) l/\l.length=wd/\(∀x∈l,x.At w w I)/\l.map Rn.q=mq m q from by
  have h1:q<m.length:=oM;obtain⟨⟨k1,k2,k3⟩,k4⟩:=hx m[q] (Vm h1);have c0:=e0 q h1 0 _ rfl;obtain⟨b,o,e,hb,_⟩:=RowsAt.base k2 oM;rw[e] at c0 k2;rw[k4] at c0 k1;exact⟨b,o,m[q].c,m[q].l,by simpa using c0,hb,k2,k1,k3,(b3Y h1).symm⟩)
 have gc:(n:Int)<=24:=oM;have gb:(0:Int)<(n:Int):=oM;have ev:Hid (∀i,¬ i<n->mq m i=[]):=fun i hi=>b3C oM;clear hA hx e0 hl;obtain⟨W1,df,cy,dx,ba⟩:=nw1 w ZR 52;obtain⟨en,c5,ex,cu⟩:=Z4 df cy dx ba;clear df cy dx ba;go_enter func238,ntmps238;go_upto_region 1 with(fail);rw[<- en];apply wp_scope_straight;go_wp2_with (at_make;refine a0D (fun _:Nat=>[Value.slice none 0 0]) 1 0 rfl _ _ 262 rfl 161 i0 (.slice none 0 0) rfl dC underlying262 hi fm rfl fn oM _ _ _ _ n rfl rfl rfl rfl oM ?_;intro w2 ay);obtain⟨g,hg⟩:=eX W1.heap.size;have Hg:=Z1 hg
 have ar:Row w2 g 161 (hcells n 0 wd (fun _=>⟨0,[]⟩)):=by
  rw[a7t];unfold Row;rw[hg,ay.out];exact Vh W1 _
 have a5:Below w w w2:=by rw[ay.out];exact c5.alloc c5.size _
 have bz:Row w2 w.heap.size 52 ZR:=by rw[ay.out];exact(VD _ _ _ (by rw[cu];omega)).trans ex
 rw[<- hg];have cw:Hid (w2.heap.size=g+1):=Z1 (by rw[ay.out,hg];simp);have ag:Hid (g=w.heap.size+1):=Z1 (by rw[hg,cu]);obtain⟨W3,dg,b0,bu,ee⟩:=nw1 w2 #[.slice (some ⟨g,0,none⟩) n n] 262;obtain⟨mb,ax⟩:=eX w2.heap.size;have fv:=Z1 ax;have eo:=Z1 dg;rw[<- ax] at bu;have d4:Row W3 g 161 (hcells n 0 wd (fun _=>⟨0,[]⟩)):=gbox ar b0 (Vq ar);have da:Row W3 w.heap.size 52 ZR:=gbox bz b0 (Vq bz);have c6:=Z1 (a5.trans (b0.mono a5.size));have fw:Hid (W3.heap.size=g+2):=Z1 (by rw[ee,cw]);have aj:Hid (mb=g+1):=Z1 (ax.trans cw);have cc:Hid (Mx W3 (mb+1) g n 0 wd (fun _=>⟨0,[]⟩) (fun _=>I)):=Z1 ⟨d4,fun i hi=>oM,fun i hi=>oM,fun i hi=>oM⟩;have cp:=Z1 bu;have cd:=Z1 da;clear ay ar a5 bz hg dg b0 bu ee d4 da;go_wp2;rw[<- eo,<- ax];clear ax
 go_loopw [20] (fun v wr=>∃(k:Nat) (R:Nat->MRow),k<=n/\v=k/\Mx wr (mb+1) g n k wd R (fun _=>I)/\Below w w wr/\Row wr mb 262 #[.slice (some ⟨g,0,none⟩) n n]/\Row wr w.heap.size 52 ZR/\∀i,i<k->(R i).l.map Rn.q=mq m i) (fun v _=>n-(intOf v).toNat)
 case atStart=>exact⟨0,_,Vb _,rfl,cc,c6,cp,cd,fun i hi=>absurd hi (QY i)⟩
 case round =>
  obtain⟨V,rfl⟩:=eX wr;obtain⟨k,R,hk,rfl,hM,hB,hm,hR,dq⟩:=hrel;have cj:=Z1 dq;clear dq;have fy:=hB.size
  by_cases O:k<n
  case neg =>
   obtain rfl:k=n:=oM;obtain⟨HM,HB,Hm,HR⟩:=Z4 hM hB hm hR;have ej:Hid ((0,ofR k R)=El.run k 0 (mq m)):=by show _=_;rw[b0n cj ev];rfl
   clear hM hB hm hR cc c6 cp cd;go_upto_region 8 with(fail);have ew:=Z1 (a2i V 1 1 oM oM oM oM oM);go_wp2_with (fail);refine ew.mono ?_;rintro e W2 ⟨⟨r0,rfl,bx⟩,a5⟩;obtain⟨d0,rfl,dr,_⟩:=Rn.of_ri (K:=I) bx oM oM;obtain⟨W4,ap,X,bq,fp⟩:=nw1 W2 d0 52;obtain⟨db,bs⟩:=eX W2.heap.size;rw[<- bs] at bq;have ep:=Z1 ap;have es:=Z1 bs;have J:Below V.heap.size V W4:=a5.trans (X.mono a5.size);have fe:mb<db:=by have:=Vq Hm;have:=a5.size;omega
   have g1:g<db:=by have:=Vq HM.hg;have:=a5.size;omega
   have gh:w<mb:=by have:=ag.out;have:=aj.out;omega
   have fb:g<mb:=by have:=aj.out;omega
   have fj:w<g:=by have:=ag.out;omega
   have HE:Hid (EI w W4 g mb db k wd I I R d0):=Z1 ⟨HM.below J,fun p hp=>by have:=Vq (HM.hr p hp).1;have:=a5.size;omega,bq,(dr.below X lR).more X.size lR,HB.out.trans (J.mono oM),(J.block mb (Vq Hm)).trans Hm,(J.block _ (Vq HR)).trans HR,fj,fb,fe⟩;have fz:(cols:Int)<=30:=oM;clear ap bq fp J dr bx a5 X HM HB Hm HR bs;unfold Rn.v;go_wp2;rw[<- ep,<- es];apply wp_label;go_wp2
   go_loopw [11,48] (fun vr vc wr=>∃(q r:Nat) (R:Nat->MRow) (d:Rn),q<=cols/\r<=k/\vr=r/\vc=q/\EI w wr g mb db k wd (kk I q) (kk I q) R d/\(r,ofR k R)=El.run k q (mq m)) (fun _ vc _=>cols-(intOf vc).toNat)
   case atStart=>exact⟨0,0,R,d0,Vb _,Vb _,rfl,rfl,HE,ej⟩
   case round =>
    clear HE;obtain⟨U,rfl⟩:=eX wr;obtain⟨q,r,R,d,hq,hr,rfl,rfl,hE,hQ⟩:=hrel;have HQ:=Z1 hQ;clear hQ
    by_cases dw:q<cols
    case neg =>
     obtain rfl:q=cols:=oM;have bm:=cr9 0 hE.hm;simp at bm;have m2:=Vq hE.hm;have d2:=Vq hE.hd;have r2:=Vq hE.hR;have ff:¬ mb=w.heap.size:=oM;have f9:¬ db=w.heap.size:=oM;have e8:=Xq hE.hd;have cf:=Z1 e8;have HE:=Z1 hE;clear hE e8;go_upto_region 25 with(fail);have a:KeepX (fun b=>b=w.heap.size) U U.drew:=(KeepX.refl _ _).below (Vw bR 1);have a0:Below U.heap.size U U.drew:=Vw bR 1;refine Vs (S:=KeepX (fun b=>b=w.heap.size) U) kR ?_;change wpAnyH _ _ _ _ _ _ _ _ (World.drew U);obtain⟨U0,an⟩:=eX U.drew;rw[<- an] at a a0⊢;clear an;refine jT 0 a ?_ (v:=.slice (some ⟨g,0,none⟩) k k) (hy:=(.inl ⟨by rfl,fun W' E=>by have c8:=(E.cell m2 ff 0).trans bm;have c9:=E.size;have c7:mb<W':=oM;go_simp⟩));refine jT 1 a ?_;refine jT 2 a ?_ (v:=d) (hy:=(Vf (by rfl) 52 _ rfl db 0 rfl d _ (fun W' E=>E.range cf d2 f9) Xf rfl Vy));refine rZ 3 fun K L=>?_;go_simp;refine jK L a ?_;clear L K;refine rZ 4 fun K L=>?_;go_simp;refine jK L a ?_;clear L K;have ab:=HE.out.below a0;refine rZ 5 fun K L=>?_;rw[Vt (by rfl)];refine VQ 52 _ _ none rfl rfl w.heap.size 52 _ d rfl rfl ab.hR rfl Vy oC ?_;have a6:KeepX (fun b=>b=w.heap.size) U (U0.setRow w d):=a.trans ⟨rfl,rfl,rfl,sP,fun b _ hb=>Vl _ _ _ _ hb⟩;refine jK L a6 ?_;clear L K;refine VF kR ?_ _;have bn:=ab.hM.other ab.hR a0G oM (fun p hp e=>by have:=(ab.hM.hr p hp).2.2;omega) (fun c hc=>Vl U0 w c d hc) sP;have bh:=below_setRow ab.hB lR d;have dd:=VC U0 w _ d _ _ ab.hR;have aw:=Z1 (VW (P:=prog) _ _ _ 52 _ _ _ dd Xf rfl Vy);obtain⟨W9,dk⟩:=eX (U0.setRow w d);rw[<- dk] at bn bh aw⊢;have ei:=Z1 bn;have eg:=Z1 bh;clear bn bh dd dk a6 ab HE cf bm;go_wp2;exact VG (v:=.tuple #[.slice (some ⟨g,0,none⟩) k k,r,d]) (by simp[results,results238,asAddr,Act.put,aw.out]) rfl ⟨eg,g,_,R,r,d,rfl,hr,ei,HQ⟩
    have fs:(q:Int)<(cols:Int):=oM;have ge:(0:Int)<=(q:Int):=oM;have bx:(0:Int)<=(r:Int):=oM;have gf:(r:Int)<=24:=oM;have bw:q<wd:=oM;have ft:(q:Int)<(wd:Int):=oM;have HE:=Z1 hE;clear hE;go_wp2
    go_loopw [11,14] (fun vr vi wi=>∃i:Nat,r<=i/\i<=k/\vr=r/\vi=i/\EI w wi g mb db k wd (kk I q) (kk I q) R d/\∀p,r<=p->p<i->sg (El.at_ (ofR k R p) q).1=0) (fun _ vi _=>k-(intOf vi).toNat)
    case atStart=>exact⟨r,lR,hr,rfl,rfl,HE,fun p h1 h2=>absurd h2 oM⟩
    case round =>
     clear HE;obtain⟨V,rfl⟩:=eX wr;obtain⟨i,fh,g6,rfl,rfl,hE,ef⟩:=hrel;have bf:=Z1 ef;clear ef;have e1:=cr9 0 hE.hm;simp at e1;have e2:=Vq hE.hm;have g3:(0:Int)<=(i:Int):=oM
     by_cases O:i<k
     case neg =>
      obtain rfl:i=k:=oM;have HE:=Z1 (hE.wider (K':=kk I (q+1)) (a3W I (J8 q)));clear hE;go_wp2;go_roundw
      case rel=>exact⟨q+1,r,R,d,oM,hr,rfl,by go_num,HE,El.run_none HQ bf⟩
      case measure=>exact mS
     have fq:(i:Int)<(k:Int):=oM;have fu:(r:Int)<(k:Int):=oM;have Q:r<k:=oM;have e3:=hE.hM.head O O;have e4:=Vq hE.hM.hg;obtain⟨x,ea,c3,eb⟩:=hE.hM.get O bw;have ey:Hid (El.at_ (ofR k R i) q=x.q):=by show _=_;rw[a3T O];exact El.at_map ea
     clear ea;have au:=Vq (hE.hM.hr i O).1;have Hs:=Z1 (a9V V (kk I q) x eb);obtain⟨bi,dn⟩:=eX ((R i).b);rw[<- dn] at e3 c3 au;have cs:=Z1 c3;have HE:=Z1 hE;clear c3 eb hE dn;go_wp2_with (refine VH rfl 52 (.tmp 63) rfl bi (q*4) rfl x _ cs Xf rfl Vy ?_);refine Hs.mono ?_;rintro e W5 ⟨⟨s,rfl,e9⟩,cz⟩;have ct:Hid (sg (El.at_ (ofR k R i) q).1=s):=by show _=_;rw[ey,e9]
     clear e9;have T:=Z1 (HE.below cz);clear HE cz e1 e3 cs Hs
     by_cases hz:s=0
     ·have k2:(s==0):=by simp[hz]
      have cx:Hid (∀p,r<=p->p<i+1->sg (El.at_ (ofR k R p) q).1=0):=fun p h1 h2=>by
       by_cases e:p=i
       ·rw[e,ct];exact hz
       ·exact bf p h1 oM
      clear hz;go_wp2;go_roundw
      case rel=>exact⟨i+1,oM,oM,rfl,by go_num,T,cx⟩
      case measure=>exact mS
     have k2:(s==0)=false:=by simp[hz]
     have HZ:Hid (¬ sg (El.at_ (ofR k R i) q).1=0):=by show¬ _=_;rw[ct];exact hz
     clear hz
     by_cases bt:i=r
     rotate_left
     focus
      have k3:((i:Int) != (r:Int)):=sO;have c1:=T.out.hM.head O O;have c2:=T.out.hM.head Q Q;have m1:=cr9 0 T.hm;simp at m1;have m2:=Vq T.hm;have g5:=Vq T.hM.hg;have ad:¬ mb=g:=oM;obtain⟨bi,au⟩:=eX ((R i).b);obtain⟨br,ah⟩:=eX ((R r).b);rw[<- au] at c1;rw[<- ah] at c2;have ch:=Z1 au;have ci:=Z1 ah;have fd:kk I q<=10000000000:=by have:=a3W I (XC dw);omega
      clear au ah;go_upto_region 19 with(fail);have a:KeepX (fun b=>b=g) W5 W5.drew:=(KeepX.refl _ _).below (Vw bR 1);have a0:Below W5 W5 W5.drew:=Vw bR 1;refine Vs (S:=KeepX (fun b=>b=g) W5) kR ?_;change wpAnyH _ _ _ _ _ _ _ _ (World.drew W5);obtain⟨U0,an⟩:=eX W5.drew;rw[<- an] at a a0⊢;clear an;refine jT 0 a ?_ (v:=.slice (some ⟨g,0,none⟩) k k) (hy:=(.inl ⟨by rfl,fun W' E=>by have c8:=(E.cell m2 ad 0).trans m1;have c9:=E.size;have c7:mb<W':=oM;go_simp⟩));refine jT 1 a ?_;refine jT 2 a ?_ (v:=.slice (some ⟨g,0,none⟩) k k) (hy:=(.inl ⟨by rfl,fun W' E=>by have c8:=(E.cell m2 ad 0).trans m1;have c9:=E.size;have c7:mb<W':=oM;go_simp⟩));refine jT 3 a ?_;refine jT 4 a ?_ (v:=.slice (some ⟨g,0,none⟩) k k) (hy:=(.inl ⟨by rfl,fun W' E=>by have c8:=(E.cell m2 ad 0).trans m1;have c9:=E.size;have c7:mb<W':=oM;go_simp⟩));refine jT 5 a ?_;refine jT 6 a ?_;refine jT 8 a ?_ (v:=.slice (some ⟨g,0,none⟩) k k) (hy:=(.inl ⟨by rfl,fun W' E=>by have c8:=(E.cell m2 ad 0).trans m1;have c9:=E.size;have c7:mb<W':=oM;go_simp⟩));refine jT 9 a ?_;refine jT 10 a ?_;have n1:=(a0.cell (p:=⟨g,i,none⟩) g5).trans c1;have n2:=(a0.cell (p:=⟨g,r,none⟩) g5).trans c2;have n3:g<U0:=by have:=a0.size;omega
      refine Xc (rs:=[7,11]) kR sP (XQ rfl (fun K L=>?_) (XQ rfl (fun K L=>?_) Ys))
      focus
       go_simp;refine jK L a ?_;clear L K;refine rZ 11 fun K L=>?_;go_simp;refine jK L a ?_;clear L K
      rotate_left
      focus
       go_simp;refine jK L a ?_;clear L K;refine rZ 7 fun K L=>?_;go_simp;refine jK L a ?_;clear L K
      rotate_left
      all_goals
       refine jT 12 a ?_;have a6:=a.put (b:=g) rfl i [.slice (some ⟨br,0,none⟩) wd wd];have f1:=fr0 i (T.below a0).hM.hg;refine rZ 13 fun K L=>?_;go_simp;refine jK L a6 ?_;clear L K;refine jT 14 a6 ?_;have ae:=Row.set (T.below a0).hM.hg i (.slice (some ⟨br,0,none⟩) wd wd);have f2:=fr0 r ae
       have n4:∃v,(U0.setCell ⟨g,i,none⟩ (.slice (some ⟨br,0,none⟩) wd wd)).cell? ⟨g,r,none⟩=some v:=by
        rw[cr9 r ae,Array.getElem?_eq_getElem (by unfold hcells;simp;omega)];exact⟨_,rfl⟩
       obtain⟨v4,n4⟩:=n4;obtain⟨U1,ao⟩:=eX (U0.setCell ⟨g,i,none⟩ (.slice (some ⟨br,0,none⟩) wd wd));have n5:g<U1:=by rw[ao];simpa[World.setCell] using n3
       rw[<- ao] at n4 f2⊢;change KeepX _ W5 (U0.setCell ⟨g,i,none⟩ (.slice (some ⟨br,0,none⟩) wd wd)) at a6;rw[<- ao] at a6;have de:=a6.put (b:=g) rfl r [.slice (some ⟨bi,0,none⟩) wd wd];have cg:=Z1 ao;clear ao ae;refine rZ 15 fun K L=>?_;go_simp;refine jK L de ?_;clear L K;refine VF kR ?_ _;have a9:=(T.below a0).swap O Q;rw[<- ch,<- ci,<- cg] at a9;obtain⟨R6,a9,am⟩:∃R6,EI w (U1.setCell ⟨g,r,none⟩ (.slice (some ⟨bi,0,none⟩) wd wd)) g mb db k wd (kk I q) (kk I q) R6 d/\ofR k R6=El.swp i r (ofR k R):=⟨_,a9,b3W O Q⟩;have bc:=Z1 am;clear am;obtain⟨W7,di⟩:=eX (U1.setCell ⟨g,r,none⟩ (.slice (some ⟨bi,0,none⟩) wd wd));rw[<- di] at a9⊢;have al:=Z1 (b3w W7 (kk I q) d fd a9.hda);have cb:=Z1 a9;have av:=a9.hd;unfold Rn.v at al;clear di de a6 a a0 n1 n2 n3 n4 n5 f1 f2 c1 c2 m1 m2 a9;go_wp2_with (refine Vd rfl 52 _ rfl _ rfl _ _ _ _ av Xf rfl Vy ?_);refine al.mono ?_;rintro e W8 ⟨⟨d8,rfl,ds,_⟩,d3⟩;have bl:=cb.out.below d3;have cn:=Z1 bl.hd;have W:=Z1 (bl.det ds);have ai:Hid ((d8:AV).all (·.oneCell')):=Z1 oC;clear bl av d3 ds;unfold Rn.v;go_upto_region 21 with(refine Vz rfl 52 (.tmp 9) (.tmp 85) none rfl rfl db 52 _ d8 rfl rfl cn rfl Vy ai ?_);obtain⟨W6,aq⟩:=eX (W8.setRow db d8);rw[<- aq] at W⊢;obtain⟨R7,d6,a4,ce⟩:∃R6 d6,Hid (EI w W6 g mb db k wd (kk I q) (kk I q) R6 d6)/\Hid (ofR k R6=El.swp i r (ofR k R)):=⟨R6,d8,W,bc⟩;clear aq W ai cn cb al cg ch ci T
     rotate_left 2
     focus
      have k3:((i:Int) != (r:Int))=false:=by simp[bt]
      obtain⟨W6,aq⟩:=eX W5;rw[<- aq] at T⊢;obtain⟨R7,d6,a4,ce⟩:∃R6 d6,Hid (EI w W6 g mb db k wd (kk I q) (kk I q) R6 d6)/\Hid (ofR k R6=El.swp i r (ofR k R)):=⟨R,d,T,by show _=_;rw[bt,El.swp_same]⟩;clear T aq bt;go_upto_region 21 with(fail)
     all_goals
      have dt:=a4.out.hd;have c1:=a4.out.hM.head Q Q;have m1:=cr9 0 a4.hm;simp at m1;have m2:=Vq a4.hm;have g5:=Vq a4.hM.hg;obtain⟨y,_,c4,ec⟩:=a4.out.hM.get Q bw;have b5:=Vq (a4.hM.hr r Q).1;obtain⟨br,ah⟩:=eX ((R7 r).b);rw[<- ah] at c1 c4 b5;have L1:=VW (P:=prog) W6.drew db 52 52 _ _ _ dt Xf rfl Vy;have L2:=run_loadVar_mid (P:=prog) W6.drew br (q*4) 52 y.cells _ c4 Xf rfl Vy;unfold Rn.cells at L2;have b1:Below W6 W6 W6.drew:=Vw bR 1;have bb:=Z1 (a4.below b1);have bg:3<=kk I q:=Vn L (b4H I q);have g8:kk I q<=kk I cols:=a3W I (XC dw);have ak:=Z1 (b3x W6.drew (kk I q) (kk I q) d6 y bg bg oM bb.hda ((ec.below b1 lR).more b1.size lR));unfold Rn.v at ak;clear dt c4 ec ah b1 a4;go_still_tail 8,kR;refine a3F (by rfl) 52 (.tmp 9) rfl db 0 rfl _ L1 ?_
      repeat still_step
      refine a3F (by rfl) 52 (.tmp 92) rfl br (q*4) rfl _ L2 ?_;refine wpStill_nil ?_;clear L1 L2 c1 m1;go_wp2_with (fail);refine ak.mono ?_;rintro e W7 ⟨⟨d7,rfl,av,_⟩,d1⟩;have bk:=bb.out.below d1;have ck:=Z1 bk.hd;have aa:=Z1 (bk.det av);have ai:Hid ((d7:AV).all (·.oneCell')):=Z1 oC;clear bk av d1 ak bb;unfold Rn.v;go_upto_region 22 with(refine Vz rfl 52 (.tmp 9) (.tmp 94) none rfl rfl db 52 _ d7 rfl rfl ck rfl Vy ai ?_);obtain⟨W8,dj⟩:=eX (W7.setRow db d7);rw[<- dj] at aa⊢;have b8:=Z1 (b1o W8 mb g (mb+1) k wd r q (kk I q) R7 hn fi Q bw bg oM (Vq aa.hm) (by rw[cr9 0 aa.hm];rfl) (aa.no (.inl lR)) aa.hM);clear dj ai ck;go_wp2_with (fail);refine b8.mono ?_;rintro e W9 ⟨⟨v9,rfl⟩,dl,R9,b9,d5,d9⟩;have ek:=Z1 (El.run_piv HQ O fh HZ bf ((b0n d9 (fun p hp=>El.clr_out hp)).trans (by rw[ce])));clear d9;have W:=Z1 (aa.rows dl b9 d5);have ca:Hid (EI w W9 g mb db k wd (kk I (q+1)) (kk I (q+1)) R9 d7):=Z1 ⟨W.hM,W.hlt,W.hd,W.hda.more lR (by show _<=4*kk I q+1;omega),W.hB,W.hm,W.hR,W.ord⟩;clear dl b9 d5 aa W b8;go_wp2;go_roundw
      case rel=>exact⟨q+1,r+1,R9,d7,oM,oM,by go_num,by go_num,ca,ek⟩
      case measure=>exact mS
  obtain⟨b,o,c',l,y1,y2,y3,y4,y5,y6⟩:=(em k O).out;have f7:=Z1 y6;clear y6;have a1:=(hB.cell (p:=⟨bA,oA+k,none⟩) f8).trans y1;have m1:=cr9 0 hm;simp at m1;have m2:=Vq hm;have g2:=Vq hM.hg;have a2:bA<V:=oM;have ad:¬ mb=g:=by have:=aj.out;omega
  have dm:¬ bA=g:=by have:=ag.out;omega
  have g9:(k:Int)<(n:Int):=oM;have g7:(0:Int)<=(k:Int):=oM;obtain⟨HM,HB,Hm,HR,ez,f6,az⟩:=Z7 hM hB hm hR y3 y5 y4;clear hM hB hm hR y1 y3 y5 y4;go_upto_region 5 with(fail);have a:KeepX (fun b=>b=g) V V.drew:=(KeepX.refl _ _).below (Vw bR 1);have bj:Below V.heap.size V V.drew:=Vw bR 1;refine Vs (S:=KeepX (fun b=>b=g) V) kR ?_;change wpAnyH _ _ _ _ _ _ _ _ (World.drew V);obtain⟨V0,bo⟩:=eX V.drew;have af:(V0:Nat)=V:=by rw[bo];rfl
  rw[<- bo] at a bj⊢;clear bo;refine jT 0 a ?_ (v:=.slice (some ⟨g,0,none⟩) n n) (hy:=(.inl ⟨by rfl,fun W' E=>by have c8:=(E.cell m2 ad 0).trans m1;have c9:=E.size;have c7:mb<W':=oM;go_simp⟩));refine jT 1 a ?_;refine jT 2 a ?_;refine jT 3 a ?_;refine jT 4 a ?_;refine jT 5 a ?_ (v:=.slice (some ⟨b,o,none⟩) wd c') (hy:=(.inl ⟨by rfl,fun W' E=>by have c8:=(E.cell a2 dm (oA+k)).trans a1;have c9:=E.size;have c7:bA<W':=oM;go_simp⟩));refine jT 6 a ?_;refine rZ 7 fun K L=>?_;rw[Vt (by rfl)];refine a3h Rn.cells 4 Rn.zero _ _ 161 rfl 52 i1 (.agg ZR) rfl dC underlying161 fc fk rfl fl oM _ _ _ _ wd rfl rfl rfl rfl oM ?_;intro W4 ap;have X:Below V.heap.size V0 W4:=by rw[ap.out];exact bR.alloc (by rw[af];exact lR) _
  have J:Below V.heap.size V W4:=bj.trans X
  have a8:Row W4 V.heap.size 52 (rcells (List.replicate wd Rn.zero)):=by
   have:=Vh V0 (.cells ((List.replicate wd Rn.zero).flatMap Rn.cells).toArray 52);rw[af] at this;unfold Row;rw[ap.out];exact this
  have b3:KeepX (fun b=>b=g) V W4:=a.trans ⟨X.os,X.tape,X.output,X.size,fun b hb _=>X.block b (by rw[af] at hb;exact hb)⟩;rw[af];refine jK L b3 ?_;clear L K;obtain⟨nb,b6⟩:=eX V.heap.size;rw[<- b6] at a8⊢;have dv:V<=nb:=X6 b6.symm;have fr:nb<=V:=X6 b6;clear b6;refine jT 8 b3 ?_;have b2:=HM.out.row (w':=W4) O J dv oM a8 sP (fun x hx=>by rw[Jj hx];exact Rn.zero_at _ _ _)
  have ed:W4.cell? ⟨g,k,none⟩=some (.slice none 0 0):=by
   rw[J.cell (p:=⟨g,k,none⟩) g2,cr9 k HM.hg];unfold hcells;simp[O]
  have fa:W4.frozen? ⟨g,k,none⟩=false:=by rw[J.frozen (p:=⟨g,k,none⟩) g2];exact fr0 _ HM.hg
  refine rZ 9 fun K L=>?_;have g4:g<W4:=by have:=J.size;omega
  have a7:=b3.put (b:=g) rfl k [.slice (some ⟨nb,0,none⟩) wd wd];have b7:Row (W4.setCell ⟨g,k,none⟩ (.slice (some ⟨nb,0,none⟩) wd wd)) nb 52 (rcells (List.replicate wd Rn.zero)):=(VR _ _ _ _ (by show nb≠g;omega)).trans a8;go_simp;refine jK L a7 ?_;clear L K;refine VF kR ?_ _;obtain⟨W5,dh⟩:=eX (W4.setCell ⟨g,k,none⟩ (.slice (some ⟨nb,0,none⟩) wd wd));change KeepX _ V (W4.setCell ⟨g,k,none⟩ (.slice (some ⟨nb,0,none⟩) wd wd)) at a7;rw[<- dh] at a7 b7 b2⊢;have bp:Below w w W5:=HB.out.trans (a7.to_below oM (fun b hb e=>by have:=ag.out;omega));have s5:=a7.size;have bv:Row W5 mb 262 #[.slice (some ⟨g,0,none⟩) n n]:=(a7.block mb m2 ad).trans Hm;have dc:Row W5 w.heap.size 52 ZR:=(a7.block w (Vq HR) (fun e=>by have:=ag.out;omega)).trans HR;have e1:=cr9 0 bv;simp at e1;have e2:=b2.head (show k<k+1 by omega) O;simp only[Vt rfl] at e2;have e3:=(a7.cell a2 dm (oA+k)).trans a1;have e4:mb<W5:=oM;have e5:g<W5:=oM;have e6:bA<W5:=oM;have e7:=Vq b7;obtain⟨eh,eq,et,el,cr⟩:=Z5 b2 bp bv dc b7;have fg:nb≠mb:=oM;have gd:w<nb:=by have:=ag.out;omega
  have co:Hid ((l.flatMap Rn.cells).length=wd*4):=Z1 (by rw[Xj (f:=Rn.cells) (sz:=4) (fun _=>rfl),az]);have be:Hid (∀j v,(l.flatMap Rn.cells)[j]?=some v->W5.drew.cell? ((⟨b,o,none⟩:Addr).add j)=some v):=Z1 (a0N (f:=Rn.cells) (sz:=4) (w:=W5) (B:=w.heap.size) dC (fun _=>rfl) (RowsAt.below ez bp lR));have cq:Hid (∀v∈l.flatMap Rn.cells,v.oneCell'):=Z1 (fun v hv=>by rw[Yz] at hv;obtain⟨x,_,hx⟩:=hv;revert v;simp[Rn.cells,Value.oneCell']);have ac:Below W5 W5 W5.drew:=Vw bR 1;clear a7 b7 b2 bp bv dc b3 a X J a8 bj ed fa dh m1 a1;go_upto_region 6 with(fail);go_still_tail 8,kR;refine a3o _ rfl (.tmp 35) (.tmp 39) 161 161 52 rfl 4 nb wd wd c' ⟨b,o,none⟩ (rcells (List.replicate wd Rn.zero)) 52 (l.flatMap Rn.cells) rfl rfl underlying161 Vy cr co be (by unfold rcells;rw[Yn,Xj (f:=Rn.cells) (sz:=4) (fun _=>rfl),Xj (f:=Rn.cells) (sz:=4) (fun _=>rfl),az];simp) cq ?_;intro vv;rw[a7j (by simp[az.out])];have dy:=VC W5.drew nb _ (rcells l) _ _ cr;have b4:Below w w (W5.drew.setRow nb (rcells l)):=below_setRow (eq.out.trans (ac.mono oM)) oM _;have dp:=(eh.below ac).change (i:=k) (w':=W5.drew.setRow nb (rcells l)) (l:=l) (K':=fun _=>I) oM (fun _ _=>Yh _) (by simp only[Vt rfl];exact dy) az (fun c hc=>by simp only[Vt rfl] at hc;exact Vl _ _ _ _ hc) sP (fun x hx=>((f6 x hx).below b4 lR).more b4.size lR);have du:Row (W5.drew.setRow nb (rcells l)) mb 262 #[.slice (some ⟨g,0,none⟩) n n]:=(Vl _ _ _ _ fg.symm).trans et;have am:Row (W5.drew.setRow nb (rcells l)) w.heap.size 52 ZR:=(Vl _ _ _ _ oM).trans el;obtain⟨HX,er,eu,bc⟩:=Z4 dp.1 b4 du am;clear dy b4 dp du am ac e1 e2 e3;go_wp2;go_roundw
  case rel =>
   refine⟨k+1,_,oM,by go_num,HX,er,eu,bc,fun i hi=>?_⟩
   by_cases e:i=k
   ·simpa[e] using f7.out
   ·simpa[e] using cj.out i oM
  case measure=>exact mS
end Go.Proofs.YtbhdekahdnenjaaGreatDoor
