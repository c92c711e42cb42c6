/- Lemmas. -/
import Derived.Lib.ItoaNum
import Derived.Test.YtbhdekahdnenjaaGreatDoorG05
set_option linter.unusedVariables false
set_option linter.unusedSimpArgs false
set_option maxRecDepth 100000
set_option maxHeartbeats 16000000
namespace Go.Proofs.YtbhdekahdnenjaaGreatDoor
namespace Big
theorem a4O {B g v1 v2 r h:Int} (o:g*v1+r=h):g*(v2+B*v1)=g*v2+(B*h-r*B):=by
 have a:g*(B*v1)=B*(g*v1):=Zk _ _ _;have i:B*(g*v1+r)=B*(g*v1)+B*r:=XJ _ _ _;have s:B*r=r*B:=YS _ _;rw[o] at i;rw[XJ,a];omega
theorem a3Z {P g vl X:Int}:g*(vl+P*X)=g*vl+P*(g*X):=by rw[XJ,Zk]
theorem a7u {P B vl v1 v2 a a3 h g r:Int} (E:0<P) (s:0<B) (I:0<=vl) (u1:a<P) (J:0<=v2) (p3:a3<B) (W:0<=g) (hi:g*v1+r=h) (hr:r<v1) :
  a+P*(a3+B*h)<(g+1)*(vl+P*(v2+B*v1)):=by
 have L:(g+1)*(v2+B*v1)=(g+1)*v2+B*((g+1)*v1):=by rw[XJ,Zk]
 have O:(g+1)*v1=g*v1+v1:=by rw[QF,KJ]
 have Q:0<=(g+1)*v2:=YR oM J;have i:B*(h+1)<=B*((g+1)*v1):=V8 oM (YQ s);rw[XJ,ZD] at i;have o:P*(a3+B*h+1)<=P*((g+1)*(v2+B*v1)):=V8 oM (YQ E);rw[XJ P _ 1,ZD] at o;have T:=a3Z (P:=P) (g:=g+1) (vl:=vl) (X:=v2+B*v1);have S:0<=(g+1)*vl:=YR oM I;omega
theorem a9d {P B vl v1 v2 i a3 h g r:Int} (E:0<P) (L:0<=vl) (W:i<P) (s:0<=g) (J:g*v1+r=h)
  (I:0<=vl+P*(v2+B*v1)) (T:i+P*(a3+B*h)<B*(vl+P*(v2+B*v1))) (a:B<=g∨r*B+a3<g*v2) :
  i+P*(a3+B*h)<g*(vl+P*(v2+B*v1)):=by
 rcases a with a|a
 ·have:=X9 a I
  omega
 ·have O:=a4O (B:=B) (v2:=v2) J
  have o:P*(a3+B*h+1)<=P*(g*(v2+B*v1)):=V8 oM (YQ E);rw[XJ P _ 1,ZD] at o;have S:=a3Z (P:=P) (g:=g) (vl:=vl) (X:=v2+B*v1);have Q:0<=g*vl:=YR s L;omega
theorem b0N {P B vl v1 v2 o a3 h g r:Int} (i:0<P) (a:0<B) (I:0<=vl) (J:vl<P) (u0:0<=o) (L:1<=v1) (p2:0<=v2) (g0:0<=g) (s:g<=B) (E:g*v1+r=h) (hc:g*v2<=r*B+a3) :
  (g-1)*(vl+P*(v2+B*v1))<=o+P*(a3+B*h):=by
 have O:=a4O (B:=B) (v2:=v2) E;have T:P*(g*(v2+B*v1))<=P*(a3+B*h):=V8 oM (YQ i);have Q:(g-1)*(vl+P*(v2+B*v1))=g*(vl+P*(v2+B*v1))-(vl+P*(v2+B*v1)):=by rw[Int.sub_mul,KJ]
 have S:=a3Z (P:=P) (g:=g) (vl:=vl) (X:=v2+B*v1);have W:g*vl<=B*P:=JY s (YQ J) I (YQ a);have e7:B*1<=B*v1:=V8 L (YQ a);have e8:P*B<=P*(v2+B*v1):=V8 oM (YQ i);have e9:B*P=P*B:=YS _ _;omega
theorem a7v {B g v2 r a3:Int} (L:0<B) (E:0<=g) (a:g<=B) (o:0<=v2) (O:v2<B) (s:0<=a3) (i:B<=r):g*v2<=r*B+a3:=by
 have I:g*v2<=B*B:=JY a oM o oM;have J:B*B<=r*B:=X9 i oM;omega
theorem b0L {P B vl v1 v2 a a3 a2 a1:Int} (S:0<P) (Q:0<B) (W:vl<P) (u0:0<=a) (X:v2<B) (s:0<=a3) (i:0<=a2)
  (T:a+P*(a3+B*(a1*B+a2))<B*(vl+P*(v2+B*v1))):a1<=v1:=by
 rcases Z2 v1 a1 with h|h
 ·exfalso
  have E:(v1+1)*B<=a1*B:=X9 oM oM;have I:B*((v1+1)*B)<=B*(a1*B+a2):=V8 oM oM;have J:P*(B*((v1+1)*B))<=P*(a3+B*(a1*B+a2)):=V8 oM oM;have L:P*(B*((v1+1)*B))=B*(P*(B*(v1+1))):=by rw[YS (v1+1) B,Zk P B]
  have o:P*(v2+B*v1+1)<=P*(B*(v1+1)):=V8 (by rw[XJ];omega) oM;rw[XJ P _ 1,ZD] at o;have O:B*(vl+P*(v2+B*v1))<=B*(P*(B*(v1+1))):=V8 oM oM;omega
 ·exact h
theorem b0M {B g v1 r h a1 a2:Int} (Q:g*v1+r=h) (O:h=a1*B+a2) (s:0<=v1) (i:a1<=v1) (L:0<B) (a:a2<B) (o:B<=g):r<B:=by
 have E:B*v1<=g*v1:=X9 o s;have I:a1*B<=v1*B:=X9 i oM;have J:v1*B=B*v1:=YS _ _;omega
theorem b3K {B} {l} {m} (i:l.length=m+3):val B l=val B (l.take m)+B ^ m*(l[m]+B*(l[m+2]*B+l[m+1])):=by
 rw[val_split B l m oM,val_drop B l m oM,val_drop B l (m+1) oM,val_drop B l (m+1+1) oM];have a:List.drop (m+1+1+1) l=[]:=Yf oM;rw[a,a3H,XR,XP,YS B l[m+1+1],QV l[m+1]]
theorem b4m {B} {l} {m} (i:l.length=m+2):val B l=val B (l.take m)+B ^ m*(l[m]+B*l[m+1]):=by
 rw[val_split B l m oM,val_drop B l m oM,val_drop B l (m+1) oM];have a:List.drop (m+1+1) l=[]:=Yf oM;rw[a,a3H,XR,XP]
theorem a7V {B} (a:0<B) {l} (h:Lim B l) {k} (i:k<=l.length):0<=val B (l.take k)/\val B (l.take k)<B ^ k:=by
 refine⟨val_nonneg a (h.take k),?_⟩;have:=val_lt a (h.take k)
 rwa [XF,JP i] at this
structure Dig (U V v1 v2 a1 a2 a3:Int):Prop where
 ex:∃P vl ul:Int,0<P/\(0<=vl/\vl<P)/\(0<=ul/\ul<P)/\V=vl+P*(v2+1000000000*v1)/\U=ul+P*(a3+1000000000*(a1*1000000000+a2))
 p1:1<=v1/\v1<1000000000
 p2:0<=v2/\v2<1000000000
 q1:0<=a1/\a1<1000000000
 q2:0<=a2/\a2<1000000000
 q3:0<=a3/\a3<1000000000
 lt:U<1000000000*V
 u0:0<=U
 v0:0<V
theorem Dig.of {v O} {m} (hv:v.length=m+2) (Q:O.length=m+3) (o:Lim 1000000000 v) (a:Lim 1000000000 O) (L:1<=v[m+1]) (s:val 1000000000 O<1000000000*val 1000000000 v) :
  Dig (val 1000000000 O) (val 1000000000 v) v[m+1] v[m] O[m+2] O[m+1] O[m]:=by
 have i:(0:Int)<1000000000:=oM;have I:=pow_pos i m;have W:=a7V i o (k:=m) oM;have X:=a7V i a (k:=m) oM;have E:=b4m (B:=1000000000) hv;have J:=b3K (B:=1000000000) Q;have S:=o.get (m+1) oM;have T:=o.get m oM;refine⟨⟨_,_,_,I,W,X,E,J⟩,⟨L,S.2⟩,T,a.get (m+2) oM,a.get (m+1) oM,a.get m oM,s,val_nonneg i a,?_⟩;rw[E];have k3:0<1000000000 ^ m*(v[m]+1000000000*v[m+1]):=Int.mul_pos I oM;omega
def Gs (U V v1 h g r:Int):Prop:=(0<=g/\0<=r)/\g*v1+r=h/\U<(g+1)*V
def Gd (U V g:Int):Prop:=(0<=g/\g<1000000000)/\(g-1)*V<=U/\U<(g+1)*V
section
variable {U V v1 v2 a1 a2 a3 g r:Int}
theorem Dig.start (d:Dig U V v1 v2 a1 a2 a3):Gs U V v1 (a1*1000000000+a2) ((a1*1000000000+a2) / v1) ((a1*1000000000+a2) % v1)/\(a1*1000000000+a2) % v1<1000000000:=by
 obtain⟨P,X,W,J,L,O,o,s⟩:=d.ex;have Q:=d.p1;have S:=d.q1;have T:=d.q2;have a:0<=(a1*1000000000+a2) / v1:=ZW oM oM;have E:=ZY (a1*1000000000+a2) (show v1≠0 by omega);have I:=Zr (a1*1000000000+a2) (show 0<v1 by omega)
 have i:(a1*1000000000+a2) / v1*v1+(a1*1000000000+a2) % v1=a1*1000000000+a2:=by
  rw[YS];have:=Zj (a1*1000000000+a2) v1;omega
 refine⟨⟨⟨a,E⟩,i,?_⟩,oM⟩;rw[o,s];exact a7u J oM L.1 O.2 d.p2.1 d.q3.2 a i I
theorem Dig.step (d:Dig U V v1 v2 a1 a2 a3) (h:Gs U V v1 (a1*1000000000+a2) g r) (L:1000000000<=g∨r*1000000000+a3<g*v2):1<=g/\Gs U V v1 (a1*1000000000+a2) (g-1) (r+v1):=by
 obtain⟨P,vl,ul,J,Q,S,i,o⟩:=d.ex;obtain⟨⟨E,r0⟩,O,T⟩:=h;have W:=d.p1;have hv:=d.v0;have X:=d.u0;have a:=d.lt
 have s:U<g*V:=by
  rw[i,o];rw[i] at hv a;rw[o] at a;exact a9d J Q.1 S.2 E O oM a L
 have I:1<=g:=by
  rcases Z2 0 g with h|h
  ·omega
  ·have:g=0:=oM
   subst this;rw[Int.zero_mul] at s;omega
 refine⟨I,⟨oM,oM⟩,?_,?_⟩
 ·rw[Int.sub_mul,KJ];omega
 ·rw[show g-1+1=g by omega];exact s
theorem Dig.top (d:Dig U V v1 v2 a1 a2 a3):a1<=v1:=by
 obtain⟨P,L,J,s,E,I,i,o⟩:=d.ex;have a:=d.lt;rw[i,o] at a;exact b0L s oM E.2 I.1 d.p2.2 d.q3.1 d.q2.1 a
theorem Dig.low (d:Dig U V v1 v2 a1 a2 a3) (h:Gs U V v1 (a1*1000000000+a2) g r) (i:1000000000<=r):g<1000000000:=by
 rcases Z2 g 1000000000 with a|a
 ·exact a
 ·have:=b0M h.2.1 rfl (by have:=d.p1;omega) d.top oM d.q2.2 a
  omega
theorem Dig.most (d:Dig U V v1 v2 a1 a2 a3) (h:Gs U V v1 (a1*1000000000+a2) g r):g<=2000000000:=by
 rcases Z2 2000000000 g with a|a
 ·exfalso
  have J:=d.p1;have i:2000000000*v1<=g*v1:=X9 oM oM;have o:=d.top;have s:=h.2.1;have E:=h.1;have I:=d.q2;omega
 ·exact a
theorem Dig.good (d:Dig U V v1 v2 a1 a2 a3) (h:Gs U V v1 (a1*1000000000+a2) g r) (L:g<1000000000) (J:g*v2<=r*1000000000+a3):Gd U V g:=by
 obtain⟨P,W,T,E,i,Q,o,s⟩:=d.ex;obtain⟨⟨a,S⟩,O,I⟩:=h;refine⟨⟨a,L⟩,?_,I⟩;rw[o,s];exact b0N E oM i.1 i.2 Q.1 d.p1.1 d.p2.1 a oM O J
theorem Dig.large (d:Dig U V v1 v2 a1 a2 a3) (h:Gs U V v1 (a1*1000000000+a2) g r) (a:1000000000<=r):Gd U V g :=
 d.good h (d.low h a) (a7v oM h.1.1 (by have:=d.low h a;omega) d.p2.1 d.p2.2 d.q3.1 a)
end
theorem a2E (B) {F:LI} {i} (h:i<F.length) (x):val B ((F.set i x).take (i+1))=val B (F.take i)+B ^ i*x:=by
 rw[val_take_succ B _ i (by simpa using h),List.getElem_set_self,List.take_set_of_le (Yh i)]
theorem drop_set_succ {F O:LI} {i} (x) (h:F.drop i=O.drop i):(F.set i x).drop (i+1)=O.drop (i+1):=by
 rw[List.drop_set_of_lt oM];have a:=QQ (List.drop 1) h
 rwa [List.drop_drop,List.drop_drop] at a
theorem get_of_drop {F O:LI} {i} (h:F.drop i=O.drop i) (hF:i<F.length) (a:i<O.length):F[i]=O[i]:=by
 rw[XS hF,XS a] at h;exact(Qd h).1
theorem away_step {B} {F:LI} {i} (I:i<F.length) {X W Z Y cy s o p x a:Int} (h:val B (F.take i)+W=X+B ^ i*(s+cy)) (O:p=cy+Y) (Q:x=o-p % B-s+a*B) :
  val B ((F.set i x).take (i+1))+(W+B ^ i*Y)=X+B ^ i*o+B ^ (i+1)*(a+p / B):=by
 rw[a2E B I,Zf,YG];have L:=Zj p B
 have e:x+Y=(o-s-cy)+B*(a+p / B):=by
  rw[XJ,YS B a];omega
 have E:B ^ i*(x+Y)=B ^ i*((o-s-cy)+B*(a+p / B)):=by rw[e]
 rw[XJ,XJ] at E;have J:B ^ i*(o-s-cy)=B ^ i*o-B ^ i*(s+cy):=by rw[<- KZ];congr 1;omega
 omega
theorem back_step {B} {F:LI} {i} (a:i<F.length) {X W c o y x} (h:val B (F.take i)+B ^ i*c=X+W) (s:x=o+c+y) :
  val B ((F.set i (x % B)).take (i+1))+B ^ (i+1)*(x / B)=X+B ^ i*o+(W+B ^ i*y):=by
 rw[a2E B a,Zf,YG];have E:B ^ i*(x % B)+B ^ i*(B*(x / B))=B ^ i*x:=by rw[<- XJ,Zj]
 have I:B ^ i*x=B ^ i*o+B ^ i*c+B ^ i*y:=by rw[s,XJ,XJ]
 omega
theorem left_same {U V g F T:Int} (h:F+g*V=U) (i:0<=F) (a:U<(g+1)*V):U=g*V+F/\F<V:=by
 rw[QF,KJ] at a;omega
theorem left_less {U V g F T:Int} (h:F+g*V=U+T) (a:F<T) (i:(g-1)*V<=U):∃R,F+V=R+T/\U=(g-1)*V+R/\0<=R/\R<V:=by
 refine⟨U-(g-1)*V,?_,oM,oM,?_⟩ <;> (rw[Int.sub_mul,KJ] at *;omega)
theorem left_back {G c F V R T:Int} (h:G+T*c=F+V) (o:F+V=R+T) (i:G<T) (E:0<=R) (I:R<T) (s:0<T) (a:c=0∨c=1):G=R:=by
 rcases a with rfl|rfl
 ·rw[XR] at h;omega
 ·rw[ZD] at h;omega
theorem top_zero {B:Int} (hB:1<=B) {G:List Int} (h:Lim B G) {n:Nat} (hl:G.length=n+1) (hv:val B G<B ^ n):∃ W,G=W++[0]/\W.length=n:=by
 refine⟨G.take n,?_,sO⟩;have h0:=h.get n oM;have h1:=val_split B G n oM;rw [val_drop B G n oM] at h1;have h4:List.drop (n+1) G=[]:=List.drop_of_length_le oM;rw [h4,a3H,Int.mul_zero,Int.add_zero] at h1;have h2:=val_nonneg oM (h.take n)
 have hz:G[n]=0:=by
  rcases Int.lt_or_le 0 G[n] with h | h
  ·have:B ^ n*1<=B ^ n*G[n]:=Int.mul_le_mul_of_nonneg_left oM (Int.le_of_lt (pow_pos oM n))
   omega
  ·omega
 have h5:=tse (l:=G) (i:=n) oM;rw [List.take_of_length_le oM,hz] at h5;exact h5
end Big
open Tryz Go.RowKit
variable (w:World)
theorem a1p (w:World) (X j) (v):w.grownBy (w.setCell ⟨X,j,none⟩ v) (some X) :=
 ⟨rfl,rfl,rfl,by simp[World.setCell],fun k i a=>YJ w _ _ _ (fun e=>a (by rw[e]))⟩
theorem a1n {w w' o:World} {X} (h:w.grownBy w' (some X)) (a:w'.grownBy o (some X)):w.grownBy o (some X) :=
 ⟨a.os.trans h.os,a.tape.trans h.tape,a.output.trans h.output,Vn h.size a.size,fun k s i=>(a.block k (Xg s h.size) i).trans (h.block k s i)⟩
theorem a2C {w} {g j k} {L F Z} (h:Arr .u32 120 w g (L++F++Z)) (i:L.length=j) (a:k<F.length):w.cell? ⟨g,j+k,none⟩=some (.int .u32 F[k]):=by
 subst i;rw[h.cell (k:=L.length+k) sO]
 congr 2
 have e:(L++F++Z)[L.length+k]?=some F[k]:=by
  rw[XH,List.getElem?_append_right oM,Nat.add_sub_cancel_left,List.getElem?_append_left a,List.getElem?_eq_getElem a]
 rw[List.getElem?_eq_getElem sO] at e;exact XV e
theorem a2T {w} {g j k} {L F Z} (h:Arr .u32 120 w g (L++F++Z)) (a:L.length=j) (i:k<F.length) (x):Arr .u32 120 (w.setCell ⟨g,j+k,none⟩ (.int .u32 x)) g (L++F.set k x++Z):=by
 subst a;have:=h.set (L.length+k) x
 rwa [XH,Yv _ _ oM,Nat.add_sub_cancel_left,JG _ _ i,<- XH] at this
theorem a2F {F O v:LI} {i} {gq bo cy Y p x bo'} (hF:i<F.length) (a:i<O.length) (o:gq*Big.val 1000000000 (v.take (i+1))=gq*Big.val 1000000000 (v.take i)+1000000000 ^ i*Y)
  (h:Big.val 1000000000 (F.take i)+gq*Big.val 1000000000 (v.take i)=Big.val 1000000000 (O.take i)+1000000000 ^ i*(bo+cy)) (s:p=cy+Y) (E:x=O[i] - p % 1000000000-bo+bo'*1000000000) :
  Big.val 1000000000 ((F.set i x).take (i+1))+gq*Big.val 1000000000 (v.take (i+1))=Big.val 1000000000 (O.take (i+1))+1000000000 ^ (i+1)*(bo'+p / 1000000000):=by
 rw[o,Big.val_take_succ _ _ _ a];exact Big.away_step (Z:=0) hF h s E
theorem a5c {G F v:LI} {i} {c y x} (a:i<G.length) (hF:i<F.length) (hy:Big.val 1000000000 (v.take (i+1))=Big.val 1000000000 (v.take i)+1000000000 ^ i*y)
  (h:Big.val 1000000000 (G.take i)+1000000000 ^ i*c=Big.val 1000000000 (F.take i)+Big.val 1000000000 (v.take i)) (o:x=F[i]+c+y) :
  Big.val 1000000000 ((G.set i (x % 1000000000)).take (i+1))+1000000000 ^ (i+1)*(x / 1000000000)=Big.val 1000000000 (F.take (i+1))+Big.val 1000000000 (v.take (i+1)):=by
 rw[hy,Big.val_take_succ _ _ _ hF];exact Big.back_step a h o
theorem b0c {v:LI} {i} (g) (a:i<v.length):g*Big.val 1000000000 (v.take (i+1))=g*Big.val 1000000000 (v.take i)+1000000000 ^ i*(g*v[i]):=by
 rw[Big.val_take_succ _ _ _ a,XJ,Zk]
theorem b1Z {v:LI} {i} (g) (a:v.length<=i):g*Big.val 1000000000 (v.take (i+1))=g*Big.val 1000000000 (v.take i)+1000000000 ^ i*0:=by
 rw[Vg a,Vg oM,XR,XP]
def DigPost (g m:Nat) (L Z:LI) (U V:Int) (w:World) (e:Ending) (w':World):Prop :=
 w.grownBy w' (some g)/\∃(q:Int) (G:LI),e=.returned (.int .u32 q)/\(0<=q/\q<1000000000)/\G.length=m+3/\Big.Lim 1000000000 G/\U=q*V+Big.val 1000000000 G/\Big.val 1000000000 G<V/\Arr .u32 120 w' g (L++G++Z)
theorem b1d (g j m c d:Nat) (L O Z v:List Int) (Bv:Option Addr) (hj:L.length=j) (hm:m<=100000000000) (f8:j<=100000000000) (hO:O.length=m+3) (hv:v.length=m+2) (b7:Big.Lim 1000000000 O) (b8:Big.Lim 1000000000 v) (h1:1<=v[m+1])
  (a7:Big.val 1000000000 O<1000000000*Big.val 1000000000 v) (hA:Arr .u32 120 w g (L++O++Z)) (hB:LimbsAt .u32 w w Bv v) (cj:∀b o,Bv=some ⟨b,o,none⟩->b≠g) :
  Calls prog 283 #[.slice (some ⟨g,j,none⟩) (m+3) c,.slice Bv (m+2) d] w (DigPost g m L Z (Big.val 1000000000 O) (Big.val 1000000000 v) w):=by
 have hD:=Big.Dig.of hv hO b8 b7 h1 a7
 rcases hB with h|⟨b,o,rfl,aj,av,ck⟩
 ·rw[h] at hv;simp at hv
 have ce:=cj b o rfl;have bc:=hA.lt;have x1:=av (m+1) oM;have x2:=av m oM;have y1:=a2C hA hj (k:=m+2) oM;have y2:=a2C hA hj (k:=m+1) oM;have y3:=a2C hA hj (k:=m) oM;obtain⟨v1,bg⟩:=eX (v[m+1]);obtain⟨v2,bh⟩:=eX (v[m]);obtain⟨a1,b9⟩:=eX (O[m+2]);obtain⟨a2,ba⟩:=eX (O[m+1]);obtain⟨a3,bb⟩:=eX (O[m]);obtain⟨U,hU⟩:=eX (Big.val 1000000000 O);obtain⟨V,hV⟩:=eX (Big.val 1000000000 v);rw[<- bg,<- bh,<- b9,<- ba,<- bb,<- hU,<- hV] at hD;rw[<- bg] at x1;rw[<- bh] at x2;rw[<- b9] at y1;rw[<- ba] at y2;rw[<- bb] at y3;obtain⟨HU,HV,HD,HO,Hv,bn,ax⟩:=Z7 hU hV hD hO hv b7 b8;obtain⟨HA,br,ev,Hj⟩:=Z4 hA av ck hj;have p1:=hD.p1;have p2:=hD.p2;have q1:=hD.q1;have q2:=hD.q2;have q3:=hD.q3;have bf:=hD.start;obtain⟨h0,ci⟩:=eX (a1*1000000000+a2);rw[<- ci] at bf;have bq:=Z1 bf;have Hh:=Z1 ci;clear bg bh b9 ba bb hU hV hD hO hv b7 b8 hA av ck cj a7 h1 bf hj;go_enter func283,ntmps283;go_upto_region 2 with(fail);go_quiet (fail);go_upto_region 3 with(fail);go_quiet (fail);rw[<- Hh.out];go_upto_region 4 with(fail);rename_i K1 b6
 have cn:∀(gq:Int) (wr:World) (z6 z8 co cp cq cr cs ct cu cw cx cz d0 d1 d2 d3 d4 d5 d6 d7 d8 d9 da dc dd de df dg dh di dj dk dl dm dn dp dq dr ds dt du dv dw dx dy e0 e1 e2 e3 e4 e5 e6 e7 e8 e9 ea eb ec ed ee ef eg eh ei ej ek el:Value),Big.Gd U V gq->Below w w wr->K1 ⟨#[.slice (some ⟨g,j,none⟩) (m+3) c,.slice (some ⟨b,o,none⟩) (m+2) d,undef,undef,.int .u32 0,.int .i64 ((m:Int)+2),z6,.int .u64 gq,z8,undef,undef,undef,undef,undef,undef,undef,undef,co,cp,cq,cr,cs,ct,cu,cw,cx,cz,d0,d1,d2,d3,d4,d5,d6,d7,d8,d9,da,dc,dd,de,df,dg,dh,di,dj,dk,dl,dm,dn,dp,dq,dr,ds,dt,du,dv,dw,dx,dy,e0,e1,e2,e3,e4,e5,e6,e7,e8,e9,ea,eb,ec,ed,ee,ef,eg,eh,ei,ej,ek,el,undef,undef,undef,undef,undef,undef,undef,undef,undef,undef,undef,undef,undef,undef,undef,undef,undef,undef,undef,undef,undef,undef,undef,undef,undef,undef,undef,undef,undef,undef,undef,undef,undef,undef,undef,undef,undef,undef,undef,undef,undef,undef,undef,undef,undef,undef,undef,undef,undef,undef,undef,undef,undef,undef,undef,undef,undef,undef,undef,undef,undef,undef,undef,undef,undef,undef,undef,undef,undef,undef,undef,undef,undef,undef,undef],[]⟩ wr:=by
  intro gq wr z6 z8 co cp cq cr cs ct cu cw cx cz d0 d1 d2 d3 d4 d5 d6 d7 d8 d9 da dc dd de df dg dh di dj dk dl dm dn dp dq dr ds dt du dv dw dx dy e0 e1 e2 e3 e4 e5 e6 e7 e8 e9 ea eb ec ed ee ef eg eh ei ej ek el a9 s;refine b6 _ _ ?_;clear b6 x1 x2 y1 y2 y3;have ao:=Z1 a9;have bs:=a9.1.1;have eq:=a9.1.2;have ch:w.grownBy wr (some g):=⟨s.os,s.tape,s.output,s.size,fun k hk _=>s.block k hk⟩;have bk:=Z1 ch;have bi:=Z1 (HA.out.below s bc);clear a9 s ch;go_wp2
  go_loopw [9,10,84] (fun bv cv iv wq=>∃(i:Nat) (F:List Int) (bo I:Int),i<=m+3/\iv=.int .i64 i/\bv=.int .i64 bo/\cv=.int .u64 I/\(bo=0∨bo=1)/\(0<=I/\I<1000000000)/\(i=m+3->I=0)/\F.length=m+3/\Big.Lim 1000000000 F/\F.drop i=O.drop i /\
   Big.val 1000000000 (F.take i)+gq*Big.val 1000000000 (v.take i)=Big.val 1000000000 (O.take i)+1000000000 ^ i*(bo+I)/\Arr .u32 120 wq g (L++F++Z)/\w.grownBy wq (some g)) (fun _ _ iv _=>m+3-(intOf iv).toNat)
  case atStart=>exact⟨0,O,0,0,Vb _,rfl,rfl,rfl,.inl rfl,⟨oM,oM⟩,fun h=>oM,HO.out,bn.out,rfl,by simp[Big.val],bi.out,bk.out⟩
  case round =>
   obtain⟨i,F,bo,I,hi,rfl,rfl,rfl,cf,⟨ex,ey⟩,cg,bx,bt,bu,bz,b4,bw⟩:=hrel;obtain⟨ep,J,S,bj,af,W,a8⟩:=Z7 cg bx bt bu bz b4 bw;have es:=b4.lt;have ew:0<=bo/\bo<=1:=oM;have eo:=Z1 cf;clear cg bx bt bu bz b4 bw cf bi bk
   by_cases a7:i<m+3
   ·have E:i<F.length:=by rw[J.out];exact a7
    have ae:i<O.length:=by rw[HO.out];exact a7
    have yc:=a2C W.out Hj.out E;rw[Big.get_of_drop bj.out E ae] at yc;obtain⟨ov,au⟩:=eX (O[i]);rw[<- au] at yc;have ap:=Z1 au;have o0:=bn.out.get i ae;rw[<- au] at o0;have yf:=W.out.free (j+i);have am:Hid (∀x,(F.set i x).drop (i+1)=O.drop (i+1)):=Z1 fun x=>Big.drop_set_succ x bj.out;have et:(0:Int)<=(i:Int):=oM;have eu:(i:Int)<(m:Int)+3:=oM;clear au
    by_cases be:i<m+2
    ·have Q:i<v.length:=by rw[Hv.out];exact be
     have vc:=(World.cell?_of_block (w:=w) (a:=⟨b,o+i,none⟩) (a8.out.block b aj (fun e=>ce (XV e)))).trans (br.out i Q);have hY:=b0c gq Q;obtain⟨vi,aa⟩:=eX (v[i]);rw[<- aa] at vc hY;have v0:=ax.out.get i Q;rw[<- aa] at v0;have m0:0<=gq*vi:=YR bs v0.1;have m1:gq*vi<=999999999*999999999:=JY oM oM v0.1 oM;have al:(i:Int)<(m:Int)+2:=oM;clear aa;have b0:=ZY (I+gq*vi) (show(1000000000:Int)≠0 by omega);have b1:=Zr (I+gq*vi) (show(0:Int)<1000000000 by omega);have b2:0<=(I+gq*vi) / 1000000000:=ZW oM oM;have b3:(I+gq*vi) / 1000000000<1000000000:=Z0 oM oM;have HY:=Z1 (hY)
     by_cases hx:ov-(I+gq*vi) % 1000000000-bo<0
     ·go_wp2
      go_roundw
      case rel =>
       refine⟨i+1,F.set i (ov-(I+gq*vi) % 1000000000-bo+1000000000),1,(I+gq*vi) / 1000000000,oM,by go_num,rfl,rfl,.inr rfl,⟨b2,b3⟩,fun h=>oM,by rw[Y9];exact J.out,a1Y S.out oM oM,am.out _,?_,a2T W.out Hj.out E _,a1n a8.out (a1p _ _ _ _)⟩;exact a2F E ae HY.out af.out rfl (by rw[<- ap.out];omega)
      case measure=>exact mS
     ·go_wp2
      go_roundw
      case rel =>
       refine⟨i+1,F.set i (ov-(I+gq*vi) % 1000000000-bo),0,(I+gq*vi) / 1000000000,oM,by go_num,rfl,rfl,.inl rfl,⟨b2,b3⟩,fun h=>oM,by rw[Y9];exact J.out,a1Y S.out oM oM,am.out _,?_,a2T W.out Hj.out E _,a1n a8.out (a1p _ _ _ _)⟩;exact a2F E ae HY.out af.out rfl (by rw[<- ap.out];omega)
      case measure=>exact mS
    ·have hY:=b1Z (v:=v) (i:=i) gq (by have:=Hv.out;omega)
     have al:¬ (i:Int)<(m:Int)+2:=oM;have b0:=ZY (I) (show(1000000000:Int)≠0 by omega);have b1:=Zr (I) (show(0:Int)<1000000000 by omega);have b2:0<=(I) / 1000000000:=ZW oM oM;have b3:(I) / 1000000000<1000000000:=Z0 oM oM;have HY:=Z1 (hY)
     by_cases hx:ov-(I) % 1000000000-bo<0
     ·go_wp2
      go_roundw
      case rel =>
       refine⟨i+1,F.set i (ov-(I) % 1000000000-bo+1000000000),1,(I) / 1000000000,oM,by go_num,rfl,rfl,.inr rfl,⟨b2,b3⟩,fun h=>oM,by rw[Y9];exact J.out,a1Y S.out oM oM,am.out _,?_,a2T W.out Hj.out E _,a1n a8.out (a1p _ _ _ _)⟩;exact a2F E ae HY.out af.out (XP _).symm (by rw[<- ap.out];omega)
      case measure=>exact mS
     ·go_wp2
      go_roundw
      case rel =>
       refine⟨i+1,F.set i (ov-(I) % 1000000000-bo),0,(I) / 1000000000,oM,by go_num,rfl,rfl,.inl rfl,⟨b2,b3⟩,fun h=>oM,by rw[Y9];exact J.out,a1Y S.out oM oM,am.out _,?_,a2T W.out Hj.out E _,a1n a8.out (a1p _ _ _ _)⟩;exact a2F E ae HY.out af.out (XP _).symm (by rw[<- ap.out];omega)
      case measure=>exact mS
   ·obtain rfl:i=m+3:=oM
    have er:=ep.out rfl;subst er;have hv:=af.out;rw[Vg (by rw[J.out];exact lR),Vg (by rw[Hv.out];omega),Vg (by rw[HO.out];exact lR),<- HU.out,<- HV.out,XP] at hv;have ak:=Big.val_nonneg (B:=1000000000) oM S.out;have a4:=Big.val_lt (B:=1000000000) oM S.out;rw[J.out] at a4
    rcases eo.out with rfl|rfl
    ·rw[XR,XP] at hv
     have a5:=Big.left_same (T:=0) hv ak ao.out.2.2;have X:=Z1 a5;clear hv ak a4 a5;go_wp2;go_ret;exact⟨a8.out,gq,F,rfl,⟨bs,eq⟩,J.out,S.out,by rw[<- HU.out,<- HV.out];exact X.out.1,by rw[<- HV.out];exact X.out.2,W.out⟩
    ·rw[ZD] at hv
     obtain⟨R,c9,ca,cb,cc⟩:=Big.left_less hv a4 ao.out.2.1;have fa:=HD.out.u0
     have f6:1<=gq:=by
      rcases Z2 0 gq with h|h
      ·omega
      ·exfalso
       have:gq=0:=oM;subst this;rw[Int.zero_mul] at hv;omega
     have em:=Z1 c9;have en:=Z1 ca
     have cd:R<1000000000 ^ (m+3):=by
      have k1:=Big.val_lt (B:=1000000000) oM ax.out;rw[Hv.out,<- HV.out] at k1;have k2:=Big.pow_le (B:=1000000000) oM (show m+2<=m+3 by omega);omega
     have HR:=Z1 (And.intro cb (And.intro cc cd));clear hv ak a4 c9 ca cb cc cd;go_wp2
     go_loopw [14,129] (fun cv iv wq=>∃(i:Nat) (G:List Int) (c:Int),i<=m+3/\iv=.int .i64 i/\cv=.int .u32 c/\(c=0∨c=1)/\G.length=m+3/\Big.Lim 1000000000 G/\G.drop i=F.drop i /\
      Big.val 1000000000 (G.take i)+1000000000 ^ i*c=Big.val 1000000000 (F.take i)+Big.val 1000000000 (v.take i)/\Arr .u32 120 wq g (L++G++Z)/\w.grownBy wq (some g)) (fun _ iv _=>m+3-(intOf iv).toNat)
     case atStart=>exact⟨0,F,0,Vb _,rfl,rfl,.inl rfl,J.out,S.out,rfl,by simp[Big.val],W.out,a8.out⟩
     case round =>
      obtain⟨i,G,c,hi,rfl,rfl,hc,c7,c4,c5,c8,b5,c6⟩:=hrel;obtain⟨ac,ag,bm,aw,ah,an⟩:=Z6 c7 c4 c5 c8 b5 c6;have es:=b5.lt;have c0:0<=c/\c<=1:=oM;have Hc:=Z1 hc;clear c7 c4 c5 c8 b5 c6 hc
      by_cases a7:i<m+3
      ·have ad:i<G.length:=by rw[ac.out];exact a7
       have E:i<F.length:=by rw[J.out];exact a7
       have yc:=a2C ah.out Hj.out ad;rw[Big.get_of_drop bm.out ad E] at yc;obtain⟨fv,aq⟩:=eX (F[i]);rw[<- aq] at yc;have bp:=Z1 aq;have o0:=S.out.get i E;rw[<- aq] at o0;have yf:=ah.out.free (j+i);have bl:Hid (∀x,(G.set i x).drop (i+1)=F.drop (i+1)):=Z1 fun x=>Big.drop_set_succ x bm.out;have et:(0:Int)<=(i:Int):=oM;have eu:(i:Int)<(m:Int)+3:=oM;clear aq
       by_cases be:i<m+2
       ·have Q:i<v.length:=by rw[Hv.out];exact be
        have vc:=(World.cell?_of_block (w:=w) (a:=⟨b,o+i,none⟩) (an.out.block b aj (fun e=>ce (XV e)))).trans (br.out i Q);have hY:=Big.val_take_succ 1000000000 v i Q;obtain⟨vi,aa⟩:=eX (v[i]);rw[<- aa] at vc hY;have v0:=ax.out.get i Q;rw[<- aa] at v0;have al:(i:Int)<(m:Int)+2:=oM;clear aa;have b0:=ZY (fv+c+vi) (show(1000000000:Int)≠0 by omega);have b1:=Zr (fv+c+vi) (show(0:Int)<1000000000 by omega);have b2:(fv+c+vi) / 1000000000=0∨(fv+c+vi) / 1000000000=1:=oM;have HY:=Z1 hY;go_wp2;go_roundw
        case rel =>
         refine⟨i+1,G.set i ((fv+c+vi) % 1000000000),(fv+c+vi) / 1000000000,oM,by go_num,rfl,b2,by rw[Y9];exact ac.out,a1Y ag.out oM oM,bl.out _,?_,a2T ah.out Hj.out ad _,a1n an.out (a1p _ _ _ _)⟩;exact a5c ad E HY.out aw.out (by rw[<- bp.out])
        case measure=>exact mS
       ·have hY:Big.val 1000000000 (v.take (i+1))=Big.val 1000000000 (v.take i)+1000000000 ^ i*0:=by
         rw[Vg (by rw[Hv.out];omega),Vg (by rw[Hv.out];omega),XR,XP]
        have al:¬ (i:Int)<(m:Int)+2:=oM;have b0:=ZY (fv+c) (show(1000000000:Int)≠0 by omega);have b1:=Zr (fv+c) (show(0:Int)<1000000000 by omega);have b2:(fv+c) / 1000000000=0∨(fv+c) / 1000000000=1:=oM;have HY:=Z1 hY;go_wp2;go_roundw
        case rel =>
         refine⟨i+1,G.set i ((fv+c) % 1000000000),(fv+c) / 1000000000,oM,by go_num,rfl,b2,by rw[Y9];exact ac.out,a1Y ag.out oM oM,bl.out _,?_,a2T ah.out Hj.out ad _,a1n an.out (a1p _ _ _ _)⟩;exact a5c ad E HY.out aw.out (by rw[<- bp.out];omega)
        case measure=>exact mS
      ·obtain rfl:i=m+3:=oM
       have hv:=aw.out;rw[Vg (by rw[ac.out];exact lR),Vg (by rw[J.out];exact lR),Vg (by rw[Hv.out];omega),<- HV.out] at hv;have ak:=Big.val_nonneg (B:=1000000000) oM ag.out;have a4:=Big.val_lt (B:=1000000000) oM ag.out;rw[ac.out] at a4;have a5:Big.val 1000000000 G=R:=Big.left_back hv em.out a4 HR.out.1 HR.out.2.2 (Big.pow_pos oM _) Hc.out;have X:=Z1 a5;clear hv ak a4 a5;go_wp2;go_ret;exact⟨an.out,gq-1,G,rfl,⟨oM,oM⟩,ac.out,ag.out,by rw[<- HU.out,<- HV.out,X.out];exact en.out,by rw[<- HV.out,X.out];exact HR.out.2.1,ah.out⟩
 have az:=Z1 cn;clear cn b6
 go_loopw [7,8] (fun gv rv wr=>∃gq r:Int,gv=.int .u64 gq/\rv=.int .u64 r/\r<1000000000/\Big.Gs U V v1 h0 gq r/\Below w w wr) (fun gv _ _=>(intOf gv).toNat)
 case atStart=>exact⟨_,_,rfl,rfl,bq.out.2,bq.out.1,Vw (Vw bR _) _⟩
 case round =>
  obtain⟨gq,r,rfl,rfl,f9,ar,s⟩:=hrel;have ab:=ar;rw[Hh.out] at ab;have g0:=ar.1.1;have r0:=ar.1.2;have gm:=HD.out.most ab;have m0:0<=gq*v2:=YR g0 p2.1;have m1:gq*v2<=2000000000*999999999:=JY gm oM p2.1 oM;have fb:=(s.cell (p:=⟨b,o+(m+1),none⟩) aj).trans x1;have fc:=(s.cell (p:=⟨b,o+m,none⟩) aj).trans x2;have fd:=(s.cell (p:=⟨g,j+m,none⟩) bc).trans y3;have ez:b<wr.heap.size:=Xg aj s.size;have f7:g<wr.heap.size:=Xg bc s.size;obtain⟨ay,ai,HX⟩:=Z3 ab s (And.intro x1 (And.intro x2 y3));clear ar ab x1 x2 y1 y2 y3 s
  by_cases c1:1000000000<=gq
  ·obtain⟨k1,a6⟩:=HD.out.step ay.out (.inl c1)
   have a0:=Z1 a6;clear a6;go_upto_region 4 with(fail);go_quiet (fail)
   
   by_cases c3:1000000000<=r+v1
   ·go_wp2
    exact az.out (gq-1) _ _ _ _ _ _ _ _ _ _ _ _ _ _ _ _ _ _ _ _ _ _ _ _ _ _ _ _ _ _ _ _ _ _ _ _ _ _ _ _ _ _ _ _ _ _ _ _ _ _ _ _ _ _ _ _ _ _ _ _ _ _ _ _ _ _ _ _ (HD.out.large a0.out c3) (Vw ai.out _)
   ·go_wp2
    go_roundw
    case rel=>exact⟨gq-1,r+v1,by go_num,by go_num,oM,by rw[Hh.out];exact a0.out,(Vw ai.out _)⟩
    case measure=>exact mS
  ·by_cases c2:r*1000000000+a3<gq*v2
   ·obtain⟨k1,a6⟩:=HD.out.step ay.out (.inr c2)
    have a0:=Z1 a6;clear a6;go_upto_region 4 with(fail);go_quiet (fail)
    
    by_cases c3:1000000000<=r+v1
    ·go_wp2
     exact az.out (gq-1) _ _ _ _ _ _ _ _ _ _ _ _ _ _ _ _ _ _ _ _ _ _ _ _ _ _ _ _ _ _ _ _ _ _ _ _ _ _ _ _ _ _ _ _ _ _ _ _ _ _ _ _ _ _ _ _ _ _ _ _ _ _ _ _ _ _ _ _ (HD.out.large a0.out c3) (Vw ai.out _)
    ·go_wp2
     go_roundw
     case rel=>exact⟨gq-1,r+v1,by go_num,by go_num,oM,by rw[Hh.out];exact a0.out,(Vw ai.out _)⟩
     case measure=>exact mS
   ·have a9:=HD.out.good ay.out oM oM
    have ao:=Z1 a9;clear a9;go_upto_region 4 with(fail);go_quiet (fail);go_wp2;exact az.out gq _ _ _ _ _ _ _ _ _ _ _ _ _ _ _ _ _ _ _ _ _ _ _ _ _ _ _ _ _ _ _ _ _ _ _ _ _ _ _ _ _ _ _ _ _ _ _ _ _ _ _ _ _ _ _ _ _ _ _ _ _ _ _ _ _ _ _ _ ao.out (Vw ai.out _)
namespace Big
theorem scale_spec {top:Int} (a:1<=top) (i:top<1000000000):1<=1000000000 / (top+1)/\1000000000 / (top+1)<=500000000/\1000000000 / (top+1)*(top+1)<=1000000000:=by
 refine⟨?_,?_,Int.ediv_mul_le _ oM⟩
 ·exact(Int.le_ediv_iff_mul_le oM).2 oM
 ·have o:1000000000 / (top+1)<500000001:=Z0 oM oM
  omega
theorem scaled_len {q V} {k} {s} (L:q.length=k+2) (o:Lim 1000000000 q) (J:Norm q) (O:1<=s) (Q:s*(q[k+1]+1)<=1000000000) (E:Lim 1000000000 V) (i:Norm V) (hv:val 1000000000 V=val 1000000000 q*s):V.length=k+2:=by
 have a:(0:Int)<1000000000:=oM;have hP:=pow_pos a (k+1)
 have S:val 1000000000 q<1000000000 ^ (k+1)*(q[k+1]+1):=by
  rw[val_split 1000000000 q (k+1) oM,val_drop 1000000000 q (k+1) oM];have I:List.drop (k+1+1) q=[]:=Yf oM;rw[I,a3H,XR,XP];have:=(a7V a o (k:=k+1) oM).2;rw[XJ,ZD];omega
 have u2:val 1000000000 q*s<1000000000 ^ (k+1)*(q[k+1]+1)*s:=KR S oM
 have u3:1000000000 ^ (k+1)*(q[k+1]+1)*s<=1000000000 ^ (k+1)*1000000000:=by
  rw[YG,YS (q[k+1]+1) s];exact V8 Q oM
 have u4:V.length<=k+2:=length_le oM E i (k+2) (by rw[hv,Zf];omega);have T:=a3U a o J oM;rw[L,show k+2-1=k+1 by omega] at T
 rcases Zn V.length (k+2) with h|h
 ·exfalso
  have W:=val_lt a E;have X:=pow_le (B:=1000000000) oM (show V.length<=k+1 by omega);have h3:val 1000000000 q*1<=val 1000000000 q*s:=V8 O oM;omega
 ·omega
theorem first_lt {p q U} {k e} {s} (S:p.length=k+2+e) (T:q.length=k+2) (J:Lim 1000000000 p) (Q:Lim 1000000000 q) (L:Norm q) (s0:1<=s) (hU:U.length=k+3+e) (i:Lim 1000000000 U) (hv:val 1000000000 U=val 1000000000 p*s) :
  val 1000000000 (U.drop (e+1))<val 1000000000 q*s:=by
 have a:(0:Int)<1000000000:=oM;have o:=val_lt a J;rw[S,show k+2+e=(e+1)+(k+1) by omega,Int.pow_add] at o;have E:=a3U a Q L oM;rw[T,show k+2-1=k+1 by omega] at E;have W:=val_split 1000000000 U (e+1) oM;have X:=(a7V a i (k:=e+1) oM).1;have O:=pow_pos a (e+1);have h5:val 1000000000 p*s<1000000000 ^ (e+1)*1000000000 ^ (k+1)*s:=KR o oM
 have h6:1000000000 ^ (e+1)*1000000000 ^ (k+1)*s<=1000000000 ^ (e+1)*(val 1000000000 q*s):=by
  rw[YG];exact V8 (X9 E oM) oM
 have I:1000000000 ^ (e+1)*val 1000000000 (U.drop (e+1))<1000000000 ^ (e+1)*(val 1000000000 q*s):=oM;exact Qz I (YQ O)
theorem div_round {L W W' Qs} {t} {x a V U} (i:L.length=t) (h:val 1000000000 (L++[x]++W)+1000000000 ^ (t+1)*(val 1000000000 Qs*V)=U)
  (o:val 1000000000 (x::W)=a*V+val 1000000000 (W'++[0])):val 1000000000 (L++W')+1000000000 ^ t*(val 1000000000 (a::Qs)*V)=U:=by
 rw[XH,Kc,val_append,i,o,val_snoc,XR,XP,XJ] at h;rw[val_append,i,val_cons,QF,XJ]
 have e:1000000000 ^ (t+1)*(val 1000000000 Qs*V)=1000000000 ^ t*(1000000000*val 1000000000 Qs*V):=by
  rw[Zf,YG,YG]
 rw[e] at h;omega
theorem b0r {s k r:Int} (h:s*k=r) (i:0<=r) (o:r<s):k=0:=by
 rcases Z8 k 0 with a|a|a
 ·have:s*k<=s*(-1):=V8 oM oM
  omega
 ·exact a
 ·have:s*1<=s*k:=V8 oM oM
  omega
theorem div_end {a b Q X R r s:Int} (h:X+Q*(b*s)=a*s) (T:X<b*s) (S:X=s*R+r) (E:0<=r) (I:r<s):a=b*Q+R/\R<b:=by
 have i:s*(a-b*Q-R)=r:=by
  rw[KZ,KZ];have J:Q*(b*s)=s*(b*Q):=by rw[Zk Q b s,Zk s b Q,YS Q s]
  have L:a*s=s*a:=YS _ _;omega
 have O:=b0r i E I;refine⟨oM,?_⟩;have o:s*R<s*b:=by rw[YS s b];omega
 exact Qz o oM
end Big
namespace Dec
def pad:Nat->Nat->List UInt8
 |0,_=>[]
 |k+1,u=>pad k (u / 10)++[UInt8.ofNat (48+u % 10)]
theorem pad_length:∀(k u:Nat),(pad k u).length=k
 |0,_=>rfl
 |k+1,u=>by rw[pad,Vc,pad_length k];rfl
theorem digits_small {u} (h:u<10):Lib.decDigits u=[UInt8.ofNat (48+u)]:=by rw[Lib.decDigits,dif_pos h]
theorem a4S {u} (h:¬ u<10):Lib.decDigits u=Lib.decDigits (u / 10)++[UInt8.ofNat (48+u % 10)]:=by rw[Lib.decDigits,dif_neg h]
theorem a4R:∀(k a b:Nat),0<a->b<10 ^ k->Lib.decDigits (a*10 ^ k+b)=Lib.decDigits a++pad k b
 |0,a,b,_,hb=>by simp at hb;subst hb;simp[pad]
 |k+1,a,b,ha,hb=>by
  have e:10 ^ (k+1)=10*10 ^ k:=by rw[Nat.pow_succ,K5]
  have I:0<10 ^ k:=Nat.pow_pos oM;have E:10 ^ k<=a*10 ^ k:=Nat.le_mul_of_pos_left _ ha;have i:¬ a*10 ^ (k+1)+b<10:=by rw[e,Qy];omega
  have o:(a*10 ^ (k+1)+b) / 10=a*10 ^ k+b / 10:=by rw[e,Qy];omega
  have s:(a*10 ^ (k+1)+b) % 10=b % 10:=by rw[e,Qy];omega
  rw[a4S i,o,s,a4R k a (b / 10) ha (by rw[e] at hb;omega),pad,XH]
theorem pad_fill:∀(k u:Nat),0<k->u<10 ^ k->pad k u=List.replicate (k-(Lib.decDigits u).length) 48++Lib.decDigits u/\(Lib.decDigits u).length<=k
 |1,u,_,hu=>by
  have h:u<10:=by simpa using hu
  rw[digits_small h];simp[pad,Jb h]
 |k+2,u,_,hu=>by
  have e:10 ^ (k+2)=10*10 ^ (k+1):=by rw[Nat.pow_succ 10 (k+1),K5]
  obtain⟨a,s⟩:=pad_fill (k+1) (u / 10) oM (by rw[e] at hu;omega)
  by_cases h:u<10
  ·have o:u / 10=0:=oM
   have i:u % 10=u:=oM;rw[o,digits_small oM] at a;rw[pad,o,a,digits_small h,i];refine⟨?_,sP⟩;show List.replicate (k+1-1) 48++[UInt8.ofNat (48+0)]++[UInt8.ofNat (48+u)]=List.replicate (k+2-1) 48++[UInt8.ofNat (48+u)];rw[show k+1-1=k by omega,show k+2-1=k+1 by omega,JF];rfl
  ·rw[a4S h,pad,a]
   refine⟨?_,sO⟩;rw[XH,Vc]
   congr 2
   simp
def text (k:Nat):List Nat->List UInt8
 |[]=>[]
 |[a]=>Lib.decDigits a
 |a::l=>text k l++pad k a
theorem a5M (k a b) (l):text k (a::b::l)=text k (b::l)++pad k a:=rfl
def num (k:Nat):List Nat->Nat
 |[]=>0
 |a::l=>a+10 ^ k*num k l
theorem a7I (k):∀(l:List Nat),l≠[]->(∀a∈l,a<10 ^ k)->l.getLast?≠some 0->text k l=Lib.decDigits (num k l)/\0<num k l
 |[],h,_,_=>absurd rfl h
 |[a],_,_,h=>by
  have:a≠0:=fun e=>h (by rw[e];rfl);simp[text,num];omega
 |a::b::l,_,hb,h=>by
  obtain⟨i,o⟩:=a7I k (b::l) sP (fun x s=>hb x (XZ _ s)) (by simpa using h);have e:num k (a::b::l)=num k (b::l)*10 ^ k+a:=by rw[num,K5];omega
  rw[a5M,i,e,a4R k _ a o (hb a XN)];exact⟨rfl,by have:=Nat.le_mul_of_pos_right (num k (b::l)) (show 0<10 ^ k from Nat.pow_pos oM);omega⟩
def top (j a:Nat):List UInt8:=if a / 10 ^ j=0 then Lib.decDigits a else pad j a
theorem top_zero {a:Nat} (h:0<a):top 0 a=[]:=by
 unfold top;rw [if_neg sO];rfl
def low (k:Nat):List Nat->List UInt8
 |[]=>[]
 |a::l=>low k l++pad k a
theorem b0o {k:Nat} {B:Int} (i:B=((10 ^ k:Nat):Int)):∀{l:LI},Big.Lim B l->((num k (l.map Int.toNat):Nat):Int)=Big.val B l
 |[],_=>rfl
 |a::l,h=>by
  rw[Big.Lim.cons] at h;rw[X5,num,Big.val_cons,Int.natCast_add,KG,b0o i h.2,<- i];omega
theorem text_val {k} {B} (s:B=((10 ^ k:Nat):Int)) {l} (o:Big.Lim B l) (L:Big.Norm l) (I:0<l.length):text k (l.map Int.toNat)=Lib.decDigits (Big.val B l).toNat:=by
 have i:l≠[]:=List.length_pos_iff.1 I
 have J:=(a7I k (l.map Int.toNat) (by simpa using i) (fun a E=>by
  rw[Yg] at E;obtain⟨b,O,rfl⟩:=E;have:=o b O;rw[s] at this;omega) (by
  rw[List.getLast?_map,List.getLast?_eq_some_getLast i];intro e;have Q:=L i;have S:=o _ (List.getLast_mem i);simp only[JR,Option.some.injEq] at e;omega)).1
 rw[J,<- b0o s o,ZZ]
theorem text_len (k):∀(l:List Nat),(∀a∈l,a<10 ^ k)->0<k->(text k l).length<=k*l.length
 |[],_,_=>Vb _
 |[a],h,hk=>by
  have:=(pad_fill k a hk (h a sP)).2;simpa[text] using this
 |a::b::l,h,hk=>by
  have:=text_len k (b::l) (fun x i=>h x (XZ _ i)) hk;rw[a5M,Vc,pad_length,Xl,Nat.mul_succ];omega
def frac (n d:Nat):List UInt8:=if d=1 then Lib.decDigits n else Lib.decDigits n++47::Lib.decDigits d
end Dec
theorem a3L (l m:List UInt8):(⟨l.toArray⟩:ByteArray)++⟨m.toArray⟩=⟨(l++m).toArray⟩:=by
 apply QC;rw[ByteArray.data_append];simp
end Go.Proofs.YtbhdekahdnenjaaGreatDoor
