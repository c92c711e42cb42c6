/- My texts DivPlain, DigW, DivL, DecP, TextS. -/
import Derived.Lib.ItoaNum
import Derived.Test.YtniaimjknmhapaaGreatDoorG05
set_option linter.unusedVariables false
set_option linter.unusedSimpArgs false
set_option maxRecDepth 100000
set_option maxHeartbeats 16000000
namespace Go.Proofs.YtniaimjknmhapaaGreatDoor
namespace Big

theorem a4x {B g v1 v2 r h:Int} (hi:g*v1+r=h):g*(v2+B*v1)=g*v2+(B*h-r*B):=by
 have h1:g*(B*v1)=B*(g*v1):=Int.mul_left_comm _ _ _;have h2:B*(g*v1+r)=B*(g*v1)+B*r:=Int.mul_add _ _ _;have h3:B*r=r*B:=Int.mul_comm _ _;rw [hi] at h2;rw [Int.mul_add,h1];omega
theorem a3E {P g vl X:Int}:g*(vl+P*X)=g*vl+P*(g*X):=by rw [Int.mul_add,Int.mul_left_comm]
theorem a6L {P B vl v1 v2 ul a3 h g r:Int} (hP:0<P) (hB:0<B) (l0:0<=vl) (u1:ul<P) (p2:0<=v2) (p3:a3<B) (g0:0<=g) (hi:g*v1+r=h) (hr:r<v1) :
  ul+P*(a3+B*h)<(g+1)*(vl+P*(v2+B*v1)):=by
 have e1:(g+1)*(v2+B*v1)=(g+1)*v2+B*((g+1)*v1):=by rw [Int.mul_add,Int.mul_left_comm]
 have e2:(g+1)*v1=g*v1+v1:=by rw [Int.add_mul,Int.one_mul]
 have e3:0<=(g+1)*v2:=Int.mul_nonneg oM p2;have e4:B*(h+1)<=B*((g+1)*v1):=Int.mul_le_mul_of_nonneg_left oM (Int.le_of_lt hB);rw [Int.mul_add,Int.mul_one] at e4;have e5:P*(a3+B*h+1)<=P*((g+1)*(v2+B*v1)):=Int.mul_le_mul_of_nonneg_left oM (Int.le_of_lt hP);rw [Int.mul_add P _ 1,Int.mul_one] at e5;have e7:=a3E (P:=P) (g:=g+1) (vl:=vl) (X:=v2+B*v1);have e6:0<=(g+1)*vl:=Int.mul_nonneg oM l0;omega
theorem a8i {P B vl v1 v2 ul a3 h g r:Int} (hP:0<P) (l0:0<=vl) (u1:ul<P) (g0:0<=g) (hi:g*v1+r=h)
  (hV:0<=vl+P*(v2+B*v1)) (hU:ul+P*(a3+B*h)<B*(vl+P*(v2+B*v1))) (hc:B<=g∨r*B+a3<g*v2) :
  ul+P*(a3+B*h)<g*(vl+P*(v2+B*v1)):=by
 rcases hc with hc | hc
 ·have:=Int.mul_le_mul_of_nonneg_right hc hV
  omega
 ·have e1:=a4x (B:=B) (v2:=v2) hi
  have e5:P*(a3+B*h+1)<=P*(g*(v2+B*v1)):=Int.mul_le_mul_of_nonneg_left oM (Int.le_of_lt hP);rw [Int.mul_add P _ 1,Int.mul_one] at e5;have e7:=a3E (P:=P) (g:=g) (vl:=vl) (X:=v2+B*v1);have e6:0<=g*vl:=Int.mul_nonneg g0 l0;omega
theorem a9G {P B vl v1 v2 ul a3 h g r:Int} (hP:0<P) (hB:0<B) (l0:0<=vl) (l1:vl<P) (u0:0<=ul) (p1:1<=v1) (p2:0<=v2) (g0:0<=g) (g1:g<=B) (hi:g*v1+r=h) (hc:g*v2<=r*B+a3) :
  (g-1)*(vl+P*(v2+B*v1))<=ul+P*(a3+B*h):=by
 have e1:=a4x (B:=B) (v2:=v2) hi;have e5:P*(g*(v2+B*v1))<=P*(a3+B*h):=Int.mul_le_mul_of_nonneg_left oM (Int.le_of_lt hP);have e2:(g-1)*(vl+P*(v2+B*v1))=g*(vl+P*(v2+B*v1))-(vl+P*(v2+B*v1)):=by rw [Int.sub_mul,Int.one_mul]
 have e3:=a3E (P:=P) (g:=g) (vl:=vl) (X:=v2+B*v1);have e6:g*vl<=B*P:=Int.mul_le_mul g1 (Int.le_of_lt l1) l0 (Int.le_of_lt hB);have e7:B*1<=B*v1:=Int.mul_le_mul_of_nonneg_left p1 (Int.le_of_lt hB);have e8:P*B<=P*(v2+B*v1):=Int.mul_le_mul_of_nonneg_left oM (Int.le_of_lt hP);have e9:B*P=P*B:=Int.mul_comm _ _;omega
theorem a6M {B g v2 r a3:Int} (hB:0<B) (g0:0<=g) (g1:g<=B) (p2:0<=v2) (p3:v2<B) (a0:0<=a3) (hr:B<=r):g*v2<=r*B+a3:=by
 have h1:g*v2<=B*B:=Int.mul_le_mul g1 oM p2 oM;have h2:B*B<=r*B:=Int.mul_le_mul_of_nonneg_right hr oM;omega
theorem a9E {P B vl v1 v2 ul a3 a2 a1:Int} (hP:0<P) (hB:0<B) (l1:vl<P) (u0:0<=ul) (p3:v2<B) (a0:0<=a3) (a2':0<=a2)
  (hU:ul+P*(a3+B*(a1*B+a2))<B*(vl+P*(v2+B*v1))):a1<=v1:=by
 rcases Int.lt_or_le v1 a1 with h | h
 ·exfalso
  have e1:(v1+1)*B<=a1*B:=Int.mul_le_mul_of_nonneg_right oM oM;have e2:B*((v1+1)*B)<=B*(a1*B+a2):=Int.mul_le_mul_of_nonneg_left oM oM;have e3:P*(B*((v1+1)*B))<=P*(a3+B*(a1*B+a2)):=Int.mul_le_mul_of_nonneg_left oM oM;have e4:P*(B*((v1+1)*B))=B*(P*(B*(v1+1))):=by rw [Int.mul_comm (v1+1) B,Int.mul_left_comm P B]
  have e5:P*(v2+B*v1+1)<=P*(B*(v1+1)):=Int.mul_le_mul_of_nonneg_left (by rw [Int.mul_add];omega) oM;rw [Int.mul_add P _ 1,Int.mul_one] at e5;have e6:B*(vl+P*(v2+B*v1))<=B*(P*(B*(v1+1))):=Int.mul_le_mul_of_nonneg_left oM oM;omega
 ·exact h
theorem a9F {B g v1 r h a1 a2:Int} (hi:g*v1+r=h) (hh:h=a1*B+a2) (p1:0<=v1) (ha:a1<=v1) (hB:0<B) (a2':a2<B) (hg:B<=g):r<B:=by
 have e1:B*v1<=g*v1:=Int.mul_le_mul_of_nonneg_right hg p1;have e2:a1*B<=v1*B:=Int.mul_le_mul_of_nonneg_right ha oM;have e3:v1*B=B*v1:=Int.mul_comm _ _;omega
theorem b2t {B:Int} {l:List Int} {m:Nat} (hl:l.length=m+3):val B l=val B (l.take m)+B ^ m*(l[m]+B*(l[m+2]*B+l[m+1])):=by
 rw [val_split B l m oM,val_drop B l m oM,val_drop B l (m+1) oM,val_drop B l (m+1+1) oM];have h4:List.drop (m+1+1+1) l=[]:=List.drop_of_length_le oM;rw [h4,a3l,Int.mul_zero,Int.add_zero,Int.mul_comm B l[m+1+1],Int.add_comm l[m+1]]
theorem b2R {B:Int} {l:List Int} {m:Nat} (hl:l.length=m+2):val B l=val B (l.take m)+B ^ m*(l[m]+B*l[m+1]):=by
 rw [val_split B l m oM,val_drop B l m oM,val_drop B l (m+1) oM];have h4:List.drop (m+1+1) l=[]:=List.drop_of_length_le oM;rw [h4,a3l,Int.mul_zero,Int.add_zero]
theorem a7k {B:Int} (hB:0<B) {l:List Int} (h:Lim B l) {k:Nat} (hk:k<=l.length):0<=val B (l.take k)/\val B (l.take k)<B ^ k:=by
 refine⟨val_nonneg hB (h.take k),?_⟩;have:=val_lt hB (h.take k)
 rwa [List.length_take,Nat.min_eq_left hk] at this

structure Dig (U V v1 v2 a1 a2 a3:Int):Prop where
 ex:∃ P vl ul:Int,0<P/\(0<=vl/\vl<P)/\(0<=ul/\ul<P)/\V=vl+P*(v2+1000000000*v1)/\U=ul+P*(a3+1000000000*(a1*1000000000+a2))
 p1:1<=v1/\v1<1000000000
 p2:0<=v2/\v2<1000000000
 q1:0<=a1/\a1<1000000000
 q2:0<=a2/\a2<1000000000
 q3:0<=a3/\a3<1000000000
 lt:U<1000000000*V
 u0:0<=U
 v0:0<V
theorem Dig.of {v O:List Int} {m:Nat} (hv:v.length=m+2) (hO:O.length=m+3) (hV:Lim 1000000000 v) (hU:Lim 1000000000 O) (h1:1<=v[m+1]) (hlt:val 1000000000 O<1000000000*val 1000000000 v) :
  Dig (val 1000000000 O) (val 1000000000 v) v[m+1] v[m] O[m+2] O[m+1] O[m]:=by
 have hB:(0:Int)<1000000000:=oM;have hP:=pow_pos hB m;have l1:=a7k hB hV (k:=m) oM;have l2:=a7k hB hU (k:=m) oM;have e1:=b2R (B:=1000000000) hv;have e2:=b2t (B:=1000000000) hO;have k1:=hV.get (m+1) oM;have k2:=hV.get m oM;refine⟨⟨_,_,_,hP,l1,l2,e1,e2⟩,⟨h1,k1.2⟩,k2,hU.get (m+2) oM,hU.get (m+1) oM,hU.get m oM,hlt,val_nonneg hB hU,?_⟩;rw [e1];have k3:0<1000000000 ^ m*(v[m]+1000000000*v[m+1]):=Int.mul_pos hP oM;omega
def Gs (U V v1 h g r:Int):Prop:=(0<=g/\0<=r)/\g*v1+r=h/\U<(g+1)*V
def Gd (U V g:Int):Prop:=(0<=g/\g<1000000000)/\(g-1)*V<=U/\U<(g+1)*V
section
variable {U V v1 v2 a1 a2 a3 g r:Int}
theorem Dig.start (d:Dig U V v1 v2 a1 a2 a3):Gs U V v1 (a1*1000000000+a2) ((a1*1000000000+a2) / v1) ((a1*1000000000+a2) % v1)/\(a1*1000000000+a2) % v1<1000000000:=by
 obtain⟨P,vl,ul,hP,l1,l2,e1,e2⟩:=d.ex;have hp:=d.p1;have q1:=d.q1;have q2:=d.q2;have h0:0<=(a1*1000000000+a2) / v1:=Int.ediv_nonneg oM oM;have h1:=Int.emod_nonneg (a1*1000000000+a2) (show v1≠0 by omega);have h2:=Int.emod_lt_of_pos (a1*1000000000+a2) (show 0<v1 by omega)
 have h3:(a1*1000000000+a2) / v1*v1+(a1*1000000000+a2) % v1=a1*1000000000+a2:=by
  rw [Int.mul_comm];have:=Int.emod_add_mul_ediv (a1*1000000000+a2) v1;omega
 refine⟨⟨⟨h0,h1⟩,h3,?_⟩,oM⟩;rw [e1,e2];exact a6L hP oM l1.1 l2.2 d.p2.1 d.q3.2 h0 h3 h2
theorem Dig.step (d:Dig U V v1 v2 a1 a2 a3) (h:Gs U V v1 (a1*1000000000+a2) g r) (hc:1000000000<=g∨r*1000000000+a3<g*v2):1<=g/\Gs U V v1 (a1*1000000000+a2) (g-1) (r+v1):=by
 obtain⟨P,vl,ul,hP,l1,l2,e1,e2⟩:=d.ex;obtain⟨⟨g0,r0⟩,hi,hU⟩:=h;have hp:=d.p1;have hv:=d.v0;have hu:=d.u0;have hl:=d.lt
 have h1:U<g*V:=by
  rw [e1,e2];rw [e1] at hv hl;rw [e2] at hl;exact a8i hP l1.1 l2.2 g0 hi oM hl hc
 have h2:1<=g:=by
  rcases Int.lt_or_le 0 g with h | h
  ·omega
  ·have:g=0:=oM
   subst this;rw [Int.zero_mul] at h1;omega
 refine⟨h2,⟨oM,oM⟩,?_,?_⟩
 ·rw [Int.sub_mul,Int.one_mul];omega
 ·rw [show g-1+1=g by omega];exact h1
theorem Dig.top (d:Dig U V v1 v2 a1 a2 a3):a1<=v1:=by
 obtain⟨P,vl,ul,hP,l1,l2,e1,e2⟩:=d.ex;have hl:=d.lt;rw [e1,e2] at hl;exact a9E hP oM l1.2 l2.1 d.p2.2 d.q3.1 d.q2.1 hl
theorem Dig.low (d:Dig U V v1 v2 a1 a2 a3) (h:Gs U V v1 (a1*1000000000+a2) g r) (hr:1000000000<=r):g<1000000000:=by
 rcases Int.lt_or_le g 1000000000 with h1 | h1
 ·exact h1
 ·have:=a9F h.2.1 rfl (by have:=d.p1;omega) d.top oM d.q2.2 h1
  omega
theorem Dig.most (d:Dig U V v1 v2 a1 a2 a3) (h:Gs U V v1 (a1*1000000000+a2) g r):g<=2000000000:=by
 rcases Int.lt_or_le 2000000000 g with h1 | h1
 ·exfalso
  have hp:=d.p1;have h2:2000000000*v1<=g*v1:=Int.mul_le_mul_of_nonneg_right oM oM;have h3:=d.top;have h4:=h.2.1;have h5:=h.1;have h6:=d.q2;omega
 ·exact h1
theorem Dig.good (d:Dig U V v1 v2 a1 a2 a3) (h:Gs U V v1 (a1*1000000000+a2) g r) (hg:g<1000000000) (hc:g*v2<=r*1000000000+a3):Gd U V g:=by
 obtain⟨P,vl,ul,hP,l1,l2,e1,e2⟩:=d.ex;obtain⟨⟨g0,r0⟩,hi,hU⟩:=h;refine⟨⟨g0,hg⟩,?_,hU⟩;rw [e1,e2];exact a9G hP oM l1.1 l1.2 l2.1 d.p1.1 d.p2.1 g0 oM hi hc
theorem Dig.large (d:Dig U V v1 v2 a1 a2 a3) (h:Gs U V v1 (a1*1000000000+a2) g r) (hr:1000000000<=r):Gd U V g :=
 d.good h (d.low h hr) (a6M oM h.1.1 (by have:=d.low h hr;omega) d.p2.1 d.p2.2 d.q3.1 hr)
end

theorem a2o (B:Int) {F:List Int} {i:Nat} (h:i<F.length) (x:Int):val B ((F.set i x).take (i+1))=val B (F.take i)+B ^ i*x:=by
 rw [val_take_succ B _ i (by simpa using h),List.getElem_set_self,List.take_set_of_le (Nat.le_refl i)]
theorem drop_set_succ {F O:List Int} {i:Nat} (x:Int) (h:F.drop i=O.drop i):(F.set i x).drop (i+1)=O.drop (i+1):=by
 rw [List.drop_set_of_lt oM];have h2:=congrArg (List.drop 1) h
 rwa [List.drop_drop,List.drop_drop] at h2
theorem get_of_drop {F O:List Int} {i:Nat} (h:F.drop i=O.drop i) (hF:i<F.length) (hO:i<O.length):F[i]=O[i]:=by
 rw [List.drop_eq_getElem_cons hF,List.drop_eq_getElem_cons hO] at h;exact(List.cons.inj h).1
theorem away_step {B:Int} {F:List Int} {i:Nat} (hi:i<F.length) {X W Z Y cy bo o p x bo':Int} (h:val B (F.take i)+W=X+B ^ i*(bo+cy)) (hp:p=cy+Y) (hx:x=o-p % B-bo+bo'*B) :
  val B ((F.set i x).take (i+1))+(W+B ^ i*Y)=X+B ^ i*o+B ^ (i+1)*(bo'+p / B):=by
 rw [a2o B hi,Int.pow_succ,Int.mul_assoc];have h1:=Int.emod_add_mul_ediv p B
 have e:x+Y=(o-bo-cy)+B*(bo'+p / B):=by
  rw [Int.mul_add,Int.mul_comm B bo'];omega
 have e2:B ^ i*(x+Y)=B ^ i*((o-bo-cy)+B*(bo'+p / B)):=by rw [e]
 rw [Int.mul_add,Int.mul_add] at e2;have e3:B ^ i*(o-bo-cy)=B ^ i*o-B ^ i*(bo+cy):=by rw [<- Int.mul_sub];congr 1;omega
 omega
theorem back_step {B:Int} {F:List Int} {i:Nat} (hi:i<F.length) {X W c o y x:Int} (h:val B (F.take i)+B ^ i*c=X+W) (hx:x=o+c+y) :
  val B ((F.set i (x % B)).take (i+1))+B ^ (i+1)*(x / B)=X+B ^ i*o+(W+B ^ i*y):=by
 rw [a2o B hi,Int.pow_succ,Int.mul_assoc];have h1:B ^ i*(x % B)+B ^ i*(B*(x / B))=B ^ i*x:=by rw [<- Int.mul_add,Int.emod_add_mul_ediv]
 have h2:B ^ i*x=B ^ i*o+B ^ i*c+B ^ i*y:=by rw [hx,Int.mul_add,Int.mul_add]
 omega
theorem left_same {U V g F T:Int} (h:F+g*V=U) (h0:0<=F) (h1:U<(g+1)*V):U=g*V+F/\F<V:=by
 rw [Int.add_mul,Int.one_mul] at h1;omega
theorem left_less {U V g F T:Int} (h:F+g*V=U+T) (h1:F<T) (h2:(g-1)*V<=U):∃ R,F+V=R+T/\U=(g-1)*V+R/\0<=R/\R<V:=by
 refine⟨U-(g-1)*V,?_,oM,oM,?_⟩ <;> (rw [Int.sub_mul,Int.one_mul] at *;omega)
theorem left_back {G c F V R T:Int} (h:G+T*c=F+V) (hR:F+V=R+T) (g1:G<T) (r0:0<=R) (r1:R<T) (hT:0<T) (c0:c=0∨c=1):G=R:=by
 rcases c0 with rfl | rfl
 ·rw [Int.mul_zero] at h;omega
 ·rw [Int.mul_one] at h;omega
theorem top_zero {B:Int} (hB:1<=B) {G:List Int} (h:Lim B G) {n:Nat} (hl:G.length=n+1) (hv:val B G<B ^ n):∃ W,G=W++[0]/\W.length=n:=by
 refine⟨G.take n,?_,sO⟩;have h0:=h.get n oM;have h1:=val_split B G n oM;rw [val_drop B G n oM] at h1;have h4:List.drop (n+1) G=[]:=List.drop_of_length_le oM;rw [h4,a3l,Int.mul_zero,Int.add_zero] at h1;have h2:=val_nonneg oM (h.take n)
 have hz:G[n]=0:=by
  rcases Int.lt_or_le 0 G[n] with h | h
  ·have:B ^ n*1<=B ^ n*G[n]:=Int.mul_le_mul_of_nonneg_left oM (Int.le_of_lt (pow_pos oM n))
   omega
  ·omega
 have h5:=tse (l:=G) (i:=n) oM;rw [List.take_of_length_le oM,hz] at h5;exact h5
end Big
open Tryz Go.RowKit
theorem a1k (w:World) (X j:Nat) (v:Value):w.grownBy (w.setCell ⟨X,j,none⟩ v) (some X) :=
 ⟨rfl,rfl,rfl,by simp [World.setCell],fun k hk hne=>heap_setCell_other w _ _ _ (fun e=>hne (by rw [e]))⟩
theorem a1h {w w' w'':World} {X:Nat} (h:w.grownBy w' (some X)) (h2:w'.grownBy w'' (some X)):w.grownBy w'' (some X) :=
 ⟨h2.os.trans h.os,h2.tape.trans h.tape,h2.output.trans h.output,Nat.le_trans h.size h2.size,fun k hk hne=>(h2.block k (Nat.lt_of_lt_of_le hk h.size) hne).trans (h.block k hk hne)⟩
theorem a2n {w:World} {g j k:Nat} {L F Z:List Int} (h:Arr .u32 138 w g (L++F++Z)) (hj:L.length=j) (hk:k<F.length):w.cell? ⟨g,j+k,none⟩=some (.int .u32 F[k]):=by
 subst hj;rw [h.cell (k:=L.length+k) sO]
 congr 2
 have e:(L++F++Z)[L.length+k]?=some F[k]:=by
  rw [List.append_assoc,List.getElem?_append_right oM,Nat.add_sub_cancel_left,List.getElem?_append_left hk,List.getElem?_eq_getElem hk]
 rw [List.getElem?_eq_getElem sO] at e;exact Option.some.inj e
theorem a2E {w:World} {g j k:Nat} {L F Z:List Int} (h:Arr .u32 138 w g (L++F++Z)) (hj:L.length=j) (hk:k<F.length) (x:Int):Arr .u32 138 (w.setCell ⟨g,j+k,none⟩ (.int .u32 x)) g (L++F.set k x++Z):=by
 subst hj;have:=h.set (L.length+k) x
 rwa [List.append_assoc,List.set_append_right _ _ oM,Nat.add_sub_cancel_left,List.set_append_left _ _ hk,<- List.append_assoc] at this
theorem a2p {F O v:List Int} {i:Nat} {gq bo cy Y p x bo':Int} (hF:i<F.length) (hO:i<O.length) (hY:gq*Big.val 1000000000 (v.take (i+1))=gq*Big.val 1000000000 (v.take i)+1000000000 ^ i*Y)
  (h:Big.val 1000000000 (F.take i)+gq*Big.val 1000000000 (v.take i)=Big.val 1000000000 (O.take i)+1000000000 ^ i*(bo+cy)) (hp:p=cy+Y) (hx:x=O[i] - p % 1000000000-bo+bo'*1000000000) :
  Big.val 1000000000 ((F.set i x).take (i+1))+gq*Big.val 1000000000 (v.take (i+1))=Big.val 1000000000 (O.take (i+1))+1000000000 ^ (i+1)*(bo'+p / 1000000000):=by
 rw [hY,Big.val_take_succ _ _ _ hO];exact Big.away_step (Z:=0) hF h hp hx
theorem a4K {G F v:List Int} {i:Nat} {c y x:Int} (hG:i<G.length) (hF:i<F.length) (hy:Big.val 1000000000 (v.take (i+1))=Big.val 1000000000 (v.take i)+1000000000 ^ i*y)
  (h:Big.val 1000000000 (G.take i)+1000000000 ^ i*c=Big.val 1000000000 (F.take i)+Big.val 1000000000 (v.take i)) (hx:x=F[i]+c+y) :
  Big.val 1000000000 ((G.set i (x % 1000000000)).take (i+1))+1000000000 ^ (i+1)*(x / 1000000000)=Big.val 1000000000 (F.take (i+1))+Big.val 1000000000 (v.take (i+1)):=by
 rw [hy,Big.val_take_succ _ _ _ hF];exact Big.back_step hG h hx
theorem a8X {v:List Int} {i:Nat} (g:Int) (hi:i<v.length):g*Big.val 1000000000 (v.take (i+1))=g*Big.val 1000000000 (v.take i)+1000000000 ^ i*(g*v[i]):=by
 rw [Big.val_take_succ _ _ _ hi,Int.mul_add,Int.mul_left_comm]
theorem b0O {v:List Int} {i:Nat} (g:Int) (hi:v.length<=i):g*Big.val 1000000000 (v.take (i+1))=g*Big.val 1000000000 (v.take i)+1000000000 ^ i*0:=by
 rw [List.take_of_length_le hi,List.take_of_length_le oM,Int.mul_zero,Int.add_zero]
def DigPost (g m:Nat) (L Z:List Int) (U V:Int) (w:World) (e:Ending) (w':World):Prop :=
 w.grownBy w' (some g)/\∃(q:Int) (G:List Int),e=.returned (.int .u32 q)/\(0<=q/\q<1000000000)/\G.length=m+3/\Big.Lim 1000000000 G/\U=q*V+Big.val 1000000000 G/\Big.val 1000000000 G<V/\Arr .u32 138 w' g (L++G++Z)
section
variable (w:World)
theorem a9V (g j m c d:Nat) (L O Z v:List Int) (Bv:Option Addr) (hj:L.length=j) (hm:m<=100000000000) (hj1:j<=100000000000) (hO:O.length=m+3) (hv:v.length=m+2) (hOL:Big.Lim 1000000000 O) (hVL:Big.Lim 1000000000 v) (h1:1<=v[m+1])
  (hlt:Big.val 1000000000 O<1000000000*Big.val 1000000000 v) (hA:Arr .u32 138 w g (L++O++Z)) (hB:LimbsAt .u32 w w Bv v) (hne:∀ b o,Bv=some ⟨b,o,none⟩->b≠g) :
  Calls prog 188 #[.slice (some ⟨g,j,none⟩) (m+3) c,.slice Bv (m+2) d] w (DigPost g m L Z (Big.val 1000000000 O) (Big.val 1000000000 v) w):=by
 have hD:=Big.Dig.of hv hO hVL hOL h1 hlt
 rcases hB with h | ⟨b,o,rfl,hbB,hvc,hvt⟩
 ·rw [h] at hv;simp at hv
 have hbg:=hne b o rfl;have hgB:=hA.lt;have x1:=hvc (m+1) oM;have x2:=hvc m oM;have y1:=a2n hA hj (k:=m+2) oM;have y2:=a2n hA hj (k:=m+1) oM;have y3:=a2n hA hj (k:=m) oM;obtain⟨v1,hv1⟩:∃ x,x=v[m+1]:=⟨_,rfl⟩;obtain⟨v2,hv2⟩:∃ x,x=v[m]:=⟨_,rfl⟩;obtain⟨a1,ha1⟩:∃ x,x=O[m+2]:=⟨_,rfl⟩;obtain⟨a2,ha2⟩:∃ x,x=O[m+1]:=⟨_,rfl⟩;obtain⟨a3,ha3⟩:∃ x,x=O[m]:=⟨_,rfl⟩;obtain⟨U,hU⟩:∃ U,U=Big.val 1000000000 O:=⟨_,rfl⟩;obtain⟨V,hV⟩:∃ V,V=Big.val 1000000000 v:=⟨_,rfl⟩;rw [<- hv1,<- hv2,<- ha1,<- ha2,<- ha3,<- hU,<- hV] at hD;rw [<- hv1] at x1;rw [<- hv2] at x2;rw [<- ha1] at y1;rw [<- ha2] at y2;rw [<- ha3] at y3;obtain⟨HU,HV,HD,HO,Hv,HOL,HVL⟩:=Z7 hU hV hD hO hv hOL hVL;obtain⟨HA,Hvc,Hvt,Hj⟩:=Z4 hA hvc hvt hj;have p1:=hD.p1;have p2:=hD.p2;have q1:=hD.q1;have q2:=hD.q2;have q3:=hD.q3;have hst:=hD.start;obtain⟨h0,hh0⟩:∃ h,h=a1*1000000000+a2:=⟨_,rfl⟩;rw [<- hh0] at hst;have Hst:=Z1 hst;have Hh:=Z1 hh0;clear hv1 hv2 ha1 ha2 ha3 hU hV hD hO hv hOL hVL hA hvc hvt hne hlt h1 hst hj;go_enter func188,ntmps188;go_upto_region 2 with(fail);go_quiet (fail);go_upto_region 3 with(fail);go_quiet (fail);rw [<- Hh.out];go_upto_region 4 with(fail);rename_i K1 hK1
 have key:∀(gq:Int) (wr:World) (z6 z8 t17 t18 t19 t20 t21 t22 t23 t24 t25 t26 t27 t28 t29 t30 t31 t32 t33 t34 t35 t36 t37 t38 t39 t40 t41 t42 t43 t44 t45 t46 t47 t48 t49 t50 t51 t52 t53 t54 t55 t56 t57 t58 t59 t60 t61 t62 t63 t64 t65 t66 t67 t68 t69 t70 t71 t72 t73 t74 t75 t76 t77 t78 t79 t80 t81:Value),Big.Gd U V gq->Below w w wr->K1 ⟨#[.slice (some ⟨g,j,none⟩) (m+3) c,.slice (some ⟨b,o,none⟩) (m+2) d,undef,undef,.int .u32 0,.int .i64 ((m:Int)+2),z6,.int .u64 gq,z8,undef,undef,undef,undef,undef,undef,undef,undef,t17,t18,t19,t20,t21,t22,t23,t24,t25,t26,t27,t28,t29,t30,t31,t32,t33,t34,t35,t36,t37,t38,t39,t40,t41,t42,t43,t44,t45,t46,t47,t48,t49,t50,t51,t52,t53,t54,t55,t56,t57,t58,t59,t60,t61,t62,t63,t64,t65,t66,t67,t68,t69,t70,t71,t72,t73,t74,t75,t76,t77,t78,t79,t80,t81,undef,undef,undef,undef,undef,undef,undef,undef,undef,undef,undef,undef,undef,undef,undef,undef,undef,undef,undef,undef,undef,undef,undef,undef,undef,undef,undef,undef,undef,undef,undef,undef,undef,undef,undef,undef,undef,undef,undef,undef,undef,undef,undef,undef,undef,undef,undef,undef,undef,undef,undef,undef,undef,undef,undef,undef,undef,undef,undef,undef,undef,undef,undef,undef,undef,undef,undef,undef,undef,undef,undef,undef,undef,undef,undef],[]⟩ wr:=by
  intro gq wr z6 z8 t17 t18 t19 t20 t21 t22 t23 t24 t25 t26 t27 t28 t29 t30 t31 t32 t33 t34 t35 t36 t37 t38 t39 t40 t41 t42 t43 t44 t45 t46 t47 t48 t49 t50 t51 t52 t53 t54 t55 t56 t57 t58 t59 t60 t61 t62 t63 t64 t65 t66 t67 t68 t69 t70 t71 t72 t73 t74 t75 t76 t77 t78 t79 t80 t81 hgd hbr;refine hK1 _ _ ?_;clear hK1 x1 x2 y1 y2 y3;have Hgd:=Z1 hgd;have gq0:=hgd.1.1;have gq1:=hgd.1.2;have hgr:w.grownBy wr (some g):=⟨hbr.os,hbr.tape,hbr.output,hbr.size,fun k hk _=>hbr.block k hk⟩;have HG0:=Z1 hgr;have HA0:=Z1 (HA.out.below hbr hgB);clear hgd hbr hgr;go_wp2
  go_loopw [9,10,84] (fun bv cv iv wq=>∃(i:Nat) (F:List Int) (bo cy:Int),i<=m+3/\iv=.int .i64 i/\bv=.int .i64 bo/\cv=.int .u64 cy/\(bo=0∨bo=1)/\(0<=cy/\cy<1000000000)/\(i=m+3->cy=0)/\F.length=m+3/\Big.Lim 1000000000 F/\F.drop i=O.drop i /\
   Big.val 1000000000 (F.take i)+gq*Big.val 1000000000 (v.take i)=Big.val 1000000000 (O.take i)+1000000000 ^ i*(bo+cy)/\Arr .u32 138 wq g (L++F++Z)/\w.grownBy wq (some g)) (fun _ _ iv _=>m+3-(intOf iv).toNat)
  case atStart=>exact⟨0,O,0,0,Nat.zero_le _,rfl,rfl,rfl,.inl rfl,⟨oM,oM⟩,fun h=>oM,HO.out,HOL.out,rfl,by simp [Big.val],HA0.out,HG0.out⟩
  case round =>
   obtain⟨i,F,bo,cy,hi,rfl,rfl,rfl,hbo,⟨cy0,cy1⟩,hcz,hFl,hFL,hFd,hFv,hFa,hFg⟩:=hrel;obtain⟨Hcz,HFl,HFL,HFd,HFv,HFa,HFg⟩:=Z7 hcz hFl hFL hFd hFv hFa hFg;have hgq:=hFa.lt;have bo0:0<=bo/\bo<=1:=oM;have Hbo:=Z1 hbo;clear hcz hFl hFL hFd hFv hFa hFg hbo HA0 HG0
   by_cases hlt:i<m+3
   ·have hiF:i<F.length:=by rw [HFl.out];exact hlt
    have hiO:i<O.length:=by rw [HO.out];exact hlt
    have yc:=a2n HFa.out Hj.out hiF;rw [Big.get_of_drop HFd.out hiF hiO] at yc;obtain⟨ov,hov⟩:∃ x,x=O[i]:=⟨_,rfl⟩;rw [<- hov] at yc;have Hov:=Z1 hov;have o0:=HOL.out.get i hiO;rw [<- hov] at o0;have yf:=HFa.out.free (j+i);have HF2:Hid (∀ x,(F.set i x).drop (i+1)=O.drop (i+1)):=Z1 fun x=>Big.drop_set_succ x HFd.out;have hi0:(0:Int)<=(i:Int):=oM;have hin:(i:Int)<(m:Int)+3:=oM;clear hov
    by_cases hiv:i<m+2
    ·have hivl:i<v.length:=by rw [Hv.out];exact hiv
     have vc:=(World.cell?_of_block (w:=w) (a:=⟨b,o+i,none⟩) (HFg.out.block b hbB (fun e=>hbg (Option.some.inj e)))).trans (Hvc.out i hivl);have hY:=a8X gq hivl;obtain⟨vi,hvi⟩:∃ x,x=v[i]:=⟨_,rfl⟩;rw [<- hvi] at vc hY;have v0:=HVL.out.get i hivl;rw [<- hvi] at v0;have m0:0<=gq*vi:=Int.mul_nonneg gq0 v0.1;have m1:gq*vi<=999999999*999999999:=Int.mul_le_mul oM oM v0.1 oM;have hivz:(i:Int)<(m:Int)+2:=oM;clear hvi;have b0:=Int.emod_nonneg (cy+gq*vi) (show(1000000000:Int)≠0 by omega);have b1:=Int.emod_lt_of_pos (cy+gq*vi) (show(0:Int)<1000000000 by omega);have b2:0<=(cy+gq*vi) / 1000000000:=Int.ediv_nonneg oM oM;have b3:(cy+gq*vi) / 1000000000<1000000000:=Int.ediv_lt_of_lt_mul oM oM;have HY:=Z1 (hY)
     by_cases hx:ov-(cy+gq*vi) % 1000000000-bo<0
     ·go_wp2
      go_roundw
      case rel =>
       refine⟨i+1,F.set i (ov-(cy+gq*vi) % 1000000000-bo+1000000000),1,(cy+gq*vi) / 1000000000,oM,by go_num,rfl,rfl,.inr rfl,⟨b2,b3⟩,fun h=>oM,by rw [List.length_set];exact HFl.out,a1N HFL.out oM oM,HF2.out _,?_,a2E HFa.out Hj.out hiF _,a1h HFg.out (a1k _ _ _ _)⟩;exact a2p hiF hiO HY.out HFv.out rfl (by rw [<- Hov.out];omega)
      case measure=>simp [intOf];omega
     ·go_wp2
      go_roundw
      case rel =>
       refine⟨i+1,F.set i (ov-(cy+gq*vi) % 1000000000-bo),0,(cy+gq*vi) / 1000000000,oM,by go_num,rfl,rfl,.inl rfl,⟨b2,b3⟩,fun h=>oM,by rw [List.length_set];exact HFl.out,a1N HFL.out oM oM,HF2.out _,?_,a2E HFa.out Hj.out hiF _,a1h HFg.out (a1k _ _ _ _)⟩;exact a2p hiF hiO HY.out HFv.out rfl (by rw [<- Hov.out];omega)
      case measure=>simp [intOf];omega
    ·have hY:=b0O (v:=v) (i:=i) gq (by have:=Hv.out;omega)
     have hivz:¬ (i:Int)<(m:Int)+2:=oM;have b0:=Int.emod_nonneg (cy) (show(1000000000:Int)≠0 by omega);have b1:=Int.emod_lt_of_pos (cy) (show(0:Int)<1000000000 by omega);have b2:0<=(cy) / 1000000000:=Int.ediv_nonneg oM oM;have b3:(cy) / 1000000000<1000000000:=Int.ediv_lt_of_lt_mul oM oM;have HY:=Z1 (hY)
     by_cases hx:ov-(cy) % 1000000000-bo<0
     ·go_wp2
      go_roundw
      case rel =>
       refine⟨i+1,F.set i (ov-(cy) % 1000000000-bo+1000000000),1,(cy) / 1000000000,oM,by go_num,rfl,rfl,.inr rfl,⟨b2,b3⟩,fun h=>oM,by rw [List.length_set];exact HFl.out,a1N HFL.out oM oM,HF2.out _,?_,a2E HFa.out Hj.out hiF _,a1h HFg.out (a1k _ _ _ _)⟩;exact a2p hiF hiO HY.out HFv.out (Int.add_zero _).symm (by rw [<- Hov.out];omega)
      case measure=>simp [intOf];omega
     ·go_wp2
      go_roundw
      case rel =>
       refine⟨i+1,F.set i (ov-(cy) % 1000000000-bo),0,(cy) / 1000000000,oM,by go_num,rfl,rfl,.inl rfl,⟨b2,b3⟩,fun h=>oM,by rw [List.length_set];exact HFl.out,a1N HFL.out oM oM,HF2.out _,?_,a2E HFa.out Hj.out hiF _,a1h HFg.out (a1k _ _ _ _)⟩;exact a2p hiF hiO HY.out HFv.out (Int.add_zero _).symm (by rw [<- Hov.out];omega)
      case measure=>simp [intOf];omega
   ·obtain rfl:i=m+3:=oM
    have hcy:=Hcz.out rfl;subst hcy;have hv:=HFv.out;rw [List.take_of_length_le (by rw [HFl.out];exact lR),List.take_of_length_le (by rw [Hv.out];omega),List.take_of_length_le (by rw [HO.out];exact lR),<- HU.out,<- HV.out,Int.add_zero] at hv;have hf0:=Big.val_nonneg (B:=1000000000) oM HFL.out;have hf1:=Big.val_lt (B:=1000000000) oM HFL.out;rw [HFl.out] at hf1
    rcases Hbo.out with rfl | rfl
    ·rw [Int.mul_zero,Int.add_zero] at hv
     have hfin:=Big.left_same (T:=0) hv hf0 Hgd.out.2.2;have Hfin:=Z1 hfin;clear hv hf0 hf1 hfin;go_wp2;go_ret;exact⟨HFg.out,gq,F,rfl,⟨gq0,gq1⟩,HFl.out,HFL.out,by rw [<- HU.out,<- HV.out];exact Hfin.out.1,by rw [<- HV.out];exact Hfin.out.2,HFa.out⟩
    ·rw [Int.mul_one] at hv
     obtain⟨R,hR1,hR2,hR3,hR4⟩:=Big.left_less hv hf1 Hgd.out.2.1;have hu0:=HD.out.u0
     have hg1:1<=gq:=by
      rcases Int.lt_or_le 0 gq with h | h
      ·omega
      ·exfalso
       have:gq=0:=oM;subst this;rw [Int.zero_mul] at hv;omega
     have HR1:=Z1 hR1;have HR2:=Z1 hR2
     have hR5:R<1000000000 ^ (m+3):=by
      have k1:=Big.val_lt (B:=1000000000) oM HVL.out;rw [Hv.out,<- HV.out] at k1;have k2:=Big.pow_le (B:=1000000000) oM (show m+2<=m+3 by omega);omega
     have HR:=Z1 (And.intro hR3 (And.intro hR4 hR5));clear hv hf0 hf1 hR1 hR2 hR3 hR4 hR5;go_wp2
     go_loopw [14,129] (fun cv iv wq=>∃(i:Nat) (G:List Int) (c:Int),i<=m+3/\iv=.int .i64 i/\cv=.int .u32 c/\(c=0∨c=1)/\G.length=m+3/\Big.Lim 1000000000 G/\G.drop i=F.drop i /\
      Big.val 1000000000 (G.take i)+1000000000 ^ i*c=Big.val 1000000000 (F.take i)+Big.val 1000000000 (v.take i)/\Arr .u32 138 wq g (L++G++Z)/\w.grownBy wq (some g)) (fun _ iv _=>m+3-(intOf iv).toNat)
     case atStart=>exact⟨0,F,0,Nat.zero_le _,rfl,rfl,.inl rfl,HFl.out,HFL.out,rfl,by simp [Big.val],HFa.out,HFg.out⟩
     case round =>
      obtain⟨i,G,c,hi,rfl,rfl,hc,hGl,hGL,hGd,hGv,hGa,hGg⟩:=hrel;obtain⟨HGl,HGL,HGd,HGv,HGa,HGg⟩:=Z6 hGl hGL hGd hGv hGa hGg;have hgq:=hGa.lt;have c0:0<=c/\c<=1:=oM;have Hc:=Z1 hc;clear hGl hGL hGd hGv hGa hGg hc
      by_cases hlt:i<m+3
      ·have hiG:i<G.length:=by rw [HGl.out];exact hlt
       have hiF:i<F.length:=by rw [HFl.out];exact hlt
       have yc:=a2n HGa.out Hj.out hiG;rw [Big.get_of_drop HGd.out hiG hiF] at yc;obtain⟨fv,hfv⟩:∃ x,x=F[i]:=⟨_,rfl⟩;rw [<- hfv] at yc;have Hfv:=Z1 hfv;have o0:=HFL.out.get i hiF;rw [<- hfv] at o0;have yf:=HGa.out.free (j+i);have HG2:Hid (∀ x,(G.set i x).drop (i+1)=F.drop (i+1)):=Z1 fun x=>Big.drop_set_succ x HGd.out;have hi0:(0:Int)<=(i:Int):=oM;have hin:(i:Int)<(m:Int)+3:=oM;clear hfv
       by_cases hiv:i<m+2
       ·have hivl:i<v.length:=by rw [Hv.out];exact hiv
        have vc:=(World.cell?_of_block (w:=w) (a:=⟨b,o+i,none⟩) (HGg.out.block b hbB (fun e=>hbg (Option.some.inj e)))).trans (Hvc.out i hivl);have hY:=Big.val_take_succ 1000000000 v i hivl;obtain⟨vi,hvi⟩:∃ x,x=v[i]:=⟨_,rfl⟩;rw [<- hvi] at vc hY;have v0:=HVL.out.get i hivl;rw [<- hvi] at v0;have hivz:(i:Int)<(m:Int)+2:=oM;clear hvi;have b0:=Int.emod_nonneg (fv+c+vi) (show(1000000000:Int)≠0 by omega);have b1:=Int.emod_lt_of_pos (fv+c+vi) (show(0:Int)<1000000000 by omega);have b2:(fv+c+vi) / 1000000000=0∨(fv+c+vi) / 1000000000=1:=oM;have HY:=Z1 hY;go_wp2;go_roundw
        case rel =>
         refine⟨i+1,G.set i ((fv+c+vi) % 1000000000),(fv+c+vi) / 1000000000,oM,by go_num,rfl,b2,by rw [List.length_set];exact HGl.out,a1N HGL.out oM oM,HG2.out _,?_,a2E HGa.out Hj.out hiG _,a1h HGg.out (a1k _ _ _ _)⟩;exact a4K hiG hiF HY.out HGv.out (by rw [<- Hfv.out])
        case measure=>simp [intOf];omega
       ·have hY:Big.val 1000000000 (v.take (i+1))=Big.val 1000000000 (v.take i)+1000000000 ^ i*0:=by
         rw [List.take_of_length_le (by rw [Hv.out];omega),List.take_of_length_le (by rw [Hv.out];omega),Int.mul_zero,Int.add_zero]
        have hivz:¬ (i:Int)<(m:Int)+2:=oM;have b0:=Int.emod_nonneg (fv+c) (show(1000000000:Int)≠0 by omega);have b1:=Int.emod_lt_of_pos (fv+c) (show(0:Int)<1000000000 by omega);have b2:(fv+c) / 1000000000=0∨(fv+c) / 1000000000=1:=oM;have HY:=Z1 hY;go_wp2;go_roundw
        case rel =>
         refine⟨i+1,G.set i ((fv+c) % 1000000000),(fv+c) / 1000000000,oM,by go_num,rfl,b2,by rw [List.length_set];exact HGl.out,a1N HGL.out oM oM,HG2.out _,?_,a2E HGa.out Hj.out hiG _,a1h HGg.out (a1k _ _ _ _)⟩;exact a4K hiG hiF HY.out HGv.out (by rw [<- Hfv.out];omega)
        case measure=>simp [intOf];omega
      ·obtain rfl:i=m+3:=oM
       have hv:=HGv.out;rw [List.take_of_length_le (by rw [HGl.out];exact lR),List.take_of_length_le (by rw [HFl.out];exact lR),List.take_of_length_le (by rw [Hv.out];omega),<- HV.out] at hv;have hf0:=Big.val_nonneg (B:=1000000000) oM HGL.out;have hf1:=Big.val_lt (B:=1000000000) oM HGL.out;rw [HGl.out] at hf1;have hfin:Big.val 1000000000 G=R:=Big.left_back hv HR1.out hf1 HR.out.1 HR.out.2.2 (Big.pow_pos oM _) Hc.out;have Hfin:=Z1 hfin;clear hv hf0 hf1 hfin;go_wp2;go_ret;exact⟨HGg.out,gq-1,G,rfl,⟨oM,oM⟩,HGl.out,HGL.out,by rw [<- HU.out,<- HV.out,Hfin.out];exact HR2.out,by rw [<- HV.out,Hfin.out];exact HR.out.2.1,HGa.out⟩
 have KEY:=Z1 key;clear key hK1
 go_loopw [7,8] (fun gv rv wr=>∃ gq r:Int,gv=.int .u64 gq/\rv=.int .u64 r/\r<1000000000/\Big.Gs U V v1 h0 gq r/\Below w w wr) (fun gv _ _=>(intOf gv).toNat)
 case atStart=>exact⟨_,_,rfl,rfl,Hst.out.2,Hst.out.1,Vw (Vw bR _) _⟩
 case round =>
  obtain⟨gq,r,rfl,rfl,hr1,hgs,hbr⟩:=hrel;have hgs':=hgs;rw [Hh.out] at hgs';have g0:=hgs.1.1;have r0:=hgs.1.2;have gm:=HD.out.most hgs';have m0:0<=gq*v2:=Int.mul_nonneg g0 p2.1;have m1:gq*v2<=2000000000*999999999:=Int.mul_le_mul gm oM p2.1 oM;have x1r:=(hbr.cell (p:=⟨b,o+(m+1),none⟩) hbB).trans x1;have x2r:=(hbr.cell (p:=⟨b,o+m,none⟩) hbB).trans x2;have y3r:=(hbr.cell (p:=⟨g,j+m,none⟩) hgB).trans y3;have hbw:b<wr.heap.size:=Nat.lt_of_lt_of_le hbB hbr.size;have hgw:g<wr.heap.size:=Nat.lt_of_lt_of_le hgB hbr.size;obtain⟨Hgs,Hbr,HX⟩:=Z3 hgs' hbr (And.intro x1 (And.intro x2 y3));clear hgs hgs' x1 x2 y1 y2 y3 hbr
  by_cases c1:1000000000<=gq
  ·obtain⟨k1,hgs2⟩:=HD.out.step Hgs.out (.inl c1)
   have Hgs2:=Z1 hgs2;clear hgs2;go_upto_region 4 with(fail);go_quiet (fail)
   
   by_cases c3:1000000000<=r+v1
   ·go_wp2
    exact KEY.out (gq-1) _ _ _ _ _ _ _ _ _ _ _ _ _ _ _ _ _ _ _ _ _ _ _ _ _ _ _ _ _ _ _ _ _ _ _ _ _ _ _ _ _ _ _ _ _ _ _ _ _ _ _ _ _ _ _ _ _ _ _ _ _ _ _ _ _ _ _ _ (HD.out.large Hgs2.out c3) (Vw Hbr.out _)
   ·go_wp2
    go_roundw
    case rel=>exact⟨gq-1,r+v1,by go_num,by go_num,oM,by rw [Hh.out];exact Hgs2.out,(Vw Hbr.out _)⟩
    case measure=>simp [intOf];omega
  ·by_cases c2:r*1000000000+a3<gq*v2
   ·obtain⟨k1,hgs2⟩:=HD.out.step Hgs.out (.inr c2)
    have Hgs2:=Z1 hgs2;clear hgs2;go_upto_region 4 with(fail);go_quiet (fail)
    
    by_cases c3:1000000000<=r+v1
    ·go_wp2
     exact KEY.out (gq-1) _ _ _ _ _ _ _ _ _ _ _ _ _ _ _ _ _ _ _ _ _ _ _ _ _ _ _ _ _ _ _ _ _ _ _ _ _ _ _ _ _ _ _ _ _ _ _ _ _ _ _ _ _ _ _ _ _ _ _ _ _ _ _ _ _ _ _ _ (HD.out.large Hgs2.out c3) (Vw Hbr.out _)
    ·go_wp2
     go_roundw
     case rel=>exact⟨gq-1,r+v1,by go_num,by go_num,oM,by rw [Hh.out];exact Hgs2.out,(Vw Hbr.out _)⟩
     case measure=>simp [intOf];omega
   ·have hgd:=HD.out.good Hgs.out oM oM
    have Hgd:=Z1 hgd;clear hgd;go_upto_region 4 with(fail);go_quiet (fail);go_wp2;exact KEY.out gq _ _ _ _ _ _ _ _ _ _ _ _ _ _ _ _ _ _ _ _ _ _ _ _ _ _ _ _ _ _ _ _ _ _ _ _ _ _ _ _ _ _ _ _ _ _ _ _ _ _ _ _ _ _ _ _ _ _ _ _ _ _ _ _ _ _ _ _ Hgd.out (Vw Hbr.out _)
end
namespace Big
theorem scale_spec {top:Int} (h0:1<=top) (h1:top<1000000000):1<=1000000000 / (top+1)/\1000000000 / (top+1)<=500000000/\1000000000 / (top+1)*(top+1)<=1000000000:=by
 refine⟨?_,?_,Int.ediv_mul_le _ oM⟩
 ·exact(Int.le_ediv_iff_mul_le oM).2 oM
 ·have h2:1000000000 / (top+1)<500000001:=Int.ediv_lt_of_lt_mul oM oM
  omega
theorem scaled_len {q V:List Int} {k:Nat} {s:Int} (hq:q.length=k+2) (hL:Lim 1000000000 q) (hN:Norm q) (s0:1<=s) (s1:s*(q[k+1]+1)<=1000000000) (hV:Lim 1000000000 V) (hVN:Norm V) (hv:val 1000000000 V=val 1000000000 q*s):V.length=k+2:=by
 have hB:(0:Int)<1000000000:=oM;have hP:=pow_pos hB (k+1)
 have u1:val 1000000000 q<1000000000 ^ (k+1)*(q[k+1]+1):=by
  rw [val_split 1000000000 q (k+1) oM,val_drop 1000000000 q (k+1) oM];have h4:List.drop (k+1+1) q=[]:=List.drop_of_length_le oM;rw [h4,a3l,Int.mul_zero,Int.add_zero];have:=(a7k hB hL (k:=k+1) oM).2;rw [Int.mul_add,Int.mul_one];omega
 have u2:val 1000000000 q*s<1000000000 ^ (k+1)*(q[k+1]+1)*s:=Int.mul_lt_mul_of_pos_right u1 oM
 have u3:1000000000 ^ (k+1)*(q[k+1]+1)*s<=1000000000 ^ (k+1)*1000000000:=by
  rw [Int.mul_assoc,Int.mul_comm (q[k+1]+1) s];exact Int.mul_le_mul_of_nonneg_left s1 oM
 have u4:V.length<=k+2:=length_le oM hV hVN (k+2) (by rw [hv,Int.pow_succ];omega);have u5:=a3x hB hL hN oM;rw [hq,show k+2-1=k+1 by omega] at u5
 rcases Nat.lt_or_ge V.length (k+2) with h | h
 ·exfalso
  have h1:=val_lt hB hV;have h2:=pow_le (B:=1000000000) oM (show V.length<=k+1 by omega);have h3:val 1000000000 q*1<=val 1000000000 q*s:=Int.mul_le_mul_of_nonneg_left s0 oM;omega
 ·omega
theorem first_lt {p q U:List Int} {k e:Nat} {s:Int} (hp:p.length=k+2+e) (hq:q.length=k+2) (hL:Lim 1000000000 p) (hQ:Lim 1000000000 q) (hN:Norm q) (s0:1<=s) (hU:U.length=k+3+e) (hUL:Lim 1000000000 U) (hv:val 1000000000 U=val 1000000000 p*s) :
  val 1000000000 (U.drop (e+1))<val 1000000000 q*s:=by
 have hB:(0:Int)<1000000000:=oM;have h1:=val_lt hB hL;rw [hp,show k+2+e=(e+1)+(k+1) by omega,Int.pow_add] at h1;have h2:=a3x hB hQ hN oM;rw [hq,show k+2-1=k+1 by omega] at h2;have h3:=val_split 1000000000 U (e+1) oM;have h4:=(a7k hB hUL (k:=e+1) oM).1;have hP:=pow_pos hB (e+1);have h5:val 1000000000 p*s<1000000000 ^ (e+1)*1000000000 ^ (k+1)*s:=Int.mul_lt_mul_of_pos_right h1 oM
 have h6:1000000000 ^ (e+1)*1000000000 ^ (k+1)*s<=1000000000 ^ (e+1)*(val 1000000000 q*s):=by
  rw [Int.mul_assoc];exact Int.mul_le_mul_of_nonneg_left (Int.mul_le_mul_of_nonneg_right h2 oM) oM
 have h7:1000000000 ^ (e+1)*val 1000000000 (U.drop (e+1))<1000000000 ^ (e+1)*(val 1000000000 q*s):=oM;exact Int.lt_of_mul_lt_mul_left h7 (Int.le_of_lt hP)
theorem div_round {L W W' Qs:List Int} {t:Nat} {x dq V U:Int} (hL:L.length=t) (h:val 1000000000 (L++[x]++W)+1000000000 ^ (t+1)*(val 1000000000 Qs*V)=U)
  (hd:val 1000000000 (x::W)=dq*V+val 1000000000 (W'++[0])):val 1000000000 (L++W')+1000000000 ^ t*(val 1000000000 (dq::Qs)*V)=U:=by
 rw [List.append_assoc,List.singleton_append,val_append,hL,hd,val_snoc,Int.mul_zero,Int.add_zero,Int.mul_add] at h;rw [val_append,hL,val_cons,Int.add_mul,Int.mul_add]
 have e:1000000000 ^ (t+1)*(val 1000000000 Qs*V)=1000000000 ^ t*(1000000000*val 1000000000 Qs*V):=by
  rw [Int.pow_succ,Int.mul_assoc,Int.mul_assoc]
 rw [e] at h;omega
theorem a9l {s k r:Int} (h:s*k=r) (h0:0<=r) (h1:r<s):k=0:=by
 rcases Int.lt_trichotomy k 0 with hk | hk | hk
 ·have:s*k<=s*(-1):=Int.mul_le_mul_of_nonneg_left oM oM
  omega
 ·exact hk
 ·have:s*1<=s*k:=Int.mul_le_mul_of_nonneg_left oM oM
  omega
theorem div_end {a b Q X R r s:Int} (h:X+Q*(b*s)=a*s) (hX:X<b*s) (hR:X=s*R+r) (r0:0<=r) (r1:r<s):a=b*Q+R/\R<b:=by
 have e1:s*(a-b*Q-R)=r:=by
  rw [Int.mul_sub,Int.mul_sub];have e2:Q*(b*s)=s*(b*Q):=by rw [Int.mul_left_comm Q b s,Int.mul_left_comm s b Q,Int.mul_comm Q s]
  have e3:a*s=s*a:=Int.mul_comm _ _;omega
 have e4:=a9l e1 r0 r1;refine⟨oM,?_⟩;have e5:s*R<s*b:=by rw [Int.mul_comm s b];omega
 exact Int.lt_of_mul_lt_mul_left e5 oM
end Big
namespace Dec
def pad:Nat->Nat->List UInt8
 | 0,_=>[]
 | k+1,u=>pad k (u / 10)++[UInt8.ofNat (48+u % 10)]
theorem pad_length:∀(k u:Nat),(pad k u).length=k
 | 0,_=>rfl
 | k+1,u=>by rw [pad,List.length_append,pad_length k];rfl
theorem digits_small {u:Nat} (h:u<10):Lib.decDigits u=[UInt8.ofNat (48+u)]:=by rw [Lib.decDigits,dif_pos h]
theorem a4B {u:Nat} (h:¬ u<10):Lib.decDigits u=Lib.decDigits (u / 10)++[UInt8.ofNat (48+u % 10)]:=by rw [Lib.decDigits,dif_neg h]
theorem a4A:∀(k a b:Nat),0<a->b<10 ^ k->Lib.decDigits (a*10 ^ k+b)=Lib.decDigits a++pad k b
 | 0,a,b,_,hb=>by simp at hb;subst hb;simp [pad]
 | k+1,a,b,ha,hb=>by
  have e:10 ^ (k+1)=10*10 ^ k:=by rw [Nat.pow_succ,Nat.mul_comm]
  have hp:0<10 ^ k:=Nat.pow_pos oM;have h1:10 ^ k<=a*10 ^ k:=Nat.le_mul_of_pos_left _ ha;have hlt:¬ a*10 ^ (k+1)+b<10:=by rw [e,Nat.mul_left_comm];omega
  have hd:(a*10 ^ (k+1)+b) / 10=a*10 ^ k+b / 10:=by rw [e,Nat.mul_left_comm];omega
  have hm:(a*10 ^ (k+1)+b) % 10=b % 10:=by rw [e,Nat.mul_left_comm];omega
  rw [a4B hlt,hd,hm,a4A k a (b / 10) ha (by rw [e] at hb;omega),pad,List.append_assoc]
theorem pad_fill:∀(k u:Nat),0<k->u<10 ^ k->pad k u=List.replicate (k-(Lib.decDigits u).length) 48++Lib.decDigits u/\(Lib.decDigits u).length<=k
 | 1,u,_,hu=>by
  have h:u<10:=by simpa using hu
  rw [digits_small h];simp [pad,Nat.mod_eq_of_lt h]
 | k+2,u,_,hu=>by
  have e:10 ^ (k+2)=10*10 ^ (k+1):=by rw [Nat.pow_succ 10 (k+1),Nat.mul_comm]
  obtain⟨h1,h2⟩:=pad_fill (k+1) (u / 10) oM (by rw [e] at hu;omega)
  by_cases h:u<10
  ·have hz:u / 10=0:=oM
   have hz2:u % 10=u:=oM;rw [hz,digits_small oM] at h1;rw [pad,hz,h1,digits_small h,hz2];refine⟨?_,sP⟩;show List.replicate (k+1-1) 48++[UInt8.ofNat (48+0)]++[UInt8.ofNat (48+u)]=List.replicate (k+2-1) 48++[UInt8.ofNat (48+u)];rw [show k+1-1=k by omega,show k+2-1=k+1 by omega,List.replicate_succ'];rfl
  ·rw [a4B h,pad,h1]
   refine⟨?_,sO⟩;rw [List.append_assoc,List.length_append]
   congr 2
   simp
def text (k:Nat):List Nat->List UInt8
 | []=>[]
 | [a]=>Lib.decDigits a
 | a::l=>text k l++pad k a
theorem a5r (k a b:Nat) (l:List Nat):text k (a::b::l)=text k (b::l)++pad k a:=rfl
def num (k:Nat):List Nat->Nat
 | []=>0
 | a::l=>a+10 ^ k*num k l
theorem a6Y (k:Nat):∀(l:List Nat),l≠[]->(∀ a∈l,a<10 ^ k)->l.getLast?≠some 0->text k l=Lib.decDigits (num k l)/\0<num k l
 | [],h,_,_=>absurd rfl h
 | [a],_,_,h=>by
  have:a≠0:=fun e=>h (by rw [e];rfl);simp [text,num];omega
 | a::b::l,_,hb,h=>by
  obtain⟨h1,h2⟩:=a6Y k (b::l) sP (fun x hx=>hb x (List.mem_cons_of_mem _ hx)) (by simpa using h);have e:num k (a::b::l)=num k (b::l)*10 ^ k+a:=by rw [num,Nat.mul_comm];omega
  rw [a5r,h1,e,a4A k _ a h2 (hb a List.mem_cons_self)];exact⟨rfl,by have:=Nat.le_mul_of_pos_right (num k (b::l)) (show 0<10 ^ k from Nat.pow_pos oM);omega⟩
def top (j a:Nat):List UInt8:=if a / 10 ^ j=0 then Lib.decDigits a else pad j a
theorem top_zero {a:Nat} (h:0<a):top 0 a=[]:=by
 unfold top;rw [if_neg sO];rfl
def low (k:Nat):List Nat->List UInt8
 | []=>[]
 | a::l=>low k l++pad k a
theorem a9j {k:Nat} {B:Int} (hB:B=((10 ^ k:Nat):Int)):∀ {l:List Int},Big.Lim B l->((num k (l.map Int.toNat):Nat):Int)=Big.val B l
 | [],_=>rfl
 | a::l,h=>by
  rw [Big.Lim.cons] at h;rw [List.map_cons,num,Big.val_cons,Int.natCast_add,Int.natCast_mul,a9j hB h.2,<- hB];omega
theorem text_val {k:Nat} {B:Int} (hB:B=((10 ^ k:Nat):Int)) {l:List Int} (hL:Big.Lim B l) (hN:Big.Norm l) (h0:0<l.length):text k (l.map Int.toNat)=Lib.decDigits (Big.val B l).toNat:=by
 have hne:l≠[]:=List.length_pos_iff.1 h0
 have h1:=(a6Y k (l.map Int.toNat) (by simpa using hne) (fun a ha=>by
  rw [List.mem_map] at ha;obtain⟨b,hb,rfl⟩:=ha;have:=hL b hb;rw [hB] at this;omega) (by
  rw [List.getLast?_map,List.getLast?_eq_some_getLast hne];intro e;have h2:=hN hne;have h3:=hL _ (List.getLast_mem hne);simp only [Option.map_some,Option.some.injEq] at e;omega)).1
 rw [h1,<- a9j hB hL,Int.toNat_natCast]
theorem text_len (k:Nat):∀(l:List Nat),(∀ a∈l,a<10 ^ k)->0<k->(text k l).length<=k*l.length
 | [],_,_=>Nat.zero_le _
 | [a],h,hk=>by
  have:=(pad_fill k a hk (h a sP)).2;simpa [text] using this
 | a::b::l,h,hk=>by
  have:=text_len k (b::l) (fun x hx=>h x (List.mem_cons_of_mem _ hx)) hk;rw [a5r,List.length_append,pad_length,List.length_cons,Nat.mul_succ];omega
def frac (n d:Nat):List UInt8:=if d=1 then Lib.decDigits n else Lib.decDigits n++47::Lib.decDigits d
end Dec
theorem a3p (l m:List UInt8):(⟨l.toArray⟩:ByteArray)++⟨m.toArray⟩=⟨(l++m).toArray⟩:=by
 apply ByteArray.ext;rw [ByteArray.data_append];simp
end Go.Proofs.YtniaimjknmhapaaGreatDoor
