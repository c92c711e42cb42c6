/- Lemmas. -/
import Derived.StringKeys
import Derived.Test.YtbhdekahdnenjaaGreatDoorG14
set_option linter.unusedVariables false
set_option linter.unusedSimpArgs false
set_option maxRecDepth 100000
set_option maxHeartbeats 16000000
namespace Go.Proofs.YtbhdekahdnenjaaGreatDoor
open Go.Proofs.Tryz Go.RowKit
variable (w:World)
theorem b1r (a:Acc):CL 217 #[a] w (Gr.based a):=by
 have E:=(VM w w).alloc lR (.cells a 113)
 by_cases L:a.kind=1
 ·have T:(a.kind==1):=by simp[L]
  have s:=Z1 L;clear L
  by_cases i:a.basis=1
  ·have J:(a.basis==1):=by simp[i]
   have I:Hid (Gr.based a):=by show _=_;simp[Gr.based,s.out,i]
   clear i s;go_enter func217,ntmps217;go_wp2;go_ret;exact⟨by rw[I];rfl,E⟩
  have S:(a.basis==1)=false:=by simp[i]
  by_cases o:a.basis=3
  ·have J:(a.basis==3):=by simp[o]
   have I:Hid (Gr.based a):=by show _=_;simp[Gr.based,s.out,o]
   clear i o s;go_enter func217,ntmps217;go_wp2;go_ret;exact⟨by rw[I];rfl,E⟩
  ·have J:(a.basis==3)=false:=by simp[o]
   have I:Hid (Gr.based a=false):=by show _=_;simp[Gr.based,s.out,i,o]
   clear i o s;go_enter func217,ntmps217;go_wp2;go_ret;exact⟨by rw[I];rfl,E⟩
 have W:(a.kind==1)=false:=by simp[L]
 by_cases O:a.kind=2
 ·have T:(a.kind==2):=by simp[O]
  have s:=Z1 O;clear L O
  by_cases i:a.basis=1
  ·have J:(a.basis==1):=by simp[i]
   have I:Hid (Gr.based a):=by show _=_;simp[Gr.based,s.out,i]
   clear i s;go_enter func217,ntmps217;go_wp2;go_ret;exact⟨by rw[I];rfl,E⟩
  have S:(a.basis==1)=false:=by simp[i]
  by_cases o:a.basis=3
  ·have J:(a.basis==3):=by simp[o]
   have I:Hid (Gr.based a):=by show _=_;simp[Gr.based,s.out,o]
   clear i o s;go_enter func217,ntmps217;go_wp2;go_ret;exact⟨by rw[I];rfl,E⟩
  ·have J:(a.basis==3)=false:=by simp[o]
   have I:Hid (Gr.based a=false):=by show _=_;simp[Gr.based,s.out,i,o]
   clear i o s;go_enter func217,ntmps217;go_wp2;go_ret;exact⟨by rw[I];rfl,E⟩
 have X:(a.kind==2)=false:=by simp[O]
 by_cases Q:a.kind=3
 ·have T:(a.kind==3):=by simp[Q]
  have s:=Z1 Q;clear L O Q
  by_cases i:a.basis=3
  ·have J:(a.basis==3):=by simp[i]
   have I:Hid (Gr.based a):=by show _=_;simp[Gr.based,s.out,i]
   clear i s;go_enter func217,ntmps217;go_wp2;go_ret;exact⟨by rw[I];rfl,E⟩
  ·have J:(a.basis==3)=false:=by simp[i]
   have I:Hid (Gr.based a=false):=by show _=_;simp[Gr.based,s.out,i]
   clear i s;go_enter func217,ntmps217;go_wp2;go_ret;exact⟨by rw[I];rfl,E⟩
 have a0:(a.kind==3)=false:=by simp[Q]
 have s:=Z1 (show¬ (a.kind=1∨a.kind=2)/\¬ a.kind=3 from⟨oM,Q⟩);clear L O Q
 by_cases i:a.basis=2
 ·have J:(a.basis==2):=by simp[i]
  have I:Hid (Gr.based a):=by show _=_;simp[Gr.based,s.out.1,s.out.2,i]
  clear i s;go_enter func217,ntmps217;go_wp2;go_ret;exact⟨by rw[I];rfl,E⟩
 ·have J:(a.basis==2)=false:=by simp[i]
  have I:Hid (Gr.based a=false):=by show _=_;simp[Gr.based,s.out.1,s.out.2,i]
  clear i s;go_enter func217,ntmps217;go_wp2;go_ret;exact⟨by rw[I];rfl,E⟩
theorem a6H (a:Acc):CL 105 #[a] w (Gr.based a):=by
 have E:=(VM w w).alloc lR (.cells a 113)
 by_cases L:a.kind=1
 ·have T:(a.kind==1):=by simp[L]
  have s:=Z1 L;clear L
  by_cases i:a.basis=1
  ·have J:(a.basis==1):=by simp[i]
   have I:Hid (Gr.based a):=by show _=_;simp[Gr.based,s.out,i]
   clear i s;go_enter func105,ntmps105;go_wp2;go_ret;exact⟨by rw[I];rfl,E⟩
  have S:(a.basis==1)=false:=by simp[i]
  by_cases o:a.basis=3
  ·have J:(a.basis==3):=by simp[o]
   have I:Hid (Gr.based a):=by show _=_;simp[Gr.based,s.out,o]
   clear i o s;go_enter func105,ntmps105;go_wp2;go_ret;exact⟨by rw[I];rfl,E⟩
  ·have J:(a.basis==3)=false:=by simp[o]
   have I:Hid (Gr.based a=false):=by show _=_;simp[Gr.based,s.out,i,o]
   clear i o s;go_enter func105,ntmps105;go_wp2;go_ret;exact⟨by rw[I];rfl,E⟩
 have W:(a.kind==1)=false:=by simp[L]
 by_cases O:a.kind=2
 ·have T:(a.kind==2):=by simp[O]
  have s:=Z1 O;clear L O
  by_cases i:a.basis=1
  ·have J:(a.basis==1):=by simp[i]
   have I:Hid (Gr.based a):=by show _=_;simp[Gr.based,s.out,i]
   clear i s;go_enter func105,ntmps105;go_wp2;go_ret;exact⟨by rw[I];rfl,E⟩
  have S:(a.basis==1)=false:=by simp[i]
  by_cases o:a.basis=3
  ·have J:(a.basis==3):=by simp[o]
   have I:Hid (Gr.based a):=by show _=_;simp[Gr.based,s.out,o]
   clear i o s;go_enter func105,ntmps105;go_wp2;go_ret;exact⟨by rw[I];rfl,E⟩
  ·have J:(a.basis==3)=false:=by simp[o]
   have I:Hid (Gr.based a=false):=by show _=_;simp[Gr.based,s.out,i,o]
   clear i o s;go_enter func105,ntmps105;go_wp2;go_ret;exact⟨by rw[I];rfl,E⟩
 have X:(a.kind==2)=false:=by simp[O]
 by_cases Q:a.kind=3
 ·have T:(a.kind==3):=by simp[Q]
  have s:=Z1 Q;clear L O Q
  by_cases i:a.basis=3
  ·have J:(a.basis==3):=by simp[i]
   have I:Hid (Gr.based a):=by show _=_;simp[Gr.based,s.out,i]
   clear i s;go_enter func105,ntmps105;go_wp2;go_ret;exact⟨by rw[I];rfl,E⟩
  ·have J:(a.basis==3)=false:=by simp[i]
   have I:Hid (Gr.based a=false):=by show _=_;simp[Gr.based,s.out,i]
   clear i s;go_enter func105,ntmps105;go_wp2;go_ret;exact⟨by rw[I];rfl,E⟩
 have a0:(a.kind==3)=false:=by simp[Q]
 have s:=Z1 (show¬ (a.kind=1∨a.kind=2)/\¬ a.kind=3 from⟨oM,Q⟩);clear L O Q
 by_cases i:a.basis=2
 ·have J:(a.basis==2):=by simp[i]
  have I:Hid (Gr.based a):=by show _=_;simp[Gr.based,s.out.1,s.out.2,i]
  clear i s;go_enter func105,ntmps105;go_wp2;go_ret;exact⟨by rw[I];rfl,E⟩
 ·have J:(a.basis==2)=false:=by simp[i]
  have I:Hid (Gr.based a=false):=by show _=_;simp[Gr.based,s.out.1,s.out.2,i]
  clear i s;go_enter func105,ntmps105;go_wp2;go_ret;exact⟨by rw[I];rfl,E⟩
theorem a3k (a:Acc):CL 216 #[a] w (.bool (!Gr.based a)):=by
 have i:=(VM w w).alloc lR (.cells a 113);go_enter func216,ntmps216;go_wp2_with (fail);refine(b1r _ a).mono ?_;rintro e s ⟨rfl,o⟩;go_wp2;go_ret;exact⟨rfl,i.trans (o.mono sP)⟩
theorem a3z {α:Type} {l:List α} {P:α->Bool} {k:Nat} (a:k<l.length) (h:(l.take k).all P) (i:P l[k]):(l.take (k+1)).all P:=by
 rw[tse a,Yp,h];simp[i]
theorem a3A {α:Type} {l:List α} {P:α->Bool} {k:Nat} (a:k<l.length) (i:P l[k]=false):l.all P=false:=by
 rw[Yb];exact⟨l[k],Vm a,by simp[i]⟩
theorem a6o (A:OA) (n c:Nat) (l:List Acc) (T:l.length=n) (hn:n<=100000) (h:AccsAt w w A l) :
  Calls prog 203 #[.slice A n c,.func (.func 216) #[] #[]] w fun e w'=>∃i:Int,e=.returned (.int .i64 i)/\(0<=i ↔ l.all Gr.based=false)/\Below w w w':=by
 subst T;go_enter func203,ntmps203;go_wp2
 go_loopw [8] (fun i wr=>∃k:Nat,k<=l.length/\i=k/\(l.take k).all Gr.based/\Below w w wr) (fun i _=>l.length-(intOf i).toNat)
 case atStart=>exact⟨0,Vb _,rfl,rfl,bR⟩
 case round =>
  obtain⟨k,hk,rfl,S,I⟩:=hrel;have O:=Z1 S;clear S
  by_cases E:k<l.length
  ·obtain⟨b,o,rfl,_,X,c1,c2,c3⟩:=AccsAt.four (RowsAt.below h I lR) E
   by_cases J:Gr.based l[k]
   ·have L:=Z1 (a3z E O J)
    go_wp2_with (fail);refine(a3k wr l[k]).mono ?_;rw[J];rintro e W ⟨rfl,s⟩;clear J;go_wp2;go_roundw
    case rel=>exact⟨k+1,oM,by go_num,L.out,I.trans (s.mono I.size)⟩
    case measure=>exact mS
   ·have a:Gr.based l[k]=false:=by simpa using J
    have L:=Z1 (a3A (P:=Gr.based) E a);go_wp2_with (fail);refine(a3k wr l[k]).mono ?_;rw[a];rintro e W ⟨rfl,s⟩;clear J a;go_wp2;go_ret;exact⟨_,rfl,⟨fun _=>L.out,fun _=>oM⟩,I.trans (s.mono I.size)⟩
  ·obtain rfl:k=l.length:=oM
   clear h;go_wp2;go_ret;refine⟨_,rfl,⟨fun h=>oM,fun h=>?_⟩,I⟩;have Q:=O.out;rw[Xs] at Q;rw[Q] at h;cases h
theorem a6B (A:OA) (n c:Nat) (l:List Acc) (E:l.length=n) (I:n<=100000) (h:AccsAt w w A l) :
  CL 215 #[.slice A n c,.func (.func 216) #[] #[]] w (.bool (!l.all Gr.based)):=by
 go_enter func215,ntmps215;go_wp2_with (fail);refine(a6o w A n c l E I h).mono ?_;rintro e J ⟨i,rfl,a,s⟩;have o:=Z1 a;clear a;go_wp2;go_ret;refine⟨VV ?_,s⟩;have:=o.out;rw[XX];simp[this]
theorem a4Q (a:Acc) (x:Int) (b:Nat) (o:b<w) (s:w.cell? ⟨b,0,none⟩=some (.int .i64 x)):CL 204 #[a,.pointer (some ⟨b,0,none⟩)] w (.bool (a.code==x)):=by
 have i:=(VM w w).alloc lR (.cells a 113);go_enter func204,ntmps204;go_wp2;go_ret;exact⟨rfl,i⟩
def IdxPost (l:List Acc) (x:Int) (w:World) (e:Ending) (w':World):Prop :=
 Below w w w'/\((e=.returned (.int .i64 (-1))/\Ch.find l x=none)∨∃(k:Nat) (h:k<l.length),e=.returned (.int .i64 k)/\Ch.find l x=some l[k])
theorem a7s (A:OA) (n c:Nat) (l:List Acc) (x:Int) (p:Nat) (hl:l.length=n) (hn:n<=100000) (W:p<w) (X:w.cell? ⟨p,0,none⟩=some (.int .i64 x)) (h:AccsAt w w A l) :
  Calls prog 203 #[.slice A n c,.func (.func 204) #[] #[.pointer (some ⟨p,0,none⟩)]] w (IdxPost l x w):=by
 subst hl;have Hx:=Z1 X;clear X;go_enter func203,ntmps203;go_wp2
 go_loopw [8] (fun i wr=>∃k:Nat,k<=l.length/\i=k/\Ch.find (l.take k) x=none/\Below w w wr) (fun i _=>l.length-(intOf i).toNat)
 case atStart=>exact⟨0,Vb _,rfl,rfl,bR⟩
 case round =>
  obtain⟨k,hk,rfl,T,s⟩:=hrel;have S:=Z1 T;clear T
  by_cases a:k<l.length
  ·obtain⟨b,o,rfl,_,c0,c1,c2,c3⟩:=AccsAt.four (RowsAt.below h s lR) a
   have O:p<wr:=Xg W s.size;have Q:=(s.cell (p:=⟨p,0,none⟩) W).trans Hx
   by_cases J:l[k].code=x
   ·have L:=Z1 (Ch.find_hit a S J)
    have I:(l[k].code==x):=by simp[J]
    clear J;go_wp2_with (fail);refine(a4Q wr l[k] x p O Q).mono ?_;rw[I];rintro e w4 ⟨rfl,E⟩;go_wp2;go_ret;exact⟨s.trans (E.mono s.size),.inr ⟨k,a,rfl,L.out⟩⟩
   ·have L:Hid (Ch.find (l.take (k+1)) x=none):=by show _=_;rw[Ch.find_take a S,VB J]
    have I:(l[k].code==x)=false:=by simp[J]
    clear J;go_wp2_with (fail);refine(a4Q wr l[k] x p O Q).mono ?_;rw[I];rintro e w4 ⟨rfl,E⟩;go_wp2;go_roundw
    case rel=>exact⟨k+1,oM,by go_num,L.out,s.trans (E.mono s.size)⟩
    case measure=>exact mS
  ·obtain rfl:k=l.length:=oM
   have L:Hid (Ch.find l x=none):=by show _=_;have:=S.out;rwa [Xs] at this
   clear h;go_wp2;go_ret;exact⟨s,.inl ⟨rfl,L.out⟩⟩
theorem a4r (g:Grp) (x:Int) (hg:g.At w w) :
  CL 144 #[g,x] w (.tuple #[(Ch.found g.chart x),.bool (Ch.has g.chart x)]):=by
 obtain⟨E,J,T,W,hz⟩:=a3w w g #[x] #[(),(),(),()] 29 3 113;obtain⟨W1,S⟩:=eX ((((w.alloc (.cells g 29)).alloc (.cells #[x] 3)).alloc (.cells #[(),(),(),()] 113)));rw[<- S] at E J T W hz;have HW:=Z1 S;have s:=RowsAt.at_ hg.hc E;have x4:=cr9 4 J;have y0:=cr9 0 T;simp at x4 y0;have s1:(w:Nat)<W1:=oM;have s2:(w:Nat)+1<W1:=oM;have s3:(w:Nat)+2<W1:=oM;obtain⟨a7,a8,a4⟩:=Z3 J W hg.hcl;have a9:=hg.hcn;clear S hz J T W hg;go_enter func144,ntmps144;go_upto_region 1 with(fail);rw[<- HW];go_wp2_with (fail);refine(a7s W1 g.cA g.cn g.cc g.chart x (w+1) a4 a9 s2 y0 s).mono ?_;rintro e W2 ⟨I,h⟩;have L:=E.trans (I.mono E.size);have i:=gbox a8 I s3;have a5:=Z1 i;have a0:=gbox a7 I s1;have O:=RowsAt.at_ s I;clear x4 y0
 rcases h with⟨rfl,X⟩|⟨k,hk,rfl,X⟩
 ·have HF:Hid (Ch.found g.chart x=Acc.zero):=by show _=_;simp[Ch.found,X]
  have HH:Hid (Ch.has g.chart x=false):=by show _=_;simp[Ch.has,X]
  have Ho:=Z1 (accOne 0 0 0 0);have hR:=VC W2 (w+2) _ #[(),(),(),()] _ _ i;have a:=Z1 (VW (P:=prog) _ _ _ 113 _ _ _ hR YK rfl a0F);have Q:=Z1 (below_setRow L (show(w:Nat)<=w+2 by omega) #[(),(),(),()]);clear X hR i a0 s O;go_wp2_with (refine Vz rfl 113 (.tmp 4) (.tmp 13) none rfl rfl (w+2) 113 _ #[(),(),(),()] rfl rfl a5 rfl a0F Ho ?_);exact VG (v:=.tuple #[.agg #[(),(),(),()],false]) (by simp[results,results144,asAddr,Act.put,a.out]) rfl ⟨by rw[HF,HH];rfl,Q.out⟩
 ·have HF:Hid (Ch.found g.chart x=g.chart[k]):=by show _=_;simp[Ch.found,X]
  have HH:Hid (Ch.has g.chart x):=by show _=_;simp[Ch.has,X]
  obtain⟨b,o,a6,_,c0,c1,c2,c3⟩:=AccsAt.four O hk;have x4:=cr9 4 a0;simp at x4;rw[a6] at x4;have Ho:=Z1 (accOne g.chart[k].code g.chart[k].kind g.chart[k].basis g.chart[k].parent);have hR:=VC W2 (w+2) _ (g.chart[k]) _ _ i;have a:=Z1 (VW (P:=prog) _ _ _ 113 _ _ _ hR YK rfl a0F);have Q:=Z1 (below_setRow L (show(w:Nat)<=w+2 by omega) (g.chart[k]));have ab:(k:Int)<(g.cn:Int):=by have:=a4.out;omega
  have aa:(0:Int)<=(k:Int):=oM;clear X hR i a0 s O a6;go_wp2_with (refine Vz rfl 113 (.tmp 4) (.tmp 18) none rfl rfl (w+2) 113 _ (g.chart[k]) rfl rfl a5 rfl a0F Ho ?_);exact VG (v:=.tuple #[(g.chart[k]),true]) (by simp[results,results144,asAddr,Act.put,a.out]) rfl ⟨by rw[HF,HH],Q.out⟩
theorem a6N (g:Grp) (x:Int) (Q:g.At w w) :
  CL 107 #[g,x] w (.tuple #[(Ch.found g.chart x),.bool (Ch.has g.chart x)]):=by
 obtain⟨W1,J,a,L,O,hz⟩:=nw2 w g #[(),(),(),()] 29 113;have HW:=Z1 J;have s:=RowsAt.at_ Q.hc a;have x4:=cr9 4 L;simp at x4;have s2:(w:Nat)+1<W1:=oM;have S:=Z1 O;have T:=Z1 Q.hcl;have a0:=Q.hcn;clear J hz L O Q;go_enter func107,ntmps107;go_upto_region 1 with(fail);rw[<- HW];go_wp2_with (fail);refine(a1u W1 g.cA g.cn g.cc g.chart x T a0 s).mono ?_;rintro e W2 ⟨rfl,I⟩;have E:=a.trans (I.mono a.size);have i:=gbox S I s2;have W:=Z1 i;obtain⟨q,hq⟩:=eX (Ch.found g.chart x);rw[<- hq];have Hq:=Z1 hq;have Ho:=Z1 (accOne q.code q.kind q.basis q.parent);have hR:=VC W2 (w+1) _ q _ _ i;have o:=Z1 (VW (P:=prog) _ _ _ 113 _ _ _ hR YK rfl a0F);have X:=Z1 (below_setRow E (show(w:Nat)<=w+1 by omega) q);clear x4 i hR hq s;go_wp2_with (refine Vz rfl 113 (.tmp 4) (.tmp 10) none rfl rfl (w+1) 113 _ q rfl rfl W rfl a0F Ho ?_);exact VG (v:=.tuple #[q,.bool (Ch.has g.chart x)]) (by simp[results,results107,asAddr,Act.put,o.out]) rfl ⟨by rw[Hq],X.out⟩
abbrev RolesAt:=RowsAt Role.cells 5
theorem RolesAt.five {w:World} {B:Nat} {A:OA} {l:List Role} (h:RolesAt w B A l) {k:Nat} (s:k<l.length):∃b o,A=some ⟨b,o,none⟩/\b<B/\w.cell? ⟨b,o+k*5,none⟩=some (.string l[k].name)/\w.cell? ⟨b,o+k*5+1,none⟩=some (.int .i64 l[k].code)/\w.cell? ⟨b,o+k*5+2,none⟩=some (.int .i64 l[k].kind)/\w.cell? ⟨b,o+k*5+3,none⟩=some (.int .i64 l[k].basis)/\w.cell? ⟨b,o+k*5+4,none⟩=some (.bool l[k].mapped):=by
 obtain⟨b,o,e,i,a⟩:=RowsAt.look h s;exact⟨b,o,e,i,a 0 _ rfl,a 1 _ rfl,a 2 _ rfl,a 3 _ rfl,a 4 _ rfl⟩
theorem a2H (g:Grp):(Gr.roles g).length=15:=rfl
theorem a9Z {l:List Role} {i:Nat} (h:i<l.length):Gr.rat l i=l[i]:=by simp[Gr.rat,h]
theorem a5E {l:List Role} {k:Nat} {x:Int}:(l.take k).any (fun y=>decide (y.code=x))=decide (x∈(l.take k).map Role.code):=by
 rw[XX,YY,Xm,Yg]
 constructor
 ·rintro⟨y,a,i⟩;exact⟨y,a,by simpa using i⟩
 ·rintro⟨y,a,i⟩;exact⟨y,a,by simpa using i⟩
theorem a1H {w:World} {b:Nat} {g:Grp} {t:TypeId} {o:Nat × Nat} (h:w.heap[b]?=some (.cells g t o)):w.rangeAt b 5 [g.r0,g.r1,g.r2,g.r3,g.r4,g.r5,g.r6,g.r7,g.r8,g.r9,g.r10,g.r11,g.r12,g.r13,g.r14]:=by
 intro j v a;rw[cr9 _ h];have i:=(List.getElem?_eq_some_iff.1 a).1;simp at i
 match j,i with
 |0,_=>simpa using a
 |1,_=>simpa using a
 |2,_=>simpa using a
 |3,_=>simpa using a
 |4,_=>simpa using a
 |5,_=>simpa using a
 |6,_=>simpa using a
 |7,_=>simpa using a
 |8,_=>simpa using a
 |9,_=>simpa using a
 |10,_=>simpa using a
 |11,_=>simpa using a
 |12,_=>simpa using a
 |13,_=>simpa using a
 |14,_=>simpa using a
theorem b3r (g:Grp) (hg:g.At w w) :
  CL 163 #[g] w (Gr.accounts g):=by
 obtain⟨W1,bh,ax,b2,hz⟩:=nw1 w g 29;have HW:=Z1 bh;have ad:=RowsAt.at_ hg.hc ax;have x4:=cr9 4 b2;simp at x4;have s1:w.heap.size<W1.heap.size:=oM;have bq:=Z1 b2;have aq:=Z1 hg.hcl;have b4:=hg.hcn;have bt:=Z1 hg.hcw;have Hr:=Z1 hg.hr;have cf:=@ZS prog;clear bh hz b2 hg;go_enter func163,ntmps163;go_upto_region 1 with(fail);rw[<- HW.out];go_wp2_with (fail);refine(a2V W1 g.cA g.cn g.cc g.chart true aq.out b4 bt.out ad).mono ?_;rintro e W2 ⟨rfl,ay⟩;have a4:=ax.trans (ay.mono ax.size);have a6:=gbox bq.out ay s1;have ae:=RowsAt.at_ ad ay;clear x4
 by_cases h1:Ch.valid true g.chart=true
 case neg =>
  have au:Ch.valid true g.chart=false:=by simpa using h1
  have HV:Hid (Gr.accounts g=false):=by show _=_;rw[Gr.accounts,au];simp
  rw[au];clear h1 au a6 ad ae;go_wp2;go_ret;exact⟨by rw[HV.out];rfl,a4⟩
 have x4:=cr9 4 a6;simp at x4;have s2:w.heap.size<W2.heap.size:=Vq a6;have br:=Z1 a6;have H1:=Z1 h1;rw[h1];clear h1 a6;go_wp2_with (fail);refine(a6B W2 g.cA g.cn g.cc g.chart aq.out b4 ae).mono ?_;rintro e W3 ⟨rfl,az⟩;have J:=a4.trans (az.mono a4.size);have a7:=gbox br.out az s2;have aw:=RowsAt.at_ ae az;clear x4 ad ae
 by_cases h2:g.chart.all Gr.based=true
 case neg =>
  have av:g.chart.all Gr.based=false:=by simpa using h2
  have HV:Hid (Gr.accounts g=false):=by show _=_;rw[Gr.accounts,av];simp
  rw[av];clear h2 av a7 aw;go_wp2;go_ret;exact⟨by rw[HV.out];rfl,J⟩
 have HV:Hid (Gr.accounts g=(List.range (Gr.roles g).length).all (Gr.roleAt g.chart (Gr.roles g))):=by show _=_;rw[Gr.accounts,H1.out,h2];rfl
 rw[h2];have s3:w.heap.size<W3.heap.size:=Vq a7;have ai:=(VD W3 (.map #[] 0) _ s3).trans a7;have S:=Z1 (SetAt.made W3);obtain⟨W4,ah⟩:=eX (W3.alloc (.map #[] 0));have cq:W4.heap.size=W3.heap.size+1:=by rw[ah];simp
 rw[<- ah] at ai S;obtain⟨bc,_,aa,bs,bm⟩:=Z5 ah ai (a1H ai) a7 aw;clear h2 a7 aw ah ai;go_upto_region 4 with(fail);rw[<- bc.out];go_wp2_with (refine VH rfl 26 (.tmp 18) rfl w.heap.size 5 rfl [g.r0,g.r1,g.r2,g.r3,g.r4,g.r5,g.r6,g.r7,g.r8,g.r9,g.r10,g.r11,g.r12,g.r13,g.r14] _ aa.out K8 rfl a1E ?_);refine(a4E W4 g).mono ?_;rintro e W5 ⟨bg,rb,rfl,cp,Q⟩;have b9:=Z1 (S.out.below bg S.out.lt);have b8:=a2H g;obtain⟨L,hL⟩:=eX (Gr.roles g);rw[<- hL] at b8 Q HV;have bv:Hid (∀r∈L,(Lit.int .i64 r.code).wf=true):=by show∀r∈L,_;rw[hL];exact Hr.out
 have HR:=Z1 Q;have bi:=Z1 ((show Below W3 W3 W4 by rw[bc.out];exact bR.alloc lR _).trans (bg.mono oM));have cj:W3.heap.size<rb:=oM;have be:=Z1 b8;clear hL Q b8 aa;go_wp2
 go_loopw [22] (fun i wr=>∃k:Nat,k<=15/\i=k/\(List.range k).all (Gr.roleAt g.chart L)=true/\SetAt wr W3 ((L.take k).map Role.code)/\RolesAt wr wr (some ⟨rb,0,none⟩) L/\Below W3 W3 wr) (fun i _=>15-(intOf i).toNat)
 case atStart=>exact⟨0,Vb _,rfl,rfl,b9.out,HR.out,bi.out⟩
 case round =>
  obtain⟨k,hk,rfl,ao,ab,aa,ak⟩:=hrel;have bb:=Z1 aa;have am:=Z1 ao;have hq:=ak.size;have cc:=J.trans (ak.mono J.size);clear ao cf aa
  by_cases co:k<15
  ·have a8:k<L.length:=by have:=be.out;omega
   obtain⟨b,o,c9,ck,c0,c1,c2,c3,c4⟩:=RolesAt.five bb.out a8
   cases c9
   have cn:rb<wr.heap.size:=oM;obtain⟨af,a9,ch⟩:=a0I wr (L[k]) 291;have b3:=gbox bs.out ak s3;have W:=gbox b3 af (Vq b3);have I:=ab.alloc (.cells (L[k]) 291);obtain⟨Wa,b0⟩:=eX ((wr.alloc (.cells (L[k]) 291)));rw[<- b0] at af a9 ch W I;have bo:=Z1 b0;have X:=ak.trans (af.mono hq);have bf:=RowsAt.below bm.out X lR;have an:=RowsAt.more bf X.size;obtain⟨a0,bw,_⟩:=Z3 (a9Z a8) a9 W;have ba:=bv.out _ (Vm a8);simp only[VN] at c0 c1 c2 c3 c4;clear b0 b3 ab;go_upto_region 7 with(fail);rw[<- bo.out];have y1:=cr9 1 a9;have x4:=cr9 4 W;simp at y1 x4;have t1:wr.heap.size<Wa.heap.size:=Vq a9;clear c0 c1 c2 c3 c4 a9 W bf;go_wp2_with (fail);refine(a0Q Wa g.cA g.cn g.cc g.chart L[k].code aq.out b4 an).mono ?_;rintro e Wb ⟨rfl,a5⟩;obtain⟨q,b6⟩:=eX (Ch.found g.chart L[k].code);rw[<- b6];have Hq:=Z1 b6;obtain⟨ag,al,ci⟩:=a0I Wb q 113;have b7:=gbox bw.out a5 t1;have O:=gbox b7 ag (Vq b7);have a:=(I.below a5 I.lt).alloc (.cells q 113);have aj:=(X.trans (a5.mono X.size)).trans (ag.mono (X.trans (a5.mono X.size)).size);obtain⟨Wc,b1⟩:=eX ((Wb.alloc (.cells q 113)));rw[<- b1] at ag al ci O a aj;have bp:=Z1 b1;have ca:=Z1 (RowsAt.at_ (RowsAt.at_ (RowsAt.at_ bb.out af) a5) ag);have b5:=a.look L[k].code ba;have T:=J.trans (aj.mono J.size);clear y1 x4 b6 b1 b7 I;go_upto_region 8 with(fail);rw[<- bp.out];have y1:=cr9 1 O;have y2:=cr9 2 O;have y3:=cr9 3 O;have q1:=cr9 1 al;have q2:=cr9 2 al;simp at y1 y2 y3 q1 q2;have c6:=Z1 ba;have s:Gr.roleAt g.chart L k=false->Hid (Gr.accounts g=false):=fun h=>Z1 (by rw[HV.out];exact Ch.all_not a8 h);clear O al an ba
   by_cases g1:Ch.has g.chart L[k].code=true
   case neg =>
    have ar:Ch.has g.chart L[k].code=false:=by simpa using g1
    have E:=s (by rw[Gr.roleAt,a0.out,ar];rfl);rw[ar];clear g1 ar s a b5;go_wp2;go_ret;exact⟨by rw[E.out];rfl,T⟩
   by_cases g2:L[k].code∈(L.take k).map Role.code
   case pos =>
    have gd:decide (L[k].code∈(L.take k).map Role.code)=true:=VT g2;rw[gd] at b5;have E:=s (by rw[Gr.roleAt,a0.out,a5E,gd];simp);rw[g1];clear g1 g2 gd s a;go_wp2;go_ret;exact⟨by rw[E.out];rfl,T⟩
   have gd:decide (L[k].code∈(L.take k).map Role.code)=false:=Vr g2;rw[gd] at b5;have Gd:=Z1 gd;clear g2 gd
   by_cases g3:q.kind=L[k].kind
   case neg =>
    have c7:(q.kind != L[k].kind)=true:=by simp[g3]
    have E:=s (by rw[Gr.roleAt,a0.out,<- Hq.out,Vr g3];simp);rw[g1];clear g1 g3 s a;go_wp2;go_ret;exact⟨by rw[E.out];rfl,T⟩
   have c7:(q.kind != L[k].kind)=false:=by simp[g3]
   by_cases g4:q.basis=L[k].basis
   case neg =>
    have c8:(q.basis != L[k].basis)=true:=by simp[g4]
    have E:=s (by rw[Gr.roleAt,a0.out,<- Hq.out,Vr g4];simp);rw[g1];clear g1 g3 g4 s a;go_wp2;go_ret;exact⟨by rw[E.out];rfl,T⟩
   have c8:(q.basis != L[k].basis)=false:=by simp[g4]
   have ap:=Z1 (Gr.range_all am.out (show Gr.roleAt g.chart L k=true by rw[Gr.roleAt,a0.out,a5E,Gd.out,g1,<- Hq.out,VT g3,VT g4];rfl));rw[g1];obtain⟨f,cd,bj⟩:=a;have bl:=Qj (P:=prog) YM c6.out;have bu:=Z1 (a7K bj L[k].code);have bz:Hid (((L.take k).map Role.code).length=k):=by show _=_;rw[Xt,XF];omega
   have cg:=aj.size;have c5:Hid (((L.take k).map Role.code).length<maxLen):=by show _<_;rw[bz.out];unfold maxLen;omega
   clear g1 g3 g4 s bj;go_wp2_with (at_mapUpdate;refine Xv rfl _ _ _ rfl cd intLaw JQ rfl c5.out _ _ _ rfl rfl bl ?_;intro w7 ce bk);have cb:=aj.grown bk cg (fun j e=>by cases e;exact lR)
   have ac:SetAt w7 W3 ((L.take (k+1)).map Role.code):=by
    rw[tse a8,Xn];exact⟨_,by rw[Vc];exact ce,bu.out⟩
   have bx:=Z1 ac;have bn:=Z1 (RowsAt.kept ca.out bk (fun b o e=>by cases e;intro e2;cases e2;omega));clear ac;go_roundw
   case rel=>exact⟨k+1,oM,by go_num,ap.out,bx.out,bn.out,cb⟩
   case measure=>exact mS
  ·obtain rfl:k=15:=oM
   have E:Hid (Gr.accounts g=true):=by show _=_;rw[HV.out,be.out];exact am.out
   clear ab;go_wp2;go_ret;exact⟨by rw[E.out];rfl,cc⟩
def closedOf (l:List Role) (x:Int):Option Bool:=(l.reverse.find? (fun r=>decide (r.code=x))).map (fun r=>!r.mapped)
theorem a2O (l:List Role) (r:Role) (x:Int):closedOf (l++[r]) x=if r.code=x then some (!r.mapped) else closedOf l x:=by
 unfold closedOf;rw[List.reverse_append,Qk,List.reverse_nil,Xr,Kc,List.find?_cons]
 by_cases h:r.code=x
 ·simp[h]
 ·simp[h]
def Distinct (l:List Role):Prop:=∀k (h:k<l.length),l[k].code ∉ (l.take k).map Role.code
theorem a4Y:∀(n:Nat) (l:List Role),Distinct l->n<=l.length->∀x,(closedOf (l.take n) x).getD false=(l.take n).any (fun y=>decide (y.code=x)&&!y.mapped)
 |0,l,_,_,x=>by simp[closedOf]
 |n+1,l,hd,hn,x=>by
  have o:=a4Y n l hd oM x;rw[tse oM,a2O,YD]
  by_cases h:(l[n]' oM).code=x
  ·have a:(l.take n).any (fun y=>decide (y.code=x)&&!y.mapped)=false:=by
    rw[Z9];intro y i;have:y.code≠x:=fun e=>hd n oM (by rw[h,<- e];exact List.mem_map_of_mem i);simp[this]
   rw[a];simp[h]
  ·rw[VB h,o];simp[h]
theorem a3g {g:Grp} (h:Gr.accounts g):Distinct (Gr.roles g):=by
 intro k a;unfold Gr.accounts at h;simp only[Vp] at h;have:=Xb.1 h.2 k (XK.2 a);unfold Gr.roleAt at this;simp only[Vp] at this;rw[a9Z a,a5E] at this;simpa using this.2
def ClosedAt (w:World) (b:Nat) (l:List Role) (k:Nat):Prop :=
 ∃f,MapAt w prog 3 b k f/\∀x,f (.int .i64 x)=(closedOf (l.take k) x).map Value.bool
section
variable {w w':World} {b B:Nat} {l:List Role} {k:Nat}
theorem ClosedAt.lt (h:ClosedAt w b l k):b<w:=by obtain⟨f,h,_⟩:=h;exact h.lt
theorem ClosedAt.below (h:ClosedAt w b l k) (i:Below B w w') (a:b<B):ClosedAt w' b l k:=by obtain⟨f,h,r⟩:=h;exact⟨f,h.below i a,r⟩
theorem ClosedAt.alloc (h:ClosedAt w b l k) (o:Obj):ClosedAt (w.alloc o) b l k:=by obtain⟨f,h,r⟩:=h;exact⟨f,h.alloc o,r⟩
theorem ClosedAt.made (w:World) (l:List Role):ClosedAt (w.alloc (.map #[] 0)) w l 0:=⟨_,MapAt.made w _ _,fun x=>by simp[closedOf]⟩
open Go.Maps in
theorem ClosedAt.look (h:ClosedAt w b l k) (x:Int) (o:(Lit.int .i64 x).wf):(Instr.lookup 209 (.map (some b)) (.int .i64 x) false).run prog w=.ok (.bool ((closedOf (l.take k) x).getD false)) w:=by
 obtain⟨f,i,a⟩:=h;have s:(zeroValue 4).run prog w=.ok (.bool false) w:=kR;rw[i.lookup intLaw JQ s (keyOf_int_mk YM o),a]
 cases closedOf (l.take k) x <;> rfl
open Classical in
theorem a7C {f:Value->Option Value} (i:k<l.length) (a:∀x,f (.int .i64 x)=(closedOf (l.take k) x).map Value.bool) :
  ∀x,(fun v=>if v=.int .i64 l[k].code then some (Value.bool (!l[k].mapped)) else f v) (.int .i64 x)=(closedOf (l.take (k+1)) x).map Value.bool:=by
 intro x;show(if _ then _ else f _)=_;rw[tse i,a2O]
 by_cases h:l[k].code=x
 ·rw[Vt (by rw[h]),Vt h];rfl
 ·rw[VB (by simp;exact fun e=>h e.symm),VB h,a]
end
theorem a4m (x:Lnk) (p m:Nat) (l:List Role) (s:Distinct l) (J:(Lit.int .i64 x.to).wf) (L:p<w) (I:w.cell? ⟨p,0,none⟩=some (.map (some m))) (E:ClosedAt w m l l.length) :
  CL 222 #[x,.pointer (some ⟨p,0,none⟩)] w (.bool (!Gr.openTo l x)):=by
 have i:=(VM w w).alloc lR (.cells x 115);have a:=(E.alloc (.cells x 115)).look x.to J;have o:=a4Y l.length l s lR x.to;rw[Xs] at a o;rw[o] at a;clear o;go_enter func222,ntmps222;go_wp2;go_ret;exact⟨by rw[Gr.openTo,Bool.not_not];rfl,i⟩
theorem a5u (A:OA) (n c:Nat) (a:List Lnk) (p m:Nat) (l:List Role) (hl:a.length=n) (hn:n<=100000) (hw:∀x∈a,x.wf) (hd:Distinct l) (hp:p<w) (S:w.cell? ⟨p,0,none⟩=some (.map (some m))) (hm:ClosedAt w m l l.length) (h:LnksAt w w A a) :
  Calls prog 260 #[.slice A n c,.func (.func 222) #[] #[.pointer (some ⟨p,0,none⟩)]] w fun e w'=>∃i:Int,e=.returned (.int .i64 i)/\(0<=i ↔ a.all (Gr.openTo l)=false)/\Below w w w':=by
 subst hl;obtain⟨X,Hw,Hm⟩:=Z3 S hw hm;have a0:=hm.lt;clear S hw hm;go_enter func260,ntmps260;go_wp2
 go_loopw [8] (fun i wr=>∃k:Nat,k<=a.length/\i=k/\(a.take k).all (Gr.openTo l)/\Below w w wr) (fun i _=>a.length-(intOf i).toNat)
 case atStart=>exact⟨0,Vb _,rfl,rfl,bR⟩
 case round =>
  obtain⟨k,hk,rfl,ha,s⟩:=hrel;have Ha:=Z1 ha;clear ha
  by_cases E:k<a.length
  ·obtain⟨b,o,rfl,_,c0,c1,c2⟩:=LnksAt.three (RowsAt.below h s lR) E
   have T:p<wr:=Xg hp s.size;have I:=(s.cell (p:=⟨p,0,none⟩) hp).trans X;have Q:=Hm.out.below s a0;have W:=(Hw _ (Vm E)).2.1
   by_cases O:Gr.openTo l a[k]
   ·have hf:=Z1 (a3z E Ha O)
    go_wp2_with (fail);refine(a4m wr a[k] p m l hd W T I Q).mono ?_;rw[O];rintro e w4 ⟨rfl,L⟩;clear O I;go_wp2;go_roundw
    case rel=>exact⟨k+1,oM,by go_num,hf.out,s.trans (L.mono s.size)⟩
    case measure=>exact mS
   ·have J:Gr.openTo l a[k]=false:=by simpa using O
    have hf:=Z1 (a3A (P:=Gr.openTo l) E J);go_wp2_with (fail);refine(a4m wr a[k] p m l hd W T I Q).mono ?_;rw[J];rintro e w4 ⟨rfl,L⟩;clear O J I;go_wp2;go_ret;exact⟨_,rfl,⟨fun _=>hf.out,fun _=>oM⟩,s.trans (L.mono s.size)⟩
  ·obtain rfl:k=a.length:=oM
   clear h;go_wp2;go_ret;refine⟨_,rfl,⟨fun h=>oM,fun h=>?_⟩,s⟩;have h':=Ha.out;rw[Xs] at h';rw[h'] at h;cases h
theorem a5B (A:OA) (n c:Nat) (o:List Lnk) (p m:Nat) (l:List Role) (O:o.length=n) (S:n<=100000) (W:∀x∈o,x.wf) (L:Distinct l) (T:p<w) (a:w.cell? ⟨p,0,none⟩=some (.map (some m))) (Q:ClosedAt w m l l.length) (h:LnksAt w w A o) :
  CL 221 #[.slice A n c,.func (.func 222) #[] #[.pointer (some ⟨p,0,none⟩)]] w (.bool (!o.all (Gr.openTo l))):=by
 have s:=Z1 a;clear a;go_enter func221,ntmps221;go_wp2_with (fail);refine(a5u w A n c o p m l O S W L T s Q h).mono ?_;rintro e X ⟨i,rfl,E,J⟩;have I:=Z1 E;clear E;go_wp2;go_ret;refine⟨VV ?_,J⟩;have:=I.out;rw[XX];simp[this]
theorem b2U (g:Grp) (x:Ent) (hg:g.At w w) (hx:x.At w w) (b3:Gr.accounts g) :
  CL 164 #[g,x] w (Gr.entity g x):=by
 obtain⟨W1,b2,J,ak,s,hz⟩:=nw2 w g x 29 81;have HW:=Z1 b2;have S:=RowsAt.at_ hg.hc J;have Q:=hx.at_ J;have x4:=cr9 4 ak;have y0:=cr9 0 s;have y1:=cr9 1 s;have y2:=cr9 2 s;have y3:=cr9 3 s;have y4:=cr9 4 s;simp at x4 y0 y1 y2 y3 y4;have s1:(w:Nat)<W1:=oM;have c7:(w:Nat)+1<W1:=oM;obtain⟨bg,bh,bi⟩:=Z3 ak s hg.hcl;have bv:=hg.hcn;obtain⟨bk,Hr,bn,bj,Hd⟩:=Z5 hg.hcw hg.hr hx.hn hx.hu (a3g b3);have bz:=@ZS prog;clear b2 hz ak s hg hx b3;go_enter func164,ntmps164;go_upto_region 1 with(fail);rw[<- HW];go_wp2_with (fail);refine(b0q W1 x.name bn).mono ?_;rintro e W2 ⟨rfl,rfl⟩
 by_cases h1:Gr.isName x.name
 case neg =>
  have af:Gr.isName x.name=false:=by simpa using h1
  have HV:Hid (Gr.entity g x=false):=by show _=_;rw[Gr.entity,af];rfl
  rw[af];clear h1 af S Q;go_wp2;go_ret;exact⟨by rw[HV];rfl,J⟩
 have H1:=Z1 h1;rw[h1];clear h1;go_wp2_with (fail);refine(a8h W1 x.cur bj).mono ?_;rintro e W2 ⟨rfl,rfl⟩
 by_cases h2:Gr.isCur x.cur
 case neg =>
  have ag:Gr.isCur x.cur=false:=by simpa using h2
  have HV:Hid (Gr.entity g x=false):=by show _=_;rw[Gr.entity,ag];simp
  rw[ag];clear h2 ag S Q;go_wp2;go_ret;exact⟨by rw[HV];rfl,J⟩
 have H2:=Z1 h2;rw[h2];clear h2;go_wp2_with (fail);refine(b2w W1 x g.cA g.cn g.cc g.chart bi bv bk Q S).mono ?_;rintro e W3 ⟨rfl,a9⟩;have T:=J.trans (a9.mono J.size);have W:=gbox bg a9 s1;have am:=gbox bh a9 c7;have aq:=Q.at_ a9
 by_cases h3:Gr.mapping x.chart g.chart x.links
 case neg =>
  have ah:Gr.mapping x.chart g.chart x.links=false:=by simpa using h3
  have HV:Hid (Gr.entity g x=false):=by show _=_;rw[Gr.entity,ah];simp
  rw[ah];clear h3 ah S Q x4 y0 y1 y2 y3 y4 aq W am;go_wp2;go_ret;exact⟨by rw[HV];rfl,T⟩
 have HV:Hid (Gr.entity g x=x.links.all (Gr.openTo (Gr.roles g))):=by show _=_;rw[Gr.entity,H1,H2,h3];rfl
 rw[h3];have s3:(w:Nat)<W3:=Vq W;obtain⟨W4,O⟩:=eX ((W3.alloc (.map #[] 0)).alloc (.cells #[.map (some W3)] 209));have cd:(W4:Nat)=W3+2:=by rw[O];simp
 have b1:Below W3 W3 W4:=by rw[O];exact(bR.alloc lR _).alloc sP _
 have ad:ClosedAt W4 W3 (Gr.roles g) 0:=by rw[O];exact(ClosedAt.made W3 _).alloc _
 have ae:W4.heap[W3.heap.size+1]?=some (.cells #[.map (some W3)] 209 (0,0)):=by
  rw[O];have:=Vh (W3.alloc (.map #[] 0)) (.cells #[.map (some W3)] 209)
  rwa [show(W3.alloc (.map #[] 0)).heap.size=W3.heap.size+1 by simp] at this
 have al:=gbox W b1 s3;have be:=Z1 O;have a4:=Z1 (a1H al);obtain⟨ac,ax,_,_,av,bb,bq⟩:=Z7 ad ae al W am b1 aq;clear h3 x4 y0 y1 y2 y3 y4 O al W am ad ae S Q aq;go_upto_region 4 with(fail);rw[<- be];go_wp2_with (refine VH rfl 26 (.tmp 26) rfl w.heap.size 5 rfl [g.r0,g.r1,g.r2,g.r3,g.r4,g.r5,g.r6,g.r7,g.r8,g.r9,g.r10,g.r11,g.r12,g.r13,g.r14] _ a4.out K8 rfl a1E ?_);refine(a4E W4 g).mono ?_;rintro e W5 ⟨ai,rb,rfl,cc,E⟩;have ap:=a2H g;obtain⟨L,hL⟩:=eX (Gr.roles g);have bo:Hid (∀r∈L,(Lit.int .i64 r.code).wf):=by show∀r∈L,_;rw[hL];exact Hr
 have bl:Hid (Distinct L):=by show Distinct L;rw[hL];exact Hd
 have a0:=ac.out.below ai ac.lt;rw[<- hL] at ap E HV a0;obtain⟨au,HR,b0⟩:=Z3 a0 E ap;have b4:=bT bb ai;have ay:=gS ax ai;have c8:W3+1<rb:=oM;clear hL E ap a0 a4;go_wp2
 go_loopw [30] (fun i wr=>∃k:Nat,k<=15/\i=k/\ClosedAt wr W3 L k/\RolesAt wr wr (some ⟨rb,0,none⟩) L/\wr.heap[W3.heap.size+1]?=some (.cells #[.map (some W3)] 209 (0,0))/\Below W3 W3 wr) (fun i _=>15-(intOf i).toNat)
 case atStart=>exact⟨0,Vb _,rfl,au,HR,ay,b4.out⟩
 case round =>
  obtain⟨k,hk,rfl,I,a4,b9,X⟩:=hrel;have ar:=Z1 a4;have a8:=Z1 b9;have hq:=X.size;have b5:=T.trans (X.mono T.size);clear bz a4 b9
  by_cases cb:k<15
  ·have ao:k<L.length:=by have:=b0.out;omega
   obtain⟨b,o,br,c9,c0,c1,c2,c3,c4⟩:=RolesAt.five ar ao
   cases br
   have ca:rb<wr:=oM;obtain⟨aa,ab,c6⟩:=a0I wr (L[k]) 291;have a6:=I.alloc (.cells (L[k]) 291);have a:=gbox a8 aa (Vq a8);obtain⟨Wa,aj⟩:=eX ((wr.alloc (.cells (L[k]) 291)));rw[<- aj] at aa ab c6 a6 a;have bf:=Z1 aj;have b6:=X.trans (aa.mono hq);have ba:=bo.out _ (Vm ao);simp only[VN] at c0 c1 c2 c3 c4;have bt:=Z1 (RowsAt.at_ ar aa);clear aj I;go_upto_region 7 with(fail);rw[<- bf];have y1:=cr9 1 ab;have y4:=cr9 4 ab;have m0:=cr9 0 a;simp at y1 y4 m0;have t2:(W3:Nat)+1<Wa:=Vq a;obtain⟨f,bw,b7⟩:=a6;have b8:=Qj (P:=prog) YM ba;have bm:=Z1 (a7C ao b7);have aw:=Z1 a;have c5:=b6.size;clear c0 c1 c2 c3 c4 ab b7 a ba;go_wp2_with (at_mapUpdate;refine Xv rfl _ _ _ rfl bw intLaw JQ rfl (by unfold maxLen;omega) _ _ _ rfl rfl b8 ?_;intro w7 bx an);have bu:=b6.grown an c5 (fun j e=>by cases e;exact lR);have bc:=Z1 (RowsAt.kept bt.out an (fun b o e=>by cases e;intro e2;cases e2;omega));have az:=Z1 ((an.block (W3+1) t2 (fun e=>by simp at e)).trans aw);have bp:Hid (ClosedAt w7 W3 L (k+1)):=⟨_,bx,bm⟩;go_roundw
   case rel=>exact⟨k+1,oM,by go_num,bp,bc,az,bu⟩
   case measure=>exact mS
  ·obtain rfl:k=15:=oM
   have he:=gbox av X (Vq av);have y3:=cr9 3 he;have m0:=cr9 0 a8;simp at y3;simp at m0;have t2:(W3:Nat)+1<wr:=Vq a8;have a7:=(bq.below X lR).more hq;have a5:ClosedAt wr W3 L L.length:=by rw[b0];exact I
   have M0:=Z1 m0;clear he I m0;go_wp2_with (fail);refine(a5B wr x.lA x.ln x.lc x.links (W3+1) W3 L a7.hll a7.hln a7.hlw bl t2 M0.out a5 a7.hl).mono ?_;rintro e W8 ⟨rfl,bs⟩;clear a7 a5;go_wp2;go_ret;exact⟨by rw[HV];rfl,b5.trans (bs.mono b5.size)⟩
theorem Vv {P:Program} {s:Array Oper} {i:List Oper} {E:Oper} {a:Act} {w:World} {Q:Exit->Act->World->Prop} (X:Region.wanted E (yielded s a.tmps)) (I:TypeId) (x:Operand) (T:E.op=.load I x)
  (b o:Nat) (hx:a.eval x=.pointer (some ⟨b,o,none⟩)) (cs:List Value) (d:TypeDesc) (L:w.rangeAt b o cs)
  (W:P.underlying I=some d) (O:d.isRow) (S:(P.info? I).map (·.size)=some cs.length)
  (h:wpList P s Q i (a.put E.dst (.agg cs.toArray)) w):wpList P s Q (E::i) a w :=
 BigFrame.wpList_want X fun _ J=>Qb I x T b o hx cs d L W O S (J _ _ h)
open Go.Maps in
theorem strLaw:Maps.Keyed prog 9:=string_keyed Qh
def SeenN (w:World) (b:Nat) (l:List Ent) (k:Nat):Prop :=
 ∃f,MapAt w prog 9 b k f/\∀s,f (.string s)=if(l.take k).any (fun y=>decide (y.name=s)) then some (.bool true) else none
section
variable {w w':World} {b B:Nat} {l:List Ent} {k:Nat}
theorem SeenN.lt (h:SeenN w b l k):b<w:=by obtain⟨f,h,_⟩:=h;exact h.lt
theorem SeenN.below (h:SeenN w b l k) (i:Below B w w') (a:b<B):SeenN w' b l k:=by obtain⟨f,h,r⟩:=h;exact⟨f,h.below i a,r⟩
theorem SeenN.alloc (h:SeenN w b l k) (o:Obj):SeenN (w.alloc o) b l k:=by obtain⟨f,h,r⟩:=h;exact⟨f,h.alloc o,r⟩
theorem SeenN.made (w:World) (l:List Ent):SeenN (w.alloc (.map #[] 0)) w l 0:=⟨_,MapAt.made w _ _,fun x=>sP⟩
open Go.Maps in
theorem SeenN.look (h:SeenN w b l k) (s:BA) (o:s.size<=maxLen):(Instr.lookup 243 (.map (some b)) (.string s) false).run prog w=.ok (.bool ((l.take k).any (fun y=>decide (y.name=s)))) w:=by
 obtain⟨f,i,a⟩:=h;have E:(zeroValue 4).run prog w=.ok (.bool false) w:=kR;rw[i.lookup strLaw underlying243 E (Qp Qh o),a]
 cases(l.take k).any (fun y=>decide (y.name=s)) <;> rfl
open Classical in
theorem a8v {f:Value->Option Value} (i:k<l.length) (a:∀s,f (.string s)=if(l.take k).any (fun y=>decide (y.name=s)) then some (.bool true) else none) :
  ∀s,(fun v=>if v=.string l[k].name then some (Value.bool true) else f v) (.string s)=if(l.take (k+1)).any (fun y=>decide (y.name=s)) then some (.bool true) else none:=by
 intro s;show(if _ then _ else f _)=_;rw[tse i,YD]
 by_cases h:l[k].name=s
 ·rw[Vt (by rw[h]),Vt (by simp[h])]
 ·rw[VB (by simp;exact fun e=>h e.symm),a];simp[h]
end
abbrev EntsAt:=RowsAt Ent.cells 5
theorem EntsAt.five {w:World} {B:Nat} {A:OA} {l:List Ent} (h:EntsAt w B A l) {k:Nat} (s:k<l.length):∃b o,A=some ⟨b,o,none⟩/\b<B/\w.cell? ⟨b,o+k*5,none⟩=some (.string l[k].name)/\w.cell? ⟨b,o+k*5+1,none⟩=some (.string l[k].cur)/\w.cell? ⟨b,o+k*5+2,none⟩=some (.slice l[k].cA l[k].cn l[k].cc)/\w.cell? ⟨b,o+k*5+3,none⟩=some (.slice l[k].lA l[k].ln l[k].lc)/\w.cell? ⟨b,o+k*5+4,none⟩=some (.bool l[k].joint):=by
 obtain⟨b,o,e,i,a⟩:=RowsAt.look h s;exact⟨b,o,e,i,a 0 _ rfl,a 1 _ rfl,a 2 _ rfl,a 3 _ rfl,a 4 _ rfl⟩
theorem a6u {l:List Ent} {i:Nat} (h:i<l.length):Gr.eat l i=l[i]:=by simp[Gr.eat,h]
theorem a1Z {w:World} {b:Nat} {g:Grp} {t:TypeId} {a:Nat × Nat} (h:w.heap[b]?=some (.cells g t a)):w.rangeAt b 0 g:=a0T (cs:=g) h
theorem a5v (g:Grp) (hg:g.At w w) :
  CL 115 #[g] w (Gr.valid g):=by
 obtain⟨W1,ba,ab,S,hz⟩:=nw1 w g 29;have HW:=Z1 ba;have ax:=hg.at_ ab;have x0:=cr9 0 S;have x1:=cr9 1 S;have x2:=cr9 2 S;have x3:=cr9 3 S;simp at x0 x1 x2 x3;have s1:(w:Nat)<W1:=oM;have bh:=Z1 S;have bk:=Z1 hg.hn;have bt:=@ZS prog;have Q:=Z1 hg.hel;have bz:=hg.hen;clear ba hz S hg;go_enter func115,ntmps115;go_upto_region 1 with(fail);rw[<- HW];go_wp2_with (fail);refine(a8h W1 g.cur bk).mono ?_;rintro e W2 ⟨rfl,rfl⟩
 by_cases h1:Gr.isCur g.cur
 case neg =>
  have ak:Gr.isCur g.cur=false:=by simpa using h1
  have L:Hid (Gr.valid g=false):=by show _=_;rw[Gr.valid,Gr.books,ak];rfl
  rw[ak];clear h1 ak ax;go_wp2;go_ret;exact⟨by rw[L];rfl,ab⟩
 have H1:=Z1 h1;rw[h1];clear h1;go_wp2_with (fail);refine(a0U g.Y g.M g.N W1).mono ?_;rintro e W2 ⟨rfl,ao⟩;have a0:=ab.trans (ao.mono ab.size);have a4:=gbox bh ao s1;have ad:=ax.at_ ao;clear x0 x1 x2 x3 ax
 by_cases h2:Cal.ok g.Y g.M g.N
 case neg =>
  have al:Cal.ok g.Y g.M g.N=false:=by simpa using h2
  have L:Hid (Gr.valid g=false):=by show _=_;rw[Gr.valid,Gr.books,al];simp
  rw[al];clear h2 al ad a4;go_wp2;go_ret;exact⟨by rw[L];rfl,a0⟩
 have H2:=Z1 h2;have ae:=Z1 (a1Z a4);rw[h2];have bi:=Z1 a4;have s2:(w:Nat)<W2:=Vq a4;clear h2 a4;go_wp2_with (refine Vv (by rfl) 29 (.tmp 1) rfl w.heap.size 0 rfl _ _ ae.out VS rfl VJ ?_);refine(b3r W2 g ad).mono ?_;rintro e W3 ⟨rfl,ap⟩;have a:=a0.trans (ap.mono a0.size);have a5:=gbox bi ap s2;have ay:=ad.at_ ap;clear ad ae
 by_cases h3:Gr.accounts g
 case neg =>
  have am:Gr.accounts g=false:=by simpa using h3
  have L:Hid (Gr.valid g=false):=by show _=_;rw[Gr.valid,Gr.books,am];simp
  rw[am];clear h3 am ay a5;go_wp2;go_ret;exact⟨by rw[L];rfl,a⟩
 have H3:=Z1 h3;rw[h3];clear h3;have b5:=cr9 20 a5;simp at b5;have s3:(w:Nat)<W3:=Vq a5;have b7:=Z1 a5;have aa:=Z1 ay;clear a5 ay
 by_cases h4:g.en<1
 ·have bm:(g.en:Int)<1:=oM
  have L:Hid (Gr.valid g=false):=by show _=_;rw[Gr.valid,Vr (show¬ 1<=g.ents.length by have:=Q.out;omega)];simp
  clear h4;go_wp2;go_ret;exact⟨by rw[L];rfl,a⟩
 have bm:¬ (g.en:Int)<1:=oM
 by_cases h5:12<g.en
 ·have bn:(12:Int)<(g.en:Int):=oM
  have L:Hid (Gr.valid g=false):=by show _=_;rw[Gr.valid,Vr (show¬ g.ents.length<=12 by have:=Q.out;omega)];simp
  clear h5;go_wp2;go_ret;exact⟨by rw[L];rfl,a⟩
 have bn:¬ (12:Int)<(g.en:Int):=oM;have b8:0<g.ents.length:=by have:=Q.out;omega
 obtain⟨b,o,an,_,c0,c1,c2,c3,c4⟩:=EntsAt.five aa.he b8;simp only[K6,KL] at c4;have bx:(0:Int)<(g.en:Int):=oM;have b6:=Z1 an;have Hj:=Z1 (a6u b8);obtain⟨j,hj⟩:=eX ((Gr.eat g.ents 0).joint);have bq:W3.cell? ⟨b,o+4,none⟩=some (.bool j):=by rw[hj,Hj];exact c4
 have HJ:=Z1 hj;rw[an] at b5;clear c0 c1 c2 c3 c4 hj an
 cases j
 case true =>
  have L:Hid (Gr.valid g=false):=by show _=_;rw[Gr.valid,<- HJ];simp
  go_wp2;go_ret;exact⟨by rw[L];rfl,a⟩
 have L:Hid (Gr.valid g=(List.range g.ents.length).all (Gr.entAt g)):=by
  show _=_;rw[Gr.valid,Gr.books,H1,H2,H3,<- HJ,VT (show 1<=g.ents.length by omega),VT (show g.ents.length<=12 by have:=Q.out;omega)];rfl
 have b4:=Z1 (SeenN.made W3 g.ents);have bb:=(VD W3 (.map #[] 0) _ s3).trans b7;have a9:=cr9 20 bb;simp at a9;rw[b6] at a9;clear bb h4 h5;go_wp2
 go_loopw [44] (fun i wr=>∃k:Nat,k<=g.en/\i=k/\(List.range k).all (Gr.entAt g)/\SeenN wr W3 g.ents k/\Below W3 W3 wr) (fun i _=>g.en-(intOf i).toNat)
 case atStart=>exact⟨0,Vb _,rfl,rfl,b4.out,bR.alloc lR _⟩
 case round =>
  obtain⟨k,hk,rfl,ag,J,a7⟩:=hrel;have af:=Z1 ag;have bu:=a7.size;have bp:=a.trans (a7.mono a.size);clear ag bt b5 a9 bq
  by_cases c5:k<g.en
  ·have T:k<g.ents.length:=by have:=Q.out;omega
   obtain⟨b',o',b9,bw,c0,c1,c2,c3,c4⟩:=EntsAt.five (RowsAt.below aa.he a7 lR) T;rw[b6] at b9
   cases b9
   obtain⟨aq,E,bv⟩:=a0I wr (g.ents[k]) 81;have av:=gbox b7 a7 s3;have a8:=gbox av aq (Vq av);have s:=J.alloc (.cells (g.ents[k]) 81);obtain⟨Wa,ar⟩:=eX ((wr.alloc (.cells (g.ents[k]) 81)));rw[<- ar] at aq E bv a8 s;have bg:=Z1 ar;have a6:=a7.trans (aq.mono bu);have aw:=aa.out.hea _ (Vm T);have bj:=Z1 aw.hn;have b0:=s.look g.ents[k].name aw.hn;have X:=Z1 (a6u T);have ae:=Z1 (a1Z a8);have au:=a.trans (a6.mono a.size);clear av ar aw;go_upto_region 7 with(fail);rw[<- bg];have y0:=cr9 0 E;have y1:=cr9 1 E;have y2:=cr9 2 E;have y3:=cr9 3 E;have y4:=cr9 4 E;simp at y0 y1 y2 y3 y4;have t1:(wr:Nat)<Wa:=Vq E;have bl:=Z1 E;have I:Gr.entAt g k=false->Hid (Gr.valid g=false):=fun h=>Z1 (by rw[L];exact Ch.all_not T h);clear E a8 c0 c1 c2 c3 c4 J
   by_cases hs:(g.ents.take k).any (fun y=>decide (y.name=g.ents[k].name))
   ·rw[hs] at b0
    have W:=I (by rw[Gr.entAt,X,hs];simp);clear hs I;go_wp2;go_ret;exact⟨by rw[W];rfl,au⟩
   ·have b3:(g.ents.take k).any (fun y=>decide (y.name=g.ents[k].name))=false:=by simpa using hs
    rw[b3] at b0;have Hs:=Z1 b3;have az:=(aa.below a6 lR).more a6.size;have be:=az.hea _ (Vm T);clear hs b3;go_wp2_with (refine Vv (by rfl) 29 (.tmp 1) rfl w.heap.size 0 rfl _ _ ae.out VS rfl VJ ?_);refine(b2U Wa g g.ents[k] az be H3).mono ?_;rintro e W5 ⟨rfl,ac⟩;have ah:=a6.trans (ac.mono a6.size);have bc:=au.trans (ac.mono au.size);have O:=s.below ac s.lt;have b2:=gbox bl ac t1;clear y0 y1 y2 y3 y4 b0 be az
    by_cases ho:Gr.entity g g.ents[k]
    ·rw[ho]
     have y0:=cr9 0 b2;simp at y0;have ai:=Z1 (Gr.range_all af (show Gr.entAt g k by rw[Gr.entAt,X,Hs,ho];rfl));obtain⟨f,hm,hf⟩:=O;have bf:=Qp (P:=prog) Qh bj;have aj:=Z1 (a8v T hf);clear ho b2 hf I;go_wp2_with (at_mapUpdate;refine Xv rfl _ _ _ rfl hm strLaw underlying243 rfl (by unfold maxLen;omega) _ _ _ rfl rfl bf ?_;intro w7 bs br);have bo:=ah.grown br ah.size (fun j e=>by cases e;exact lR);go_roundw
     case rel=>exact⟨k+1,oM,by go_num,ai,⟨_,bs,aj⟩,bo⟩
     case measure=>exact mS
    ·have b1:Gr.entity g g.ents[k]=false:=by simpa using ho
     rw[b1];have W:=I (by rw[Gr.entAt,X,b1];rfl);clear ho b1 b2 O I;go_wp2;go_ret;exact⟨by rw[W];rfl,bc⟩
  ·obtain rfl:k=g.en:=oM
   have W:Hid (Gr.valid g):=by show _=_;rw[L,Q];exact af
   clear J;go_wp2;go_ret;exact⟨by rw[W];rfl,bp⟩
end Go.Proofs.YtbhdekahdnenjaaGreatDoor
