/- Lemmas. -/
import Derived.Test.YtbhdekahdnenjaaGreatDoorG18
set_option linter.unusedVariables false
set_option linter.unusedSimpArgs false
set_option maxRecDepth 100000
set_option maxHeartbeats 16000000
namespace Go.Proofs.YtbhdekahdnenjaaGreatDoor
open Go.Proofs.Tryz Go.RowKit
variable (w:World)
def FinePost (b:Bool) (w:World) (e:Ending) (w':World):Prop:=(∃n,e=.returned (.int .i64 n)/\(n=0 ↔ b))/\Below w w w'
theorem FinePost.bad {b:Bool} {w w':World} {n:Int} (a:b=false) (i:n≠0) (h:Below w w w'):FinePost b w (.returned (.int .i64 n)) w':=⟨⟨n,rfl,by simp[a,i]⟩,h⟩
theorem FinePost.good {b:Bool} {w w':World} (a:b) (h:Below w w w'):FinePost b w (.returned (.int .i64 0)) w':=⟨⟨0,rfl,by simp[a]⟩,h⟩
theorem a1e (n:Int):Calls prog 199 #[n] w fun e w'=>e=.returned (.bool (Jr.okAmt n))/\w=w':=by
 rcases(show n < -1000000000000∨(-1000000000000<=n/\n<=1000000000000)∨1000000000000<n by omega) with h|⟨h1,h2⟩|h
 all_goals
  have a:Hid (Jr.okAmt n=decide (-1000000000000<=n/\n<=1000000000000)):=by show _=_;rfl
  go_enter func199,ntmps199;go_wp2;go_ret;exact⟨VV (by rw[a,XX];simp;omega),rfl⟩
theorem Jr.formed_shape {g:Grp} {x:EtC} (h:Jr.shape g.ents.length x=false):Jr.formed g x=false:=by unfold Jr.formed;rw[h];simp
theorem Jr.formed_line {g:Grp} {x:EtC} {k:Nat} (a:k<x.lines.length) (h:Jr.lineOk g.ents.length x.ent x.lines[k]=false):Jr.formed g x=false:=by
 have:x.lines.all (Jr.lineOk g.ents.length x.ent)=false:=by rw[Yb];exact⟨_,Vm a,by simp[h]⟩
 unfold Jr.formed;rw[this];simp
theorem a9g (g:Grp) (c:EtC) (A:OA) (n kc:Nat) (hg:g.At w w) (hx:(⟨c,A,n,kc⟩:Etr).At w w) :
  Calls prog 168 #[g,.agg (TE c A n kc)] w (FinePost (Jr.formed g c) w):=by
 obtain⟨W1,ab,T,a7,ac,hz⟩:=nw2 w g (TE c A n kc) 29 46;obtain⟨HW,al,Q⟩:=Z3 ab (hg.at_ T) hg.hel;have ar:=hg.hen;have S:Hid (c.lines.length=n):=hx.hl;have au:n<=60:=by have h1:c.lines.length<=60:=hx.hw.hln;have h2:c.lines.length=n:=hx.hl;omega
 have ai:Hid (c.text.size<=maxLen):=hx.hw.htx;have hA:Hid (LinsAt W1 W1 A c.lines):=RowsAt.at_ hx.hA T;have ad:=cr9 20 a7;simp at ad;have ao:(w:Nat)+1<W1:=oM;have af:=Z1 a7;have ag:=Z1 ac;clear ab hz a7 ac hg hx;go_enter func168,ntmps168;go_upto_region 1 with(fail);rw[<- HW];go_upto_region 2 with(fail);go_wp2_with (refine Vd rfl 29 _ rfl _ rfl _ _ _ _ af VS rfl VJ ?_);refine(a5v W1 g al.out).mono ?_;rintro e W2 ⟨rfl,W⟩;have a:=T.trans (W.mono T.size);have E:=gB ag W ao;have y0:=cr9 0 E;have y1:=cr9 1 E;have y3:=cr9 3 E;have y4:=cr9 4 E;have y5:=cr9 5 E;have y6:=cr9 6 E;simp at y0 y1 y3 y4 y5 y6;have s2:(w:Nat)+1<W2:=Vq E;have aj:=Z1 (RowsAt.below hA.out W lR);have am:=W.size;clear ad
 by_cases h1:Gr.valid g
 case neg =>
  have a5:Gr.valid g=false:=by simpa using h1
  have I:Hid (Jr.formed g c=false):=by show _=_;unfold Jr.formed;rw[a5];rfl
  rw[a5];clear h1 a5;go_wp2;go_ret;exact FinePost.bad I dC a
 have H1:=Z1 h1;rw[h1];clear h1
 by_cases hs:Jr.shape g.ents.length c
 case neg =>
  have I:=Z1 (Jr.formed_shape (g:=g) (x:=c) (by simpa using hs))
  have hd:c.id<1∨(1<=c.id/\c.ent<0)∨(1<=c.id/\0<=c.ent/\(g.en:Int)<=c.ent)∨(1<=c.id/\0<=c.ent/\c.ent<g.en/\c.kind<1)∨(1<=c.id/\0<=c.ent/\c.ent<g.en/\3<c.kind) ∨
    (1<=c.id/\0<=c.ent/\c.ent<g.en/\1<=c.kind/\c.kind<=3/\c.kind=3/\c.of_<1)∨(1<=c.id/\0<=c.ent/\c.ent<g.en/\1<=c.kind/\c.kind<=3/\c.kind≠3/\c.of_≠0):=by
   simp only[Jr.shape,Xm,Q.out] at hs;omega
  clear hs
  rcases hd with h|h|h|h|h|⟨h,h2,h3,h4,h5,h6,h7⟩|⟨h,h2,h3,h4,h5,h6,h7⟩
  case inr.inr.inr.inr.inr.inl =>
   have k3:(c.kind==3):=by simp[h6]
   clear h6;go_wp2;go_ret;exact FinePost.bad I dC a
  case inr.inr.inr.inr.inr.inr =>
   have k3:(c.kind==3)=false:=by simp[h6]
   have k4:(c.kind != 3):=by simp[h6]
   have k5:(c.of_ != 0):=by simp[h7]
   clear h6 h7;go_wp2;go_ret;exact FinePost.bad I dC a
  all_goals
   go_wp2;go_ret;exact FinePost.bad I dC a
 have Hs:=Z1 hs;simp only[Jr.shape,Xm,Q.out] at hs;obtain⟨q1,q2,q3,q4,q5,q6,q7⟩:=hs
 rcases(show(c.kind=3/\1<=c.of_)∨(c.kind≠3/\c.of_=0) by by_cases h:c.kind=3 <;> omega) with⟨h,h'⟩|⟨h,h'⟩
 focus
  have k3:(c.kind==3):=by simp[h]
  have k4:(c.kind != 3)=false:=by simp[h]
  clear h q6 q7;go_upto_region 12 with(fail)
 rotate_left
 focus
  have k3:(c.kind==3)=false:=by simp[h]
  have k4:(c.kind != 3):=by simp[h]
  have k5:(c.of_ != 0)=false:=by simp[h']
  clear h h' q6 q7;go_upto_region 12 with(fail)
 all_goals
  go_wp2_with (fail);refine(b0e _ c.text ai).mono ?_;rintro e W3 ⟨rfl,rfl⟩
  by_cases hp:Jr.plain c.text
  case neg =>
   have a9:Jr.plain c.text=false:=by simpa using hp
   have I:Hid (Jr.formed g c=false):=by show _=_;unfold Jr.formed;rw[a9];simp
   rw[a9];clear hp a9;go_wp2;go_ret;exact FinePost.bad I dC a
  have Hp:=Z1 hp;rw[hp];clear hp
  by_cases hc:2<=n/\n<=40
  case neg =>
   have I:Hid (Jr.formed g c=false):=by show _=_;unfold Jr.formed;rw[Vr (by have:=S.out;omega)];simp
   rcases(show n<2∨(2<=n/\40<n) by omega) with h|⟨h,h'⟩
   all_goals
    clear hc;go_wp2;go_ret;exact FinePost.bad I dC a
  obtain⟨ap,aq⟩:=hc
  have ae:Hid (Jr.formed g c=c.lines.all (Jr.lineOk g.ents.length c.ent)):=by
   show _=_;unfold Jr.formed;rw[H1,Hs,Hp,VT (by have:=S.out;omega)];rfl
  go_upto_region 17 with(fail)
  go_loopw [64] (fun i wr=>∃k:Nat,k<=n/\i=k/\(c.lines.take k).all (Jr.lineOk g.ents.length c.ent)/\Below W2 W2 wr) (fun i _=>n-(intOf i).toNat)
  case atStart=>exact⟨0,Vb _,rfl,rfl,bR⟩
  case round =>
   obtain⟨k,hk,rfl,s,hb⟩:=hrel;have a0:=Z1 s;have O:=a.trans (hb.mono a.size);clear s
   by_cases av:k<n
   ·have a8:k<c.lines.length:=by have:=S.out;omega
    obtain⟨b,o,rfl,_,hr⟩:=LinsAt.three (RowsAt.below aj.out hb am) a8;obtain⟨l,hl⟩:=eX (c.lines[k]);have L:=Z1 (Jr.formed_line (g:=g) (x:=c) a8)
    have ah:Hid ((c.lines.take (k+1)).all (Jr.lineOk g.ents.length c.ent)=Jr.lineOk g.ents.length c.ent l):=by
     show _=_;rw[tse a8,Yp,a0,hl];simp
    rw[<- hl] at hr L;have Hr:=Z1 hr
    have aa:=gbox E hb s2;have z1:=cr9 1 aa;simp at z1;have sr:(w:Nat)+1<wr:=Vq aa;have a6:=O.alloc O.size (.cells l 66);have ak:=hb.alloc hb.size (.cells l 66);clear hr hl y0 y1 y3 y4 y5 y6 aa
    by_cases ha:l.amt=0
    ·have k9:(l.amt==0):=by simp[ha]
     have I:=Z1 (L (by unfold Jr.lineOk;simp[ha]));clear ha;go_wp2_with (refine VH rfl 66 (.tmp 66) rfl b (o+k*3) rfl l _ Hr Zx rfl a1a ?_);go_ret;exact FinePost.bad I dC a6
    ·have k9:(l.amt==0)=false:=by simp[ha]
     have Ha:=Z1 ha;clear ha
     by_cases J:Jr.lineOk g.ents.length c.ent l
     ·have a4:=J
      simp only[Jr.lineOk,Vp,Xm,Q.out] at a4;obtain⟨⟨⟨⟨_,X⟩,p1⟩,p2⟩,p3⟩:=a4;have an:(l.prt==c.ent)=false:=by simp[p3]
      have HS:Hid ((c.lines.take (k+1)).all (Jr.lineOk g.ents.length c.ent)):=by show _=_;rw[ah,J]
      clear J p3;go_wp2_with (first|(refine VH rfl 66 (.tmp 66) rfl b (o+k*3) rfl l _ Hr Zx rfl a1a ?_)|(go_at_call 199;refine(a1e _ _).mono ?_;rw[X];rintro e w' ⟨rfl,rfl⟩));go_roundw
      case rel=>exact⟨k+1,oM,by go_num,HS,ak⟩
      case measure=>exact mS
     ·have I:=Z1 (L (by simpa using J))
      have hd:Jr.okAmt l.amt=false∨(Jr.okAmt l.amt/\l.prt < -1)∨(Jr.okAmt l.amt/\-1<=l.prt/\(g.en:Int)<=l.prt)∨(Jr.okAmt l.amt/\-1<=l.prt/\l.prt<g.en/\l.prt=c.ent):=by
       have ha:=Ha.out
       cases X:Jr.okAmt l.amt
       ·exact .inl rfl
       ·right
        simp[Jr.lineOk,Q.out,X,ha] at J;simp only[Jl]
        by_cases a1:-1<=l.prt
        ·by_cases a2:l.prt<g.en
         ·exact .inr (.inr ⟨a1,a2,J a1 a2⟩)
         ·exact .inr (.inl ⟨a1,oM⟩)
        ·exact .inl oM
      clear J
      rcases hd with X|⟨X,h⟩|⟨X,h,h2⟩|⟨X,h,h2,h3⟩
      case inr.inr.inr =>
       have an:(l.prt==c.ent):=by simp[h3]
       clear h3;go_wp2_with (first|(refine VH rfl 66 (.tmp 66) rfl b (o+k*3) rfl l _ Hr Zx rfl a1a ?_)|(go_at_call 199;refine(a1e _ _).mono ?_;rw[X];rintro e w' ⟨rfl,rfl⟩));go_ret;exact FinePost.bad I dC a6
      all_goals
       go_wp2_with (first|(refine VH rfl 66 (.tmp 66) rfl b (o+k*3) rfl l _ Hr Zx rfl a1a ?_)|(go_at_call 199;refine(a1e _ _).mono ?_;rw[X];rintro e w' ⟨rfl,rfl⟩));go_ret;exact FinePost.bad I dC a6
   ·obtain rfl:k=n:=oM
    have s:=a0.out;rw[Vg (by have:=S.out;omega),<- ae] at s;have I:=Z1 s;clear s;go_wp2;go_ret;exact FinePost.good I O
theorem Gr.cal_ok {g:Grp} (hv:Gr.valid g):Cal.ok g.Y g.M g.N:=by
 unfold Gr.valid Gr.books at hv;simp only[Vp] at hv;exact hv.1.1.1.1.1.2
theorem a5n (g:Grp) (x:Int) (hg:g.At w w) :
  CL 89 #[g,x] w (Gr.isResult g x):=by
 obtain⟨W1,J,o,O,hz⟩:=nw1 w g 29;have HW:=Z1 J;have a4:=Z1 (hg.at_ o);have T:=Z1 O;clear J hz O hg;go_enter func89,ntmps89;go_upto_region 1 with(fail);rw[<- HW];go_wp2_with (refine Vd rfl 29 _ rfl _ rfl _ _ _ _ T VS rfl VJ ?_);refine(a4r W1 g x a4.out).mono ?_;rintro e W2 ⟨rfl,X⟩;have a:=o.trans (X.mono o.size);obtain⟨q,hq⟩:=eX (Ch.found g.chart x);rw[<- hq];have W:Hid (Gr.kind g x=q.kind):=by show _=_;unfold Gr.kind;rw[hq]
 obtain⟨W3,L,a0,Q,a5⟩:=nw1 W2 q 113;have S:=Z1 L;have s:=a.trans (a0.mono a.size);have q1:=cr9 1 Q;simp at q1;clear L hq Q a5;go_upto_region 2 with(fail);rw[<- S]
 by_cases i:q.kind=4
 ·have b4:(q.kind==4):=by simp[i]
  have I:Hid (Gr.isResult g x):=by show _=_;unfold Gr.isResult;rw[W];simp[i]
  clear i;go_wp2;go_ret;exact⟨by rw[I];rfl,s⟩
 ·have b4:(q.kind==4)=false:=by simp[i]
  by_cases E:q.kind=5
  ·have b5:(q.kind==5):=by simp[E]
   have I:Hid (Gr.isResult g x):=by show _=_;unfold Gr.isResult;rw[W];simp[E]
   clear i E;go_wp2;go_ret;exact⟨by rw[I];rfl,s⟩
  ·have b5:(q.kind==5)=false:=by simp[E]
   have I:Hid (Gr.isResult g x=false):=by show _=_;unfold Gr.isResult;rw[W];simp[i,E]
   clear i E;go_wp2;go_ret;exact⟨by rw[I];rfl,s⟩
theorem b4h (g:Grp) (x:Int) (hg:g.At w w) :
  CL 88 #[g,x] w (Gr.isEquity g x):=by
 obtain⟨W1,o,i,E,hz⟩:=nw1 w g 29;have HW:=Z1 o;have T:=Z1 (hg.at_ i);have L:=Z1 E;clear o hz E hg;go_enter func88,ntmps88;go_upto_region 1 with(fail);rw[<- HW];go_wp2_with (refine Vd rfl 29 _ rfl _ rfl _ _ _ _ L VS rfl VJ ?_);refine(a4r W1 g x T.out).mono ?_;rintro e W2 ⟨rfl,O⟩;have a:=i.trans (O.mono i.size);obtain⟨q,W⟩:=eX (Ch.found g.chart x);rw[<- W];have Hq:Hid (Gr.kind g x=q.kind):=by show _=_;unfold Gr.kind;rw[W]
 obtain⟨W3,s,S,I,X⟩:=nw1 W2 q 113;have J:=Z1 s;have Q:=a.trans (S.mono a.size);have q1:=cr9 1 I;simp at q1;clear s W I X;go_upto_region 2 with(fail);rw[<- J];have HV:Hid (Gr.isEquity g x=(q.kind==3)):=by show _=_;unfold Gr.isEquity;rw[Hq];by_cases h:q.kind=3 <;> simp[h]
 go_wp2;go_ret;exact⟨by rw[HV];rfl,Q⟩
theorem a9r (g:Grp) (p:Int) (W:g.At w w) (hv:Gr.valid g) (T:0<=p/\p<g.N) :
  CL 201 #[g,p] w (.tuple #[(Cal.begin_ g.Y g.M p),()]):=by
 obtain⟨W1,I,o,J,hz⟩:=nw1 w g 29;have HW:=Z1 I;have S:=Z1 (W.at_ o);have s1:(w:Nat)<W1:=oM;have s:=Z1 J;have L:Hid (Cal.err g.Y g.M g.N p=0):=(Cal.err_zero _ _ _ _).2 ⟨Gr.cal_ok hv,T.1,T.2⟩;clear I hz J W T;go_enter func201,ntmps201;go_upto_region 1 with(fail);rw[<- HW];go_wp2_with (refine Vd rfl 29 _ rfl _ rfl _ _ _ _ s VS rfl VJ ?_);refine(a5v W1 g S.out).mono ?_;rintro e W2 ⟨rfl,E⟩;have i:=o.trans (E.mono o.size);have a:=gbox s E s1;have X:=cr9 1 a;have x2:=cr9 2 a;have x3:=cr9 3 a;simp at X x2 x3;rw[hv];clear hv a;go_wp2_with (fail);refine(a4W g.Y g.M g.N p W2 L).mono ?_;rintro e W3 ⟨rfl,O⟩;have Q:=i.trans (O.mono i.size);clear X x2 x3;go_wp2
 go_ret2
 exact⟨rfl,Q⟩
theorem a9J (g:Grp) (a d b:Int) (X:g.At w w) :
  CL 202 #[g,a,d,b] w (Tr.shown g a d b):=by
 obtain⟨W1,J,i,L,hz⟩:=nw1 w g 29;have HW:=Z1 J;have S:=Z1 (X.at_ i);have s1:(w:Nat)<W1:=oM;have s:=Z1 L;clear J hz L X;go_enter func202,ntmps202;go_upto_region 1 with(fail);rw[<- HW]
 by_cases h:d<b
 case neg =>
  have o:Hid (Tr.shown g a d b=a):=by show _=_;unfold Tr.shown;rw[VB (fun q=>h q.1)]
  go_wp2;go_ret;exact⟨by rw[o];rfl,i⟩
 have Hh:=Z1 h;have T:=Z1 (Xq s);go_wp2_with (refine Vv (by rfl) 29 (.tmp 4) rfl w.heap.size 0 rfl _ _ T.out VS rfl VJ ?_);refine(a5n W1 g a S.out).mono ?_;rintro e W2 ⟨rfl,E⟩;have I:=i.trans (E.mono i.size);have O:=gbox s E s1;have W:=cr9 11 O;simp at W;clear O
 cases Q:Gr.isResult g a with
 |true =>
  have o:Hid (Tr.shown g a d b=g.r6):=by show _=_;unfold Tr.shown;rw[Vt ⟨Hh,Q⟩]
  clear Q;go_wp2;go_ret;exact⟨by rw[o];rfl,I⟩
 |false =>
  have o:Hid (Tr.shown g a d b=a):=by show _=_;unfold Tr.shown;rw[VB (fun q=>by rw[Q] at q;exact absurd q.2 dC)]
  clear Q;go_wp2;go_ret;exact⟨by rw[o];rfl,I⟩
theorem b0f (g:Grp) (a d p:Int) (hg:g.At w w) (hv:Gr.valid g) (hp:0<=p/\p<g.N) (ha:Ch.has g.chart a) :
  CL 143 #[g,a,d,p] w (.tuple #[(Tr.shown g a d (Cal.begin_ g.Y g.M p):Int),()]):=by
 obtain⟨W1,T,I,X,hz⟩:=nw1 w g 29;have HW:=Z1 T;have a0:=Z1 (hg.at_ I);have s1:(w:Nat)<W1:=oM;have Q:=Z1 X;have hc:=Z1 (a9r W1 g p a0.out hv hp);clear T hz X hg hp hv;go_enter func143,ntmps143;go_upto_region 1 with(fail);rw[<- HW];go_wp2_with (refine Vd rfl 29 _ rfl _ rfl _ _ _ _ Q VS rfl VJ ?_);refine hc.out.mono ?_;rintro e W2 ⟨rfl,J⟩;have o:=I.trans (J.mono I.size);have E:=gB Q J s1;have s2:(w:Nat)<W2:=Vq E;have a4:=Z1 (a0.out.at_ J);obtain⟨bg,O⟩:=eX (Cal.begin_ g.Y g.M p);rw[<- O];have a7:=Z1 O;clear O;go_upto_region 4 with(fail);go_wp2_with (refine Vd rfl 29 _ rfl _ rfl _ _ _ _ E VS rfl VJ ?_);refine(a4r W2 g a a4.out).mono ?_;rintro e W3 ⟨rfl,L⟩;obtain⟨q,hq⟩:=eX (Ch.found g.chart a);rw[<- hq,ha];clear hq ha;obtain⟨W4,W,S,ab,ac⟩:=nw1 W3 q 113;have a5:=Z1 W;have i:Below W2 W2 W4:=L.trans (S.mono L.size);have s:=o.trans (i.mono o.size);have a6:=gB E i s2;have aa:=Z1 (a4.out.at_ i);clear W ab ac L S i;go_upto_region 5 with(fail);rw[<- a5];go_wp2_with (refine Vd rfl 29 _ rfl _ rfl _ _ _ _ a6 VS rfl VJ ?_);refine(a9J W4 g a d bg aa.out).mono ?_;rintro e W5 ⟨rfl,a8⟩;have a9:=s.trans (a8.mono s.size);go_wp2
 go_ret2
 exact⟨by rw[a7];rfl,a9⟩
def OptPost (o:Option Int) (w:World) (e:Ending) (w':World):Prop:=(∃v m,e=.returned (.tuple #[.int .i64 v,.int .i64 m])/\(m=0 ↔ o.isSome)/\∀x,o=some x->v=x)/\Below w w w'
theorem OptPost.none {w w':World} {v m:Int} {o:Option Int} (a:o=none) (i:m≠0) (h:Below w w w'):OptPost o w (.returned (.tuple #[.int .i64 v,.int .i64 m])) w':=⟨⟨v,m,rfl,by simp[a,i],fun x h=>by rw[a] at h;cases h⟩,h⟩
theorem OptPost.some {w w':World} {v:Int} {o:Option Int} (a:o=Option.some v) (h:Below w w w'):OptPost o w (.returned (.tuple #[v,()])) w':=⟨⟨v,0,rfl,by simp[a],fun x h=>by rw[a] at h;cases h;rfl⟩,h⟩
theorem a4o (n:Int):Calls prog 249 #[n] w (OptPost (if Jr.okAmt n then some n else none) w):=by
 cases h:Jr.okAmt n with
 |true =>
  go_enter func249,ntmps249;go_wp2_with (go_at_call 199;refine(a1e _ _).mono ?_;rw[h];rintro e w' ⟨rfl,rfl⟩)
  go_ret2
  exact OptPost.some sP bR
 |false =>
  go_enter func249,ntmps249;go_wp2_with (go_at_call 199;refine(a1e _ _).mono ?_;rw[h];rintro e w' ⟨rfl,rfl⟩)
  go_ret2
  exact OptPost.none sP dC bR
theorem Tr.conv_some {n r:Int} (h:Jr.okAmt n) (E:1<=r) (I:r<=1000000000000) (J:¬ (0<r / 1000000/\1000000000000 / (r / 1000000)<Tr.nat n)) :
  Tr.conv n r=if Jr.okAmt (if n<0 then-(Tr.out n r) else Tr.out n r) then some (if n<0 then-(Tr.out n r) else Tr.out n r) else none:=by
 have s:0<=Tr.nat n:=by unfold Tr.nat;split <;> omega
 have L:0<=Tr.out n r:=by
  unfold Tr.out;have a:=YR s (ZW (show 0<=r by omega) (show(0:Int)<=1000000 by decide));have b:=YR (YR (show(0:Int)<=2 by decide) s) (ZY r (show(1000000:Int)≠0 by decide));have c:0<=(2*Tr.nat n*(r % 1000000)+1000000) / 2000000:=ZW oM dC;omega
 unfold Tr.conv
 by_cases o:Tr.out n r<=1000000000000
 ·rw[Vt ⟨h,E,I,J,o⟩]
  by_cases i:n<0
  ·rw[Vt i,Vt (by simp[Jr.okAmt];omega)]
  ·rw[VB i,Vt (by simp[Jr.okAmt];omega)]
 ·rw[VB (fun q=>o q.2.2.2.2)]
  by_cases i:n<0
  ·rw[Vt i,VB (by simp[Jr.okAmt];omega)]
  ·rw[VB i,VB (by simp[Jr.okAmt];omega)]
theorem a7l (n r:Int) (hn:Jr.okAmt n) (O:1<=r) (E:r<=1000000000000) :
  Calls prog 200 #[n,r,(1000000:Int)] w (OptPost (Tr.conv n r) w):=by
 have hb:-1000000000000<=n/\n<=1000000000000:=by simpa[Jr.okAmt] using hn
 obtain⟨ad,ae⟩:=hb;have hC:=Z1 (fun h3=>Tr.conv_some hn O E h3);have HN:Hid (0<r / 1000000/\1000000000000 / (r / 1000000)<Tr.nat n->Tr.conv n r=none):=Z1 fun h=>by unfold Tr.conv;rw[VB (fun q=>q.2.2.2.1 h)]
 have ha:Hid (Tr.nat n=if n<0 then-n else n):=rfl;have HO:Hid (Tr.out n r=Tr.nat n*(r / 1000000)+(2*Tr.nat n*(r % 1000000)+1000000) / 2000000):=rfl;obtain⟨q,hq⟩:=eX (r / 1000000);obtain⟨s,hs⟩:=eX (r % 1000000);obtain⟨a,o⟩:=eX (Tr.nat n);have e1:Int.tdiv r 1000000=q:=by rw[hq,Yx oM]
 have e2:Int.tmod r 1000000=s:=by rw[hs,K9 oM]
 have q0:0<=q:=oM;have q1:q<=1000000:=oM;have s0:0<=s:=oM;have a0:0<=a:=by rw[o,ha.out];split <;> omega
 have a1:a<=1000000000000:=by rw[o,ha.out];split <;> omega
 rw[<- hq,<- o] at HN;rw[<- hq,<- hs,<- o] at HO
 have a9:Hid (¬ (0<q/\1000000000000 / q<a)->Tr.conv n r=if Jr.okAmt (if n<0 then-(Tr.out n r) else Tr.out n r) then some (if n<0 then-(Tr.out n r) else Tr.out n r) else none):=by
  have:=hC.out;rw[<- hq,<- o] at this;exact Z1 this
 have p1:0<=a*s:=YR a0 s0
 have p2:a*s<=1000000000000000000:=by
  have:=JY a1 (show s<=1000000 by omega) s0 (show(0:Int)<=1000000000000 by decide);omega
 have a8:Hid (max n (-n)=a):=by show _=_;rw[o,ha.out];split <;> omega
 have E1:=Z1 e1;have E2:=Z1 e2;clear hC hq hs o ha e1 e2;go_enter func200,ntmps200;go_upto_region 2 with(fail)
 try rw[a8]
 have I:Below w w w.drew:=Vw bR 1;refine Vs (S:=Below w w) kR ?_;change wpAnyH _ _ _ _ _ _ _ _ (World.drew w);obtain⟨ac,a4⟩:=eX w.drew;rw[<- a4] at I⊢;clear a4;refine jT 0 I ?_;refine jT 1 I ?_;refine jT 2 I ?_ (v:=.int .i64 q) (hy:=(.inl ⟨by rfl,fun W' aa=>by have e1:=E1.out;(go_simp;rw[Ks];omega)⟩));refine jT 3 I ?_;refine jT 4 I ?_;refine jT 5 I ?_ (v:=.int .i64 s) (hy:=(.inl ⟨by rfl,fun W' aa=>by have e2:=E2.out;go_simp⟩));refine rZ 6 fun K X=>?_;go_simp;refine jK X I ?_;clear X K;refine rZ 7 fun K X=>?_;go_simp;refine jK X I ?_;clear X K;refine VF kR ?_ _
 try simp only[z]
 have T:=Z1 I;clear I;have m1:0<=2*a*s/\2*a*s<=2000000000000000000:=by rw[YG];omega
 obtain⟨ag,ah⟩:=m1;obtain⟨x,hx⟩:=eX ((2*a*s+1000000) / 2000000);have ex:Int.tdiv (2*a*s+1000000) 2000000=x:=by rw[hx,Yx oM]
 have x0:0<=x/\x<=1000000000001:=oM;obtain⟨x0,x1⟩:=x0;rw[<- hx] at HO;clear hx p1 p2
 have W:∀(i:¬ (0<q/\1000000000000 / q<a)),0<=a*q/\a*q<=1000000000000:=fun i=>by
  refine⟨YR a0 q0,?_⟩
  by_cases hg:0<q
  ·have E:a<=1000000000000 / q:=by have:=fun h=>i ⟨hg,h⟩;omega
   have:=(Int.le_ediv_iff_mul_le hg).1 E;exact this
  ·have:q=0:=oM
   subst this;simp
 have a7:=Z1 W;clear W
 by_cases i:¬ (0<q/\1000000000000 / q<a)
 case neg =>
  have J:0<q/\1000000000000 / q<a:=Classical.not_not.1 i;have HV:=Z1 (HN J);obtain⟨hg,a5⟩:=J;have ed:Int.tdiv 1000000000000 q=1000000000000 / q:=Yx dC;obtain⟨y,hy⟩:=eX (1000000000000 / q);rw[<- hy] at ed a5;have y0:0<=y:=by rw[hy];exact ZW dC q0
  have af:q≠0:=oM;clear i hy;go_wp2
  go_ret2
  exact OptPost.none HV dC T
 obtain⟨n1,n2⟩:=a7.out i;have HV:=Z1 (a9.out i);have ab:=Z1 i
 by_cases hg:0<q
 all_goals
  have ed:Int.tdiv 1000000000000 q=1000000000000 / q:=Yx dC;obtain⟨y,hy⟩:=eX (1000000000000 / q);have a5:0<q->¬ (y<a):=fun h E=>ab.out ⟨h,by rw[<- hy];exact E⟩;rw[<- hy] at ed;have y0:0<=y:=by rw[hy];exact ZW dC q0
  have y1:y<=1000000000000:=by rw[hy];exact Int.ediv_le_self _ dC
  clear i hy
  by_cases a6:n<0
  ·have L:Hid (Tr.conv n r=if Jr.okAmt (-(a*q+x)) then some (-(a*q+x)) else none):=by show _=_;rw[HV,Vt a6,HO]
   go_wp2_with (fail);refine(a4o _ (-(a*q+x))).mono ?_;rintro e w3 ⟨⟨v,m,rfl,O,E⟩,Q⟩;have HP:Hid (OptPost (Tr.conv n r) w (.returned (.tuple #[v,m])) w3):=by rw[L];exact⟨⟨v,m,rfl,O,E⟩,T.out.trans (Q.mono T.size)⟩
   clear O E;go_wp2
   go_ret2
   exact HP
  ·have L:Hid (Tr.conv n r=if Jr.okAmt (a*q+x) then some (a*q+x) else none):=by show _=_;rw[HV,VB a6,HO]
   go_wp2_with (fail);refine(a4o _ (a*q+x)).mono ?_;rintro e w3 ⟨⟨v,m,rfl,O,E⟩,Q⟩;have HP:Hid (OptPost (Tr.conv n r) w (.returned (.tuple #[v,m])) w3):=by rw[L];exact⟨⟨v,m,rfl,O,E⟩,T.out.trans (Q.mono T.size)⟩
   clear O E;go_wp2
   go_ret2
   exact HP
theorem b3k (n r:Int):Calls prog 142 #[n,r] w (OptPost (Tr.conv n r) w):=by
 rcases(show Jr.okAmt n=false∨(Jr.okAmt n/\r<1)∨(Jr.okAmt n/\1<=r/\1000000000000<r)∨(Jr.okAmt n/\1<=r/\r<=1000000000000) by cases Jr.okAmt n <;> simp<;> omega) with h|⟨h,h1⟩|⟨h,h1,h2⟩|⟨h,h1,h2⟩
 case inr.inr.inr =>
  have E:=Z1 (a7l w n r h h1 h2);go_enter func142,ntmps142;go_wp2_with (first|(go_at_call 199;refine(a1e _ _).mono ?_;rw[h];rintro e w' ⟨rfl,rfl⟩));refine E.mono ?_;rintro e L ⟨⟨v,m,rfl,i,o⟩,a⟩;have I:Hid (OptPost (Tr.conv n r) w (.returned (.tuple #[v,m])) L):=Z1 ⟨⟨v,m,rfl,i,o⟩,a⟩;clear i o;go_wp2
  go_ret2
  exact I
 all_goals
  have J:Hid (Tr.conv n r=none):=by show _=_;unfold Tr.conv;rw[VB (by rintro⟨s,O,Q,_⟩;first|omega|(rw[h] at s;cases s))]
  go_enter func142,ntmps142;go_wp2_with (go_at_call 199;refine(a1e _ _).mono ?_;rw[h];rintro e w' ⟨rfl,rfl⟩)
  go_ret2
  exact OptPost.none J dC bR
theorem Jr.charted_bad {g:Grp} {x:EtC} {k:Nat} (a:k<x.lines.length) (h:Ch.has (Jr.chartOf g x.ent) x.lines[k].acct=false):Jr.charted g x=false:=by
 unfold Jr.charted;rw[Yb];exact⟨_,Vm a,by simp[h]⟩
theorem Jr.chartOf_eq {g:Grp} {e:Int} {k:Nat} (a:e=k) (i:k<g.ents.length):Jr.chartOf g e=g.ents[k].chart:=by
 unfold Jr.chartOf Gr.eat;subst a;simp[i]
theorem a7D (g:Grp) (c:EtC) (A:OA) (n kc ke:Nat) (hg:g.At w w) (hx:(⟨c,A,n,kc⟩:Etr).At w w) (az:c.ent=ke) (bh:ke<g.en) :
  Calls prog 169 #[g,.agg (TE c A n kc)] w (FinePost (Jr.charted g c) w):=by
 obtain⟨W1,av,a7,ax,ag,hz⟩:=nw2 w g (TE c A n kc) 29 46;obtain⟨HW,b9,_⟩:=Z3 av (hg.at_ a7) hg.hel;have ao:Hid (c.lines.length=n):=hx.hl;have bi:n<=60:=by have h1:c.lines.length<=60:=hx.hw.hln;have h2:c.lines.length=n:=hx.hl;omega
 have hA:Hid (LinsAt W1 W1 A c.lines):=RowsAt.at_ hx.hA a7;have y6:=cr9 6 ag;simp at y6;have s1:w.heap.size<W1.heap.size:=oM;have bb:w.heap.size+1<W1.heap.size:=oM;obtain⟨b3,b4,an⟩:=Z3 ax ag az;have ad:Hid (ke<g.ents.length):=by show _<_;have:=hg.hel;omega
 clear av hz ax ag hg hx az;go_enter func169,ntmps169;go_upto_region 1 with(fail);rw[<- HW.out];go_wp2
 go_loopw [12] (fun i wr=>∃k:Nat,k<=n/\i=k/\(c.lines.take k).all (fun l=>Ch.has (Jr.chartOf g c.ent) l.acct)=true/\Below W1 W1 wr) (fun i _=>n-(intOf i).toNat)
 case atStart=>exact⟨0,Vb _,rfl,rfl,bR⟩
 case round =>
  obtain⟨k,hk,rfl,I,hb⟩:=hrel;have aa:=Z1 I;have a0:=a7.trans (hb.mono a7.size);clear I y6
  by_cases bj:k<n
  case neg =>
   obtain rfl:k=n:=oM;have I:=aa.out;rw[Vg (by have:=ao.out;omega)] at I;have HV:Hid (Jr.charted g c=true):=Z1 I;clear I;go_wp2;go_ret;exact FinePost.good HV.out a0
  have a5:k<c.lines.length:=by have:=ao.out;omega
  obtain⟨b,o,rfl,_,hr⟩:=LinsAt.three (RowsAt.below hA.out hb lR) a5;obtain⟨l,hl⟩:=eX (c.lines[k]);have X:=Z1 (Jr.charted_bad (g:=g) (x:=c) a5)
  have ap:Hid ((c.lines.take (k+1)).all (fun l=>Ch.has (Jr.chartOf g c.ent) l.acct)=Ch.has (Jr.chartOf g c.ent) l.acct):=by
   show _=_;rw[tse a5,Yp,aa.out,hl];simp
  rw[<- hl] at hr X;obtain⟨e,he⟩:=eX (g.ents[ke]'ad.out);have a8:=Jr.chartOf_eq an.out ad.out;rw[<- he] at a8;rw[a8] at X ap;have b1:=Z1 a8;have Hr:=Z1 hr
  obtain⟨V,hV,au,al,ba⟩:=nw1 wr l 66;have HV:=Z1 hV;have Q:=hb.trans (au.mono hb.size);have ay:=Z1 ((b9.out.below Q lR).more Q.size);obtain⟨be,oe,aq,bg,am⟩:=RowsAt.look ay.out.he ad.out;rw[<- he] at am;have b5:=Z1 am;have ac:=Z1 (ay.out.hea e (by rw[he];exact Vm _));have af:=gbox b4.out Q bb;have ae:=gbox b3.out Q s1;have e1:=cr9 1 af;have g4:=cr9 20 ae;have l0:=cr9 0 al;simp at e1 g4 l0;rw[an.out] at e1;rw[aq] at g4;have e2:=a2j b5.out 2 _ rfl;have s2:w.heap.size+1<V.heap.size:=Vq af;have s3:w.heap.size<V.heap.size:=Vq ae;have s4:wr.heap.size<V.heap.size:=Vq al;have ar:=a0.trans (au.mono a0.size);have bc:(ke:Int)<(g.en:Int):=oM;clear hr hl hV af ae al ba he a8 aq am;go_upto_region 4 with(refine VH rfl 66 (.tmp 14) rfl b (o+k*3) rfl l _ Hr.out Zx rfl a1a ?_);rw[<- HV.out];have s:Below V.heap.size V V.drew:=Vw bR 1;refine Vs (S:=Below V.heap.size V) kR ?_;change wpAnyH _ _ _ _ _ _ _ _ (World.drew V);obtain⟨O,aw⟩:=eX V.drew;rw[<- aw] at s⊢;clear aw;refine jT 0 s ?_;refine jT 1 s ?_ (v:=.slice (some ⟨be,oe,none⟩) g.en g.ec) (hy:=(.inl ⟨by rfl,fun T a=>by have c0:=(a.cell (p:=⟨w,20,none⟩) (by show _<_;omega)).trans g4;go_simp⟩));refine jT 2 s ?_;refine jT 3 s ?_ (v:=.int .i64 ke) (hy:=(.inl ⟨by rfl,fun T a=>by have c0:=(a.cell (p:=⟨w.heap.size+1,1,none⟩) (by show _<_;omega)).trans e1;go_simp⟩));refine jT 4 s ?_;refine jT 5 s ?_;refine jT 6 s ?_ (v:=.slice e.cA e.cn e.cc) (hy:=(.inl ⟨by rfl,fun T a=>by have c0:=(a.cell (p:=⟨be,oe+ke*5+2,none⟩) (by show _<_;omega)).trans e2;go_simp⟩));refine jT 7 s ?_;refine jT 8 s ?_ (v:=.int .i64 l.acct) (hy:=(.inl ⟨by rfl,fun T a=>by have c0:=(a.cell (p:=⟨wr,0,none⟩) (by show _<_;omega)).trans l0;go_simp⟩));have b7:=s.size;refine a0w fun b0 ab Q' a' ai aj ak ah=>?_;obtain⟨RG,a9⟩:=eX (Below V.heap.size V:World->Prop);rw[<- a9] at s⊢
  have n1:∀(m:Nat) (W:World) (E:Bool) (vf:Value) (pf:Nat),2+cond E 0 1<=m->RG W->O.heap.size<=W.heap.size->Mk O W E vf pf #[(),(),(),()] 113->wpAnyH prog b0 ab Q' RG m #[true,true,true,true,true,true,true,true,true,true,true,true,true,E,false,false] (((((a'.put (some 26) (.tuple #[(Ch.found e.chart l.acct),.bool (Ch.has e.chart l.acct)])).put (some 16) (.tuple #[(Ch.found e.chart l.acct),.bool (Ch.has e.chart l.acct)])).put (some 27) ((Ch.found e.chart l.acct))).put (some 28) (.bool (Ch.has e.chart l.acct))).put (some 7) vf) W:=by
   intro m
   induction m with
   |zero=>intros;omega
   |succ m ih =>
   intro W E vf pf hm s hz Hf;subst ai aj ak ah a9
   try simp only[z]
   by_cases hb:E=true
   rotate_left
   ·refine Xc (rs:=(cond E [] [13]++[])) (by revert hb;cases E <;> intro hb <;> first|exact absurd dC hb|kernel_rfl) (by revert hb;cases E <;> decide) (ropt (fun hf=>.cons rfl (fun K L=>?_) .nil) .nil)
    ·subst hf
     obtain⟨T,J,hB,a6,_⟩:=nw1 W #[(),(),(),()] 113;go_simp;rw[<- J];clear J;have a:=s.trans (hB.mono s.size);refine jK L a ?_;clear L K;have hn:=ih T true (.pointer (some ⟨W,0,none⟩)) W (by simp only[YP,Y6] at hm⊢;omega) a (Vn hz hB.size) (fun _=>⟨rfl,hz,a6⟩) 
     try simp only[z] at hn
     exact hn
   subst hb;obtain⟨rfl,gf,hf⟩:=Hf rfl;obtain⟨m,rfl⟩:∃k,m=k+1:=⟨m-1,by simp only[YP] at hm;omega⟩;clear ih hm;obtain⟨q,hq⟩:=eX (Ch.found e.chart l.acct);rw[<- hq];clear hq;refine rZ 14 fun K L=>?_;rw[Vt (by rfl)];refine VQ 113 _ _ none rfl rfl pf 113 _ q rfl rfl hf rfl a0F oC ?_;have a4:=below_setRow s (Vn (show V.heap.size<=O.heap.size from b7) gf) q;refine jK L a4 ?_;clear L K;refine rZ 15 fun K L=>?_;go_simp;refine jK L a4 ?_;clear L K;refine VF kR ?_ _
   try simp only[z]
   obtain⟨V4,J⟩:=eX (W.setRow pf q);rw[<- J] at a4⊢;clear J s hf hz gf;have b8:=Q.trans (a4.mono Q.size);have b6:=ar.trans (a4.mono ar.size);clear e1 g4 l0 e2
   cases hh:Ch.has e.chart l.acct with
   |true =>
    have HS:Hid ((c.lines.take (k+1)).all (fun l=>Ch.has (Jr.chartOf g c.ent) l.acct)=true):=by show _=_;rw[b1.out,ap.out,hh]
    clear hh;go_wp2;go_roundw
    case rel=>exact⟨k+1,oM,by go_num,HS.out,b8⟩
    case measure=>exact mS
   |false =>
    have HV:=Z1 (X.out hh);clear hh;go_wp2;go_ret;exact FinePost.bad HV.out dC b6
  have n0:∀(m:Nat) (W:World) (E:Bool) (vf:Value) (pf:Nat),6+cond E 0 1<=m->RG W->O.heap.size<=W.heap.size->Mk O W E vf pf #[(),(),(),()] 113->wpAnyH prog b0 ab Q' RG m #[true,true,true,true,true,true,true,true,true,false,false,false,false,E,false,false] (a'.put (some 7) vf) W:=by
   intro m
   induction m with
   |zero=>intros;omega
   |succ m ih =>
   intro W E vf pf hm s hz Hf;subst ai aj ak ah a9
   try simp only[z]
   refine Xc (rs:=9::(cond E [] [13]++[])) (by cases E <;> kernel_rfl) sP (.cons rfl (fun K L=>?_) (ropt (fun hf=>.cons rfl (fun K L=>?_) .nil) .nil))
   ·clear ih
    have b2:=Z1 (a0Q W e.cA e.cn e.cc e.chart l.acct ac.out.hcl ac.out.hcn (RowsAt.at_ ac.out.hc s));go_simp;refine b2.out.mono ?_;rintro r T ⟨rfl,hB⟩;have a:=s.trans (hB.mono s.size);refine jK L a ?_;clear L K;obtain⟨m,rfl⟩:∃k,m=k+3:=⟨m-3,oM⟩;refine ZP (i:=10) (v:=.tuple #[(Ch.found e.chart l.acct),.bool (Ch.has e.chart l.acct)]) rfl kR (by cases E <;> kernel_rfl) (by cases E <;> kernel_rfl) (fun _ _ _ h=>h) (.inl ⟨by rfl,fun T a=>by go_simp⟩) a ?_
    try simp only[z]
    refine ZP (i:=11) (v:=(Ch.found e.chart l.acct)) rfl kR (by cases E <;> kernel_rfl) (by cases E <;> kernel_rfl) (fun _ _ _ h=>h) (.inl ⟨by rfl,fun T a=>by go_simp⟩) a ?_
    try simp only[z]
    refine ZP (i:=12) (v:=.bool (Ch.has e.chart l.acct)) rfl kR (by cases E <;> kernel_rfl) (by cases E <;> kernel_rfl) (fun _ _ _ h=>h) (.inl ⟨by rfl,fun T a=>by go_simp⟩) a ?_
    try simp only[z]
    have hn:=n1 m T E vf pf oM a (Vn hz hB.size) (Hf.step hB)
    try simp only[z] at hn
    exact hn
   ·subst hf
    obtain⟨T,J,hB,a6,_⟩:=nw1 W #[(),(),(),()] 113;go_simp;rw[<- J];clear J;have a:=s.trans (hB.mono s.size);refine jK L a ?_;clear L K;have hn:=ih T true (.pointer (some ⟨W,0,none⟩)) W (by simp only[YP,Y6] at hm⊢;omega) a (Vn hz hB.size) (fun _=>⟨rfl,hz,a6⟩) 
    try simp only[z] at hn
    exact hn
  have hn:=n0 _ O false u7 0 lR s lR  (fun h=>nomatch h);subst ai aj ak ah a9;exact hn
theorem b1g (g:Grp) (c:EtC) (A:OA) (n W:Nat) (hv:Gr.valid g) :
  Calls prog 170 #[g,.agg (TE c A n W)] w (FinePost (Jr.dated g c) w):=by
 obtain⟨W1,I,s,a,J,hz⟩:=nw2 w g (TE c A n W) 29 46;have HW:=Z1 I
 have L:Cal.ok g.Y g.M g.N:=by
  unfold Gr.valid Gr.books at hv;simp only[Vp] at hv;exact hv.1.1.1.1.1.2
 have Q:=Z1 L;have X:=cr9 1 a;have x2:=cr9 2 a;have x3:=cr9 3 a;have y2:=cr9 2 J;simp at X x2 x3 y2;clear I hz a J L hv;go_enter func170,ntmps170;go_upto_region 1 with(fail);rw[<- HW];go_wp2_with (fail);refine(a4j g.Y g.M g.N c.date W1 Q).mono ?_;rintro e W2 ⟨rfl,S⟩;have E:=s.trans (S.mono s.size)
 have i:Hid (Jr.dated g c ↔ Cal.perE g.Y g.M g.N c.date=0):=by
  show _ ↔ _;unfold Jr.dated Cal.perE;by_cases h:Cal.per g.Y g.M g.N c.date<0 <;> simp[h];omega
 obtain⟨pv,O⟩:=eX (Cal.perV g.Y g.M g.N c.date);obtain⟨T,o⟩:=eX (Cal.perE g.Y g.M g.N c.date);rw[<- o] at i;rw[<- O,<- o];clear O o X x2 x3 y2
 by_cases h:T=0
 ·have h':(T != 0)=false:=by simp[h]
  have i:=Z1 (i.2 h);clear h;go_wp2;go_ret;exact FinePost.good i E
 ·have h':(T != 0):=by simp[h]
  have i:Hid (Jr.dated g c=false):=by show _=_;have:=i.out;cases hd:Jr.dated g c;rfl;exact absurd (this.1 hd) h
  clear h;go_wp2;go_ret;exact FinePost.bad i dC E
theorem a6I (g:Grp) (c:EtC) (A:OA) (n J:Nat) (i:(⟨c,A,n,J⟩:Etr).At w w) :
  Calls prog 171 #[g,.agg (TE c A n J)] w (FinePost (decide (Jr.total c.lines=0)) w):=by
 obtain⟨W1,E,a,Q,I,hz⟩:=nw2 w g (TE c A n J) 29 46;have X:=Z1 E;have Hs:=Z1 (b2R W1 A n J c.lines i.hl (by have h1:c.lines.length<=60:=i.hw.hln;have h2:c.lines.length=n:=i.hl;omega) i.hw.hlw (RowsAt.at_ i.hA a));have W:=cr9 6 I;simp at W;clear E hz Q I i;go_enter func171,ntmps171;go_upto_region 1 with(fail);rw[<- X];go_wp2_with (fail);refine Hs.mono ?_;rintro e W2 ⟨rfl,O⟩;have o:=a.trans (O.mono a.size);obtain⟨s,S⟩:=eX (Jr.total c.lines);rw[<- S];have T:=Z1 S;clear S W
 by_cases h:s=0
 ·have h':(s != 0)=false:=by simp[h]
  have L:Hid (decide (Jr.total c.lines=0)):=Z1 (VT (T.symm.trans h));clear h;go_wp2;go_ret;exact FinePost.good L o
 ·have h':(s != 0):=by simp[h]
  have L:Hid (decide (Jr.total c.lines=0)=false):=Z1 (Vr (fun e=>h (T.out.trans e)));clear h;go_wp2;go_ret;exact FinePost.bad L dC o
theorem Jr.fine_parts {g:Grp} {c:EtC} (h:Jr.formed g c):Gr.valid g/\∃ke:Nat,c.ent=ke/\ke<g.ents.length:=by
 unfold Jr.formed Jr.shape at h;simp only[Vp,Xm] at h;exact⟨h.1.1.1.1,c.ent.toNat,oM,oM⟩
end Go.Proofs.YtbhdekahdnenjaaGreatDoor
