/- Lemmas. -/
import Derived.Test.YtbhdekahdnenjaaGreatDoorG18
set_option linter.unusedVariables false
set_option linter.unusedSimpArgs false
set_option maxRecDepth 100000
set_option maxHeartbeats 16000000
namespace Go.Proofs.YtbhdekahdnenjaaGreatDoor
open Go.Proofs.Tryz Go.RowKit
variable (w:World)
theorem a7P {gr:Bool} {l:List Acc} {k:Nat} (h:(List.range k).all (Ch.okAt gr l)) (a:Ch.okAt gr l k):(List.range (k+1)).all (Ch.okAt gr l):=by
 rw[Ym,Yp,h];simp[a]
theorem ok_bad {gr:Bool} {l:List Acc} {i:Nat} (a:i<l.length) (h:Ch.okAt gr l i=false):Ch.valid gr l=false:=by
 unfold Ch.valid;rw[Ch.all_not a h,Yc]
theorem b0a {w:World} {B:Nat} {A:OA} {l:List Acc} (h:AccsAt w B A l) {k:Nat} (i:k<l.length) {b o:Nat} (a:A=some ⟨b,o,none⟩):w.rangeAt b (o+k*4) (l[k]):=by
 obtain⟨b',E,e,_,s⟩:=RowsAt.look h i;rw[a] at e;cases e;exact s
theorem a2U (A:OA) (n c:Nat) (l:List Acc) (gr:Bool) (hl:l.length=n) (hn:n<=100000) (h:AccsAt w w A l) :
  CL 104 #[.slice A n c,gr] w (Ch.valid gr l):=by
 subst hl
 by_cases a9:200<l.length
 ·have af:(200:Int)<(l.length:Int):=oM
  have Hf:Hid (Ch.valid gr l=false):=by show _=_;unfold Ch.valid;rw[Vr oM,Zm]
  clear h;go_enter func104,ntmps104;go_wp2;go_ret;exact⟨by rw[Hf];rfl,bR⟩
 have av:¬ (200:Int)<(l.length:Int):=oM;have ak:=Z1 a9;clear a9;go_enter func104,ntmps104;go_wp2
 go_loopw [5] (fun i wr=>∃k:Nat,k<=l.length/\i=k/\(List.range k).all (Ch.okAt gr l)/\Below w w wr) (fun i _=>l.length-(intOf i).toNat)
 case atStart=>exact⟨0,Vb _,rfl,rfl,bR⟩
 case round =>
  obtain⟨k,hk,rfl,hg,E⟩:=hrel;have Hg:=Z1 hg;clear hg
  by_cases Q:k<l.length
  ·obtain⟨b,o,ae,an,c0,c1,c2,c3⟩:=AccsAt.four (RowsAt.below h E lR) Q
   have hx:=b0a (RowsAt.below h E lR) Q ae;subst ae;have a0:b<wr.heap.size:=Xg an E.size;have a6:=RowsAt.below h E lR;have hS:Below wr wr wr.drew:=Vw bR 1;have T:=Z1 (Ch.at_lt Q);have aq:(0:Int)<=(k:Int):=oM;have ar:(k:Int)<(l.length:Int):=oM;obtain⟨m,hm⟩:=eX (k-1);have Hm:=Z1 hm;clear c1 c2 c3 hm;go_upto_region 6 with(fail);refine Vs (S:=Below wr wr) kR ?_;change wpAnyH _ _ _ _ _ _ _ _ (World.drew _);refine jT 0 hS ?_;refine jT 1 hS ?_;refine jT 2 hS ?_;refine jT 3 hS ?_;refine jT 4 hS ?_ (v:=(l[k])) (hy:=(Vf (by rfl) 113 _ rfl b (o+k*4) rfl (l[k]) _ (fun W' I=>VK hx I a0) YK rfl a0F));refine jT 5 hS ?_ (v:=.bool gr);refine rZ 6 fun K hK=>?_;go_simp;refine(a7k wr.drew (some ⟨b,o,none⟩) l.length c l l[k] gr rfl hn ((RowsAt.below a6 hS (by have:=E.size;omega)).more (by have:=E.size;show _<=wr.heap.size;omega))).mono ?_;rintro e W2 ⟨rfl,am⟩;have a:Below wr wr W2:=hS.trans (am.mono lR);refine jK hK a ?_;clear hK K
   by_cases J:Ch.basic gr l l[k]
   ·skip
    have a7:=Z1 J;rw[J];clear J;refine jT 7 a ?_ (v:=.bool false);refine jT 8 a ?_ (v:=.bool false);refine jT 9 a ?_
    by_cases hz:k=0
    ·have Hz:=Z1 hz
     have X:Hid ((decide (k=0)||decide ((Ch.at_ l (k-1)).code<l[k].code))):=by show _=_;simp[hz]
     have af:¬ (0:Int)<(k:Int):=oM;clear hz;refine jT 10 a ?_ (v:=.bool false) (hy:=(.inl ⟨by rfl,fun W' I=>by go_simp;exact Hz⟩));refine jT 11 a ?_ (v:=.bool false);refine jT 12 a ?_;refine jT 13 a ?_;refine jT 14 a ?_;refine jT 15 a ?_;refine jT 16 a ?_;refine jT 17 a ?_;refine jT 18 a ?_;refine jT 19 a ?_;refine jT 20 a ?_;refine jT 21 a ?_;refine jT 22 a ?_;refine jT 23 a ?_;refine jT 24 a ?_ (v:=.bool false);refine jT 25 a ?_ (v:=.bool false);refine jT 26 a ?_ (v:=.bool false);refine jT 27 a ?_;refine jT 28 a ?_;refine jT 29 a ?_;refine jT 30 a ?_;refine jT 31 a ?_;refine jT 32 a ?_ (v:=.int .i64 l[k].code) (hy:=(.inl ⟨by rfl,fun W' I=>by have hc:=(I.cell (p:=⟨b,o+k*4,none⟩) a0).trans c0;go_simp⟩));refine jT 35 a ?_;refine jT 36 a ?_;refine rZ 33 fun K hK=>?_;go_simp;refine(a4Z W2 (some ⟨b,o,none⟩) l.length c l l[k].code rfl hn ((RowsAt.below a6 a (by have:=E.size;omega)).more (by have:=E.size;have:=a.size;omega))).mono ?_;rintro e W3 ⟨⟨A3,c3,rfl⟩,ac⟩;have s:Below wr wr W3:=a.trans (ac.mono a.size);refine jK hK s ?_;clear hK K;obtain⟨h9,O⟩:=eX (Ch.climb l (l.length+1) l[k].code);rw[<- O];have W:=Z1 O;clear O;refine jT 34 s ?_
     by_cases a4:(l.length:Int)<(h9:Int)
     ·skip
      refine jT 37 s ?_ (v:=.bool true);refine jT 38 s ?_ (v:=.bool true);refine VF kR ?_ _;have Hf:=Z1 (ok_bad (gr:=gr) Q (by rw[Ch.okAt,T,<- W,Vr (show¬ h9<=l.length by omega),Yc]));clear a4;go_wp2;go_ret;exact⟨by rw[Hf];rfl,E.trans (s.mono E.size)⟩
     ·skip
      refine jT 37 s ?_ (v:=.bool false);refine jT 38 s ?_ (v:=.bool false);refine VF kR ?_ _;have ab:=Z1 (a7P Hg (k:=k) (by rw[Ch.okAt,T,<- W,VT (show h9<=l.length by omega),Qn,a7,Y7];exact X));clear a4;go_wp2;go_roundw
      case rel=>exact⟨k+1,oM,by go_num,ab,E.trans (s.mono E.size)⟩
      case measure=>exact mS
    ·have af:(0:Int)<(k:Int):=oM
     have au:0<k:=oM;have ag:(k:Int)-1=(m:Int):=by have:=Hm.out;omega
     have ah:m<l.length:=by have:=Hm.out;omega
     have ax:(m:Int)<(l.length:Int):=oM;have aw:(0:Int)<=(m:Int):=oM;have ay:IntKind.i64.wrap ((k:Int)-1)=(m:Int):=by rw[ag];exact QG _ oM
     obtain⟨b',o',al,_,ai,_⟩:=AccsAt.four a6 ah
     cases al
     have ad:Hid (Ch.at_ l (k-1)=l[m]):=by show _=_;rw[<- Hm];exact Ch.at_lt ah
     obtain⟨pc,a5⟩:=eX (l[m].code);rw[<- a5] at ai;have a8:=Z1 a5;have aj:Hid (decide (k=0)=false):=by show _=_;exact Vr hz
     clear ag hz a5;refine jT 10 a ?_ (v:=.bool true);refine jT 11 a ?_ (v:=.bool true);refine jT 12 a ?_;refine jT 13 a ?_;refine jT 14 a ?_;refine jT 15 a ?_;refine jT 16 a ?_ (v:=.int .i64 l[k].code) (hy:=(.inl ⟨by rfl,fun W' I=>by have hc:=(I.cell (p:=⟨b,o+k*4,none⟩) a0).trans c0;go_simp⟩));refine jT 17 a ?_;refine jT 18 a ?_;refine jT 19 a ?_;refine jT 20 a ?_;refine jT 21 a ?_;refine jT 22 a ?_ (v:=.int .i64 pc) (hy:=(.inl ⟨by rfl,fun W' I=>by have hc:=(I.cell (p:=⟨b,o+m*4,none⟩) a0).trans ai;go_simp⟩))
     by_cases aa:pc<l[k].code
     ·have ao:¬ l[k].code<=pc:=oM
      have X:Hid ((decide (k=0)||decide ((Ch.at_ l (k-1)).code<l[k].code))):=by show _=_;rw[ad,<- a8,VT aa,Bool.or_true]
      refine jT 23 a ?_ (v:=.bool false);refine jT 24 a ?_ (v:=.bool false);refine jT 25 a ?_ (v:=.bool false);refine jT 26 a ?_ (v:=.bool false);refine jT 27 a ?_;refine jT 28 a ?_;refine jT 29 a ?_;refine jT 30 a ?_;refine jT 31 a ?_;refine jT 32 a ?_ (v:=.int .i64 l[k].code) (hy:=(.inl ⟨by rfl,fun W' I=>by have hc:=(I.cell (p:=⟨b,o+k*4,none⟩) a0).trans c0;go_simp⟩));refine jT 35 a ?_;refine jT 36 a ?_;refine rZ 33 fun K hK=>?_;go_simp;refine(a4Z W2 (some ⟨b,o,none⟩) l.length c l l[k].code rfl hn ((RowsAt.below a6 a (by have:=E.size;omega)).more (by have:=E.size;have:=a.size;omega))).mono ?_;rintro e W3 ⟨⟨A3,c3,rfl⟩,ac⟩;have s:Below wr wr W3:=a.trans (ac.mono a.size);refine jK hK s ?_;clear hK K;obtain⟨h9,O⟩:=eX (Ch.climb l (l.length+1) l[k].code);rw[<- O];have W:=Z1 O;clear O;refine jT 34 s ?_
      by_cases a4:(l.length:Int)<(h9:Int)
      ·skip
       refine jT 37 s ?_ (v:=.bool true);refine jT 38 s ?_ (v:=.bool true);refine VF kR ?_ _;have Hf:=Z1 (ok_bad (gr:=gr) Q (by rw[Ch.okAt,T,<- W,Vr (show¬ h9<=l.length by omega),Yc]));clear a4;go_wp2;go_ret;exact⟨by rw[Hf];rfl,E.trans (s.mono E.size)⟩
      ·skip
       refine jT 37 s ?_ (v:=.bool false);refine jT 38 s ?_ (v:=.bool false);refine VF kR ?_ _;have ab:=Z1 (a7P Hg (k:=k) (by rw[Ch.okAt,T,<- W,VT (show h9<=l.length by omega),Qn,a7,Y7];exact X));clear a4;go_wp2;go_roundw
       case rel=>exact⟨k+1,oM,by go_num,ab,E.trans (s.mono E.size)⟩
       case measure=>exact mS
     ·have ap:l[k].code<=pc:=oM
      have Hf:=Z1 (ok_bad (gr:=gr) Q (by rw[Ch.okAt,T,ad,<- a8,aj,Vr aa];simp));refine jT 23 a ?_ (v:=.bool true);refine jT 24 a ?_ (v:=.bool true);refine jT 25 a ?_ (v:=.bool true);refine jT 26 a ?_ (v:=.bool true);refine jT 27 a ?_;refine jT 28 a ?_;refine jT 29 a ?_;refine jT 30 a ?_;refine jT 31 a ?_;refine jT 32 a ?_;refine jT 33 a ?_;refine jT 34 a ?_;refine jT 35 a ?_;refine jT 36 a ?_;refine jT 37 a ?_;refine jT 38 a ?_ (v:=.bool true);refine VF kR ?_ _;go_wp2;go_ret;exact⟨by rw[Hf];rfl,E.trans (a.mono E.size)⟩
   ·have L:Ch.basic gr l l[k]=false:=by simpa using J
    rw[L];have Hf:=Z1 (ok_bad (gr:=gr) Q (by rw[Ch.okAt,T,L];simp));clear J L;refine jT 7 a ?_ (v:=.bool true);refine jT 8 a ?_ (v:=.bool true);refine jT 9 a ?_;refine jT 10 a ?_;refine jT 11 a ?_;refine jT 12 a ?_;refine jT 13 a ?_;refine jT 14 a ?_;refine jT 15 a ?_;refine jT 16 a ?_;refine jT 17 a ?_;refine jT 18 a ?_;refine jT 19 a ?_;refine jT 20 a ?_;refine jT 21 a ?_;refine jT 22 a ?_;refine jT 23 a ?_;refine jT 24 a ?_;refine jT 25 a ?_ (v:=.bool true);refine jT 26 a ?_ (v:=.bool true);refine jT 27 a ?_;refine jT 28 a ?_;refine jT 29 a ?_;refine jT 30 a ?_;refine jT 31 a ?_;refine jT 32 a ?_;refine jT 33 a ?_;refine jT 34 a ?_;refine jT 35 a ?_;refine jT 36 a ?_;refine jT 37 a ?_;refine jT 38 a ?_ (v:=.bool true);refine VF kR ?_ _;go_wp2;go_ret;exact⟨by rw[Hf];rfl,E.trans (a.mono E.size)⟩
  ·obtain rfl:k=l.length:=oM
   have hf:Hid (Ch.valid gr l):=by show _=_;unfold Ch.valid;rw[Hg,VT (by have:=ak.out;omega)];rfl
   clear h;go_wp2;go_ret;exact⟨by rw[hf.out];rfl,E⟩
theorem b2v (e:Ent) (A:OA) (n c:Nat) (gch:List Acc) (hl:gch.length=n) (hn:n<=100000) (c9:∀a∈gch,a.wf) (he:e.At w w) (hg:AccsAt w w A gch) :
  CL 109 #[e,.slice A n c] w (Gr.mapping e.chart gch e.links):=by
 obtain⟨W1,bz,ap,av,hz⟩:=nw1 w e 81;have HW:=Z1 bz;have b7:=he.at_ ap;have bc:=RowsAt.at_ hg ap;have x2:=cr9 2 av;have x3:=cr9 3 av;simp at x2 x3;have s1:(w:Nat)<W1:=oM;obtain⟨cg,_,bn,bo,_,an⟩:=Z6 av c9 he.hcl he.hcn he.hcw he.hll;have d3:=he.hln;clear bz hz av c9;go_enter func109,ntmps109;go_upto_region 1 with(fail);rw[<- HW];go_wp2_with (fail);refine(a2U W1 A n c gch true hl hn bc).mono ?_;rintro r W2 ⟨rfl,aq⟩;have ab:=ap.trans (aq.mono ap.size);have a5:=gbox cg aq s1;have aw:=b7.at_ aq;clear x2 x3
 by_cases L:Ch.valid true gch
 ·have x2:=cr9 2 a5
  have x3:=cr9 3 a5;simp at x2 x3;have s2:(w:Nat)<W2:=Vq a5;have ch:=Z1 a5;have H1:=Z1 L;have c6:=aw.hc;rw[L];clear a5 L he b7 hg;go_wp2_with (fail);refine(a2U W2 e.cA e.cn e.cc e.chart false bn bo c6).mono ?_;rintro r W3 ⟨rfl,ar⟩;have I:=ab.trans (ar.mono ab.size);have ae:=gbox ch ar s2;have b8:=aw.at_ ar;have be:=RowsAt.at_ (RowsAt.at_ bc aq) ar;clear x2 x3 c6 aw bc
  by_cases S:Ch.valid false e.chart
  ·have x3:=cr9 3 ae
   simp at x3;have s3:(w:Nat)<W3:=Vq ae;have ci:=Z1 ae;have H2:=Z1 S;rw[S];clear ae S
   by_cases h4:400<e.ln
   ·have aa:(400:Int)<(e.ln:Int):=oM
    have HV:Hid (Gr.mapping e.chart gch e.links=false):=by show _=_;rw[Gr.mapping,Vr (by have:=an.out;omega)];simp
    clear h4;go_wp2;go_ret;exact⟨by rw[HV];rfl,I⟩
   ·have aa:¬ (400:Int)<(e.ln:Int):=oM
    have HV:Hid (Gr.mapping e.chart gch e.links=(List.range e.links.length).all (Gr.linkAt e.chart gch e.links)):=by
     show _=_;rw[Gr.mapping,H1,H2,VT (by have:=an.out;omega)];rfl
    have b9:=Z1 b8;have ck:=Z1 be;clear b8 be;go_wp2
    go_loopw [5] (fun i wr=>∃k:Nat,k<=e.ln/\i=k/\(List.range k).all (Gr.linkAt e.chart gch e.links)/\Below W3 W3 wr) (fun i _=>e.ln-(intOf i).toNat)
    case atStart=>exact⟨0,Vb _,rfl,rfl,bR⟩
    case round =>
     obtain⟨k,hk,rfl,b0,af⟩:=hrel;have ax:=Z1 b0;have ct:=af.size;have cs:=I.trans (af.mono I.size);have ag:=gbox ci af s3;have x2:=cr9 2 ag;have cc:=cr9 3 ag;simp at x2 cc;have sw:(w:Nat)<wr:=Vq ag;have cj:=Z1 ag;clear b0 x3 ag
     by_cases d4:k<e.ln
     ·have ai:k<e.links.length:=by have:=an.out;omega
      obtain⟨b,o,bx,cz,c0,c1,c2⟩:=LnksAt.three (RowsAt.below b9.out.hl af lR) ai;have cy:b<wr:=oM;obtain⟨b3,ak,cu⟩:=a0I wr (e.links[k]) 115;have O:=gbox cj b3 sw;obtain⟨Wa,b4⟩:=eX ((wr.alloc (.cells (e.links[k]) 115)));rw[<- b4] at b3 ak cu O;have cd:=Z1 b4;have a6:=af.trans (b3.mono ct);have c7:=(RowsAt.below b9.out.hc a6 lR).more a6.size;obtain⟨a8,br,bt,ay⟩:=Z4 (b3F ai) (a8b ai) ak O;clear b4;go_upto_region 7 with(fail);rw[<- cd];have bm:=Z1 bx;have y0:=cr9 0 ak;have w2:=cr9 2 O;simp at y0 w2;have t1:(wr:Nat)<Wa:=Vq ak;have t3:(w:Nat)<Wa:=Vq O;clear bx ak O c0 c1 c2 x2 cc;go_wp2_with (fail);refine(a1u Wa e.cA e.cn e.cc e.chart e.links[k].frm bn bo c7).mono ?_;rintro r Wb ⟨rfl,a4⟩;obtain⟨q,hq⟩:=eX (Ch.found e.chart e.links[k].frm);rw[<- hq];have Hq:=Z1 hq;obtain⟨au,bj,cw⟩:=a0I Wb q 113;have al:=gbox (gbox bt a4 t1) au (Vq (gbox bt a4 t1));have ah:=gbox (gbox ay a4 t3) au (Vq (gbox ay a4 t3));have X:=(a6.trans (a4.mono a6.size)).trans (au.mono (a6.trans (a4.mono a6.size)).size);obtain⟨Wc,b5⟩:=eX ((Wb.alloc (.cells q 113)));rw[<- b5] at au bj cw al ah X;have ce:=Z1 b5;have c8:=(RowsAt.below ck X lR).more X.size;obtain⟨co,az,bu⟩:=Z3 al ah bj;clear y0 w2 b5 hq c7;have y1:=cr9 1 al;simp at y1;have t4:(wr:Nat)<Wc:=Vq al;clear al ah bj;go_upto_region 8 with(fail);rw[<- ce];go_wp2_with (fail);refine(a1u Wc A n c gch e.links[k].to hl hn c8).mono ?_;rintro r Wd ⟨rfl,ac⟩;obtain⟨p,hp⟩:=eX (Ch.found gch e.links[k].to);rw[<- hp];have Hp:=Z1 hp;obtain⟨ad,bk,cx⟩:=a0I Wd p 113;have bh:=gbox co ac t4;have Q:=gbox bh ad (Vq bh);have bl:=gbox az ac (Vq az);have am:=gbox bl ad (Vq bl);have bg:=gbox bu ac (Vq bu);have aj:=gbox bg ad (Vq bg);have a7:=(X.trans (ac.mono X.size)).trans (ad.mono (X.trans (ac.mono X.size)).size);obtain⟨We,b6⟩:=eX ((Wd.alloc (.cells p 113)));rw[<- b6] at ad bk cx Q am aj a7;obtain⟨cf,bs,bv⟩:=Z3 b6 Q am;clear y1 b6 hp c8 bh bl bg;have y2:=cr9 2 Q;have q1:=cr9 1 aj;have p1:=cr9 1 bk;simp at y2 q1 p1;have t5:(wr:Nat)<We:=Vq Q;have J:=I.trans (a7.mono I.size);clear Q am aj bk;go_upto_region 9 with(fail);rw[<- cf];have s:Gr.linkOk e.chart gch e.links[k]=false->Hid (Gr.mapping e.chart gch e.links=false):=fun h=>Z1 (a1K ai (by rw[Gr.linkAt,a8,h];rfl))
      by_cases L:Ch.has e.chart e.links[k].frm
      case neg =>
       have T:Ch.has e.chart e.links[k].frm=false:=by simpa using L
       have E:=s (by rw[Gr.linkOk,T];rfl);rw[T];clear L T s;go_wp2;go_ret;exact⟨by rw[E];rfl,J⟩
      by_cases S:Ch.has gch e.links[k].to
      case neg =>
       have W:Ch.has gch e.links[k].to=false:=by simpa using S
       have E:=s (by rw[Gr.linkOk,L,W];rfl);rw[L,W];clear L S W s;go_wp2;go_ret;exact⟨by rw[E];rfl,J⟩
      by_cases h3:q.kind=p.kind
      case neg =>
       have cr:(q.kind != p.kind):=by simp[h3]
       have E:=s (by rw[Gr.linkOk,L,S,<- Hq,<- Hp,Vr h3];rfl);rw[L,S];clear L S h3 s;go_wp2;go_ret;exact⟨by rw[E];rfl,J⟩
      have cr:(q.kind != p.kind)=false:=by simp[h3]
      by_cases h4:Gr.date e.links[k].since
      case neg =>
       have aa:Gr.date e.links[k].since=false:=by simpa using h4
       have E:=s (by rw[Gr.linkOk,aa];simp);have ao:decide (-25567<=e.links[k].since/\e.links[k].since<=84005)=false:=aa;rw[L,S];clear L S h3 s h4 aa;go_wp2_with (fail);refine(a2W e.links[k].since We).mono ?_;rw[ao];rintro r Wf ⟨rfl,rfl⟩;go_wp2;go_ret;exact⟨by rw[E];rfl,J⟩
      have ao:decide (-25567<=e.links[k].since/\e.links[k].since<=84005):=h4;have cn:Hid (Gr.linkOk e.chart gch e.links[k]):=by show _=_;rw[Gr.linkOk,L,S,h4,<- Hq,<- Hp,VT h3];rfl
      rw[L,S];clear L S h3 h4 s;go_wp2_with (fail);refine(a2W e.links[k].since We).mono ?_;rw[ao];rintro r Wf ⟨rfl,rfl⟩;clear y2 q1 p1 ao;go_wp2;obtain⟨wo,rfl⟩:=eX (wr:World)
      go_loopw [11] (fun j wr=>∃m:Nat,m<=k/\j=m/\(e.links.take m).any (fun r=>decide (r.frm=e.links[k].frm)&&decide (r.since=e.links[k].since))=false/\Below We We wr) (fun j _=>k-(intOf j).toNat)
      case atStart=>exact⟨0,Vb _,rfl,rfl,bR⟩
      case round =>
       obtain⟨m,hm,rfl,ca,a0⟩:=hrel;have b2:=Z1 ca;have c4:=J.trans (a0.mono J.size);clear ca
       by_cases d5:m<k
       ·have bf:m<e.links.length:=oM
        have c5:=a7.trans (a0.mono a7.size);obtain⟨b',o',bw,_,d0,d1,d2⟩:=LnksAt.three (RowsAt.below b9.out.hl c5 lR) bf;rw[bm] at bw
        cases bw
        have bi:=gbox bs a0 (Vq bs);have cb:=gbox bv a0 (Vq bv);have y0:=cr9 0 bi;have y2:=cr9 2 bi;have x3:=cr9 3 cb;simp at y0 y2 x3;rw[bm] at x3;have i0:(0:Int)<=(m:Int):=oM;have i1:(m:Int)<(e.ln:Int):=oM;obtain⟨f1,ba⟩:=eX (e.links[m].frm);obtain⟨f2,bb⟩:=eX (e.links[m].since);rw[<- ba] at d0;rw[<- bb] at d2;have bp:=Z1 ba;have bq:=Z1 bb;clear bi cb ba bb d1
        by_cases g1:f1=e.links[k].frm
        ·have cp:(f1==e.links[k].frm):=by simp[g1]
         have G1:=Z1 g1;clear g1
         by_cases g2:f2=e.links[k].since
         ·have cq:(f2==e.links[k].since):=by simp[g2]
          have E:=Z1 (a1K (chart:=e.chart) (gch:=gch) ai (by
           rw[Gr.linkAt,a8,br]
           have:(e.links.take k).any (fun r=>decide (r.frm=e.links[k].frm)&&decide (r.since=e.links[k].since)):=by
            rw[YY];exact⟨e.links[m],XT.2 ⟨m,oM,rfl⟩,by rw[<- bp,<- bq,G1.out,g2];simp⟩
           rw[this];simp))
          clear g2;go_wp2_with (go_quiet (fail));go_ret;exact⟨by rw[E];rfl,Vw c4 _⟩
         ·have cq:(f2==e.links[k].since)=false:=by simp[g2]
          have a9:Hid ((e.links.take (m+1)).any (fun r=>decide (r.frm=e.links[k].frm)&&decide (r.since=e.links[k].since))=false):=by
           show _=_;rw[tse bf,YD,b2];simp[<- bq.out,g2]
          clear g2;go_wp2_with (go_quiet (fail));go_roundw
          case rel=>exact⟨m+1,oM,by go_num,a9,Vw a0 _⟩
          case measure=>exact mS
        ·have cp:(f1==e.links[k].frm)=false:=by simp[g1]
         have a9:Hid ((e.links.take (m+1)).any (fun r=>decide (r.frm=e.links[k].frm)&&decide (r.since=e.links[k].since))=false):=by
          show _=_;rw[tse bf,YD,b2];simp[<- bp.out,g1]
         clear g1;go_wp2_with (go_quiet (fail));go_roundw
         case rel=>exact⟨m+1,oM,by go_num,a9,Vw a0 _⟩
         case measure=>exact mS
       ·obtain rfl:m=k:=oM
        have b1:=Z1 (Gr.range_all ax (show Gr.linkAt e.chart gch e.links m by rw[Gr.linkAt,a8,br,b2,cn];rfl));have c3:=a7.trans (a0.mono a7.size);go_wp2;go_roundw
        case rel=>exact⟨m+1,oM,by go_num,b1,c3⟩
        case measure=>exact mS
     ·obtain rfl:k=e.ln:=oM
      have E:Hid (Gr.mapping e.chart gch e.links):=by show _=_;rw[HV,an];exact ax
      go_wp2;go_ret;exact⟨by rw[E];rfl,cs⟩
  ·have W:Ch.valid false e.chart=false:=by simpa using S
   have HV:Hid (Gr.mapping e.chart gch e.links=false):=by show _=_;rw[Gr.mapping,W];simp
   rw[W];clear S W ae b8 be;go_wp2;go_ret;exact⟨by rw[HV];rfl,I⟩
 ·have T:Ch.valid true gch=false:=by simpa using L
  have HV:Hid (Gr.mapping e.chart gch e.links=false):=by show _=_;rw[Gr.mapping,T];simp
  rw[T];clear L T a5 aw he b7;go_wp2;go_ret;exact⟨by rw[HV];rfl,ab⟩
end Go.Proofs.YtbhdekahdnenjaaGreatDoor
namespace Go.Proofs.YtbhdekahdnenjaaGreatDoor
open Go.Proofs.Tryz Go.RowKit
variable (w:World)
theorem a9s (g:Grp) (hg:g.At w w) :
  CL 55 #[g] w (Gr.books g):=by
 obtain⟨W1,bj,ai,a6,hz⟩:=nw1 w g 29;have HW:=Z1 bj;have b6:=hg.at_ ai;have x0:=cr9 0 a6;have x1:=cr9 1 a6;have x2:=cr9 2 a6;have x3:=cr9 3 a6;simp at x0 x1 x2 x3;have s1:(w:Nat)<W1:=oM;obtain⟨c9,cf,av⟩:=Z3 a6 hg.hn hg.hcl;have cj:=hg.hcn;clear bj hz a6 hg;go_enter func55,ntmps55;go_upto_region 1 with(fail);rw[<- HW];go_wp2_with (fail);refine(a8g W1 g.cur cf).mono ?_;rintro e W2 ⟨rfl,rfl⟩
 by_cases h1:Gr.isCur g.cur
 case neg =>
  have aw:Gr.isCur g.cur=false:=by simpa using h1
  have HV:Hid (Gr.books g=false):=by show _=_;rw[Gr.books,aw];rfl
  rw[aw];clear h1 aw b6;go_wp2;go_ret;exact⟨by rw[HV];rfl,ai⟩
 have H1:=Z1 h1;rw[h1];clear h1;go_wp2_with (fail);refine(a2v g.Y g.M g.N W1).mono ?_;rintro e W2 ⟨rfl,b0⟩;have a8:=ai.trans (b0.mono ai.size);have ab:=gbox c9 b0 s1;have am:=b6.at_ b0;clear x0 x1 x2 x3 b6
 by_cases h2:Cal.ok g.Y g.M g.N
 case neg =>
  have ax:Cal.ok g.Y g.M g.N=false:=by simpa using h2
  have HV:Hid (Gr.books g=false):=by show _=_;rw[Gr.books,ax];simp
  rw[ax];clear h2 ax am ab;go_wp2;go_ret;exact⟨by rw[HV];rfl,a8⟩
 have H2:=Z1 h2;rw[h2];have ca:=Z1 ab;have x4:=cr9 4 ab;simp at x4;have s2:(w:Nat)<W2:=Vq ab;have bq:=am.hc;have cd:=Z1 am;clear h2 ab am;go_wp2_with (fail);refine(a2U W2 g.cA g.cn g.cc g.chart true av cj bq).mono ?_;rintro e W3 ⟨rfl,b1⟩;have a9:=a8.trans (b1.mono a8.size);have al:=gbox ca b1 s2;have b7:=cd.out.at_ b1;clear x4 bq
 by_cases h3:Ch.valid true g.chart
 case neg =>
  have ay:Ch.valid true g.chart=false:=by simpa using h3
  have HV:Hid (Gr.books g=false):=by show _=_;rw[Gr.books,Gr.accounts,ay];simp
  rw[ay];clear h3 ay b7 al;go_wp2;go_ret;exact⟨by rw[HV];rfl,a9⟩
 have H3:=Z1 h3;rw[h3];have cb:=Z1 al;have bb:=Z1 b7;have s3:(w:Nat)<W3:=Vq al;clear h3 al b7;go_wp2
 go_loopw [3] (fun i wr=>∃k:Nat,k<=g.cn/\i=k/\(g.chart.take k).all Gr.based/\Below W3 W3 wr) (fun i _=>g.cn-(intOf i).toNat)
 case atStart=>exact⟨0,Vb _,rfl,rfl,bR⟩
 case round =>
  obtain⟨k,hk,rfl,ha,E⟩:=hrel;have Ha:=Z1 ha;have hq:=E.size;have a0:=gbox cb E s3;have x4:=cr9 4 a0;simp at x4;have sw:(w:Nat)<wr:=Vq a0;have X:=a9.trans (E.mono a9.size);have b9:=Z1 a0;clear ha a0
  by_cases cn:k<g.cn
  ·have T:k<g.chart.length:=by have:=av.out;omega
   obtain⟨b,o,O,b4,c0,c1,c2,c3⟩:=AccsAt.four (RowsAt.below bb.hc E lR) T;rw[O] at x4;clear O
   by_cases h4:Gr.based g.chart[k]
   ·have hf:=Z1 (a3z T Ha h4)
    go_wp2_with (fail);refine(a6H wr g.chart[k]).mono ?_;rw[h4];rintro e w4 ⟨rfl,b2⟩;clear h4 x4 c0 c1 c2 c3;go_wp2;go_roundw
    case rel=>exact⟨k+1,oM,by go_num,hf.out,E.trans (b2.mono hq)⟩
    case measure=>exact mS
   ·have az:Gr.based g.chart[k]=false:=by simpa using h4
    have hf:=a3A (P:=Gr.based) T az;have HV:Hid (Gr.books g=false):=by show _=_;rw[Gr.books,Gr.accounts,hf];simp
    go_wp2_with (fail);refine(a6H wr g.chart[k]).mono ?_;rw[az];rintro e w4 ⟨rfl,b2⟩;clear h4 az hf x4 c0 c1 c2 c3;go_wp2;go_ret;exact⟨by rw[HV];rfl,X.trans (b2.mono X.size)⟩
  ·obtain rfl:k=g.cn:=oM
   have ad:g.chart.all Gr.based:=by have:=Ha.out;rwa [<- av,Xs] at this
   have HV:Hid (Gr.books g=(List.range (Gr.roles g).length).all (Gr.roleAt g.chart (Gr.roles g))):=by
    show _=_;rw[Gr.books,Gr.accounts,H1,H2,H3,ad];rfl
   have c7:=Z1 (a1H b9);have af:=(bb.below E lR).more hq;clear ad;obtain⟨W4,rfl⟩:=eX (wr:World);go_wp2_with (refine VH rfl 26 (.tmp 39) rfl w.heap.size 5 rfl [g.r0,g.r1,g.r2,g.r3,g.r4,g.r5,g.r6,g.r7,g.r8,g.r9,g.r10,g.r11,g.r12,g.r13,g.r14] _ c7.out K8 rfl a1E ?_);refine(a4D W4 g).mono ?_;rintro e W5 ⟨aj,rb,rfl,_,ah⟩;have a5:=X.trans (aj.mono X.size);have cw:=aj.size;have bn:=gbox b9 aj sw;have cc:=Z1 bn;have ce:=Z1 (af.at_ aj);have b8:=a2H g;have HR:=Z1 ah;have s5:(w:Nat)<W5:=oM;obtain⟨L,hL⟩:=eX (Gr.roles g);rw[<- hL] at b8 HR HV;have bg:=Z1 b8;clear ah bn af c7 b8 hL;go_wp2
   go_loopw [5] (fun i wr=>∃k:Nat,k<=15/\i=k/\(List.range k).all (Gr.roleAt g.chart L)/\Below W5 W5 wr) (fun i _=>15-(intOf i).toNat)
   case atStart=>exact⟨0,Vb _,rfl,rfl,bR⟩
   case round =>
    obtain⟨k,hk,rfl,ap,E⟩:=hrel;have ao:=Z1 ap;have hq:=E.size;have X:=a5.trans (E.mono a5.size);clear ap
    by_cases cn:k<15
    ·have T:k<L.length:=by have:=bg.out;omega
     obtain⟨b,o,O,b4,c0,c1,c2,c3,c4⟩:=RolesAt.five (RowsAt.below HR E lR) T
     cases O
     simp only[VN] at c0 c1 c2 c3 c4;have c6:rb<wr:=oM;have a0:=gbox cc E s5;have ck:=Z1 (a1Z a0);have co:(w:Nat)<wr:=Vq a0;have cs:(0:Int)<=(k:Int):=oM;have cq:(k:Int)<15:=oM;have hS:Below wr wr wr.drew:=Vw bR 1;have af:=(ce.below E lR).more hq;have a7:=Z1 (a9Z T);obtain⟨q,c5⟩:=eX (Ch.found g.chart L[k].code);obtain⟨hh,br⟩:=eX (Ch.has g.chart L[k].code);have Hq:=Z1 c5;have Hh:=Z1 br;clear a0 c0 c2 c3 c4 c5 br;go_upto_region 12 with(fail);refine Vs (S:=Below wr wr) kR ?_;change wpAnyH _ _ _ _ _ _ _ _ (World.drew _);obtain⟨W0,bm⟩:=eX wr.drew;rw[<- bm] at hS⊢;clear bm;refine jT 0 hS ?_ (v:=g) (hy:=(Vf (by rfl) 29 _ rfl w.heap.size 0 rfl g _ (fun W' b3=>VK ck.out b3 co) VS rfl VJ));refine jT 1 hS ?_;refine jT 2 hS ?_;refine jT 3 hS ?_;refine jT 4 hS ?_;refine jT 5 hS ?_ (v:=.int .i64 L[k].code) (hy:=(.inl ⟨by rfl,fun W' b3=>by have hc:=(b3.cell (p:=⟨rb,k*5+1,none⟩) c6).trans c1;go_simp⟩));refine a0w fun cx cr Q' a' bt bu bv bs=>?_
     have bi:∀(W':World) (p:Nat),Below wr wr W'->W'.heap[p]?=some (.cells q 113 (0,0))->wr.heap.size<=p->Q' .normal ((((((a'.put (some 55) (.tuple #[q,hh])).put (some 48) (.tuple #[q,hh])).put (some 56) (q)).put (some 57) (.bool hh)).put (some 6) (.pointer (some ⟨p,0,none⟩))).put (some 7) (.bool hh)) W':=by
      intro W' p bp a hp;subst bt bu bv bs;simp only[z];simp only[Exit.then];have q1:=cr9 1 a;have q2:=cr9 2 a;simp at q1 q2;have ac:=X.trans (bp.mono X.size);have aq:=E.trans (bp.mono hq);obtain⟨b,o,O,b4,c0,bh,c2,c3,c4⟩:=RolesAt.five (RowsAt.below HR aq lR) T
      cases O
      simp only[VN] at c0 bh c2 c3 c4;have s:Gr.roleAt g.chart L k=false->Hid (Gr.books g=false):=fun h=>Z1 (by rw[HV];exact Ch.all_not T h);clear a c1
      cases hh
      case false =>
       have Q:=s (by rw[Gr.roleAt,a7,<- Hh];rfl);clear s;go_wp2_with (go_quiet (fail));go_ret;exact⟨by rw[Q];rfl,Vw ac _⟩
      by_cases g3:q.kind=L[k].kind
      case neg =>
       have ch:(q.kind != L[k].kind):=by simp[g3]
       have Q:=s (by rw[Gr.roleAt,a7,<- Hq,Vr g3];simp);clear g3 s;go_wp2_with (go_quiet (fail));go_ret;exact⟨by rw[Q];rfl,Vw ac _⟩
      have ch:(q.kind != L[k].kind)=false:=by simp[g3]
      by_cases g4:q.basis=L[k].basis
      case neg =>
       have ci:(q.basis != L[k].basis):=by simp[g4]
       have Q:=s (by rw[Gr.roleAt,a7,<- Hq,Vr g4];simp);clear g3 g4 s;go_wp2_with (go_quiet (fail));go_ret;exact⟨by rw[Q];rfl,Vw ac _⟩
      have ci:(q.basis != L[k].basis)=false:=by simp[g4]
      have bf:Hid ((List.take k L).any (fun y=>decide (y.code=L[k].code))=false->Gr.roleAt g.chart L k):=by
       show _->_;intro hh;rw[Gr.roleAt,a7,<- Hh,<- Hq,VT g3,VT g4,hh];rfl
      clear g3 g4;go_wp2_with (fail);go_quiet (fail);go_wp2;clear q1 q2;have ar:=Vw aq nq;obtain⟨wo,c8⟩:=eX (W'.drewN nq:World);rw[<- c8] at ar⊢;clear c8 c0 bh c2 c3 c4
      go_loopw [8] (fun j wr=>∃m:Nat,m<=k/\j=m/\(L.take m).any (fun y=>decide (y.code=L[k].code))=false/\Below W5 W5 wr) (fun j _=>k-(intOf j).toNat)
      case atStart=>exact⟨0,Vb _,rfl,rfl,ar⟩
      case round =>
       obtain⟨m,hm,rfl,bz,ae⟩:=hrel;have bc:=Z1 bz;have bo:=a5.trans (ae.mono a5.size);clear bz
       by_cases ct:m<k
       ·have bx:m<L.length:=oM
        obtain⟨b,o,O,b4,c0,c1,c2,c3,c4⟩:=RolesAt.five (RowsAt.below HR ae lR) T
        cases O
        obtain⟨b,o,O,cp,d0,d1,d2,d3,d4⟩:=RolesAt.five (RowsAt.below HR ae lR) bx
        cases O
        simp only[VN] at c1 d1;have i0:(0:Int)<=(m:Int):=oM;have i1:(m:Int)<15:=oM;clear c0 c2 c3 c4 d0 d2 d3 d4;obtain⟨f1,b5⟩:=eX (L[m].code);rw[<- b5] at d1;have ba:=Z1 b5;clear b5
        by_cases g1:f1=L[k].code
        ·have cg:(f1==L[k].code):=by simp[g1]
         have Q:=s (by
          rw[Gr.roleAt,a7]
          have:(L.take k).any (fun y=>decide (y.code=L[k].code)):=by
           rw[YY];exact⟨L[m],XT.2 ⟨m,oM,rfl⟩,by rw[<- ba,g1];simp⟩
          rw[this];simp)
         clear g1 s;go_wp2_with (go_quiet (fail));go_ret;exact⟨by rw[Q];rfl,Vw bo _⟩
        ·have cg:(f1==L[k].code)=false:=by simp[g1]
         have be:Hid ((L.take (m+1)).any (fun y=>decide (y.code=L[k].code))=false):=by
          show _=_;rw[tse bx,YD,bc];simp[<- ba.out,g1]
         clear g1 s;go_wp2_with (go_quiet (fail));go_roundw
         case rel=>exact⟨m+1,oM,by go_num,be,Vw ae _⟩
         case measure=>exact mS
       ·obtain rfl:m=k:=oM
        have au:=Z1 (Gr.range_all ao (bf bc));clear s;go_wp2;go_roundw
        case rel=>exact⟨m+1,oM,by go_num,au,ae⟩
        case measure=>exact mS
     subst bt bu bv bs;refine Xc (rs:=[6,10]) kR sP (XQ rfl (fun K I=>?_) (XQ rfl (fun K I=>?_) Ys))
     ·skip
      go_simp;refine(a6N W0 g L[k].code (af.at_ hS)).mono ?_;rw[<- Hq,<- Hh];rintro e W6 ⟨rfl,ak⟩;have J:Below wr wr W6:=hS.trans (ak.mono hS.size);have an:=J.size;refine jK I J ?_;clear I K;refine jT 7 J ?_;refine jT 8 J ?_;refine jT 9 J ?_ (v:=.bool hh);refine rZ 10 fun K I=>?_;obtain⟨aa,a,_⟩:=a0I W6 #[(),(),(),()] 113;go_simp;obtain⟨W7,bl⟩:=eX (W6.alloc (.cells #[(),(),(),()] 113));rw[<- bl] at aa a⊢;clear bl;have W:Below wr wr W7:=J.trans (aa.mono an);refine jK I W ?_;clear I K;refine rZ 11 fun K I=>?_;rw[Vt (by rfl)];refine VQ 113 _ _ none rfl rfl W6.heap.size 113 _ q rfl rfl a rfl a0F (accOne _ _ _ _) ?_;have hR:=VC W7 W6 _ q _ _ a;have a4:=below_setRow W (show(wr:Nat)<=W6 by omega) q;refine jK I a4 ?_;clear I K;refine rZ 12 fun K I=>?_;go_simp;refine jK I a4 ?_;clear I K;refine VF kR ?_ _;have hn:=bi _ W6 a4 hR oM;simp only[z] at hn;exact hn
     ·skip
      obtain⟨ak,a,_⟩:=a0I W0 #[(),(),(),()] 113;go_simp;obtain⟨W6,bk⟩:=eX (W0.alloc (.cells #[(),(),(),()] 113));rw[<- bk] at ak a⊢;clear bk;have J:Below wr wr W6:=hS.trans (ak.mono hS.size);have an:=J.size;have bw:=Vq a;have cu:=hS.size;refine jK I J ?_;clear I K;refine rZ 6 fun K I=>?_;go_simp;refine(a6N W6 g L[k].code ((af.below J lR).more an)).mono ?_;rw[<- Hq,<- Hh];rintro e W7 ⟨rfl,aa⟩;have W:Below wr wr W7:=J.trans (aa.mono an);have ag:=gbox a aa bw;refine jK I W ?_;clear I K;refine jT 7 W ?_;refine jT 8 W ?_;refine jT 9 W ?_ (v:=.bool hh);refine rZ 11 fun K I=>?_;rw[Vt (by rfl)];refine VQ 113 _ _ none rfl rfl W0.heap.size 113 _ q rfl rfl ag rfl a0F (accOne _ _ _ _) ?_;have hR:=VC W7 W0 _ q _ _ ag;have a4:=below_setRow W (show(wr:Nat)<=W0 by omega) q;refine jK I a4 ?_;clear I K;refine rZ 12 fun K I=>?_;go_simp;refine jK I a4 ?_;clear I K;refine VF kR ?_ _;have hn:=bi _ W0 a4 hR oM;simp only[z] at hn;exact hn
    ·obtain rfl:k=15:=oM
     have Q:Hid (Gr.books g):=by show _=_;rw[HV,bg];exact ao
     go_wp2;go_ret;exact⟨by rw[Q];rfl,X⟩
def NamePost (l:List Ent) (s:BA) (w:World) (e:Ending) (w':World):Prop :=
 Below w w w'/\((e=.returned (.tuple #[(),false])/\l.any (fun y=>decide (y.name=s))=false) ∨
  ∃(k:Nat) (h:k<l.length),e=.returned (.tuple #[k,true])/\l[k].name=s/\(l.take k).any (fun y=>decide (y.name=s))=false)
theorem b0S (g:Grp) (s:BA) (W:g.At w w) :
  Calls prog 56 #[g,.string s] w (NamePost g.ents s w):=by
 obtain⟨W1,Q,E,S,hz⟩:=nw1 w g 29;have HW:=Z1 Q;have a0:=Z1 (W.at_ E);have L:=Z1 W.hel;have a5:=W.hen;have T:=cr9 20 S;simp at T;clear Q hz S W;go_enter func56,ntmps56;go_upto_region 1 with(fail);rw[<- HW];go_wp2
 go_loop [6] (fun i=>∃k:Nat,k<=g.en/\i=k/\(g.ents.take k).any (fun y=>decide (y.name=s))=false) (fun i=>g.en-(intOf i).toNat)
 case atStart=>exact⟨0,Vb _,rfl,rfl⟩
 case round =>
  obtain⟨k,hk,rfl,ha⟩:=hrel;have X:=Z1 ha;clear ha
  by_cases a6:k<g.en
  ·have I:k<g.ents.length:=by have:=L.out;omega
   obtain⟨b,o,O,_,c0,c1,c2,c3,c4⟩:=EntsAt.five a0.he I;rw[O] at T;clear O c1 c2 c3 c4
   by_cases J:g.ents[k].name=s
   ·have a4:(g.ents[k].name.toList==s.toList):=by rw[J];simp
    have H1:=Z1 J;clear J;go_wp2
    go_ret2
    exact⟨E,.inr ⟨k,I,rfl,H1,X⟩⟩
   ·have a4:(g.ents[k].name.toList==s.toList)=false:=by
     rw[Jf];intro e;rw[JS,JS] at e;exact J (QC (Array.toList_inj.mp e))
    have a:Hid ((g.ents.take (k+1)).any (fun y=>decide (y.name=s))=false):=by
     show _=_;rw[tse I,YD,X];simp[J]
    clear J;go_wp2
    go_round
    case rel=>exact⟨k+1,oM,by go_num,a⟩
    case measure=>exact mS
  ·obtain rfl:k=g.en:=oM
   have a:Hid (g.ents.any (fun y=>decide (y.name=s))=false):=by show _=_;have:=X.out;rwa [<- L,Xs] at this
   go_wp2
   go_ret2
   exact⟨E,.inl ⟨rfl,a⟩⟩
theorem b2T (g:Grp) (x:Ent) (hg:g.At w w) (hx:x.At w w) :
  CL 57 #[g,x] w (Gr.entity g x):=by
 obtain⟨W1,ar,O,ae,s,hz⟩:=nw2 w g x 29 81;have HW:=Z1 ar;have T:=RowsAt.at_ hg.hc O;have Q:=hx.at_ O;have x4:=cr9 4 ae;have y0:=cr9 0 s;have y1:=cr9 1 s;have y2:=cr9 2 s;have y3:=cr9 3 s;have y4:=cr9 4 s;simp at x4 y0 y1 y2 y3 y4;have s1:(w:Nat)<W1:=oM;have bf:(w:Nat)+1<W1:=oM;obtain⟨ay,az,b0⟩:=Z3 ae s hg.hcl;have bb:=hg.hcn;obtain⟨b2,b8,b1,am⟩:=Z4 hg.hcw hx.hn hx.hu hx.hll;have bh:=hx.hln;clear ar hz ae s hg hx;go_enter func57,ntmps57;go_upto_region 1 with(fail);rw[<- HW];go_wp2_with (fail);refine(b0p W1 x.name b8).mono ?_;rintro e W2 ⟨rfl,rfl⟩
 by_cases h1:Gr.isName x.name
 case neg =>
  have ab:Gr.isName x.name=false:=by simpa using h1
  have X:Hid (Gr.entity g x=false):=by show _=_;rw[Gr.entity,ab];rfl
  rw[ab];clear h1 ab T Q;go_wp2;go_ret;exact⟨by rw[X];rfl,O⟩
 have H1:=Z1 h1;rw[h1];clear h1;go_wp2_with (fail);refine(a8g W1 x.cur b1).mono ?_;rintro e W2 ⟨rfl,rfl⟩
 by_cases h2:Gr.isCur x.cur
 case neg =>
  have ac:Gr.isCur x.cur=false:=by simpa using h2
  have X:Hid (Gr.entity g x=false):=by show _=_;rw[Gr.entity,ac];simp
  rw[ac];clear h2 ac T Q;go_wp2;go_ret;exact⟨by rw[X];rfl,O⟩
 have H2:=Z1 h2;rw[h2];clear h2;go_wp2_with (fail);refine(b2v W1 x g.cA g.cn g.cc g.chart b0 bb b2 Q T).mono ?_;rintro e W3 ⟨rfl,a4⟩;have W:=O.trans (a4.mono O.size);have af:=gbox ay a4 s1;have ag:=gbox az a4 bf;have al:=Q.at_ a4
 by_cases h3:Gr.mapping x.chart g.chart x.links
 case neg =>
  have ad:Gr.mapping x.chart g.chart x.links=false:=by simpa using h3
  have X:Hid (Gr.entity g x=false):=by show _=_;rw[Gr.entity,ad];simp
  rw[ad];clear h3 ad T Q x4 y0 y1 y2 y3 y4 al af ag;go_wp2;go_ret;exact⟨by rw[X];rfl,W⟩
 have X:Hid (Gr.entity g x=x.links.all (Gr.openTo (Gr.roles g))):=by show _=_;rw[Gr.entity,H1,H2,h3];rfl
 rw[h3];obtain⟨ax,b3,b6⟩:=Z3 (a1H af) ag al.hl;clear h3 x4 y0 y1 y2 y3 y4 af ag T Q al;go_wp2_with (refine VH rfl 26 (.tmp 25) rfl w.heap.size 5 rfl [g.r0,g.r1,g.r2,g.r3,g.r4,g.r5,g.r6,g.r7,g.r8,g.r9,g.r10,g.r11,g.r12,g.r13,g.r14] _ ax.out K8 rfl a1E ?_);refine(a4D W3 g).mono ?_;rintro e W5 ⟨a5,rb,rfl,_,I⟩;have bc:=a5.size;have J:=W.trans (a5.mono W.size);have ak:=a2H g;obtain⟨L,hL⟩:=eX (Gr.roles g);rw[<- hL] at ak I X;have HR:=Z1 I;have ao:=Z1 ak;have a0:=gS b3 a5;have b7:=Z1 ((RowsAt.below b6 a5 lR).more bc);clear hL I ak ax;go_wp2
 go_loopw [6] (fun i wr=>∃k:Nat,k<=x.ln/\i=k/\(x.links.take k).all (Gr.openTo L)/\Below W5 W5 wr) (fun i _=>x.ln-(intOf i).toNat)
 case atStart=>exact⟨0,Vb _,rfl,rfl,bR⟩
 case round =>
  obtain⟨k,hk,rfl,a8,a6⟩:=hrel;have a7:=Z1 a8;have hq:=a6.size;have ba:=J.trans (a6.mono J.size);have he:=gbox a0 a6 (Vq a0);have y3:=cr9 3 he;simp at y3;have t1:(w:Nat)+1<wr:=Vq he;clear a8 he
  by_cases bi:k<x.ln
  ·have aj:k<x.links.length:=by have:=am.out;omega
   go_wp2;obtain⟨wo,rfl⟩:=eX (wr:World);clear y3
   go_loopw [7] (fun j wr=>∃m:Nat,m<=15/\j=m/\(L.take m).any (fun y=>decide (y.code=x.links[k].to)&&!y.mapped)=false/\Below W5 W5 wr) (fun j _=>15-(intOf j).toNat)
   case atStart=>exact⟨0,Vb _,rfl,rfl,a6⟩
   case round =>
    obtain⟨m,hm,rfl,aw,E⟩:=hrel;have an:=Z1 aw;have au:=J.trans (E.mono J.size);clear aw
    by_cases bj:m<15
    ·have av:m<L.length:=by have:=ao.out;omega
     have he:=gbox a0 E (Vq a0);have y3:=cr9 3 he;simp at y3;obtain⟨b,o,ap,_,c0,c1,c2⟩:=LnksAt.three (RowsAt.below b7 E lR) aj;rw[ap] at y3;obtain⟨b',o',aq,bg,d0,d1,d2,d3,d4⟩:=RolesAt.five (RowsAt.below HR E lR) av
     cases aq
     simp only[VN] at d1 d4;have i0:(0:Int)<=(m:Int):=oM;have i1:(m:Int)<15:=oM;have i2:(0:Int)<=(k:Int):=oM;have i3:(k:Int)<(x.ln:Int):=oM;obtain⟨f1,ah⟩:=eX (L[m].code);obtain⟨f2,ai⟩:=eX (L[m].mapped);rw[<- ah] at d1;rw[<- ai] at d4;have b4:=Z1 ah;have b5:=Z1 ai
     have a:Hid (∀q,(decide (f1=x.links[k].to)&&!f2)=q->(L.take (m+1)).any (fun y=>decide (y.code=x.links[k].to)&&!y.mapped)=q):=by
      show∀q,_;intro q hq;rw[tse av,YD,an,<- hq];simp[<- b4.out,<- b5.out]
     clear ap he c0 c2 d0 d2 d3 ah ai
     by_cases g1:f1=x.links[k].to
     ·have b9:(x.links[k].to==f1):=by simp[g1]
      cases f2
      case false =>
       have a9:Hid (Gr.entity g x=false):=by
        show _=_;rw[X];refine a3A aj ?_;have h1:=a.out true (by simp[g1]);rw[Gr.openTo]
        have:L.any (fun y=>decide (y.code=x.links[k].to)&&!y.mapped):=by
         rw[YY] at h1⊢;obtain⟨y,hy,be⟩:=h1;exact⟨y,ZV hy,be⟩
        rw[this];rfl
       clear g1;go_wp2_with (go_quiet (fail));go_ret;exact⟨by rw[a9];rfl,Vw au _⟩
      case true =>
       have S:=Z1 (a false sP);clear g1;go_wp2_with (go_quiet (fail));go_roundw
       case rel=>exact⟨m+1,oM,by go_num,S,Vw E _⟩
       case measure=>exact mS
     ·have b9:(x.links[k].to==f1)=false:=by simp;exact fun e=>g1 e.symm
      have S:=Z1 (a false (by simp[g1]));clear g1;go_wp2_with (go_quiet (fail));go_roundw
      case rel=>exact⟨m+1,oM,by go_num,S,Vw E _⟩
      case measure=>exact mS
    ·obtain rfl:m=15:=oM
     have aa:=Z1 (a3z (P:=Gr.openTo L) aj a7 (by
      have:=an.out;rw[<- ao,Xs] at this;rw[Gr.openTo,this];rfl))
     go_wp2;go_roundw
     case rel=>exact⟨k+1,oM,by go_num,aa,E⟩
     case measure=>exact mS
  ·obtain rfl:k=x.ln:=oM
   have a9:Hid (Gr.entity g x):=by show _=_;rw[X];have:=a7.out;rwa [<- am,Xs] at this
   go_wp2;go_ret;exact⟨by rw[a9];rfl,ba⟩
theorem a7Z (g:Grp) (hg:g.At w w) :
  CL 28 #[g] w (Gr.valid g):=by
 obtain⟨W1,b1,am,ao,hz⟩:=nw1 w g 29;have HW:=Z1 b1;have ar:=hg.at_ am;have s1:(w:Nat)<W1:=oM;have bg:=Z1 ao;have a0:=Z1 hg.hel;have bx:=hg.hen;have be:=Z1 (a1Z ao);clear b1 hz ao hg;go_enter func28,ntmps28;go_upto_region 1 with(fail);rw[<- HW];go_wp2_with (refine VH rfl 29 (.tmp 1) rfl w.heap.size 0 rfl _ _ be.out VS rfl VJ ?_);refine(a9s W1 g ar).mono ?_;rintro e W3 ⟨rfl,an⟩;have I:=am.trans (an.mono am.size);have a8:=gbox bg an s1;have au:=ar.at_ an;clear be ar
 by_cases h1:Gr.books g
 case neg =>
  have ak:Gr.books g=false:=by simpa using h1
  have HV:Hid (Gr.valid g=false):=by show _=_;rw[Gr.valid,ak];rfl
  rw[ak];clear h1 ak au a8;go_wp2;go_ret;exact⟨by rw[HV];rfl,I⟩
 have H1:=Z1 h1;rw[h1];have J:=cr9 20 a8;simp at J;have s3:(w:Nat)<W3:=Vq a8;have bh:=Z1 a8;have aj:=Z1 au;clear h1 a8 au
 by_cases h4:g.en<1
 ·have bl:(g.en:Int)<1:=oM
  have HV:Hid (Gr.valid g=false):=by show _=_;rw[Gr.valid,Vr (show¬ 1<=g.ents.length by have:=a0.out;omega)];simp
  clear h4;go_wp2;go_ret;exact⟨by rw[HV];rfl,I⟩
 have bl:¬ (g.en:Int)<1:=oM
 by_cases h5:12<g.en
 ·have bm:(12:Int)<(g.en:Int):=oM
  have HV:Hid (Gr.valid g=false):=by show _=_;rw[Gr.valid,Vr (show¬ g.ents.length<=12 by have:=a0.out;omega)];simp
  clear h5;go_wp2;go_ret;exact⟨by rw[HV];rfl,I⟩
 have bm:¬ (12:Int)<(g.en:Int):=oM;have ay:0<g.ents.length:=by have:=a0.out;omega
 obtain⟨b,o,al,bw,c0,c1,c2,c3,c4⟩:=EntsAt.five aj.he ay;simp only[K6,KL] at c4;have bu:(0:Int)<(g.en:Int):=oM;have ah:=Z1 al;have Hj:=Z1 (a6u ay);obtain⟨j,hj⟩:=eX ((Gr.eat g.ents 0).joint);have bp:W3.cell? ⟨b,o+4,none⟩=some (.bool j):=by rw[hj,Hj];exact c4
 have HJ:=Z1 hj;rw[al] at J;clear c0 c1 c2 c3 c4 hj al
 cases j
 case true =>
  have HV:Hid (Gr.valid g=false):=by show _=_;rw[Gr.valid,<- HJ];simp
  go_wp2;go_ret;exact⟨by rw[HV];rfl,I⟩
 have HV:Hid (Gr.valid g=(List.range g.ents.length).all (Gr.entAt g)):=by
  show _=_;rw[Gr.valid,H1,<- HJ,VT (show 1<=g.ents.length by omega),VT (show g.ents.length<=12 by have:=a0.out;omega)];rfl
 clear h4 h5;go_wp2
 go_loopw [3] (fun i wr=>∃k:Nat,k<=g.en/\i=k/\(List.range k).all (Gr.entAt g)/\Below W3 W3 wr) (fun i _=>g.en-(intOf i).toNat)
 case atStart=>exact⟨0,Vb _,rfl,rfl,bR⟩
 case round =>
  obtain⟨k,hk,rfl,ae,a4⟩:=hrel;have ad:=Z1 ae;have bc:=a4.size;have ap:=I.trans (a4.mono I.size);have aa:=gbox bh a4 s3;clear ae J bp;have J:=cr9 20 aa;simp at J;rw[ah] at J;have sw:(w:Nat)<wr:=Vq aa;have b7:=Z1 (a1Z aa);clear aa
  by_cases c6:k<g.en
  ·have a5:k<g.ents.length:=by have:=a0.out;omega
   have aq:=RowsAt.below aj.he a4 lR;obtain⟨b',o',az,bt,c0,c1,c2,c3,c4⟩:=EntsAt.five aq a5;rw[ah] at az
   cases az
   have b5:b<wr:=oM;have hS:Below wr wr wr.drew:=Vw bR 1;have b6:=(aj.below a4 lR).more bc;have a7:=Z1 (a6u a5);have bz:(0:Int)<=(k:Int):=oM;have c5:(k:Int)<(g.en:Int):=oM;have O:Gr.entAt g k=false->Hid (Gr.valid g=false):=fun h=>Z1 (by rw[HV];exact Ch.all_not a5 h);have bi:=Z1 aq;clear c1 c2 c3 c4 aq;go_upto_region 6 with(fail);refine Vs (S:=Below wr wr) kR ?_;change wpAnyH _ _ _ _ _ _ _ _ (World.drew _);obtain⟨W0,L⟩:=eX wr.drew;rw[<- L] at hS⊢;clear L;refine jT 0 hS ?_ (v:=g) (hy:=(Vf (by rfl) 29 _ rfl w.heap.size 0 rfl g _ (fun W' E=>VK b7.out E sw) VS rfl VJ));refine jT 1 hS ?_;refine jT 2 hS ?_ (v:=.slice (some ⟨b,o,none⟩) g.en g.ec) (hy:=(.inl ⟨by rfl,fun W' E=>by have hc:=(E.cell (p:=⟨w,20,none⟩) sw).trans J;go_simp⟩));refine jT 3 hS ?_;refine jT 4 hS ?_;refine jT 5 hS ?_;refine jT 6 hS ?_ (v:=.string g.ents[k].name) (hy:=(.inl ⟨by rfl,fun W' E=>by have hc:=(E.cell (p:=⟨b,o+k*5,none⟩) b5).trans c0;go_simp⟩));refine rZ 7 fun K hK=>?_;go_simp;refine(b0S W0 g g.ents[k].name (b6.at_ hS)).mono ?_;rintro e W4 ⟨bn,a9⟩;have s:Below wr wr W4:=hS.trans (bn.mono hS.size)
   have ab:∃(m:Nat) (_:m<g.ents.length),e=.returned (.tuple #[m,true])/\g.ents[m].name=g.ents[k].name/\(g.ents.take m).any (fun y=>decide (y.name=g.ents[k].name))=false:=by
    rcases a9 with⟨_,bb⟩|h
    ·exfalso
     have:g.ents.any (fun y=>decide (y.name=g.ents[k].name)):=by
      rw[YY];exact⟨g.ents[k],Vm a5,sP⟩
     rw[this] at bb;cases bb
    ·exact h
   obtain⟨m,c7,rfl,ba,ac⟩:=ab
   have b9:m<=k:=by
    rcases Zn k m with h|h
    ·exfalso
     have:(g.ents.take m).any (fun y=>decide (y.name=g.ents[k].name)):=by
      rw[YY];exact⟨g.ents[k],XT.2 ⟨k,oM,rfl⟩,sP⟩
     rw[this] at ac;cases ac
    ·exact h
   have bk:=Z1 ba;have bj:=Z1 ac;clear a9 ba ac;refine jK hK s ?_;clear hK K;refine jT 8 s ?_;refine jT 9 s ?_;refine jT 10 s ?_ (v:=.bool true);refine rZ 11 fun K hK=>?_;go_simp;refine jK hK s ?_;clear hK K;refine rZ 12 fun K hK=>?_;go_simp;refine jK hK s ?_;clear hK K;refine VF kR ?_ _;have T:=ap.trans (s.mono ap.size);have af:=a4.trans (s.mono bc);have br:=s.size;have b8:=Z1 (VK b7.out s sw);have aw:=Z1 (RowsAt.look (RowsAt.below bi s oM) a5);have ag:=(b6.below s lR).more br;have X:=(s.cell (p:=⟨w,20,none⟩) sw).trans J;have a:Below W4 W4 W4.drew:=Vw bR 1;have bf:(w:Nat)<W4:=oM;have b4:b<W4:=oM;obtain⟨b2,o2,b0,bv,bs⟩:=aw;rw[ah] at b0
   cases b0
   clear J c0;go_wp2_with (fail)
   by_cases W:m=k
   ·have bq:((m:Int) != (k:Int))=false:=sO
    have Hm:=Z1 W;clear W b9;refine Vs (S:=Below W4 W4) kR ?_;change wpAnyH _ _ _ _ _ _ _ _ (World.drew _);obtain⟨ax,L⟩:=eX W4.drew;rw[<- L] at a⊢;clear L;refine jT 0 a ?_;refine jT 1 a ?_;refine jT 2 a ?_ (v:=.bool false);refine jT 3 a ?_ (v:=.bool false);refine jT 4 a ?_ (v:=g) (hy:=(Vf (by rfl) 29 _ rfl w.heap.size 0 rfl g _ (fun W' E=>VK b8.out E bf) VS rfl VJ));refine jT 5 a ?_;refine jT 6 a ?_ (v:=.slice (some ⟨b,o,none⟩) g.en g.ec) (hy:=(.inl ⟨by rfl,fun W' E=>by have hc:=(E.cell (p:=⟨w,20,none⟩) bf).trans X;go_simp⟩));refine jT 7 a ?_;refine jT 8 a ?_;refine jT 9 a ?_ (v:=(g.ents[k])) (hy:=(Vf (by rfl) 81 _ rfl b (o+k*5) rfl (g.ents[k]) _ (fun W' E=>VK bs E b4) Js rfl a1N));refine rZ 10 fun K hK=>?_;go_simp;refine(b2T ax g g.ents[k] (ag.at_ a) ((ag.hea _ (Vm a5)).at_ a)).mono ?_;rintro e W6 ⟨rfl,bo⟩;have Q:Below W4 W4 W6:=a.trans (bo.mono a.size);refine jK hK Q ?_;clear hK K
    by_cases ho:Gr.entity g g.ents[k]
    ·skip
     have ai:=Z1 (Gr.range_all ad (show Gr.entAt g k by have h1:=bj.out;rw[Hm] at h1;rw[Gr.entAt,a7,h1,ho];rfl));rw[ho];clear ho O;refine jT 11 Q ?_ (v:=.bool false);refine jT 12 Q ?_ (v:=.bool false);refine VF kR ?_ _;have b3:=af.trans (Q.mono af.size);clear X;go_wp2;go_roundw
     case rel=>exact⟨k+1,oM,by go_num,ai,b3⟩
     case measure=>exact mS
    ·skip
     have av:Gr.entity g g.ents[k]=false:=by simpa using ho
     have a6:=O (by rw[Gr.entAt,a7,av];rfl);rw[av];clear ho av O;refine jT 11 Q ?_ (v:=.bool true);refine jT 12 Q ?_ (v:=.bool true);refine VF kR ?_ _;clear X;go_wp2;go_ret;exact⟨by rw[a6];rfl,T.trans (Q.mono T.size)⟩
   ·have bq:((m:Int) != (k:Int)):=sO
    have a6:=O (by
     rw[Gr.entAt,a7]
     have:(g.ents.take k).any (fun y=>decide (y.name=g.ents[k].name)):=by
      rw[YY];exact⟨g.ents[m],XT.2 ⟨m,oM,rfl⟩,by rw[bk];simp⟩
     rw[this];simp)
    have Hm:=Z1 W;clear W b9 O;refine Vs (S:=Below W4 W4) kR ?_;change wpAnyH _ _ _ _ _ _ _ _ (World.drew _);obtain⟨ax,L⟩:=eX W4.drew;rw[<- L] at a⊢;clear L;refine jT 0 a ?_;refine jT 1 a ?_;refine jT 2 a ?_ (v:=.bool true);refine jT 3 a ?_ (v:=.bool true);refine jT 4 a ?_;refine jT 5 a ?_;refine jT 6 a ?_;refine jT 7 a ?_;refine jT 8 a ?_;refine jT 9 a ?_;refine jT 10 a ?_;refine jT 11 a ?_;refine jT 12 a ?_ (v:=.bool true);refine VF kR ?_ _;clear X;go_wp2;go_ret;exact⟨by rw[a6];rfl,T.trans (a.mono T.size)⟩
  ·obtain rfl:k=g.en:=oM
   have a6:Hid (Gr.valid g):=by show _=_;rw[HV,a0];exact ad
   go_wp2;go_ret;exact⟨by rw[a6];rfl,ap⟩
end Go.Proofs.YtbhdekahdnenjaaGreatDoor
