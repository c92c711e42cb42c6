/- Lemmas. -/
import Derived.Maps.OwnSet
import Derived.Test.YtbhdekahdnenjaaGreatDoorG20
set_option linter.unusedVariables false
set_option linter.unusedSimpArgs false
set_option maxRecDepth 100000
set_option maxHeartbeats 16000000
namespace Go.Proofs.YtbhdekahdnenjaaGreatDoor
open Go.Proofs.Tryz Go.RowKit
variable (w:World)
namespace Tr
theorem best_take {l:List Lnk} {k:Nat} {m:Lnk} (o:k<l.length) (h:best (l.take k)=some m):best (l.take (k+1))=some (if m.since<l[k].since then l[k] else m):=by
 rw[tse o]
 cases i:l.take k with
 |nil=>rw[i] at h;cases h
 |cons a q =>
  rw[i] at h;simp only[best,Option.some.injEq] at h;simp only[XM,best,YH,Zt,QB,h]
end Tr
theorem a1l:(prog.info? 115).map (·.size)=some 3:=kR
theorem a8Y (x y:Lnk):Calls prog 246 #[x,y] w fun e w'=>(∃v,e=.returned (.int .i64 v)/\(0<v ↔ y.since<x.since))/\Below w w w':=by
 obtain⟨a,_,_,_⟩:=a1m w x y 115 115;have i:=Z1 a;clear a
 rcases(show x.since<y.since∨(¬ x.since<y.since/\y.since<x.since)∨(¬ x.since<y.since/\¬ y.since<x.since) by omega) with h|⟨h,h2⟩|⟨h,h2⟩
 all_goals
  go_enter func246,ntmps246;go_wp2;go_ret
 ·exact⟨⟨-1,rfl,oM⟩,i⟩
 ·exact⟨⟨1,rfl,oM⟩,i⟩
 ·exact⟨⟨0,rfl,oM⟩,i⟩
theorem b2u (A:OA) (n c:Nat) (l:List Lnk) (hl:l.length=n) (hn:n<=100000) (h1:1<=n) (h:LnksAt w w A l) :
  Calls prog 245 #[.slice A n c,.func (.func 246) #[] #[]] w fun e w'=>(∃m,Tr.best l=some m/\e=.returned (m))/\Below w w w':=by
 have ac:0<l.length:=oM;obtain⟨b,o,rfl,hb,a8⟩:=RowsAt.look h ac;obtain⟨x0,a9⟩:=eX (l[0])
 have H0:Hid (Tr.best (l.take 1)=some x0):=by
  show _=_;rw[a9];cases l with
  |nil=>simp at ac
  |cons a q=>rfl
 rw[<- a9,K6,KL] at a8;obtain⟨W1,ad,ap,af,ag,hz⟩:=nw2 w #[(),(),()] x0 115 115;have HW:=Z1 ad;have am:Hid ((w.alloc (.cells #[(),(),()] 115)).rangeAt b o x0):=Z1 fun j v hv=>(((VM w w).alloc lR (.cells #[(),(),()] 115)).cell (p:=⟨b,o+j,none⟩) hb).trans (a8 j v hv);obtain⟨H,Hl,ak,al⟩:=Z4 h hl af ag;have s1:(w:Nat)<W1:=oM;have b3:(w:Nat)+1<W1:=oM;have aw:b<W1:=oM;have b1:¬ (n:Int)<1:=oM;have b2:(0:Int)<n:=oM;clear a9 a8 ad hz af ag h hl;go_enter func245,ntmps245;go_upto_region 4 with(refine VH rfl 115 (.tmp 12) rfl b o rfl x0 _ am Zq rfl a1l ?_);rw[<- HW];go_wp2
 go_loopw [6] (fun i wr=>∃(k:Nat) (m:Lnk),1<=k/\k<=n/\i=k/\Tr.best (l.take k)=some m/\Below w w wr/\wr.heap[w.heap.size]?=some (.cells #[(),(),()] 115 (0,0))/\wr.heap[w.heap.size+1]?=some (.cells m 115 (0,0))) (fun i _=>n-(intOf i).toNat)
 case atStart=>exact⟨1,x0,lR,h1,rfl,H0,ap,ak,al⟩
 case round =>
  obtain⟨k,m,ay,hk,rfl,hm,W,aa,ab⟩:=hrel;obtain⟨Hm,a4,a5⟩:=Z3 hm aa ab;have t0:=Vq aa;have t1:=Vq ab;clear hm aa ab
  by_cases b0:k<n
  case neg =>
   obtain rfl:k=n:=oM;have hm:=Hm.out;rw[Vg (by have:=Hl.out;omega)] at hm;have HM:=Z1 hm;have Ho:Hid ((m:AV).all (·.oneCell')):=by show _=_;simp[Value.oneCell']
   have hR:=VC wr w _ m _ _ a4;have a7:=Z1 (VW (P:=prog) _ _ _ 115 _ _ _ hR Zq rfl a1l);have T:=Z1 (below_setRow W lR m);clear hm hR;go_wp2_with (first|(refine Vd rfl 115 _ rfl _ rfl _ _ _ _ a5 Zq rfl a1l ?_)|(refine Vz rfl 115 (.tmp 4) (.tmp 32) none rfl rfl w.heap.size 115 _ m rfl rfl a4 rfl a1l Ho ?_));exact VG (v:=m) (by simp[results,results245,asAddr,Act.put,a7.out]) rfl ⟨⟨m,HM,rfl⟩,T.out⟩
  have ai:k<l.length:=by have:=Hl.out;omega
  obtain⟨b',o',e,av,hr⟩:=RowsAt.look (RowsAt.below H W lR) ai
  cases e
  obtain⟨x,hx⟩:=eX (l[k]);have a0:=Z1 (Tr.best_take ai Hm);rw[<- hx] at hr a0;have Hr:=Z1 hr;have ax:(0:Int)<=(k:Int):=oM;have az:(k:Int)<(n:Int):=oM;have ah:b<wr:=oM;clear hr hx;go_upto_region 7 with(fail);have O:Below wr wr wr.drew:=Vw bR 1;refine Vs (S:=Below wr wr) kR ?_;change wpAnyH _ _ _ _ _ _ _ _ (World.drew wr);obtain⟨ao,ae⟩:=eX wr.drew;rw[<- ae] at O⊢;clear ae;refine jT 0 O ?_;refine jT 1 O ?_;refine jT 2 O ?_;refine jT 3 O ?_;refine jT 4 O ?_ (v:=x) (hy:=(Vf (by rfl) 115 _ rfl b (o+k*3) rfl x _ (fun W' a6=>VK Hr a6 ah) Zq rfl a1l));refine jT 5 O ?_ (v:=m) (hy:=(Vf (by rfl) 115 _ rfl (w+1) 0 rfl m _ (fun W' a6=>Xq (gbox a5 a6 t1)) Zq rfl a1l));refine rZ 6 fun K hK=>?_;have HC:=Z1 (a8Y ao x m);go_simp;refine HC.mono ?_;rintro e W2 ⟨⟨v,rfl,hv⟩,aq⟩;have E:=O.trans (aq.mono O.size);refine jK hK E ?_;clear hK K;refine rZ 7 fun K hK=>?_;go_simp;refine jK hK E ?_;clear hK K;refine VF kR ?_ _
  try simp only[z]
  have X:=W.trans (E.mono W.size);have J:=gB a4 E t0;have s:=gbox a5 E t1;have b4:=Vq J;have b5:=Vq s;have an:=Z1 (VK Hr E ah);have au:b<W2:=by have:=E.size;omega
  by_cases I:m.since<x.since
  ·have ar:0<v:=hv.2 I
   have HN:Hid (Tr.best (l.take (k+1))=some x):=by show _=_;rw[a0,Vt I]
   have Ho:Hid ((x:AV).all (·.oneCell')):=by show _=_;simp[Value.oneCell']
   have hR:=VC W2 (w+1) _ x _ _ s;have Q:=(Vl W2 (w+1) w x oM).trans J;have T:=below_setRow X (show(w:Nat)<=w+1 by omega) x;obtain⟨L,HR,HZ,aj⟩:=Z4 s hR Q T;clear hv hR Q T s O E;go_wp2_with (first|(refine VH rfl 115 (.tmp 30) rfl b (o+k*3) rfl x _ an Zq rfl a1l ?_)|(refine Vz rfl 115 (.tmp 5) (.tmp 31) none rfl rfl (w+1) 115 _ x rfl rfl L rfl a1l Ho ?_));go_roundw
   case rel=>exact⟨k+1,x,oM,oM,by go_num,HN,aj,HZ,HR⟩
   case measure=>exact mS
  ·have ar:¬ 0<v:=fun h=>I (hv.1 h)
   have HN:Hid (Tr.best (l.take (k+1))=some m):=by show _=_;rw[a0,VB I]
   have L:=Z1 s;clear hv s O;go_wp2;go_roundw
   case rel=>exact⟨k+1,m,oM,oM,by go_num,HN,X,J,L⟩
   case measure=>exact mS
theorem a1v {α:Type} {P:α->Bool} {l:List α} {k:Nat} (a:k<l.length):(l.take (k+1)).filter P=(l.take k).filter P++(if P l[k] then[l[k]] else[]):=by
 rw[tse a,Yq];simp[List.filter_cons]
theorem b0y (e:Ent) (a day:Int) (he:e.At w w) (hd:Gr.date day=true) :
  Calls prog 196 #[e,a,day] w (OptPost (Tr.mapAt e a day) w):=by
 obtain⟨W1,ar,ae,ai,hz⟩:=nw1 w e 81;have HW:=Z1 ar;have a6:=Z1 (he.at_ ae);have s1:w.heap.size<W1.heap.size:=oM;have ax:decide (-25567<=day/\day<=84005)=true:=hd;have x2:=cr9 2 ai;simp at x2;have b6:=Z1 ai;obtain⟨i0,hi,bg,bh,bi⟩:=XW lnkInfo;clear ar hz ai he hd;go_enter func196,ntmps196;go_upto_region 1 with(fail);rw[<- HW.out];go_wp2_with (fail);refine(a0S day W1).mono ?_;rintro r bj ⟨rfl,rfl⟩;rw[ax];clear ax;go_upto_region 3 with(fail);go_wp2_with (fail);refine(a0Q W1 e.cA e.cn e.cc e.chart a a6.out.hcl a6.out.hcn a6.out.hc).mono ?_;rintro r W2 ⟨rfl,af⟩;obtain⟨q,hq⟩:=eX (Ch.found e.chart a);rw[<- hq];obtain⟨W3,au,ag,J,ao⟩:=nw1 W2 q 113;have b4:=Z1 au;have O:Below W1 W1 W3:=af.trans (ag.mono af.size);have L:=ae.trans (O.mono ae.size);have ap:=gB b6 O s1;have s3:w.heap.size<W3.heap.size:=Vq ap.out;have ak:=Z1 (a6.out.at_ O);clear au hq J ao af ag x2 O;go_upto_region 4 with(fail);rw[<- b4.out]
 cases hh:Ch.has e.chart a with
 |false =>
  have HV:Hid (Tr.mapAt e a day=none):=by show _=_;unfold Tr.mapAt;rw[hh];rfl
  clear hh;go_wp2
  go_ret2
  exact OptPost.none HV.out dC L
 |true =>
  have HV:Hid (Tr.mapAt e a day=(Tr.best (Tr.linksOf e a day)).map (·.to)):=by show _=_;unfold Tr.mapAt;rw[hh];rfl
  have x3:=cr9 3 ap.out;simp at x3;clear hh;obtain⟨P,hP⟩:=eX ((fun x=>decide (x.frm=a)&&decide (x.since<=day)):Lnk->Bool);have aq:Hid (Tr.linksOf e a day=e.links.filter P):=by show _=_;unfold Tr.linksOf;rw[hP]
  have ac:=Z1 ak.out.hll;have bo:=ak.out.hln;have HP:=Z1 hP;clear hP;obtain⟨lA,al⟩:=eX e.lA;have b7:=Z1 al;rw[<- al] at x3;clear al;go_wp2
  go_loopw [10,28] (fun v i wr=>∃k:Nat,k<=e.ln/\i=k/\wr.ownsRow W3.heap.size 115 3 v ((e.links.take k).filter P).length (((e.links.take k).filter P).flatMap Lnk.cells)/\Below w w wr/\Below W3 W3 wr) (fun _ i _=>e.ln-(intOf i).toNat)
  case atStart=>exact⟨0,Vb _,rfl,Xp _ _ _ _,L,bR⟩
  case round =>
   obtain⟨k,hk,rfl,s,hb,a5⟩:=hrel;have a8:=Z1 s;have ay:=XY P (e.links.take k);simp only[XF] at ay;clear s x3
   by_cases bp:k<e.ln
   case neg =>
    obtain rfl:k=e.ln:=oM;have s:=a8.out;rw[Vg (by have:=ac.out;omega),<- aq.out] at s;obtain⟨A',c',rfl,hA⟩:=Xw (f:=Lnk.cells) (sz:=3) dC (fun _=>rfl) s rfl;obtain⟨ls,a7⟩:=eX (Tr.linksOf e a day);have b1:ls.length<=100000:=by rw[a7,aq.out];exact Vn (XY _ _) (by have:=ac.out;omega)
    rw[<- a7] at hA⊢;have aa:Hid (Tr.mapAt e a day=(Tr.best ls).map (·.to)):=by show _=_;rw[HV.out,a7]
    clear s a7 ay
    by_cases h0:ls.length=0
    ·have ab:Hid (Tr.mapAt e a day=none):=by show _=_;rw[aa.out,List.length_eq_zero_iff.1 h0];rfl
     have k0:((ls.length:Int)==0)=true:=by simp[h0]
     clear h0 aa hA;go_wp2
     go_ret2
     exact OptPost.none ab.out dC hb
    ·have k0:((ls.length:Int)==0)=false:=by simp;intro q;subst q;simp at h0
     have hm:=Z1 (b2u wr A' ls.length c' ls rfl b1 oM hA);clear h0 hA;go_wp2_with (fail);refine hm.out.mono ?_;rintro r W5 ⟨⟨m,hm,rfl⟩,bb⟩;have ab:Hid (Tr.mapAt e a day=some m.to):=by show _=_;rw[aa.out,hm];rfl
     have bc:=hb.trans (bb.mono hb.size);clear hm;have bn:∀W,(Instr.field 115 (m) 1).run prog W=.ok (.int .i64 m.to) W:=fun W=>kR;go_wp2
     go_ret2
     exact OptPost.some ab.out bc
   have az:k<e.links.length:=by have:=ac.out;omega
   obtain⟨bl,ol,b0,bk,hr⟩:=RowsAt.look (RowsAt.below ak.out.hl a5 lR) az;rw[<- b7.out] at b0;subst b0;obtain⟨x,hx⟩:=eX (e.links[k]);have a4:=Z1 (a1v (P:=P) az);rw[<- hx] at hr a4;have Hr:=Z1 hr;have bm:bl<wr.heap.size:=by have:=a5.size;omega
   have S:=hb.alloc hb.size (.cells x 115);have o:=a5.alloc a5.size (.cells x 115);have E:=a8.out.alloc (.cells x 115);clear hr hx
   by_cases X:x.frm=a/\x.since<=day
   case neg =>
    have a9:=a4.out;rw[HP.out] at a9;have a0:Hid ((e.links.take (k+1)).filter P=(e.links.take k).filter P):=by show _=_;rw[a4.out,VB (by rw[HP.out];simp;intro q1;have:=fun q2=>X ⟨q1,q2⟩;omega),XG]
    have Q:=Z1 E;clear a9 E
    by_cases hq:x.frm=a
    ·have k1:(x.frm==a)=true:=by simp[hq]
     have k2:¬ x.since<=day:=fun h=>X ⟨hq,h⟩;clear X hq;go_wp2_with (refine VH rfl 115 (.tmp 30) rfl bl (ol+k*3) rfl x _ Hr.out Zq rfl a1l ?_);go_roundw
     case rel=>exact⟨k+1,oM,by go_num,by rw[a0.out];exact Q.out,S,o⟩
     case measure=>exact mS
    ·have k1:(x.frm==a)=false:=by simp[hq]
     clear X hq;go_wp2_with (refine VH rfl 115 (.tmp 30) rfl bl (ol+k*3) rfl x _ Hr.out Zq rfl a1l ?_);go_roundw
     case rel=>exact⟨k+1,oM,by go_num,by rw[a0.out];exact Q.out,S,o⟩
     case measure=>exact mS
   obtain⟨an,bf⟩:=X;have k1:(x.frm==a)=true:=by simp[an]
   have a0:Hid ((e.links.take (k+1)).filter P=(e.links.take k).filter P++[x]):=by show _=_;rw[a4.out,Vt (by rw[HP.out];simp[an,bf])]
   obtain⟨Wa,ah,ag,J,ao⟩:=nw1 wr x 115;rw[<- ah] at S o E;have b5:=Z1 ah;have b8:=Z1 J;have sa:wr.heap.size<Wa.heap.size:=Vq J;have I:=E.alloc (.cells x 115);have b2:=Xk Wa x 115;have b3:∀u∈(x:List Value),u.oneCell'=true:=oC;have b9:((e.links.take k).filter P).length+1<=maxLen:=by unfold maxLen;omega
   have ba:(((e.links.take k).filter P).length+1)*24<=140737488355328:=oM;have ad:W3.heap.size<=(Wa.alloc (.cells x 115)).heap.size:=by have:=o.size;simp;omega
   have aw:=S.alloc S.size (.cells x 115);have aj:=o.alloc o.size (.cells x 115);have y0:=cr9 0 J;have y2:=cr9 2 J;simp at y0 y2;clear ah J ao an;go_upto_region 10 with(refine VH rfl 115 (.tmp 30) rfl bl (ol+k*3) rfl x _ Hr.out Zq rfl a1l ?_);rw[<- b5.out];go_wp2_with (first|(refine Vd rfl 115 _ rfl _ rfl _ _ _ _ b8.out Zq rfl a1l ?_)|(at_builtin;refine Hid.out ?_));show wpList _ _ _ _ _ _;refine Xd _ rfl _ _ 79 rfl W3.heap.size 115 i0 (.agg #[(),(),()]) 3 24 underlying79 hi bg bh bi rfl dC _ _ _ rfl I ⟨Wa,0,none⟩ 1 1 x rfl rfl b2 b3 b9 ba ad ?_;intro v' w1 am T _;have be:=aw.grown T (Vn L.size ad) (fun j hj=>Vn L.size (I.lt j hj).1);have av:=aj.grown T ad (fun j hj=>(I.lt j hj).1);go_wp2;go_roundw
   case rel=>exact⟨k+1,oM,by go_num,by rw[a0.out,Vc,VL];simpa[Lnk.cells] using am,be,av⟩
   case measure=>exact mS
def Jr.upto (g:Grp) (c:EtC) (k:Nat):Prop:=(1<=k->Jr.formed g c)/\(2<=k->Jr.charted g c)/\(3<=k->Jr.dated g c)/\(4<=k->decide (Jr.total c.lines=0))
theorem a9i (g:Grp) (c:EtC) (A:OA) (n kc:Nat) (hg:g.At w w) (hx:(⟨c,A,n,kc⟩:Etr).At w w) :
  Calls prog 117 #[g,.agg (TE c A n kc)] w (FinePost (Jr.fine g c) w):=by
 obtain⟨W1,a5,T,a6,a7,hz⟩:=nw2 w g (TE c A n kc) 29 46;obtain⟨HW,ad,af,ac⟩:=Z4 a5 (hg.at_ T) (hx.at_ T) hg.hel;have s1:(w:Nat)<W1:=oM;have ag:(w:Nat)+1<W1:=oM;have aa:=Z1 a6;have ab:=Z1 a7;clear a5 hz a6 a7 hg hx;go_enter func117,ntmps117;go_upto_region 1 with(fail);rw[<- HW];go_wp2
 go_loopw [9] (fun i wr=>∃k:Nat,k<=4/\i=k/\Jr.upto g c k/\Below W1 W1 wr) (fun i _=>4-(intOf i).toNat)
 case atStart=>exact⟨0,oM,rfl,⟨oM,oM,oM,oM⟩,bR⟩
 case round =>
  obtain⟨k,hk,rfl,hu,O⟩:=hrel;have S:=Z1 hu;have a:=T.trans (O.mono T.size);have a8:=Z1 ((ad.out.below O lR).more O.size);have a4:=Z1 ((af.out.below O lR).more O.size);have Hg:=gB aa O s1;have Hx:=gB ab O ag;have q1:=Vq Hg;have q2:=Vq Hx;clear hu
  rcases(show k=0∨k=1∨k=2∨k=3∨k=4 by omega) with rfl|rfl|rfl|rfl|rfl
  case inr.inr.inr.inr =>
   have HV:Hid (Jr.fine g c):=by
    show _=_;obtain⟨h1,h2,h3,h4⟩:=S;unfold Jr.fine;rw[h1 oM,h2 oM,h3 oM,h4 oM];rfl
   go_wp2;go_ret;exact FinePost.good HV a
  case inl =>
   have a0:∀W,(Instr.index 248 (.agg #[.func (.func 168) #[] #[],.func (.func 169) #[] #[],.func (.func 170) #[] #[],.func (.func 171) #[] #[]]) (.int .i64 0)).run prog W=.ok (.func (.func 168) #[] #[]) W:=fun W=>kR;go_wp2_with (first|(refine Vd rfl 29 _ rfl _ rfl _ _ _ _ Hg VS rfl VJ ?_)|(refine Vd rfl 46 _ rfl _ rfl _ _ _ _ Hx X0 rfl a0v ?_));refine(a9g wr g c A n kc a8.out a4.out).mono ?_;have E:Hid (Jr.formed g c=false->Jr.fine g c=false):=Z1 fun h=>by unfold Jr.fine;rw[h];rfl
   have I:Hid (Jr.formed g c->Jr.upto g c 1):=Z1 fun h=>⟨fun _=>h,oM,oM,oM⟩;rintro e W2 ⟨⟨m,rfl,s⟩,o⟩;have Q:=O.trans (o.mono O.size);have L:=a.trans (o.mono a.size)
   by_cases h:m=0
   ·have X:(m != 0)=false:=by simp[h]
    have I:=Z1 (I (s.1 h));clear h s;go_wp2;go_roundw
    case rel=>exact⟨1,oM,rfl,I,Q⟩
    case measure=>simp[intOf]
   ·have X:(m != 0):=by simp[h]
    have E:=Z1 (E (by cases hq:Jr.formed g c;rfl;exact absurd (s.2 hq) h));have J:=Z1 h;clear h s;go_wp2;go_ret;exact FinePost.bad E J L
  case inr.inl =>
   have a0:∀W,(Instr.index 248 (.agg #[.func (.func 168) #[] #[],.func (.func 169) #[] #[],.func (.func 170) #[] #[],.func (.func 171) #[] #[]]) (.int .i64 1)).run prog W=.ok (.func (.func 169) #[] #[]) W:=fun W=>kR;obtain⟨hv,ke,a9,ae⟩:=Jr.fine_parts (S.1 oM);have hc:=Z1 (a7D wr g c A n kc ke a8.out a4.out a9 (by have:=ac.out;omega));clear hv a9 ae;go_wp2_with (first|(refine Vd rfl 29 _ rfl _ rfl _ _ _ _ Hg VS rfl VJ ?_)|(refine Vd rfl 46 _ rfl _ rfl _ _ _ _ Hx X0 rfl a0v ?_));refine hc.out.mono ?_;have E:Hid (Jr.charted g c=false->Jr.fine g c=false):=Z1 fun h=>by unfold Jr.fine;rw[h];simp
   have I:Hid (Jr.charted g c->Jr.upto g c 2):=Z1 fun h=>⟨fun _=>S.1 oM,fun _=>h,oM,oM⟩;rintro e W2 ⟨⟨m,rfl,s⟩,o⟩;have Q:=O.trans (o.mono O.size);have L:=a.trans (o.mono a.size)
   by_cases h:m=0
   ·have X:(m != 0)=false:=by simp[h]
    have I:=Z1 (I (s.1 h));clear h s;go_wp2;go_roundw
    case rel=>exact⟨2,oM,rfl,I,Q⟩
    case measure=>simp[intOf]
   ·have X:(m != 0):=by simp[h]
    have E:=Z1 (E (by cases hq:Jr.charted g c;rfl;exact absurd (s.2 hq) h));have J:=Z1 h;clear h s;go_wp2;go_ret;exact FinePost.bad E J L
  case inr.inr.inl =>
   have a0:∀W,(Instr.index 248 (.agg #[.func (.func 168) #[] #[],.func (.func 169) #[] #[],.func (.func 170) #[] #[],.func (.func 171) #[] #[]]) (.int .i64 2)).run prog W=.ok (.func (.func 170) #[] #[]) W:=fun W=>kR;have hv:=(Jr.fine_parts (S.1 oM)).1;have hc:=Z1 (b1g wr g c A n kc hv);clear hv;go_wp2_with (first|(refine Vd rfl 29 _ rfl _ rfl _ _ _ _ Hg VS rfl VJ ?_)|(refine Vd rfl 46 _ rfl _ rfl _ _ _ _ Hx X0 rfl a0v ?_));refine hc.out.mono ?_;have E:Hid (Jr.dated g c=false->Jr.fine g c=false):=Z1 fun h=>by unfold Jr.fine;rw[h];simp
   have I:Hid (Jr.dated g c->Jr.upto g c 3):=Z1 fun h=>⟨fun _=>S.1 oM,fun _=>S.2.1 oM,fun _=>h,oM⟩;rintro e W2 ⟨⟨m,rfl,s⟩,o⟩;have Q:=O.trans (o.mono O.size);have L:=a.trans (o.mono a.size)
   by_cases h:m=0
   ·have X:(m != 0)=false:=by simp[h]
    have I:=Z1 (I (s.1 h));clear h s;go_wp2;go_roundw
    case rel=>exact⟨3,oM,rfl,I,Q⟩
    case measure=>simp[intOf]
   ·have X:(m != 0):=by simp[h]
    have E:=Z1 (E (by cases hq:Jr.dated g c;rfl;exact absurd (s.2 hq) h));have J:=Z1 h;clear h s;go_wp2;go_ret;exact FinePost.bad E J L
  case inr.inr.inr.inl =>
   have a0:∀W,(Instr.index 248 (.agg #[.func (.func 168) #[] #[],.func (.func 169) #[] #[],.func (.func 170) #[] #[],.func (.func 171) #[] #[]]) (.int .i64 3)).run prog W=.ok (.func (.func 171) #[] #[]) W:=fun W=>kR;have hc:=Z1 (a6I wr g c A n kc a4.out);go_wp2_with (first|(refine Vd rfl 29 _ rfl _ rfl _ _ _ _ Hg VS rfl VJ ?_)|(refine Vd rfl 46 _ rfl _ rfl _ _ _ _ Hx X0 rfl a0v ?_));refine hc.out.mono ?_;have E:Hid (decide (Jr.total c.lines=0)=false->Jr.fine g c=false):=Z1 fun h=>by unfold Jr.fine;rw[h];simp
   have I:Hid (decide (Jr.total c.lines=0)->Jr.upto g c 4):=Z1 fun h=>⟨fun _=>S.1 oM,fun _=>S.2.1 oM,fun _=>S.2.2.1 oM,fun _=>h⟩;rintro e W2 ⟨⟨m,rfl,s⟩,o⟩;have Q:=O.trans (o.mono O.size);have L:=a.trans (o.mono a.size)
   by_cases h:m=0
   ·have X:(m != 0)=false:=by simp[h]
    have I:=Z1 (I (s.1 h));clear h s;go_wp2;go_roundw
    case rel=>exact⟨4,oM,rfl,I,Q⟩
    case measure=>simp[intOf]
   ·have X:(m != 0):=by simp[h]
    have E:=Z1 (E (by cases hq:decide (Jr.total c.lines=0);rfl;exact absurd (s.2 hq) h));have J:=Z1 h;clear h s;go_wp2;go_ret;exact FinePost.bad E J L
def Ent.era (e:Ent):Ent:={ e with cA:=none,cn:=0,cc:=0,lA:=none,ln:=0,lc:=0 }
def Grp.era (g:Grp):Grp:={ g with cA:=none,cn:=0,cc:=0,eA:=none,en:=0,ec:=0,ents:=g.ents.map Ent.era }
theorem Gr.eat_era (l:List Ent) (i:Nat):Gr.eat (l.map Ent.era) i=(Gr.eat l i).era:=by
 unfold Gr.eat
 by_cases h:i<l.length
 ·simp[h]
 ·simp[h,Ent.zero,Ent.era]
theorem Gr.entAt_era (g:Grp) (i:Nat):Gr.entAt g.era i=Gr.entAt g i:=by
 unfold Gr.entAt;show(Gr.entity g.era (Gr.eat (g.ents.map Ent.era) i)&&_)=_;rw[Gr.eat_era];show(Gr.entity g (Gr.eat g.ents i)&&!((g.ents.map Ent.era).take i).any (fun y=>decide (y.name=(Gr.eat (g.ents.map Ent.era) i).name)))=_;rw[Gr.eat_era,<- Qt,List.any_map];rfl
theorem Gr.valid_era (g:Grp):Gr.valid g.era=Gr.valid g:=by
 unfold Gr.valid;show(Gr.books g&&decide (1<=(g.ents.map Ent.era).length)&&decide ((g.ents.map Ent.era).length<=12)&&!(Gr.eat (g.ents.map Ent.era) 0).joint&&(List.range (g.ents.map Ent.era).length).all (Gr.entAt g.era))=_;rw[Gr.eat_era,Xt,show Gr.entAt g.era=Gr.entAt g from funext (Gr.entAt_era g)];rfl
theorem Jr.fine_era (g:Grp) (x:EtC):Jr.fine g.era x=Jr.fine g x:=by
 have a:Jr.formed g.era x=Jr.formed g x:=by
  unfold Jr.formed;rw[Gr.valid_era,show g.era.ents.length=g.ents.length from Xt _]
 have i:Jr.charted g.era x=Jr.charted g x:=by
  unfold Jr.charted Jr.chartOf;rw[show g.era.ents=g.ents.map Ent.era from rfl,Gr.eat_era];rfl
 unfold Jr.fine;rw[a,i];rfl
theorem Jr.fine_same {g g':Grp} (h:g'.era=g.era) (x:EtC):Jr.fine g' x=Jr.fine g x:=by rw[<- Jr.fine_era,h,Jr.fine_era]
theorem RowsTy.keep {α:Type} {f:α->List Value} {sz:Nat} {t:TypeId} {w w':World} {A:OA} {l:List α} {k:Nat} (h:RowsTy t w A l) (E:RowsAt f sz w w A l) (I:∀cur fr,w.heap[k]?≠some (.cells cur t fr)) (s:w.grownBy w' (some k)) :
  RowsTy t w' A l/\RowsAt f sz w' w' A l:=by
 rcases h with h|⟨b,o,cur,fr,e,i⟩
 ·exact⟨.inl h,.inl h⟩
 ·have a:some b≠some k:=fun q=>by cases q;exact I _ _ i
  refine⟨.inr ⟨b,o,cur,fr,e,(s.block b (Vq i) a).trans i⟩,RowsAt.kept E s fun b' J q=>?_⟩;rw[e] at q;cases q;exact a
structure Ent.Cp (w:World) (e e':Ent):Prop where
 he:e'.era=e.era
 ha:e'.At w w.heap.size
 hc:RowsTy 113 w e'.cA e'.chart
 hl:RowsTy 115 w e'.lA e'.links
theorem Ent.Cp.at_ {w w':World} {e i:Ent} (h:Ent.Cp w e i) (a:Below w w w'):Ent.Cp w' e i:=⟨h.he,h.ha.at_ a,h.hc.below a,h.hl.below a⟩
theorem Ent.Cp.keep {w w':World} {e i:Ent} {k:Nat} (h:Ent.Cp w e i) {cs:AV} {t:TypeId} {a:Nat × Nat} (I:w.heap[k]?=some (.cells cs t a)) (J:t≠113) (L:t≠115) (E:w.grownBy w' (some k)):Ent.Cp w' e i:=by
 have o:=h.hc.keep h.ha.hc (k:=k) (fun cur a e=>by rw[I] at e;cases e;exact J rfl) E;have s:=h.hl.keep h.ha.hl (k:=k) (fun cur a e=>by rw[I] at e;cases e;exact L rfl) E;exact⟨h.he,⟨h.ha.hcl,h.ha.hcn,o.2,h.ha.hcw,h.ha.hll,h.ha.hln,s.2,h.ha.hlw,h.ha.hn,h.ha.hu⟩,o.1,s.1⟩
def Blk {α:Type} (f:α->List Value) (sz:Nat) (t:TypeId) (w:World) (G:Nat) (l:List α):Prop :=
 ∃cur,w.heap[G]?=some (.cells cur t (0,0))/\cur.toList.take (l.length*sz)=l.flatMap f
theorem a8c {α:Type} {f:α->List Value} {sz:Nat} (o:∀a,(f a).length=sz):∀(l:List α) (i:Nat) (s:i<l.length) (j:Nat) (v:Value) (y:α),j<sz->f y=(f l[i]).set j v->(l.flatMap f).set (i*sz+j) v=(l.set i y).flatMap f
 |a::l,0,_,j,v,y,hj,h=>by
  simp only[XB,YC,K6,VN];rw[h,JG _ _ (by rw[o];exact hj)];rfl
 |a::l,i+1,s,j,v,y,hj,h=>by
  have E:=a8c o l i (by simpa using s) j v y hj (by simpa using h);simp only[XB,YL];rw[<- E,show(i+1)*sz+j=(f a).length+(i*sz+j) by rw[o,Jq];omega,Yv _ _ oM]
  congr 2;omega
section
variable {α:Type} {f:α->List Value} {sz:Nat} {t:TypeId} {w w':World} {G B:Nat} {l:List α}
theorem Blk.lt (h:Blk f sz t w G l):G<w:=by obtain⟨_,h,_⟩:=h;exact Vq h
theorem Blk.own {base n c:Nat} (h:w.ownsRow base t sz (.slice (some ⟨G,0,none⟩) n c) n (l.flatMap f)) (s:n=l.length):Blk f sz t w G l:=by
 subst s
 rcases h.2 with⟨e,_⟩|⟨g,i,cur,e,_,o,_,_,_,a⟩
 ·cases e
 ·cases e;exact⟨cur,o,a⟩
theorem Blk.below (h:Blk f sz t w G l) (o:Below w w w'):Blk f sz t w' G l:=by obtain⟨cur,a,i⟩:=h;exact⟨cur,gbox a o (Vq a),i⟩
theorem Blk.get (h:Blk f sz t w G l) (E:∀a,(f a).length=sz) {i:Nat} (I:i<l.length):∃cur,w.heap[G]?=some (.cells cur t (0,0))/\∀j v,j<sz->(f l[i])[j]?=some v->cur[i*sz+j]?=some v:=by
 obtain⟨cur,o,s⟩:=h;refine⟨cur,o,fun j v J hv=>?_⟩;have e:=a1x f sz l (fun a _=>E a) i I j J;rw[hv,<- s,List.getElem?_take] at e
 split at e
 ·simpa using e
 ·cases e
theorem Blk.cell (h:Blk f sz t w G l) (E:∀a,(f a).length=sz) {i:Nat} (I:i<l.length) {j:Nat} {v:Value} (J:j<sz) (hv:(f l[i])[j]?=some v):w.cell? ⟨G,i*sz+j,none⟩=some v:=by
 obtain⟨cur,o,s⟩:=h.get E I;exact(cr9 _ o).trans (s j v J hv)
theorem Blk.rows (h:Blk f sz t w G l) (i:∀a,(f a).length=sz) (o:G<B):RowsAt f sz w B (some ⟨G,0,none⟩) l :=
 .inr ⟨G,0,rfl,o,fun k E j v hv=>by
  have s:j<sz:=by have:=(List.getElem?_eq_some_iff.1 hv).1;rwa [i] at this
  rw[VN];exact h.cell i E s hv⟩
theorem Blk.set (h:Blk f sz t w G l) (E:∀a,(f a).length=sz) {i:Nat} (I:i<l.length) {j:Nat} (J:j<sz) (v:Value) (y:α) (hy:f y=(f l[i]).set j v):Blk f sz t (w.setCell ⟨G,i*sz+j,none⟩ v) G (l.set i y):=by
 obtain⟨cur,o,s⟩:=h;refine⟨_,Xh _ G _ _ _ v o,?_⟩;rw[Y9,<- a8c E l i I j v y J hy,<- s];simp[List.take_set]
end
def CopyPost (g:Grp) (w:World) (e:Ending) (w':World):Prop:=Below w w w'/\∃g':Grp,e=.returned (g')/\g'.era=g.era/\g'.At w' w'.heap.size
structure Cping (g:Grp) (i:Nat) (w:World) (G:Nat) (L:List Ent):Prop where
 hl:L.length=g.ents.length
 hb:Blk Ent.cells 5 81 w G L
 hc:∀k (h:k<L.length) (h':k<g.ents.length),(k<i->Ent.Cp w g.ents[k] L[k])/\(i<=k->L[k]=g.ents[k])
theorem Cping.done {g:Grp} {w:World} {G:Nat} {L:List Ent} (h:Cping g g.ents.length w G L):L.map Ent.era=g.ents.map Ent.era/\∀ e∈L,e.At w w.heap.size:=by
 constructor
 ·apply List.ext_getElem (by simp [h.hl])
  intro k h1 h2;simp only [List.length_map] at h1 h2;rw [List.getElem_map,List.getElem_map];exact((h.hc k h1 h2).1 h2).he
 ·intro e he
  obtain⟨k,hk,rfl⟩:=List.getElem_of_mem he;have:=h.hl;exact((h.hc k hk oM).1 oM).ha
theorem Cping.other {g:Grp} {i:Nat} {w w':World} {G k:Nat} {L:List Ent} (h:Cping g i w G L) {cs:AV} {t:TypeId} {I:Nat × Nat} (S:w.heap[k]?=some (.cells cs t I)) (J:t≠113) (O:t≠115) (W:k≠G) (s:w.grownBy w' (some k)):Cping g i w' G L :=
 ⟨h.hl,by obtain⟨cur,E,T⟩:=h.hb;exact⟨cur,(s.block G (Vq E) sO).trans E,T⟩,fun k a o=>⟨fun Q=>((h.hc k a o).1 Q).keep S J O s,(h.hc k a o).2⟩⟩
theorem a2a (w:World) (b:Nat) (cs:AV):w.grownBy (w.setRow b cs) (some b) :=
 ⟨rfl,rfl,rfl,sP,fun i _ a=>Vl w b i cs (fun e=>a (by rw[e]))⟩
theorem b0P (g:Grp) (hg:g.At w w) (h1:1<=g.en) :
  Calls prog 116 #[g] w (CopyPost g w):=by
 obtain⟨W1,ck,bg,bj,co,hz⟩:=nw2 w g #[.string ⟨#[]⟩,(),(),(),.slice none 0 0,(),(),(),(),(),(),(),(),(),(),(),(),(),(),(),.slice none 0 0] 29 29;obtain⟨HW,al,a0⟩:=Z3 ck (hg.at_ bg) hg;have dp:=hg.hcn;have cr:=hg.hen;have s1:(w:Nat)<W1:=oM;have ds:(w:Nat)+1<W1:=oM;have x4:=cr9 4 bj;simp at x4;have de:=Z1 bj;have df:=Z1 co;clear ck hz bj co hg;go_enter func116,ntmps116;go_upto_region 1 with(fail);rw[<- HW];go_wp2_with (fail);refine(a2P W1 g.cA g.cn g.cc g.chart al.out.hcl dp al.out.hc).mono ?_;rintro e W2 ⟨bh,A1,c1,rfl,bo⟩;have aa:=gbox de bh s1;have f2:=fun j=>fr0 j aa;have d2:=cr9 4 aa;simp at d2;have s2:(w:Nat)<W2:=Vq aa;have ab:=Xh W2 w.heap.size 4 _ _ (.slice A1 g.cn c1) aa;simp at ab;obtain⟨W3,a4⟩:=eX (W2.setCell ⟨w,4,none⟩ (.slice A1 g.cn c1));rw[<- a4] at ab;have c7:=bg.trans (bh.mono bg.size);have a7:Below w w W3:=by rw[a4];exact c7.setCell (p:=⟨w,4,none⟩) lR _
 have b9:W2.grownBy W3 (some w):=by rw[a4];exact Xz (Xx _ _) _ _
 have d0:(W3:Nat)=W2:=by rw[a4];simp[World.setCell]
 have cy:=Xw (f:=Acc.cells) (sz:=4) dC (fun _=>rfl) bo al.out.hcl.symm;obtain⟨dv,dx,e1,bv⟩:=cy
 cases e1
 have cd:=a3j bo al.out.hcl.symm;obtain⟨ce,bw⟩:=cd.keep bv (k:=w.heap.size) (fun cur fr e=>by rw[aa] at e;cases e) b9;have b4:=gbox df bh ds;have ai:W3.heap[w.heap.size+1]?=some (.cells #[.string ⟨#[]⟩,(),(),(),.slice none 0 0,(),(),(),(),(),(),(),(),(),(),(),(),(),(),(),.slice none 0 0] 29 (0,0)):=by rw[a4];exact(YJ W2 ⟨w,4,none⟩ _ _ sP).trans b4
 obtain⟨d9,d6,dh,b0⟩:=Z4 ce bw ab ai;have dq:RowsAt Ent.cells 5 W3 W3 g.eA g.ents:=(RowsAt.below a0.he a7 lR).more a7.size;have d3:=cr9 20 ab;simp at d3;have s3:(w:Nat)<W3:=Vq ab;have dt:(w:Nat)+1<W3:=Vq b0;have dc:=Z1 a4;have ae:=Z1 al.out.hel;clear a4 aa ab ce bw cd bv bo b4 ai b9 d0;go_upto_region 2 with(fail);rw[<- dc];clear x4 d2 f2;go_wp2_with (fail);refine(b1n W3 g.eA g.en g.ec g.ents ae cr dq).mono ?_;rintro e W4 ⟨ag,A2,c2,rfl,bp⟩
 obtain⟨G,dl,e0⟩:∃G,A2=some ⟨G,0,none⟩/\W3<=G:=by
  rcases bp.2 with⟨e,h0⟩|⟨G,dy,cur,e,hb,_⟩
  ·omega
  ·cases e;exact⟨G,rfl,hb⟩
 subst dl;have c5:=Blk.own bp ae.symm;have ac:=gbox dh ag s3;have f4:=fun j=>fr0 j ac;have d4:=cr9 20 ac;simp at d4;have s4:(w:Nat)<W4:=Vq ac;have ad:=Xh W4 w.heap.size 20 _ _ (.slice (some ⟨G,0,none⟩) g.en c2) ac;simp at ad;have c9:=a7.trans (ag.mono a7.size);have cg:=d9.out.below ag;have bx:=RowsAt.at_ d6 ag;obtain⟨W5,a5⟩:=eX (W4.setCell ⟨w,20,none⟩ (.slice (some ⟨G,0,none⟩) g.en c2));rw[<- a5] at ad;have ca:Below w w W5:=by rw[a5];exact c9.setCell (p:=⟨w,20,none⟩) lR _
 have ba:W4.grownBy W5 (some w):=by rw[a5];exact Xz (Xx _ _) _ _
 obtain⟨ch,bz⟩:=cg.keep bx (k:=w.heap.size) (fun cur fr e=>by rw[ac] at e;cases e) ba
 have b2:Blk Ent.cells 5 81 W5 G g.ents:=by
  obtain⟨cur,q1,q2⟩:=c5;exact⟨cur,by rw[a5];exact(YJ W4 ⟨w,20,none⟩ _ _ sO).trans q1,q2⟩
 have aj:W5.heap[w.heap.size+1]?=some (.cells #[.string ⟨#[]⟩,(),(),(),.slice none 0 0,(),(),(),(),(),(),(),(),(),(),(),(),(),(),(),.slice none 0 0] 29 (0,0)):=by rw[a5];exact(YJ W4 ⟨w,20,none⟩ _ _ sP).trans (gbox b0 ag dt)
 obtain⟨da,d7,di,bq,ap⟩:=Z5 ch bz ad aj (show Cping g 0 W5 G g.ents from⟨rfl,b2,fun k _ _=>⟨fun h=>oM,fun _=>rfl⟩⟩);have bc:=cr9 20 ad;simp at bc;have s5:(w:Nat)<W5:=Vq ad;have e5:(w:Nat)+1<W5:=Vq aj;have dn:w+1<G:=oM;have dd:=Z1 a5;clear a5 ac ad ch bz cg bx c5 b2 aj bp ba d3;go_upto_region 3 with(fail);rw[<- dd];clear d4 f4;go_wp2
 go_loopw [16] (fun i wr=>∃k:Nat,k<=g.en/\i=k/\(∃L,Cping g k wr G L)/\(RowsTy 113 wr A1 g.chart/\RowsAt Acc.cells 4 wr wr A1 g.chart)/\Below G W5 wr) (fun i _=>g.en-(intOf i).toNat)
 case atStart=>exact⟨0,Vb _,rfl,⟨_,ap.out⟩,⟨da,d7⟩,bR⟩
 case round =>
  obtain⟨k,hk,rfl,⟨L,hL⟩,cq,hb⟩:=hrel;have HL:=Z1 hL;have ao:=Z1 cq;clear hL cq bc;have ax:=(hb.block _ (by omega:w<G)).trans di;have b5:=(hb.block _ dn).trans bq;have d5:=cr9 20 ax;simp at d5;have sr:(w:Nat)<wr:=Vq ax;have E:=HL.out.hb.lt;have Q:=Z1 b5;have dj:=Z1 ax;have b6:=ca.trans (hb.mono oM);clear ax b5
  by_cases e4:k<g.en
  case neg =>
   obtain rfl:k=g.en:=oM;have hq:=HL.out;have e:Cping g g.ents.length wr G L:=by rw[ae];exact hq
   have cb:L.length=g.en:=e.hl.trans ae;obtain⟨g',ay⟩:∃g':Grp,g'={ g with cA:=A1,cn:=g.cn,cc:=c1,eA:=some ⟨G,0,none⟩,en:=g.en,ec:=c2,ents:=L }:=⟨_,rfl⟩;have HE:Hid (g'.era=g.era):=by show _=_;rw[ay];unfold Grp.era;simp only[e.done.1]
   have hR:=VC wr (w+1) _ g' _ _ Q;have bn:=Z1 (VW (P:=prog) _ _ _ 29 _ _ _ hR VS rfl VJ);have dm:=Z1 (below_setRow b6 (show(w:Nat)<=w+1 by omega) g');have Ho:Hid ((g':AV).all (·.oneCell')):=by show _=_;simp[Value.oneCell']
   have bm:=a2a wr (w+1) g';have e6:=e.other Q dC dC oM bm;have af:=(ao.1.keep ao.2 (k:=w.heap.size+1) (fun cur fr q=>by rw[Q] at q;cases q) bm).2
   have d8:Hid (g'.At (wr.setRow (w+1) g') (wr.setRow (w+1) g').heap.size):=by
    have dk:∀WF:World,RowsAt Acc.cells 4 WF WF A1 g.chart->Cping g g.ents.length WF G L->g'.At WF WF.heap.size:=by
     intro WF a1 a2;rw[ay];exact⟨a0.hcl,a0.hcn,a1,a0.hcw,cb,cr,a2.hb.rows (fun _=>rfl) a2.hb.lt,a2.done.2,a0.hn,a0.hr⟩
    exact dk _ af e6
   have b8:wr.heap[w.heap.size]?=some (.cells g' 29 (0,0)):=by rw[ay];exact dj
   have bs:=Z1 b8;have s6:(w:Nat)+1<wr:=Vq Q;clear hR b8 e hq cb ay af e6 bm;go_wp2_with (first|(refine Vd rfl 29 _ rfl _ rfl _ _ _ _ bs VS rfl VJ ?_)|(refine Vz rfl 29 (.tmp 2) (.tmp 40) none rfl rfl (w+1) 29 _ g' rfl rfl Q rfl VJ Ho ?_));exact VG (v:=g') (by simp[results,results116,asAddr,Act.put,bn.out]) rfl ⟨dm.out,g',rfl,HE,d8⟩
  have cs:k<g.ents.length:=by have:=ae.out;omega
  have am:k<L.length:=by rw[HL.hl];exact cs
  have aq:L[k]=g.ents[k]:=(HL.hc k am cs).2 lR;obtain⟨e,he⟩:=eX (g.ents[k]);have c2:=HL.out.hb.cell (fun _=>rfl) am (j:=2) oM (by rw[aq];rfl);have c3:=HL.out.hb.cell (fun _=>rfl) am (j:=3) oM (by rw[aq];rfl);rw[<- he] at c2 c3;obtain⟨du,a6,_⟩:=HL.hb;have cf:=fun j=>fr0 j a6;have dw:=Z1 cf;have be:=Z1 a6;have s:=Z1 (show e.At wr w by rw[he];exact(a0.hea _ (Vm _)).below b6 lR);have e2:(0:Int)<=(k:Int):=oM;have e3:(k:Int)<(g.en:Int):=oM;have bt:=Z1 aq;have He:=Z1 he;clear he aq a6;go_upto_region 7 with(fail);have hS:Below G wr wr.drew:=Vw bR 1;refine Vs (S:=Below G wr) kR ?_;change wpAnyH _ _ _ _ _ _ _ _ (World.drew wr);obtain⟨W_0,au⟩:=eX wr.drew;rw[<- au] at hS⊢;have a:Below wr wr W_0:=by rw[au];exact Vw bR 1
  have cz:(wr:Nat)=W_0:=by rw[au];rfl
  clear au;refine jT 0 hS ?_;refine jT 1 hS ?_;refine jT 2 hS ?_;refine jT 3 hS ?_;refine jT 4 hS ?_;refine jT 7 hS ?_;refine jT 8 hS ?_;refine jT 9 hS ?_;refine a0w fun dr d1 Q' a' cu cw cx ct=>?_;obtain⟨RG,bi⟩:=eX (Below G wr:World->Prop);rw[<- bi] at hS⊢
  have bf:∀(W W6:World) (X:OA) (c6:Nat) (A8:OA) (c8:Nat),RG W->Below wr wr W6->W6.ownsRow wr.heap.size 113 4 (.slice X e.cn c6) e.cn (e.chart.flatMap Acc.cells)->Below W6 W6 W->W.ownsRow W6.heap.size 115 3 (.slice A8 e.ln c8) e.ln (e.links.flatMap Lnk.cells) ->
   wpAnyH prog dr d1 Q' RG 6 #[true,true,true,true,true,true,true,true,true,true,true,true,false,false,false,false,false,false] ((((a'.put (some 28) (.slice e.cA e.cn e.cc)).put (some 33) (.slice e.lA e.ln e.lc)).put (some 29) (.slice X e.cn c6)).put (some 34) (.slice A8 e.ln c8)) W:=by
   intro W W6 X c6 A8 c8 hS h6 o6 h8 o8;subst cu cw cx ct bi
   try simp only[z]
   have hw:Below wr wr W:=h6.trans (h8.mono h6.size);have J:=gbox be hw E;have f1:=fun j=>fr0 j J;have k2:W.cell? ⟨G,k*5+2,none⟩=some (.slice e.cA e.cn e.cc):=(hw.cell (p:=⟨G,k*5+2,none⟩) E).trans c2;have sG:G<W:=Vq J;refine jT 12 hS ?_;refine jT 13 hS ?_;refine rZ 14 fun K I=>?_;go_simp;have a9:=hS.setCell (p:=⟨G,k*5+2,none⟩) lR (.slice X e.cn c6);have av:=Xh W G (k*5+2) _ _ (.slice X e.cn c6) J
   have k3:(W.setCell ⟨G,k*5+2,none⟩ (.slice X e.cn c6)).cell? ⟨G,k*5+3,none⟩=some (.slice e.lA e.ln e.lc):=by
    rw[World.cell?_setCell_other _ _ _ _ sP];exact(hw.cell (p:=⟨G,k*5+3,none⟩) E).trans c3
   refine jK I a9 ?_;clear I K;obtain⟨V,hV⟩:=eX (W.setCell ⟨G,k*5+2,none⟩ (.slice X e.cn c6));rw[<- hV] at a9 av k3⊢;have f2:=fun j=>fr0 j av;have sV:G<V:=Vq av;have HV:=Z1 hV;clear hV f1 k2;refine jT 15 a9 ?_;refine jT 16 a9 ?_;refine rZ 17 fun K I=>?_;go_simp;have ar:=a9.setCell (p:=⟨G,k*5+3,none⟩) lR (.slice A8 e.ln c8);refine I.out _ _ ar (fun _=>?_);clear I K;refine VF kR ?_ _
   try simp only[z]
   obtain⟨U,hU⟩:=eX (V.setCell ⟨G,k*5+3,none⟩ (.slice A8 e.ln c8));rw[<- hU] at ar⊢;have aw:e.chart.length=e.cn:=s.hcl;have az:e.links.length=e.ln:=s.hll;obtain⟨_,_,q1,af⟩:=Xw (f:=Acc.cells) (sz:=4) dC (fun _=>rfl) o6 aw.symm
   cases q1
   obtain⟨_,_,q1,c4⟩:=Xw (f:=Lnk.cells) (sz:=3) dC (fun _=>rfl) o8 az.symm
   cases q1
   have ci:=(a3j o6 aw.symm).below h8;have b1:=RowsAt.at_ af h8;have cj:=a3j o8 az.symm;obtain⟨e',bl⟩:∃e':Ent,e'={ e with cA:=X,cn:=e.cn,cc:=c6,lA:=A8,ln:=e.ln,lc:=c8 }:=⟨_,rfl⟩
   have ap:Ent.Cp W e e':=by
    rw[bl];exact⟨rfl,⟨aw,s.hcn,b1,s.hcw,az,s.hln,c4,s.hlw,s.hn,s.hu⟩,ci,cj⟩
   have a8:W.grownBy U (some G):=by rw[hU,HV];exact Xz (Xz (Xx _ _) _ _) _ _
   have b3:=ap.keep J dC dC a8;have bk:=((HL.hb.below hw).set (fun _=>rfl) am (j:=2) oM (.slice X e.cn c6) { e with cA:=X,cn:=e.cn,cc:=c6 } (by rw[bt,<- He];rfl));rw[<- HV] at bk;have ak:=bk.set (fun _=>rfl) (i:=k) (by simpa using am) (j:=3) oM (.slice A8 e.ln c8) e' (by rw[bl];simp[Ent.cells]);rw[<- hU,List.set_set] at ak
   have bb:Cping g (k+1) U G (L.set k e'):=by
    refine⟨by simp[HL.out.hl],ak,fun i h1 h2=>?_⟩;rw[Kl];have hi:=HL.out.hc i (by simpa using h1) h2
    by_cases q:k=i
    ·subst q
     rw[Vt rfl,<- He];exact⟨fun _=>b3,fun q=>oM⟩
    ·rw[VB q]
     exact⟨fun q=>((hi.1 oM).at_ hw).keep J dC dC a8,fun q=>hi.2 oM⟩
   have b7:=(ao.1.below hw).keep (RowsAt.at_ ao.2 hw) (k:=G) (fun cur fr q=>by rw[J] at q;cases q) a8;have cp:=hb.trans (ar.mono lR);obtain⟨bu,br,dg⟩:=Z3 bb b7 cp;clear bb b7 cp hU ar a9 hS hw J av k3 f2 o6 o8 h6 h8 ap b3 bk ak ci b1 cj af c4 a8 bl aw az sG sV c2 c3 cf d5;go_wp2;go_roundw
   case rel=>exact⟨k+1,oM,by go_num,⟨_,bu⟩,br,dg⟩
   case measure=>exact mS
  subst cu cw cx ct bi;have an:(wr:Nat)=W_0:=cz
  try simp only[z]
  refine Xc (rs:=[5,10]) kR sP (.cons rfl (fun K I=>?_) (.cons rfl (fun K I=>?_) .nil))
  ·have c0:=(a.cell (p:=⟨G,k*5+2,none⟩) E).trans c2
   have sG:G<W_0:=by have:=a.size;omega
   go_simp;refine I.out _ _ (a.mono (XC E)) (fun _=>?_);clear I K c0 sG
   try simp only[z]
   refine Xc (rs:=[6,10]) kR sP (.cons rfl (fun K I=>?_) (.cons rfl (fun K I=>?_) .nil))
   ·have HC:=Z1 (a2P W_0 e.cA e.cn e.cc e.chart s.hcl s.hcn ((RowsAt.below s.hc a oM).more (by have:=a.size;omega)))
    go_simp;refine HC.mono ?_;rintro r W6 ⟨ah,X,c6,rfl,o6⟩;have o:=a.trans (ah.mono a.size);refine jK I (o.mono (XC E)) ?_;clear I K;refine Xc (rs:=[10]) kR sP (.cons rfl (fun K I=>?_) .nil);have c0:=(o.cell (p:=⟨G,k*5+3,none⟩) E).trans c3;have sG:G<W6:=by have:=o.size;omega
    go_simp;refine I.out _ _ (o.mono (XC E)) (fun _=>?_);clear I K c0 sG
    try simp only[z]
    refine Xc (rs:=[11]) kR sP (.cons rfl (fun K I=>?_) .nil);have HC:=Z1 (a4n W6 e.lA e.ln e.lc e.links s.hll s.hln ((RowsAt.below s.hl o oM).more (by have:=o.size;omega)));go_simp;refine HC.mono ?_;rintro r W8 ⟨T,A8,c8,rfl,o8⟩;have O:=o.trans (T.mono o.size);refine jK I (O.mono (XC E)) ?_;clear I K;have hn:=bf W8 W6 X c6 A8 c8 (O.mono (XC E)) o (by rw[an];exact o6) T o8
    try simp only[z] at hn
    exact hn
   ·have c0:=(a.cell (p:=⟨G,k*5+3,none⟩) E).trans c3
    have sG:G<W_0:=by have:=a.size;omega
    go_simp;refine I.out _ _ (a.mono (XC E)) (fun _=>?_);clear I K c0 sG
    try simp only[z]
    refine Xc (rs:=[6]) kR sP (.cons rfl (fun K I=>?_) .nil);have HC:=Z1 (a2P W_0 e.cA e.cn e.cc e.chart s.hcl s.hcn ((RowsAt.below s.hc a oM).more (by have:=a.size;omega)));go_simp;refine HC.mono ?_;rintro r W6 ⟨ah,X,c6,rfl,o6⟩;have o:=a.trans (ah.mono a.size);refine jK I (o.mono (XC E)) ?_;clear I K;refine Xc (rs:=[11]) kR sP (.cons rfl (fun K I=>?_) .nil);have HC:=Z1 (a4n W6 e.lA e.ln e.lc e.links s.hll s.hln ((RowsAt.below s.hl o oM).more (by have:=o.size;omega)));go_simp;refine HC.mono ?_;rintro r W8 ⟨T,A8,c8,rfl,o8⟩;have O:=o.trans (T.mono o.size);refine jK I (O.mono (XC E)) ?_;clear I K;have hn:=bf W8 W6 X c6 A8 c8 (O.mono (XC E)) o (by rw[an];exact o6) T o8
    try simp only[z] at hn
    exact hn
  ·have c0:=(a.cell (p:=⟨G,k*5+3,none⟩) E).trans c3
   have sG:G<W_0:=by have:=a.size;omega
   go_simp;refine I.out _ _ (a.mono (XC E)) (fun _=>?_);clear I K c0 sG
   try simp only[z]
   refine Xc (rs:=[5]) kR sP (.cons rfl (fun K I=>?_) .nil);have c0:=(a.cell (p:=⟨G,k*5+2,none⟩) E).trans c2;have sG:G<W_0:=by have:=a.size;omega
   go_simp;refine I.out _ _ (a.mono (XC E)) (fun _=>?_);clear I K c0 sG
   try simp only[z]
   refine Xc (rs:=[6]) kR sP (.cons rfl (fun K I=>?_) .nil);have HC:=Z1 (a2P W_0 e.cA e.cn e.cc e.chart s.hcl s.hcn ((RowsAt.below s.hc a oM).more (by have:=a.size;omega)));go_simp;refine HC.mono ?_;rintro r W6 ⟨ah,X,c6,rfl,o6⟩;have o:=a.trans (ah.mono a.size);refine jK I (o.mono (XC E)) ?_;clear I K;refine Xc (rs:=[11]) kR sP (.cons rfl (fun K I=>?_) .nil);have HC:=Z1 (a4n W6 e.lA e.ln e.lc e.links s.hll s.hln ((RowsAt.below s.hl o oM).more (by have:=o.size;omega)));go_simp;refine HC.mono ?_;rintro r W8 ⟨T,A8,c8,rfl,o8⟩;have O:=o.trans (T.mono o.size);refine jK I (O.mono (XC E)) ?_;clear I K;have hn:=bf W8 W6 X c6 A8 c8 (O.mono (XC E)) o (by rw[an];exact o6) T o8
   try simp only[z] at hn
   exact hn
open Go.Maps
theorem b4a {D:DataW Value} {s:Lit} {o:Option Value} (h:∀z:Value,D.atKey s (.held z)=.held (o.getD z)):Maps.has D s=o.isSome:=by
 cases o with
 |none =>
  cases i:Maps.has D s
  ·rfl
  ·cases D <;> try (cases i;done)
   rename_i L;obtain⟨p,O,I⟩:=YY.1 i;have Q:(L.find? (fun p=>p.1.sameKey s)).isSome:=List.find?_isSome.2 ⟨p,O,I⟩;obtain⟨x,J⟩:=Option.isSome_iff_exists.1 Q;have E:x.2=.held (.bool false):=by have:=h (.bool false);simpa[DataW.atKey,J] using this
   have a:x.2=.held (.bool true):=by have:=h (.bool true);simpa[DataW.atKey,J] using this
   rw[E] at a
   cases a
 |some y =>
  cases i:Maps.has D s
  ·have E:=(atKey_of_not_has i _).symm.trans (h (.bool false))
   have a:=(atKey_of_not_has i _).symm.trans (h (.bool true));simp only[JB,DataW.held.injEq] at E a;rw[<- E] at a
   cases a
  ·rfl
theorem MapAt.lookOk {w:World} {P:Program} {k t e:TypeId} {b n:Nat} {f:Value->Option Value} (h:MapAt w P k b n f) (K:Keyed P k) (I:P.underlying t=some (.map k e)) {z:Value} (J:(zeroValue e).run P w=.ok z w)
  {a:Value} {E:Lit} (i:keyOf P k a=some E):(Instr.lookup t (.map (some b)) a true).run P w=.ok (.tuple #[(f a).getD z,.bool (f a).isSome]) w:=by
 obtain⟨D,h,_,s⟩:=h;obtain⟨v,L,o,hv⟩:=h.look_ok K I J (zd:=.held z) (zp:=[]) rfl i;rw[s a E i z] at hv;simp only[heldR,Option.some.injEq,Prod.mk.injEq,DataW.held.injEq] at hv;rw[o,hv.1,b4a (s a E i)]
namespace Jr
def idx (p:List EtC) (a:Int):Option Nat:=p.findIdx? (fun y=>decide (y.id=a))
theorem b0O (p:List EtC) (i:Int):get p i=(idx p i).bind (fun k=>p[k]?):=by
 unfold get idx
 induction p with
 |nil=>rfl
 |cons a p ih =>
  rw[List.find?_cons,List.findIdx?_cons]
  by_cases h:a.id=i
  ·simp[h]
  ·simp only[h,JM,Bool.false_eq_true,if_false]
   rw[ih]
   cases p.findIdx? _ <;> simp
theorem idx_lt {p:List EtC} {a:Int} {k:Nat} (h:idx p a=some k):k<p.length:=(List.findIdx?_eq_some_iff_getElem.1 h).1
theorem get_none {p:List EtC} {a:Int} (h:idx p a=none):get p a=none:=by rw[b0O,h];rfl
theorem get_some {p:List EtC} {a:Int} {k:Nat} (h:idx p a=some k):get p a=some (p[k]'(idx_lt h)):=by rw[b0O,h];simp[idx_lt h]
theorem idx_snoc {p:List EtC} {x:EtC} (i:(get p x.id).isNone) (a:Int):idx (p++[x]) a=if a=x.id then some p.length else idx p a:=by
 have o:idx p x.id=none:=by
  cases h:idx p x.id with
  |none=>rfl
  |some k=>rw[get_some h] at i;cases i
 unfold idx at *;rw[List.findIdx?_append]
 by_cases h:a=x.id
 ·rw[Vt h,h,o];simp
 ·rw[VB h]
  cases p.findIdx? (fun y=>decide (y.id=a)) with
  |some k=>rfl
  |none=>simp[Ne.symm h]
theorem revd_snoc (p:List EtC) (x:EtC) (a:Int):revd (p++[x]) a=(revd p a||(decide (x.kind=3)&&decide (x.of_=a))):=by unfold revd;simp
end Jr
structure Jrn (B:Nat) (w:World) (b:Nat) (g:Grp) (p:List EtC) (g':Grp) (q:List Etr) (A:Option Addr) (c m1 m2:Nat) (f1 f2:Value->Option Value):Prop where
 hb:w.heap[b]?=some (.cells #[.string g'.cur,g'.Y,g'.M,g'.N,.slice g'.cA g'.cn g'.cc,g'.r0,g'.r1,g'.r2,g'.r3,g'.r4,g'.r5,g'.r6,g'.r7,g'.r8,g'.r9,g'.r10,g'.r11,g'.r12,g'.r13,g'.r14,.slice g'.eA g'.en g'.ec,.slice A q.length c,.map (some m1),.map (some m2)] 205 (0,0))
 he:g'.era=g.era
 hg:g'.At w B
 hBb:B<=b
 hB1:B<=m1
 hB2:B<=m2
 hne:m1≠m2
 hq:q.map (·.c)=p
 ho:w.ownsRow B 46 7 (.slice A q.length c) q.length (q.flatMap Etr.cells)
 hx:∀x∈q,x.At w w.heap.size/\RowsTy 66 w x.lA x.c.lines
 h1:MapAt w prog 3 m1 p.length f1
 h2:MapAt w prog 3 m2 p.length f2
 hf1:∀x,f1 (.int .i64 x)=(Jr.idx p x).map (fun(k:Nat)=>Value.int .i64 (k:Int))
 hf2:∀x,(f2 (.int .i64 x)).isSome=Jr.revd p x
 hw:∀x∈p,x.wf
def Jrns (B:Nat) (w:World) (b:Nat) (g:Grp) (p:List EtC):Prop:=∃g' q A c m1 m2 f1 f2,Jrn B w b g p g' q A c m1 m2 f1 f2
section
variable {B b c m1 m2:Nat} {w w':World} {g g':Grp} {p:List EtC} {q:List Etr} {A:Option Addr} {f1 f2:Value->Option Value}
theorem Jrn.below (h:Jrn B w b g p g' q A c m1 m2 f1 f2) (a:Below w w w') (o:B<=w):Jrn B w' b g p g' q A c m1 m2 f1 f2 :=
 ⟨gbox h.hb a (Vq h.hb),h.he,h.hg.below a o,h.hBb,h.hB1,h.hB2,h.hne,h.hq,Vj h.ho a,fun x i=>⟨(h.hx x i).1.at_ a,(h.hx x i).2.below a⟩,h.h1.below a h.h1.lt,h.h2.below a h.h2.lt,h.hf1,h.hf2,h.hw⟩
theorem Jrns.below (h:Jrns B w b g p) (i:Below w w w') (a:B<=w):Jrns B w' b g p:=by
 obtain⟨g',q,A,c,m1,m2,f1,f2,h⟩:=h;exact⟨g',q,A,c,m1,m2,f1,f2,h.below i a⟩
theorem Jrn.rows (h:Jrn B w b g p g' q A c m1 m2 f1 f2):RowsAt Etr.cells 7 w w A q:=by
 obtain⟨i,o,e,a⟩:=Xw (f:=Etr.cells) (sz:=7) dC (fun _=>rfl) h.ho rfl
 cases e;exact a
theorem Jrn.len (h:Jrn B w b g p g' q A c m1 m2 f1 f2):p.length=q.length:=by rw[<- h.hq,Xt]
theorem Jrn.look1 (h:Jrn B w b g p g' q A c m1 m2 f1 f2) (x:Int) (a:(Lit.int .i64 x).wf) (n:Nat):(Instr.lookup 203 (.map (some m1)) (.int .i64 x) true).run prog (w.drewN n)=.ok (.tuple #[((Jr.idx p x).map (fun(k:Nat)=>Value.int .i64 (k:Int))).getD (.int .i64 0),.bool (Jr.idx p x).isSome]) (w.drewN n):=by
 have i:(zeroValue 3).run prog (w.drewN n)=.ok (.int .i64 0) (w.drewN n):=kR;have:=MapAt.lookOk (w:=w.drewN n) h.h1 intLaw underlying203 i (keyOf_int_mk YM a);rw[this,h.hf1,Option.isSome_map]
theorem Jrn.look2 (h:Jrn B w b g p g' q A c m1 m2 f1 f2) (x:Int) (a:(Lit.int .i64 x).wf) (n:Nat):(Instr.lookup 203 (.map (some m2)) (.int .i64 x) true).run prog (w.drewN n)=.ok (.tuple #[(f2 (.int .i64 x)).getD (.int .i64 0),.bool (Jr.revd p x)]) (w.drewN n):=by
 have i:(zeroValue 3).run prog (w.drewN n)=.ok (.int .i64 0) (w.drewN n):=kR;have:=MapAt.lookOk (w:=w.drewN n) h.h2 intLaw underlying203 i (keyOf_int_mk YM a);rw[this,h.hf2]
end
theorem a6a (B b:Nat) (g:Grp) (p:List EtC) (c:EtC) (A:OA) (n kc:Nat) (hj:Jrns B w b g p) (hB:B<=w) (hx:(⟨c,A,n,kc⟩:Etr).At w w) :
  Calls prog 118 #[.pointer (some ⟨b,0,none⟩),.agg (TE c A n kc)] w (FinePost (Jr.revOk p c) w):=by
 obtain⟨g',q,A',cq,m1,m2,f1,f2,hj⟩:=hj;obtain⟨W1,ao,O,S,hz⟩:=nw1 w (TE c A n kc) 46;obtain⟨HW,HJ,Hx⟩:=Z3 ao (hj.below O hB) (hx.at_ O);have b5:Hid (c.lines.length=n):=hx.hl;have be:n<=60:=by have h1:c.lines.length<=60:=hx.hw.hln;have h2:c.lines.length=n:=hx.hl;omega
 have a5:=HJ.out.look1 c.of_ hx.hw.hof;have ap:=HJ.out.look2 c.of_ hx.hw.hof;have s1:(w:Nat)<W1:=oM;have a4:=HJ.out.hb;have sb:b<W1:=Vq a4;have a9:=cr9 21 a4;have b2:=cr9 22 a4;have af:=cr9 23 a4;have y1:=cr9 1 S;have y2:=cr9 2 S;have y4:=cr9 4 S;have y6:=cr9 6 S;simp at a9 b2 af y1 y2 y4 y6;have b4:=Z1 S;have aj:=Z1 HJ.out.len;clear ao hz S a4 hj hx;go_enter func118,ntmps118;go_upto_region 1 with(fail);rw[<- HW]
 cases hi:Jr.idx p c.of_ with
 |none =>
  have HV:Hid (Jr.revOk p c=false):=by show _=_;unfold Jr.revOk;rw[Jr.get_none hi]
  rw[hi] at a5;simp only[Option.map_none,Option.getD_none,Option.isSome_none] at a5;clear hi ap;go_quiet (fail);go_wp2;go_ret;exact FinePost.bad HV dC (Vw O _)
 |some k =>
  have bb:=Jr.idx_lt hi;have bc:k<q.length:=by have:=aj.out;omega
  obtain⟨o,ho⟩:=eX (q[k]);have ar:p[k]=o.c:=by rw[ho];simp only[<- HJ.out.hq,Zw]
  have HV:Hid (Jr.revOk p c=(!Jr.revd p c.of_&&decide (o.c.kind≠3)&&decide (o.c.ent=c.ent)&&decide (o.c.date<=c.date)&&Jr.opposite c.lines o.c.lines)):=by
   show _=_;unfold Jr.revOk;rw[Jr.get_some hi,ar]
  rw[hi] at a5;simp only[JR,JB,Option.isSome_some] at a5;obtain⟨bq,oq,am,bp,hr⟩:=RowsAt.look HJ.rows bc;rw[<- ho] at hr;rw[am] at a9;have Hr:=Z1 hr;have au:=HJ.out.hx o (by rw[ho];exact Vm _);have a6:=Z1 au.1;obtain⟨a,oA,on,ok⟩:=o;have b6:Hid (a.lines.length=on):=a6.hl;have bf:on<=60:=by have h1:a.lines.length<=60:=a6.hw.hln;have h2:a.lines.length=on:=a6.hl;omega
  have br:(0:Int)<=(k:Int):=oM;have bs:(k:Int)<(q.length:Int):=oM;clear hi bb ho ar hr au am;go_quiet (fail);obtain⟨W2,Q⟩:=eX (W1.drewN nq);have i:Below W1 W1 W2:=by rw[Q];exact Vw bR _
  rw[<- Q];have bm:=Z1 Q;have bi:(W2:Nat)=W1:=by rw[Q];rfl
  have E:=fun{bk o:Nat} {v:Value} (h:W1.cell? ⟨bk,o,none⟩=some v) (hl:bk<W1)=>(i.cell (p:=⟨bk,o,none⟩) hl).trans h;have b1:=E a9 sb;have ax:=E y1 s1;have ay:=E y2 s1;have b0:=E y6 s1;have s2:(w:Nat)<W2:=oM;have bj:b<W2:=oM;have bo:bq<W2:=oM;have bh:Hid (W2.rangeAt bq (oq+k*7) [a.id,a.ent,a.date,a.kind,a.of_,.string a.text,.slice oA on ok]):=Z1 (by rw[Q];exact Hr);have ai:=Z1 (HJ.below i (by have:=O.size;omega));have ag:=Z1 (O.trans (i.mono O.size));have aq:=ai.out.look2 c.of_ Hx.hw.hof;have ak:=Z1 (a6.at_ i);have b7:=Z1 (Hx.at_ i);have bn:=gB b4 i s1;have ab:=E af sb;have az:=E y4 s1;clear E a9 b2 af y1 y2 y4 y6 a5 ap Q i bi;go_upto_region 4 with(fail);obtain⟨J,W,aw⟩:=a0I W2 (TE a oA on ok) 46;go_upto_region 5 with(refine VH rfl 46 (.tmp 27) rfl bq (oq+k*7) rfl [a.id,a.ent,a.date,a.kind,a.of_,.string a.text,.slice oA on ok] _ bh.out X0 rfl a0v ?_);obtain⟨W3,ad⟩:=eX (W2.alloc (.cells (TE a oA on ok) 46));rw[<- ad] at J W aw;have b3:=Z1 ad;rw[<- b3];have E:=fun{bk o:Nat} {v:Value} (h:W2.cell? ⟨bk,o,none⟩=some v) (hl:bk<W2)=>(J.cell (p:=⟨bk,o,none⟩) hl).trans h;have bl:=E ab bj;have u1:=E ax s2;have u2:=E ay s2;have u4:=E az s2;have u6:=E b0 s2;have q1:=cr9 1 W;have q2:=cr9 2 W;have q3:=cr9 3 W;have q6:=cr9 6 W;simp at q1 q2 q3 q6;have a7:=(ai.below J (by have:=ag.out.size;omega)).look2 c.of_ Hx.hw.hof;have s3:(w:Nat)<W3:=oM;have bt:b<W3:=oM;have a8:(W2:Nat)<W3:=oM;have ah:=bT ag J;have b8:=Z1 (b7.at_ J);have al:=Z1 (ak.at_ J);obtain⟨rv,av⟩:=eX ((f2 (.int .i64 c.of_)).getD (.int .i64 0));rw[<- av] at a7;clear E b1 ab ax ay az b0 aq ad W av J aw
  cases X:Jr.revd p c.of_ with
  |true =>
   have L:Hid (Jr.revOk p c=false):=by show _=_;rw[HV,X];rfl
   rw[X] at a7;clear X;go_quiet (fail);go_wp2;go_ret;exact FinePost.bad L dC (Vw ah _)
  |false =>
   have L:Hid (Jr.revOk p c=(decide (a.kind≠3)&&decide (a.ent=c.ent)&&decide (a.date<=c.date)&&Jr.opposite c.lines a.lines)):=by show _=_;rw[HV,X];rfl
   rw[X] at a7;clear X;go_quiet (fail);obtain⟨W4,ae⟩:=eX (W3.drewN nq);have s:Below W3 W3 W4:=by rw[ae];exact Vw bR _
   rw[<- ae];have E:=fun{bk o:Nat} {v:Value} (h:W3.cell? ⟨bk,o,none⟩=some v) (hl:bk<W3)=>(s.cell (p:=⟨bk,o,none⟩) hl).trans h;have v1:=E u1 s3;have v2:=E u2 s3;have v6:=E u6 s3;have p1:=E q1 a8;have p2:=E q2 a8;have p3:=E q3 a8;have p6:=E q6 a8;have s4:(w:Nat)<W4:=by have:=s.size;omega
   have bu:(W2:Nat)<W4:=by have:=s.size;omega
   have a0:=bT ah s;have b9:=Z1 (b8.at_ s);have aa:=Z1 (al.at_ s);clear E bl u1 u2 u4 u6 q1 q2 q3 q6 a7 ae s
   by_cases T:a.kind=3
   ·have k3:(a.kind==3):=by simp[T]
    have I:Hid (Jr.revOk p c=false):=by show _=_;rw[L];simp[T]
    clear T;go_wp2;go_ret;exact FinePost.bad I dC a0
   have k3:(a.kind==3)=false:=by simp[T]
   have K3:=Z1 T;clear T
   by_cases he:a.ent=c.ent
   case neg =>
    have k4:(a.ent != c.ent):=by simp[he]
    have I:Hid (Jr.revOk p c=false):=by show _=_;rw[L];simp[he]
    clear he;go_wp2;go_ret;exact FinePost.bad I dC a0
   have k4:(a.ent != c.ent)=false:=by simp[he]
   have K4:=Z1 he;clear he
   by_cases hd:a.date<=c.date
   case neg =>
    have I:Hid (Jr.revOk p c=false):=by show _=_;rw[L];simp[hd]
    go_wp2;go_ret;exact FinePost.bad I dC a0
   have I:Hid (Jr.revOk p c=Jr.opposite c.lines a.lines):=by show _=_;rw[L];simp[K3.out,K4.out,hd]
   have bg:=Z1 (b3V W4 A oA n kc on ok c.lines a.lines b5 be b6 bf aa.hw.hlw b9.hA aa.hA);go_wp2_with (fail);refine bg.out.mono ?_;rintro e W5 ⟨rfl,ba⟩;have an:=a0.out.trans (ba.mono a0.size)
   cases ho:Jr.opposite c.lines a.lines with
   |true =>
    have ac:Hid (Jr.revOk p c):=by show _=_;rw[I,ho]
    clear ho;go_wp2;go_ret;exact FinePost.good ac an
   |false =>
    have ac:Hid (Jr.revOk p c=false):=by show _=_;rw[I,ho]
    clear ho;go_wp2;go_ret;exact FinePost.bad ac dC an
theorem etrInfo:(prog.info? 46).map (fun i=>(i.zero,i.size,i.bytes))=some (some (.agg #[(),(),(),(),(),.string ByteArray.empty,.slice none 0 0]),7,80):=kR
open Classical in
theorem a1P {P:Program} {w:World} {k t e:TypeId} {b n:Nat} {f:Value->Option Value} {o:Oper} {a:Act} {K:Act->World->Prop} {Q:Exit->Act->World->Prop}
  (m x v:Operand) (I:o.op=Op.mapUpdate t m x v) (h:MapAt w P k b n f) (J:Keyed P k) (T:P.underlying t=some (.map k e))
  (O:a.eval m=.map (some b)) (S:n<maxLen) (i val:Value) (X:Lit) (W:a.eval x=i) (hv:a.eval v=val) (s:keyOf P k i=some X)
  (L:∀w',MapAt w' P k b (n+1) (fun x=>if x=i then some val else f x)->w.grownBy w' (some b)->K (a.put o.dst undef) w'):o.wp P a w K Q:=by
 obtain⟨w',E,r1,r2⟩:=h.update J T S (val:=val) s;unfold Oper.wp;simp[execOp,I,O,W,hv,E,Result.andThen];exact L w' r1 r2
def EtCopy (c:EtC) (n:Nat) (w:World) (e:Ending) (w':World):Prop :=
 Below w w w'/\∃A a,e=.returned (.agg (TE c A n a))/\(⟨c,A,n,a⟩:Etr).At w' w'.heap.size/\RowsTy 66 w' A c.lines
theorem a4X (c:EtC) (A:OA) (n kc:Nat) (hx:(⟨c,A,n,kc⟩:Etr).At w w) :
  Calls prog 119 #[.agg (TE c A n kc)] w (EtCopy c n w):=by
 obtain⟨W1,a9,Q,T,aa,hz⟩:=nw2 w (TE c A n kc) #[(),(),(),(),(),.string ⟨#[]⟩,.slice none 0 0] 46 46;have HW:=Z1 a9;have Hx:=Z1 (hx.at_ Q);have E:Hid (c.lines.length=n):=hx.hl;have ah:n<=60:=by have h1:c.lines.length<=60:=hx.hw.hln;have h2:c.lines.length=n:=hx.hl;omega
 have s1:(w:Nat)<W1:=oM;have ag:(w:Nat)+1<W1:=oM;have y6:=cr9 6 T;simp at y6;obtain⟨ac,ad,Hc⟩:=Z3 T aa (b1k W1 A n kc c.lines E oM Hx.hA);clear a9 hz T aa hx;go_enter func119,ntmps119;go_upto_region 1 with(fail);rw[<- HW];go_wp2_with (fail);refine Hc.mono ?_;rintro e W2 ⟨S,s,I,rfl,ho⟩;have o:=gbox ac S s1;have f2:=fun j=>fr0 j o;have d2:=cr9 6 o;simp at d2;have s2:(w:Nat)<W2:=Vq o;have J:=Xh W2 w.heap.size 6 _ _ (.slice s n I) o;simp at J;obtain⟨W3,i⟩:=eX (W2.setCell ⟨w,6,none⟩ (.slice s n I));rw[<- i] at J;have a5:=Q.trans (S.mono Q.size);have a6:Below w w W3:=by rw[i];exact a5.setCell (p:=⟨w,6,none⟩) lR _
 have O:W2.grownBy W3 (some w):=by rw[i];exact Xz (Xx _ _) _ _
 obtain⟨_,_,e1,a0⟩:=Xw (f:=Lin.cells) (sz:=3) dC (fun _=>rfl) ho E.symm
 cases e1
 have a7:=a3j ho E.symm;obtain⟨a8,a4⟩:=a7.keep a0 (k:=w.heap.size) (fun cur fr e=>by rw[o] at e;cases e) O
 have a:W3.heap[w.heap.size+1]?=some (.cells #[(),(),(),(),(),.string ⟨#[]⟩,.slice none 0 0] 46 (0,0)):=by
  rw[i];exact(YJ W2 ⟨w,6,none⟩ _ _ sP).trans (gbox ad S ag)
 obtain⟨X,L,ab⟩:=Z3 J a i;have Ho:Hid (((TE c s n I):AV).all (·.oneCell')):=by show _=_;simp[Value.oneCell']
 have hR:=VC W3 (w+1) _ (TE c s n I) _ _ a;have W:=Z1 (VW (P:=prog) _ _ _ 46 _ _ _ hR X0 rfl a0v);have ae:=Z1 (below_setRow a6 (show(w:Nat)<=w+1 by omega) (TE c s n I));have hk:=a8.keep a4 (k:=w.heap.size+1) (fun cur fr e=>by rw[a] at e;cases e) (a2a W3 (w+1) (TE c s n I));have Hk:=Z1 hk;have af:Hid c.wf:=Hx.hw;have s3:(w:Nat)<W3:=Vq X;have ai:(w:Nat)+1<W3:=Vq L;clear i o J a8 a4 a7 a0 ho a O hR hk;go_upto_region 2 with(fail);rw[<- ab];clear y6 d2 f2;go_wp2_with (first|(refine Vd rfl 46 _ rfl _ rfl _ _ _ _ X X0 rfl a0v ?_)|(refine Vz rfl 46 (.tmp 2) (.tmp 7) none rfl rfl (w+1) 46 _ (TE c s n I) rfl rfl L rfl a0v Ho ?_));exact VG (v:=.agg (TE c s n I)) (by simp[results,results119,asAddr,Act.put,W.out]) rfl ⟨ae.out,s,I,rfl,⟨E,Hk.2,af.out⟩,Hk.1⟩
end Go.Proofs.YtbhdekahdnenjaaGreatDoor
