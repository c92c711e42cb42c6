/- Lemmas. -/
import Derived.Deep.AppendLies
import Derived.Test.YtbhdekahdnenjaaGreatDoorG36
set_option linter.unusedVariables false
set_option linter.unusedSimpArgs false
set_option maxRecDepth 100000
set_option maxHeartbeats 16000000
namespace Go.Proofs.YtbhdekahdnenjaaGreatDoor
open Go.Proofs.Tryz Go.RowKit
variable (w:World)
theorem Rn.At.keepT {w w':World} {K:Nat} {x:Rn} (h:x.At w w K) (I:KeepT (limbTy .u32) w w') (hs:(w:Nat)<=w'):x.At w' w' K:=by
 have E:∀{k:Nat} {v:Value} {z:Int},PI w w k v z->PI w' w' k v z:=by
  rintro k v z ⟨g,A,n,c,l,a,i,h3,h4,h5,h6,h7,h8,h9⟩;refine⟨g,A,n,c,l,a,i,h3,h4,h5,h6,h7,h8,?_⟩
  rcases h9 with h|⟨d,o,e,hl,hc,cur,T,s⟩
  ·exact .inl h
  ·have S:=(I _ _ _ s).trans s.symm
   exact .inr ⟨d,o,e,oM,fun j hj=>(World.cell?_of_block (w:=w) S).trans (hc j hj),cur,T,I _ _ _ s⟩
 obtain⟨W,J,n1,O,X,L,n2,Q,e,a,i⟩:=h;exact⟨W,J,n1,O,X,L,n2,Q,e,E a,E i⟩
structure RowR (w:World) (n K:Nat) (r:RRow):Prop where
 hr:r.At w w K
 hn:r.n=n
 ht:RowsTy 52 w r.A r.l
theorem RowR.keepT {w w':World} {n K:Nat} {r:RRow} (h:RowR w n K r) (i:∀t',t'≠161->KeepT t' w w') (o:(w:Nat)<=w'):RowR w' n K r:=by
 obtain⟨a,b⟩:=RowsTy.keepT h.ht h.hr.hA (i _ dC) o;exact⟨⟨h.hr.hl,b,fun x s=>(h.hr.hx x s).keepT (i _ dC) o⟩,h.hn,a⟩
theorem RowR.below {w w':World} {n K:Nat} {r:RRow} (h:RowR w n K r) (a:Below w w w'):RowR w' n K r:=⟨(h.hr.below a lR).more a.size lR,h.hn,h.ht.below a⟩
def SolvePost (o:Option (List Fr)) (n K:Nat) (w:World) (e:Ending) (w':World):Prop :=
 Below w w w'/\((o=none/\∃m:Int,m≠0/\e=.returned (.tuple #[.slice none 0 0,m]))∨∃A c l,e=.returned (.tuple #[.slice A n c,()])/\l.length=n/\RowsAt Rn.cells 4 w' w' A l/\(∀x∈l,x.At w' w' K)/\Fresh w A/\o=some (l.map Rn.q))
theorem a9G (A B:OA) (n c d K0:Nat) (m:List RRow) (bl:List Rn) (e7:1<=n) (hn:n<=12) (a:3<=K0) (e0:30*kk K0 n+1000<=10000000000) (hl:m.length=n)
  (hA:MatR w w A m) (hx:∀r∈m,r.At w w K0/\r.n=n) (e6:bl.length=n) (hB:RowsAt Rn.cells 4 w w B bl) (d0:∀x∈bl,x.At w w K0) :
  Calls prog 185 #[.slice A n c,.slice B n d] w (SolvePost (El.solve n (mq m) (bl.map Rn.q)) n (kk K0 n+kk K0 n) w):=by
 have da:Lm.square m:=by
  unfold Lm.square Lm.valid
  have hc:Lm.cols m=n:=by
   cases m with
   |nil=>simp at hl;omega
   |cons r t=>exact(hx r sP).2
  rw[hc,hl];simp only[Vp,Xb,Xm];exact⟨⟨⟨fun r hr=>(hx r hr).2,oM⟩,oM⟩,trivial⟩
 have ch:=Z1 (a8s w A n c m hl oM hA);rw[da] at ch;obtain⟨bA,oA,rfl,e4,d6⟩:=RowsAt.base hA oM;obtain⟨bB,oB,rfl,e5,d7⟩:=RowsAt.base hB oM
 have dl:=fun q (hq:q<n)=>Z1 (show∃(b o c':Nat) (l:List Rn),w.cell? ⟨bA,oA+q,none⟩=some (.slice (some ⟨b,o,none⟩) n c')/\b<w/\RowsAt Rn.cells 4 w w (some ⟨b,o,none⟩) l/\l.length=n/\(∀x∈l,x.At w w K0)/\l.map Rn.q=mq m q from by
  have h1:q<m.length:=oM;obtain⟨⟨k1,k2,k3⟩,k4⟩:=hx m[q] (Vm h1);have c0:=d6 q h1 0 _ rfl;obtain⟨b,o,e,hb,_⟩:=RowsAt.base k2 oM;rw[e] at c0 k2;rw[k4] at c0 k1;exact⟨b,o,m[q].c,m[q].l,by simpa using c0,hb,k2,k1,k3,(b3Y h1).symm⟩)
 have dm:=fun q (hq:q<n)=>Z1 (show∃y:Rn,w.rangeAt bB (oB+q*4) y.cells/\y.At w w K0/\y.q=El.at_ (bl.map Rn.q) q from⟨bl[q],d7 q oM,d0 _ (Vm _),(El.at_map (List.getElem?_eq_getElem oM)).symm⟩);obtain⟨F,hF⟩:=eX (El.wide n (mq m) (bl.map Rn.q));have HF:=Z1 hF;have di:Hid (∀i,i<n->F i=mq m i++[El.at_ (bl.map Rn.q) i]):=fun i hi=>by rw[hF];exact Vt hi
 have dj:Hid (∀i,¬ i<n->F i=[]):=fun i hi=>by rw[hF];exact El.wide_out hi
 clear hF;have ek:(n:Int)<=12:=oM;have k0:((n:Int) != (n:Int))=false:=sP;clear hA hx d6 hl hB d7 d0 e6 da;go_enter func185,ntmps185;go_wp2_with (fail);refine ch.mono ?_;rintro e W1 ⟨rfl,rfl⟩;go_wp2
 go_loopw [6,29] (fun v vi wr=>∃(k:Nat) (rows:List RRow),k<=n/\vi=k/\rows.length=k/\(∀r∈rows,RowR wr (n+1) K0 r)/\wr.ownsRow w.heap.size 161 1 v rows.length (rows.flatMap RRow.cells)/\Below w w wr/\rows.map (fun r=>r.l.map Rn.q)=(List.range k).map F) (fun _ vi _=>n-(intOf vi).toNat)
 case atStart=>exact⟨0,[],Vb _,rfl,rfl,sP,Xp _ _ _ _,bR,rfl⟩
 case round =>
  obtain⟨V,rfl⟩:=eX wr;obtain⟨k,rows,hk,rfl,be,L,a0,hb,dc⟩:=hrel;have ci:=Z1 dc;clear dc;have ar:=hb.size;have eg:(0:Int)<=(k:Int):=oM
  by_cases c1:k<n
  case neg =>
   obtain rfl:k=n:=oM;obtain⟨A6,c6,rfl,cq⟩:=Xw (f:=RRow.cells) (sz:=1) dC (fun _=>rfl) a0 rfl;have ca:=Z1 (b2W V A6 k c6 (k+1) k K0 rows e7 oM oM oM oM a e0 be cq (fun r hr=>⟨(L r hr).hr,(L r hr).hn⟩));rw[be];have HB:=Z1 hb;clear a0 cq L hb;go_wp2_with (fail);refine ca.mono ?_;rintro e W2 ⟨bv,g,lo,R,r,det,rfl,el,hM,d5⟩;have HQ:Hid ((r,ofR k R)=El.run k k (El.wide k (mq m) (bl.map Rn.q))):=by show _=_;rw[d5,b4F ci dj,HF]
   clear d5;have HM:=Z1 hM;have c7:=Z1 (HB.out.trans (bv.mono ar));have em:=bv.size;clear hM bv HB ca;unfold Rn.v
   by_cases d8:r<k
   ·have k1:decide ((r:Int)<(k:Int)):=VT oM
    obtain⟨W3,b1,a6,-,-⟩:=nw1 W2 det 52;have HP:Hid (SolvePost (El.solve k (mq m) (bl.map Rn.q)) k (kk K0 k+kk K0 k) w (.returned (.tuple #[.slice none 0 0,(14:Int)])) W3):=Z1 ⟨c7.out.trans (a6.mono oM),.inl ⟨El.solve_no HQ d8,14,dC,rfl⟩⟩;have bs:=Z1 b1;clear b1 a6;go_upto_region 10 with(fail);rw[<- bs];go_wp2
    go_ret2
    exact HP
   have k1:decide ((r:Int)<(k:Int))=false:=Vr oM;have HY:=Z1 (El.solve_yes HQ d8);obtain⟨W3,b1,a6,-,-⟩:=nw1 W2 det 52;obtain⟨bs,dk,c8⟩:=Z3 b1 (HM.below a6) (c7.out.trans (a6.mono oM));have d9:=c8.out.size;clear b1 a6 HM;go_upto_region 10 with(fail);rw[<- bs];go_wp2
   go_loopw [12,61] (fun v vi wr=>∃(i:Nat) (l:List Rn),i<=k/\vi=i/\l.length=i/\wr.ownsRow W3.heap.size 52 4 v l.length (l.flatMap Rn.cells)/\(∀x∈l,x.At wr wr (kk K0 k+kk K0 k))/\Below W3 W3 wr/\l.map Rn.q=(List.range i).map (El.quo k (ofR k R))) (fun _ vi _=>k-(intOf vi).toNat)
   case atStart=>exact⟨0,[],Vb _,rfl,rfl,Xp _ _ _ _,sP,bR,rfl⟩
   case round =>
    obtain⟨U,rfl⟩:=eX wr;obtain⟨i,l,ef,rfl,bz,a0,bb,hb,d3⟩:=hrel;have cb:=Z1 d3;clear d3
    by_cases hi:i<k
    case neg =>
     obtain rfl:i=k:=oM;obtain⟨A9,c9,rfl,cr⟩:=Xw (f:=Rn.cells) (sz:=4) dC (fun _=>rfl) a0 rfl;have d2:=a0K a0;have HP:Hid (SolvePost (El.solve i (mq m) (bl.map Rn.q)) i (kk K0 i+kk K0 i) w (.returned (.tuple #[.slice A9 l.length c9,()])) U):=Z1 ⟨c8.out.trans (hb.mono d9),.inr ⟨A9,c9,l,by rw[bz],bz,cr,bb,fun ad h=>Vn d9 (d2 ad h),by rw[HY,cb]⟩⟩;clear a0 cr bb hb d2;go_wp2
     go_ret2
     exact HP
    have hM:=dk.out.below hb;have e1:=hM.head hi hi;have e2:=Vq hM.hg;have ed:(0:Int)<=(i:Int):=oM;have ea:(i:Int)<(k:Int):=oM;have ee:(i:Int)<(k:Int)+1:=oM;have eh:(k:Int)<(k:Int)+1:=oM;have ej:(0:Int)<=(k:Int):=oM;obtain⟨x,dd,c2,de⟩:=hM.get hi (show k<k+1 by omega);obtain⟨y,df,c3,dg⟩:=hM.get hi (show i<k+1 by omega);have dv:Hid (Fr.div x.q y.q=El.quo k (ofR k R) i):=by show _=_;unfold El.quo;rw[a3T hi,El.at_map dd,El.at_map df]
    clear dd df;have bw:=Vq (hM.hr i hi).1;obtain⟨bi,cz⟩:=eX ((R i).b);rw[<- cz] at e1 c2 c3 bw;have ds:=Z1 c2;have dt:=Z1 c3;have cp:3<=kk K0 k:=Vn a (b4H K0 k);have au:=fun(W:World) (hB:Below U.heap.size U W)=>Z1 (b3y W (kk K0 k) (kk K0 k) x y cp cp oM ((de.below hB lR).more hB.size lR) ((dg.below hB lR).more hB.size lR));obtain⟨av,dq,Hb⟩:=Z3 a0 bb hb;clear hM c2 c3 de dg cz a0 bb hb;go_upto_region 16 with(fail);have s:Below U.heap.size U U.drew:=Vw bR 1;refine Vs (S:=Below U.heap.size U) kR ?_;change wpAnyH _ _ _ _ _ _ _ _ (World.drew U);obtain⟨W0,cu⟩:=eX U.drew;rw[<- cu] at s⊢;clear cu;refine jT 0 s ?_;refine jT 1 s ?_;refine jT 2 s ?_;refine jT 3 s ?_;refine jT 4 s ?_ (v:=x) (hy:=(Vf (by rfl) 52 _ rfl bi (k*4) rfl x _ (fun W' ay=>VK ds ay bw) Xf rfl Vy));refine jT 5 s ?_;refine jT 6 s ?_;refine jT 7 s ?_;refine jT 8 s ?_ (v:=y) (hy:=(Vf (by rfl) 52 _ rfl bi (i*4) rfl y _ (fun W' ay=>VK dt ay bw) Xf rfl Vy));refine Xc (rs:=[9,13]) kR sP (XQ rfl (fun K a=>?_) (XQ rfl (fun K a=>?_) Ys))
    focus
     go_simp;refine(au W0 s).out.mono ?_;rintro e W4 ⟨⟨z,m9,rfl,hz,b8⟩,a6⟩;have ck:=Z1 b8;clear b8;have a4:=s.trans (a6.mono s.size);refine a.out _ _ a4 (fun _=>?_);clear a K;unfold Rn.v
     try simp only[z]
     refine jT 10 a4 ?_;refine jT 11 a4 ?_;refine jT 12 a4 ?_;refine rZ 13 fun K a=>?_;obtain⟨W5,cw,ae,L,-⟩:=nw1 W4 ZR 52;go_simp;rw[<- cw];have ag:=a4.trans (ae.mono a4.size);refine jK a ag ?_;clear a K;obtain⟨fb,b3⟩:=eX W4.heap.size;rw[<- b3] at L⊢;have d1:U<=fb:=by have:=a4.size;omega
     have c4:=(hz.below ae lR).more ae.size lR;clear cw ae a6 a4 hz b3
    rotate_left
    focus
     obtain⟨W4,bk,a6,ac,-⟩:=nw1 W0 ZR 52;go_simp;rw[<- bk];have a4:=s.trans (a6.mono s.size);refine jK a a4 ?_;clear a K;obtain⟨fb,b3⟩:=eX W0.heap.size;rw[<- b3] at ac⊢;have d1:U<=fb:=by have:=s.size;omega
     clear bk a6 b3;refine rZ 9 fun K a=>?_;go_simp;refine(au W4 a4).out.mono ?_;rintro e W5 ⟨⟨z,m9,rfl,c4,b8⟩,ae⟩;have ck:=Z1 b8;clear b8;have ag:=a4.trans (ae.mono a4.size);have L:=gbox ac ae (Vq ac);refine a.out _ _ ag (fun _=>?_);clear a K;unfold Rn.v
     try simp only[z]
     refine jT 10 ag ?_;refine jT 11 ag ?_;refine jT 12 ag ?_;clear ae a4 ac
    rotate_left
    all_goals
     refine rZ 14 fun K a=>?_;rw[Vt (by rfl)];refine VQ 52 _ _ none rfl rfl fb 52 _ z rfl rfl L rfl Vy oC ?_;have ah:Below U.heap.size U (W5.setRow fb z):=below_setRow ag d1 _;refine jK a ah ?_;clear a K;have al:=VC W5 fb _ z _ _ L;have c5:z.At (W5.setRow fb z) (W5.setRow fb z).heap.size (kk K0 k+kk K0 k):=(c4.other L a0G (fun c hc=>Vl _ _ _ _ hc)).more sP lR;obtain⟨W6,cx⟩:=eX (W5.setRow fb z);rw[<- cx] at ah al c5⊢;have cj:=Z1 c5;clear cx ag L c4 c5 s au;refine rZ 15 fun K a=>?_;go_simp;refine jK a ah ?_;clear a K;refine VF kR ?_ _;have cd:=Z1 (Vj av ah);have b9:Hid (∀x∈l,x.At W6 W6 (kk K0 k+kk K0 k)):=Z1 (fun x hx=>((dq x hx).below ah lR).more ah.size lR);have bt:=bT Hb ah;have en:=bt.out.size;clear ah e1 e2;go_wp2_with (first|(refine Vd rfl 52 _ rfl _ rfl _ _ _ _ al Xf rfl Vy ?_)|(at_builtin;refine Hid.out ?_));show wpList _ _ _ _ _ _;refine a1o eltRat cd z rfl rfl rfl rfl rfl oC oM oM ?_;intro v' w' d4 ba bx
     have du:Hid (∀x∈l++[z],x.At w' w' (kk K0 k+kk K0 k)):=Z1 (fun x hx=>by
      rcases V9.1 hx with h|h
      ·exact(b9 x h).keepT (bx _ dC) ba.size
      ·rw[VY.1 h];exact cj.keepT (bx _ dC) ba.size)
     have dr:Hid (w'.ownsRow W3.heap.size 52 4 v' (l++[z]).length ((l++[z]).flatMap Rn.cells)):=Z1 (by rw[Vc,VL];simpa[Rn.cells] using d4);have dn:=Z1 (bt.out.trans ba);clear d4 ba bx cd b9 bt cj al;go_wp2;go_roundw
     case rel=>exact⟨i+1,l++[z],oM,by go_num,by rw[Vc,bz];rfl,dr,du,dn,by rw[Ym,Xn,Xn,cb,X5,X5,ZB,ZB,ck,dv]⟩
     case measure=>exact mS
  have ei:(k:Int)<(n:Int):=oM;obtain⟨b0,o0,c0,l,y1,y2,y3,y4,y5,y6⟩:=(dl k c1).out;obtain⟨y,z1,z2,z3⟩:=(dm k c1).out;have dp:Hid ((l++[y]).map Rn.q=F k):=by show _=_;rw[Xn,y6,di k c1,<- z3];rfl
  clear y6 z3;have a1:=(hb.cell (p:=⟨bA,oA+k,none⟩) e4).trans y1;have a2:bA<V:=oM;have a3:bB<V:=oM;obtain⟨ec,Hl,aq,b9,dw,dx,cg⟩:=Z7 y1 y3 y4 y5 z1 z2 L;obtain⟨av,Hb,cf⟩:=Z3 a0 hb be;clear y1 y3 y4 y5 z1 z2 L a0 hb be;go_upto_region 7 with(fail);have s:Below w w V.drew:=Hb.out.trans ((Vw bR 1).mono ar);have cs:Below V.heap.size V V.drew:=Vw bR 1;refine Vs (S:=Below w w) kR ?_;change wpAnyH _ _ _ _ _ _ _ _ (World.drew V);obtain⟨V0,ct⟩:=eX V.drew;rw[<- ct] at s cs⊢;clear ct;refine jT 0 s ?_;refine jT 2 s ?_;refine jT 4 s ?_;refine jT 5 s ?_;refine jT 6 s ?_;refine jT 7 s ?_ (v:=y) (hy:=(Vf (by rfl) 52 _ rfl bB (oB+k*4) rfl y _ (fun W' ay=>VK dw ay e5) Xf rfl Vy));have ao:=s;have af:=cs;refine Xc (rs:=[1,8]) kR sP (XQ rfl (fun K a=>?_) (XQ rfl (fun K a=>?_) Ys))
  focus
   obtain⟨Wa,hW,hB,-,-⟩:=nw1 V0 #[] 52;go_simp;rw[<- hW];have J:=ao.trans (hB.mono ao.size);have O:=af.trans (hB.mono af.size);obtain⟨a1,a7⟩:=eX V0.heap.size;have ab:Wa.ownsRow V.heap.size 52 4 (.slice (some ⟨a1,0,none⟩) 0 0) 0 []:=by rw[hW,a7];exact Y5 (e:=52) (size:=4) V0 #[] 0 af.size (Vb _) rfl
   rw[<- a7];have e3:a1<Wa:=by rw[hW,a7];simp
   have cy:V0<=a1:=X6 a7.symm;clear hW a7;refine jK a J ?_;clear a K;refine Xc (rs:=[3,8]) kR sP (XQ rfl (fun K a=>?_) (XQ rfl (fun K a=>?_) Ys))
   focus
    rw[Vt (by rfl)];refine a3i eltRat ab ⟨b0,o0,none⟩ n c0 (l.flatMap Rn.cells) rfl rfl rfl (by rw[Xj (f:=Rn.cells) (sz:=4) (fun _=>rfl),aq]) (a0N (f:=Rn.cells) (sz:=4) (B:=w.heap.size) dC (fun _=>rfl) (RowsAt.below Hl J lR)) (Xb.2 (fun v hv=>by rw[Yz] at hv;obtain⟨x,_,hx⟩:=hv;revert v;simp[Rn.cells,Value.oneCell'])) oM O.size ?_;intro dh Wb X T _ a9;rw[VN,Xr] at X;have E:=J.trans (T.mono ar);have Q:=O.trans T;refine jK a E ?_;clear a K;refine rZ 8 fun K a=>?_;obtain⟨Wc,ai,hB,I,-⟩:=nw1 Wb y 52;go_simp;rw[<- ai];have aa:=E.trans (hB.mono E.size);have am:=Q.trans (hB.mono Q.size);obtain⟨p8,a8⟩:=eX Wb.heap.size;rw[<- a8] at I⊢;have bq:=Vq I;have br:Wb<=p8:=X6 a8.symm;clear ai a8;refine jK a aa ?_;clear a K;have bc:=Vj X hB;clear hB a9 T X ab J O E Q
   rotate_left
   focus
    obtain⟨Wb,ai,hB,I,-⟩:=nw1 Wa y 52;go_simp;rw[<- ai];have E:=J.trans (hB.mono J.size);have Q:=O.trans (hB.mono O.size);obtain⟨p8,a8⟩:=eX Wa.heap.size;rw[<- a8] at I⊢;have bq:=Vq I;have br:Wa<=p8:=X6 a8.symm;clear ai a8;refine jK a E ?_;clear a K;have ab:=Vj ab hB;refine rZ 3 fun K a=>?_;rw[Vt (by rfl)];refine a3i eltRat ab ⟨b0,o0,none⟩ n c0 (l.flatMap Rn.cells) rfl rfl rfl (by rw[Xj (f:=Rn.cells) (sz:=4) (fun _=>rfl),aq]) (a0N (f:=Rn.cells) (sz:=4) (B:=w.heap.size) dC (fun _=>rfl) (RowsAt.below Hl E lR)) (Xb.2 (fun v hv=>by rw[Yz] at hv;obtain⟨x,_,hx⟩:=hv;revert v;simp[Rn.cells,Value.oneCell'])) oM Q.size ?_;intro dh Wc X T _ a9;rw[VN,Xr] at X;have aa:=E.trans (T.mono ar);have am:=Q.trans T;refine jK a aa ?_;clear a K;have bc:=X;replace I:=(a9 p8 (Vq I) (fun e=>by simp[Value.ownBlock] at e;omega)).trans I;clear hB a9 T X ab J O E Q
   rotate_left
  rotate_left 2
  focus
   obtain⟨Wa,ai,hB,I,-⟩:=nw1 V0 y 52;go_simp;rw[<- ai];have J:=ao.trans (hB.mono ao.size);have O:=af.trans (hB.mono af.size);obtain⟨p8,a8⟩:=eX V0.heap.size;rw[<- a8] at I⊢;have bq:=Vq I;have br:V0<=p8:=X6 a8.symm;clear ai a8;refine jK a J ?_;clear a K;refine rZ 1 fun K a=>?_;obtain⟨Wb,hW,hB,-,-⟩:=nw1 Wa #[] 52;go_simp;rw[<- hW];have E:=J.trans (hB.mono J.size);have Q:=O.trans (hB.mono O.size);obtain⟨a1,a7⟩:=eX Wa.heap.size;have ab:Wb.ownsRow V.heap.size 52 4 (.slice (some ⟨a1,0,none⟩) 0 0) 0 []:=by rw[hW,a7];exact Y5 (e:=52) (size:=4) Wa #[] 0 O.size (Vb _) rfl
   rw[<- a7];have e3:a1<Wb:=by rw[hW,a7];simp
   have cy:Wa<=a1:=X6 a7.symm;clear hW a7;refine jK a E ?_;clear a K;replace I:=(hB.block p8 (Vq I)).trans I;refine rZ 3 fun K a=>?_;rw[Vt (by rfl)];refine a3i eltRat ab ⟨b0,o0,none⟩ n c0 (l.flatMap Rn.cells) rfl rfl rfl (by rw[Xj (f:=Rn.cells) (sz:=4) (fun _=>rfl),aq]) (a0N (f:=Rn.cells) (sz:=4) (B:=w.heap.size) dC (fun _=>rfl) (RowsAt.below Hl E lR)) (Xb.2 (fun v hv=>by rw[Yz] at hv;obtain⟨x,_,hx⟩:=hv;revert v;simp[Rn.cells,Value.oneCell'])) oM Q.size ?_;intro dh Wc X T _ a9;rw[VN,Xr] at X;have aa:=E.trans (T.mono ar);have am:=Q.trans T;refine jK a aa ?_;clear a K;have bc:=X;replace I:=(a9 p8 (Vq I) (fun e=>by simp[Value.ownBlock] at e;omega)).trans I;clear hB a9 T X ab J O E Q
  all_goals
   refine rZ 9 fun K a=>?_;rw[Vt (by rfl)];refine a3i eltRat bc ⟨p8,0,none⟩ 1 1 y.cells rfl rfl rfl rfl (fun j u hj=>by rw[Zb,VN,cr9 j I];simpa[Rn.cells] using hj) (by simp[Rn.cells,Value.oneCell']) oM am.size ?_;intro eo bu b5 b2 _ _;have an:=aa.trans (b2.mono ar);have aw:=am.trans b2;obtain⟨ak,aj,rfl⟩:=ownsRow_succ b5;have b6:bu.ownsRow V.heap.size 52 4 (.slice (some ⟨ak,0,none⟩) (n+1) aj) (n+1) ((l++[y]).flatMap Rn.cells):=by rw[VL];simpa using b5
   refine jK a an ?_;clear a K;refine rZ 10 fun K a=>?_;obtain⟨cn,bj,hB,b7,-⟩:=nw1 bu #[.slice (some ⟨ak,0,none⟩) (n+1) aj] 161;go_simp;rw[<- bj];have a5:=an.trans (hB.mono an.size);have ax:=aw.trans (hB.mono aw.size);obtain⟨e8,bm⟩:=eX bu.heap.size;rw[<- bm] at b7⊢;clear bj bm;refine jK a a5 ?_;clear a K;refine rZ 11 fun K a=>?_
   have bn:RowR cn (n+1) K0 ⟨some ⟨ak,0,none⟩,n+1,aj,l++[y]⟩:=by
    have ho:=Vj b6 hB;obtain⟨A',c',e',dy⟩:=Xw (f:=Rn.cells) (sz:=4) dC (fun _=>rfl) ho (by simp[aq.out])
    cases e'
    refine⟨⟨by simp[aq.out],dy,fun x hx=>?_⟩,rfl,a3j ho (by simp[aq.out])⟩
    rcases V9.1 hx with h|h
    ·exact((b9 x h).below a5 lR).more a5.size lR
    ·rw[VY.1 h];exact(dx.below a5 lR).more a5.size lR
   have bp:∀r∈rows,RowR cn (n+1) K0 r:=fun r hr=>(cg r hr).below ax;have bg:=Z1 bn;have bh:=Z1 bp;have eb:=cf.out;rw[Vt (by rfl)];refine a3i eltRow (Vj av ax) ⟨e8,0,none⟩ 1 1 [.slice (some ⟨ak,0,none⟩) (n+1) aj] rfl rfl rfl rfl (fun j u hj=>by rw[Zb,VN,cr9 j b7];simpa using hj) oC oM a5.size ?_;intro e9 co bo ap b4 _;have az:=a5.trans ap;refine jK a az ?_;clear a K
   have ce:Hid (∀r∈rows++[(⟨some ⟨ak,0,none⟩,n+1,aj,l++[y]⟩:RRow)],RowR co (n+1) K0 r):=Z1 (fun r hr=>by
    rcases V9.1 hr with h|h
    ·exact(bh r h).keepT b4 ap.size
    ·rw[VY.1 h];exact bg.keepT b4 ap.size)
   have cc:Hid (co.ownsRow w.heap.size 161 1 e9 (rows++[(⟨some ⟨ak,0,none⟩,n+1,aj,l++[y]⟩:RRow)]).length ((rows++[(⟨some ⟨ak,0,none⟩,n+1,aj,l++[y]⟩:RRow)]).flatMap RRow.cells)):=Z1 (by rw[Vc,VL];simpa[RRow.cells] using bo);have bf:=Z1 az;clear bo ap b4 bn bp bg bh b5 b6 b2 aw an hB b7 a5 ax bc I;refine rZ 12 fun K a=>?_;go_simp;refine jK a bf ?_;clear a K;refine VF kR ?_ _;clear az;go_wp2;go_roundw
   case rel=>exact⟨k+1,_,oM,by go_num,by rw[Vc,cf];rfl,ce,cc,bf,by rw[Ym,Xn,Xn,ci,X5,X5,ZB,ZB];rw[dp]⟩
   case measure=>exact mS
theorem b3J {P:Program} {o:Oper} {a:Act} {K:Act->World->Prop} {Q:Exit->Act->World->Prop} {W:World} {base:Nat} {e t:TypeId} {sz n:Nat} {v:Value} {xs:List Value} (E:Elt P t e sz) (J:W.ownsRow base e sz v n xs) (S:Addr) (c:Nat) (I:List Value)
  {s x:Operand} (ho:o.op=.call { callee:=.builtin .append,args:=#[s,x],argTypes:=#[t,t] }) (hs:a.eval s=v) (hx:a.eval x=.slice (some S) 1 c) (hl:I.length=sz) (L:∀j u,I[j]?=some u->W.cell? (S.add j)=some u) (h1:I.all (·.oneCell')) (hn:n+1<=100000) (hb:base<=W)
  (h:∀g cap w',w'.ownsRow base e sz (.slice (some ⟨g,0,none⟩) (n+1) cap) (n+1) (xs++I)->Below base W w'->(∀t',t'≠e->KeepT t' W w')->(∀b,b<W.heap.size->some b≠v.ownBlock->w'.heap[b]?=W.heap[b]?)->(v.ownBlock=some g∨g=W.heap.size)->K (a.put o.dst (.slice (some ⟨g,0,none⟩) (n+1) cap)) w'):o.wp P a W K Q:=by
 obtain⟨i,z,O,hu,hi,hz,a5,X,a6,h0,T⟩:=E;have a7:(n+1)*O<=100000*1000:=ZL hn T;refine wp_append_lies W s x t ho base e i z sz O hu hi hz a5 X a6 h0 v n xs hs J S 1 c I hx oM L (fun u hu=>by simpa using Xb.1 h1 u hu) dC (by unfold maxLen;omega) oM hb _ rfl ?_;intro g cap w' a4 hg hat _;exact h g cap w' a4 ((VM _ W).grown hg hb (fun k hk=>(J.lt k hk).1)) (fun t' a0=>a2L J hg a0) hg.block hat
theorem a4H {w w':World} {base e sz n:Nat} {v:Value} {o:List Value} (h:w.ownsRow base e sz v n o) (s:KeepT e w w'):w'.ownsRow base e sz v n o :=
 ⟨h.1,h.2.imp id (fun⟨g,i,cur,a,b,c,d⟩=>⟨g,i,cur,a,b,s _ _ _ c,d⟩)⟩
def Apart (r:RRow) (v:Value):Prop:=∀b o,r.A=some ⟨b,o,none⟩->some b≠v.ownBlock
theorem RowR.keepB {w w':World} {n K:Nat} {r:RRow} {v:Value} (h:RowR w n K r) (s:Apart r v) (E:∀b,b<w.heap.size->some b≠v.ownBlock->w'.heap[b]?=w.heap[b]?) (i:KeepT (limbTy .u32) w w') (L:(w:Nat)<=w'):RowR w' n K r:=by
 refine⟨⟨h.hr.hl,?_,fun x O=>(h.hr.hx x O).keepT i L⟩,h.hn,?_⟩
 ·rcases h.hr.hA with e|⟨b,o,e,J,a⟩
  ·exact .inl e
  ·exact .inr ⟨b,o,e,oM,fun k i j v hv=>(World.cell?_of_block (w:=w) (E b J (s b o e))).trans (a k i j v hv)⟩
 ·rcases h.ht with e|⟨b,o,cur,I,e,a⟩
  ·exact .inl e
  ·exact .inr ⟨b,o,cur,I,e,(E b (Vq a) (s b o e)).trans a⟩
def eqx (L:List (List Int)) (h e:Nat):Fr:=if h=e then Fr.add (Fr.neg (Fr.part (mi L h e))) (Fr.part 10000) else Fr.neg (Fr.part (mi L h e))
def eqr (L:List (List Int)) (a:List Nat) (i:Nat):List Fr:=a.map (fun h=>eqx L h (a.getD i 0))
def eqb (a:LI) (e:Nat):Fr:=Fr.part (a.getD e 0)
theorem map_take {α β:Type} (f:α->β) {l:List α} {k:Nat} {x:α} (h:l[k]?=some x):(l.take (k+1)).map f=(l.take k).map f++[f x]:=by
 rw[List.take_add_one,h,Xn];rfl
def EqnPost (L:List (List Int)) (o:LI) (i:List Nat) (p:Nat) (w:World) (e:Ending) (w':World):Prop :=
 Below w w w'/\∃A c rows B d a,e=.returned (.tuple #[.slice A p c,.slice B p d])/\rows.length=p/\MatR w' w' A rows/\(∀r∈rows,r.At w' w'.heap.size 7/\r.n=p)/\a.length=p/\RowsAt Rn.cells 4 w' w' B a/\(∀x∈a,x.At w' w'.heap.size 7)/\rows.map (fun r=>r.l.map Rn.q)=(List.range p).map (eqr L i)/\a.map Rn.q=i.map (eqb o)
theorem b2S (A B P:Option Addr) (n c d p pc:Nat) (M:List IRow) (dl:List Int) (pl:List Nat) (fb:1<=n) (hn:n<=12) (hM:MatI w w A n n M) (bt:∀r∈M,∀x∈r.l,0<=x/\x<=10000) (el:dl.length=n) (bv:∀x∈dl,0<=x/\x<=10000) (hB:RowsAt icell 1 w w B dl)
  (fd:1<=p) (hp:p<=12) (en:pl.length=p) (df:∀x∈pl,x<n) (hP:RowsAt icell 1 w w P (pl.map (fun x:Nat=>(x:Int)))) :
  Calls prog 184 #[.slice A n c,.slice B n d,.slice P p pc] w (EqnPost (M.map (·.l)) dl pl p w):=by
 obtain⟨L,hL⟩:=eX (M.map (·.l));rw[<- hL];obtain⟨bA,oA,rfl,ej,dg⟩:=RowsAt.base hM.hA (by rw[hM.hl];omega);obtain⟨bB,oB,rfl,ek,dh⟩:=RowsAt.base hB oM;obtain⟨bP,oP,rfl,d5,di⟩:=RowsAt.base hP sO;have dq:=fun k (h:k<n)=>Z1 (show∃x,w.cell? ⟨bB,oB+k,none⟩=some (.int .i64 x)/\0<=x/\x<=10000/\eqb dl k=Fr.part x from⟨dl[k]' oM,by have:=dh k oM 0 _ rfl;simpa using this,(bv _ (Vm _)).1,(bv _ (Vm _)).2,by unfold eqb;rw[List.getD_eq_getElem?_getD,List.getElem?_eq_getElem oM];rfl⟩);have c6:=fun k (h:k<p)=>Z1 (show∃x:Nat,w.cell? ⟨bP,oP+k,none⟩=some (.int .i64 x)/\x<n/\pl[k]?=some x from⟨pl[k],by have:=di k sO 0 _ rfl;simpa using this,df _ (Vm _),List.getElem?_eq_getElem oM⟩)
 have dp:=fun h e (hh:h<n) (he:e<n)=>Z1 (show∃b o m c x,w.cell? ⟨bA,oA+h,none⟩=some (.slice (some ⟨b,o,none⟩) m c)/\e<m/\b<w.heap.size/\w.cell? ⟨b,o+e,none⟩=some (.int .i64 x)/\0<=x/\x<=10000/\mi L h e=x from by
  have h1:h<M.length:=by rw[hM.hl];exact hh
  have c0:=dg h h1 0 _ rfl;have hx:=hM.hx M[h] (Vm h1);have h2:e<M[h].l.length:=by rw[hx.1.hl,hx.2];exact he
  obtain⟨b,o,e1,hb,W⟩:=RowsAt.look hx.1.hA h2;have d0:=W 0 _ rfl;rw[e1] at c0;exact⟨b,o,M[h].n,M[h].c,M[h].l[e],by simpa using c0,by rw[hx.2];exact he,hb,by simpa using d0,(bt _ (Vm h1) _ (Vm h2)).1,(bt _ (Vm h1) _ (Vm h2)).2,by unfold mi;rw[hL,List.getElem?_map,List.getElem?_eq_getElem h1];show M[h].l.getD e 0=_;rw[List.getD_eq_getElem?_getD,List.getElem?_eq_getElem h2];rfl⟩)
 have ca:Hid (pl.take p=pl):=Vg oM;have fc:(n:Int)<=12:=oM;have fe:(p:Int)<=12:=oM;clear hM hB hP dg dh di el bv bt en df hL;go_enter func184,ntmps184;go_wp2
 go_loopw [8,9,18] (fun va vb vi wr=>∃(k:Nat) (rows:List RRow) (bl:List Rn),k<=p/\vi=.int .i64 k/\rows.length=k/\bl.length=k/\(∀r∈rows,RowR wr p 7 r)/\wr.ownsRow w.heap.size 161 1 va rows.length (rows.flatMap RRow.cells)/\wr.ownsRow w.heap.size 52 4 vb bl.length (bl.flatMap Rn.cells)/\(∀x∈bl,x.At wr wr.heap.size 7)/\(∀r∈rows,Apart r vb)/\Below w w wr/\rows.map (fun r=>r.l.map Rn.q)=(List.range k).map (eqr L pl)/\bl.map Rn.q=(pl.take k).map (eqb dl)) (fun _ _ vi _=>p-(intOf vi).toNat)
 case atStart=>exact⟨0,[],[],Vb _,rfl,rfl,rfl,sP,Xp _ _ _ _,Xp _ _ _ _,sP,sP,bR,rfl,rfl⟩
 case round =>
  obtain⟨V,rfl⟩:=eX wr;obtain⟨k,rows,bl,hk,rfl,be,ab,a5,b8,b9,b0,bu,hb,dj,d7⟩:=hrel;have cn:=Z1 dj;have cc:=Z1 d7;clear dj d7;have cz:=hb.size;have f9:(0:Int)<=(k:Int):=oM
  by_cases em:k<p
  case neg =>
   obtain rfl:k=p:=oM;obtain⟨A8,c8,e8,cq⟩:=Xw (f:=RRow.cells) (sz:=1) dC (fun _=>rfl) b8 rfl;obtain⟨A9,c9,e9,cs⟩:=Xw (f:=Rn.cells) (sz:=4) dC (fun _=>rfl) b9 rfl;rw[be] at e8;rw[ab] at e9;subst e8 e9;have HP:Hid (EqnPost L dl pl k w (.returned (.tuple #[.slice A8 k c8,.slice A9 k c9])) V):=Z1 ⟨hb,A8,c8,rows,A9,c9,bl,rfl,be,cq,fun r W=>⟨(a5 r W).hr,(a5 r W).hn⟩,ab,cs,b0,cn.out,by rw[cc.out,ca.out]⟩;clear a5 b8 b9 b0 bu hb cq cs;go_wp2
   go_ret2
   exact HP.out
  have fa:(k:Int)<(p:Int):=oM;obtain⟨e,y1,y2,y3⟩:=(c6 k em).out;have He:=Z1 y3;have dx:Hid (pl.getD k 0=e):=by show _=_;rw[List.getD_eq_getElem?_getD,y3];rfl
  clear y3;have a1:=(hb.cell (p:=⟨bP,oP+k,none⟩) d5).trans y1;have a2:bP<V.heap.size:=oM;have ex:(0:Int)<=(e:Int):=oM;have ez:(e:Int)<(n:Int):=oM;obtain⟨ck,e3,cg,dw,dt,Hb,cj⟩:=Z7 a5 b8 b9 b0 bu hb be;have a9:=Z1 ab;clear a5 b8 b9 b0 bu hb be ab y1;go_wp2
  go_loopw [12,24] (fun v vi wi=>∃(q:Nat) (l:List Rn),q<=p/\vi=.int .i64 q/\l.length=q/\wi.ownsRow V.heap.size 52 4 v l.length (l.flatMap Rn.cells)/\(∀x∈l,x.At wi wi.heap.size 7)/\Below V.heap.size V wi/\l.map Rn.q=(pl.take q).map (fun h=>eqx L h e)) (fun _ vi _=>p-(intOf vi).toNat)
  case atStart=>exact⟨0,[],Vb _,rfl,rfl,Xp _ _ _ _,sP,bR,rfl⟩
  case round =>
   obtain⟨U,rfl⟩:=eX wr;obtain⟨q,l,hq,rfl,a0,a4,b7,a8,da⟩:=hrel;have ce:=Z1 da;clear da;have cy:=a8.size;have ff:(0:Int)<=(q:Int):=oM
   by_cases eo:q<p
   case neg =>
    obtain rfl:q=p:=oM;obtain⟨y,z1,z2,z3,z4⟩:=(dq e y2).out;have ef:=Z1 z4;clear z4;obtain⟨g2,c2,rfl,f6,f7⟩:=a4.form oM;have Q:Below w w U:=Hb.out.trans (a8.mono cz);have ep:∀b,u9.ownBlock=some b->b<V.heap.size:=fun b h=>(cg.out.lt b h).2;obtain⟨aa,bn,bm,ad⟩:=Z4 a4 b7 a8 a0;rw[a0] at aa;rw[a0];have b5:bB<U.heap.size:=oM;clear a4 b7 a8 a0 a1;go_upto_region 15 with(fail);have i:Below w w U.drew:=Q.trans ((Vw bR 1).mono Q.size);have av:Below V.heap.size V U.drew:=bm.out.trans ((Vw bR 1).mono cy);have aw:Below U.heap.size U U.drew:=Vw bR 1;refine Vs (S:=Below w w) kR ?_;change wpAnyH _ _ _ _ _ _ _ _ (World.drew U);obtain⟨U0,bg⟩:=eX U.drew;rw[<- bg] at i av aw⊢;clear bg Q;refine jT 0 i ?_;refine jT 1 i ?_;refine jT 4 i ?_;refine jT 5 i ?_;refine jT 6 i ?_;refine jT 7 i ?_;refine jT 8 i ?_ (v:=.int .i64 y) (hy:=(.inl ⟨by rfl,fun W' cu=>by have c8:=(cu.cell (p:=⟨bB,oB+e,none⟩) ek).trans z1;have c9:=cu.size;have c7:bB<W'.heap.size:=oM;go_simp⟩));refine rZ 2 fun K a=>?_;obtain⟨W1,d1,hB,bx,-⟩:=nw1 U0 #[.slice (some ⟨g2,0,none⟩) q c2] 161;go_simp;rw[<- d1];have ax:=i.trans (hB.mono i.size);have af:=av.trans (hB.mono av.size);have ay:=aw.trans (hB.mono aw.size);obtain⟨p1,d8⟩:=eX U0.heap.size;rw[<- d8] at bx⊢;clear d1 d8 hB;refine jK a ax ?_;clear a K;refine rZ 3 fun K a=>?_
    have bh:RowR W1 q 7 ⟨some ⟨g2,0,none⟩,q,c2,l⟩:=by
     have ho:=Vj aa.out ay;obtain⟨A',c',e',ei⟩:=Xw (f:=Rn.cells) (sz:=4) dC (fun _=>rfl) ho ad.out.symm
     cases e'
     exact⟨⟨ad.out,ei,fun x hx=>((bn.out x hx).below ay lR).more ay.size lR⟩,rfl,a3j ho ad.out.symm⟩
    have bf:=Z1 bh;have eu:=cj.out;have es:=a9.out;rw[Vt (by rfl)];refine a3i eltRow (Vj e3.out af) ⟨p1,0,none⟩ 1 1 [.slice (some ⟨g2,0,none⟩) q c2] rfl rfl rfl rfl (fun j u hj=>by rw[Zb,VN,cr9 j bx];simpa using hj) oC oM ax.size ?_;intro v2 W2 dd ai al _;have X:=ax.trans ai
    have aq:Hid (∀r∈rows++[(⟨some ⟨g2,0,none⟩,q,c2,l⟩:RRow)],RowR W2 q 7 r):=Z1 (fun r W=>by
     rcases V9.1 W with h|h
     ·exact((ck.out r h).below af).keepT al ai.size
     ·rw[VY.1 h];exact bf.out.keepT al ai.size)
    have dr:Hid (W2.ownsRow w.heap.size 161 1 v2 (rows++[(⟨some ⟨g2,0,none⟩,q,c2,l⟩:RRow)]).length ((rows++[(⟨some ⟨g2,0,none⟩,q,c2,l⟩:RRow)]).flatMap RRow.cells)):=Z1 (by rw[Vc,VL];simpa[RRow.cells] using dd);have du:=Z1 (a4H (Vj cg.out af) (al _ dC));have e7:Hid (∀x∈bl,x.At W2 W2.heap.size 7):=Z1 (fun x hx=>(((dw.out x hx).below af lR).more af.size lR).keepT (al _ dC) ai.size)
    have ch:Hid (∀r∈rows++[(⟨some ⟨g2,0,none⟩,q,c2,l⟩:RRow)],Apart r u9):=Z1 (fun r W=>by
     rcases V9.1 W with h|h
     ·exact dt.out r h
     ·rw[VY.1 h]
      intro b o ee eb
      cases ee
      have:=ep g2 eb.symm;omega)
    have fg:=X.size;have ew:=Z1 X;clear dd ai al bh bx bf;refine jK a X ?_;clear a K;refine rZ 9 fun K a=>?_;go_simp;refine(a2X W2 y oM oM).mono ?_;rintro ev W3 ⟨⟨s,rfl,hz,ao⟩,T⟩;have eg:Hid (s.q=eqb dl e):=by show _=_;rw[ao,ef.out]
    clear ao;have cw:=X.trans (T.mono X.size);refine jK a cw ?_;clear a K;unfold Rn.v;refine rZ 10 fun K a=>?_;obtain⟨W4,d3,J,bz,-⟩:=nw1 W3 s 52;go_simp;rw[<- d3];have E:=T.trans (J.mono T.size);have O:=X.trans (E.mono X.size);obtain⟨p4,d9⟩:=eX W3.heap.size;rw[<- d9] at bz⊢;have dm:=(hz.below J lR).more J.size (Yh 3);clear d3 d9 T J cw hz;refine jK a O ?_;clear a K;refine rZ 11 fun K a=>?_;rw[Vt (by rfl)];refine b3J eltRat (Vj du.out E) ⟨p4,0,none⟩ 1 s.cells rfl rfl rfl rfl (fun j u hj=>by rw[Zb,VN,cr9 j bz];simpa[Rn.cells] using hj) (by simp[Rn.cells,Value.oneCell']) oM O.size ?_;intro g5 c5 W5 de aj am d6 hat;have a7:=O.trans aj;have e6:Hid (∀r∈rows++[(⟨some ⟨g2,0,none⟩,q,c2,l⟩:RRow)],RowR W5 q 7 r):=Z1 (fun r W=>((aq.out r W).below E).keepB (ch.out r W) d6 (am _ dC) aj.size);have ds:=Z1 (a4H (Vj dr.out E) (am _ dC));have e0:Hid (W5.ownsRow w.heap.size 52 4 (.slice (some ⟨g5,0,none⟩) (bl.length+1) c5) (bl++[s]).length ((bl++[s]).flatMap Rn.cells)):=Z1 (by rw[Vc,VL];simpa using de)
    have ea:Hid (∀x∈bl++[s],x.At W5 W5.heap.size 7):=Z1 (fun x hx=>by
     rcases V9.1 hx with h|h
     ·exact(((e7.out x h).below E lR).more E.size lR).keepT (am _ dC) aj.size
     ·rw[VY.1 h];exact(dm.more lR oM).keepT (am _ dC) aj.size)
    have e4:Hid (∀r∈rows++[(⟨some ⟨g2,0,none⟩,q,c2,l⟩:RRow)],Apart r (.slice (some ⟨g5,0,none⟩) (bl.length+1) c5)):=Z1 (fun r W b o ee eb=>by
     have e5:b=g5:=by simpa[Value.ownBlock] using eb
     rcases hat with h|h
     ·exact ch.out r W b o ee (by rw[e5,h])
     ·have hl:b<W4.heap.size:=by
       rcases(((aq.out r W).below E).hr.hA) with h9|⟨b',o',e9,hl,_⟩
       ·have h1:=(aq.out r W).hr.hl
        have h2:=(aq.out r W).hn;rw[h9] at h1;simp at h1;omega
       ·rw[ee] at e9;cases e9;exact hl
      omega)
    have bj:=Z1 a7;clear de aj am d6 hat dm bz E O X ax i af ay av aw;refine jK a a7 ?_;clear a K;refine rZ 12 fun K a=>?_;go_simp;refine jK a bj.out ?_;clear a K;refine rZ 13 fun K a=>?_;go_simp;refine jK a bj.out ?_;clear a K;refine VF kR ?_ _;clear a7;go_wp2;go_roundw
    case rel=>exact⟨k+1,rows++[(⟨some ⟨g2,0,none⟩,q,c2,l⟩:RRow)],bl++[s],oM,by go_num,by rw[Vc,cj.out];rfl,by rw[Vc,a9.out];rfl,e6.out,ds.out,by rw[<- a9.out];exact e0.out,ea.out,by rw[<- a9.out];exact e4.out,bj.out,by rw[Ym,Xn,Xn,cn.out,X5,X5,ZB,ZB];show _++[l.map Rn.q]=_;rw[ce.out,ca.out];unfold eqr;rw[dx.out],by rw[map_take _ He.out,Xn,cc.out,X5,ZB,eg.out]⟩
    case measure=>exact mS
   have et:(q:Int)<(p:Int):=oM;obtain⟨h,z1,z2,z3⟩:=(c6 q eo).out;have Hh:=Z1 z3;clear z3;have Q:Below w w U:=Hb.out.trans (a8.mono cz);have b1:=(Q.cell (p:=⟨bP,oP+q,none⟩) d5).trans z1;obtain⟨br,er,mr,cr,x,x1,x2,x3,x4,x5,x6,x7⟩:=(dp h e z2 y2).out;have dy:=Z1 x7;clear x7;have b2:=(Q.cell (p:=⟨bA,oA+h,none⟩) ej).trans x1;have b3:=(Q.cell (p:=⟨br,er+e,none⟩) x3).trans x4;have b4:bP<U.heap.size:=oM;have b5:bA<U.heap.size:=oM;have b6:br<U.heap.size:=oM;have h0:(0:Int)<=(h:Int):=oM;have f8:(h:Int)<(n:Int):=oM;have ey:(e:Int)<(mr:Int):=oM;obtain⟨ci,aa,bn,bm,ad⟩:=Z5 (a2X U x oM oM) a4 b7 a8 a0;clear Q z1 x1 x4 a4 b7 a8 a0;go_wp2_with (fail);refine ci.out.mono ?_;rintro ev W1 ⟨⟨z,rfl,hz,ao⟩,ct⟩;have eh:=Z1 ao;clear ao;have bo:=Z1 (b3w W1 3 z oM hz);have ap:=Z1 ct;clear hz ct b1 b2 b3 ci;unfold Rn.v at bo⊢;go_wp2_with (fail);refine bo.out.mono ?_;rintro ev W2 ⟨⟨y,rfl,hy,dk⟩,au⟩;have cp:Hid (y.q=Fr.neg (Fr.part (mi L h e))):=by show _=_;rw[dk,eh.out,dy.out]
   clear dk;obtain⟨W3,d2,T,ba,-⟩:=nw1 W2 y 52;obtain⟨xb,c1⟩:=eX W2.heap.size;rw[<- c1] at ba;have bk:=Z1 d2;have ed:=Z1 c1;have eq:U.heap.size<=xb:=by have:=ap.out.size;have:=au.size;omega
   obtain⟨ag,ar,ae⟩:=Z3 (ap.out.trans ((au.trans (T.mono au.size)).mono ap.out.size)) ((hy.below T lR).more T.size (Yh 3)) ba;have c4:=Vq ba;clear d2 T ba c1 hy au bo ap;unfold Rn.v;go_upto_region 11 with(fail);rw[<- bk.out,<- ed.out]
   by_cases ak:h=e
   rotate_left
   focus
    have k1:((h:Int)==(e:Int))=false:=sO;obtain⟨W9,s,bc,HX⟩:∃W9 s,W9.heap[xb]?=some (.cells #[s.g1,.slice s.A1 s.n1 s.c1,s.g2,.slice s.A2 s.n2 s.c2] 52 (0,0))/\Hid (W9=W3/\s=y):=⟨W3,y,ae.out,Z1 ⟨rfl,rfl⟩⟩;have bp:Hid (s.At W9 W9.heap.size 7):=Z1 (by rw[HX.out.1,HX.out.2];exact ar.out.more lR oM);have ac:Hid (Below U.heap.size U W9):=Z1 (by rw[HX.out.1];exact ag.out);have cb:Hid (s.q=eqx L h e):=by show _=_;rw[HX.out.2,cp.out];unfold eqx;rw[VB ak]
    rw[<- HX.out.1];clear HX ae ar ag ak bk;go_upto_region 13 with(fail)
   rotate_left
   focus
    have k1:((h:Int)==(e:Int))=true:=by simp[ak]
    go_upto_region 12 with(fail);have i:KeepX (fun b=>b=xb) W3 W3.drew:=(KeepX.refl _ _).below (Vw bR 1);have a6:Below W3 W3 W3.drew:=Vw bR 1;refine Vs (S:=KeepX (fun b=>b=xb) W3) kR ?_;change wpAnyH _ _ _ _ _ _ _ _ (World.drew W3);obtain⟨U0,Q⟩:=eX W3.drew;rw[<- Q] at i a6⊢;clear Q;refine Xc (rs:=[0,1]) kR sP (XQ rfl (fun K a=>?_) (XQ rfl (fun K a=>?_) Ys))
    focus
     rw[Vt (by rfl)];refine Qb 52 (.tmp 15) rfl xb 0 rfl y _ (VK (Xq ae.out) a6 c4) Xf rfl Vy ?_;refine jK a i ?_;clear a K;refine rZ 1 fun K a=>?_;go_simp;refine(a2X U0 10000 oM oM).mono ?_;rintro ev W4 ⟨⟨v,rfl,hv,an⟩,J⟩;have co:=Z1 an;clear an;have O:=i.below J;have I:=a6.trans (J.mono a6.size);refine a.out _ _ O (fun _=>?_);clear a K;unfold Rn.v
     try simp only[z]
    rotate_left
    focus
     go_simp;refine(a2X U0 10000 oM oM).mono ?_;rintro ev W4 ⟨⟨v,rfl,hv,an⟩,J⟩;have co:=Z1 an;clear an;have O:=i.below J;have I:=a6.trans (J.mono a6.size);refine a.out _ _ O (fun _=>?_);clear a K;unfold Rn.v
     try simp only[z]
     refine rZ 0 fun K a=>?_;rw[Vt (by rfl)];refine Qb 52 (.tmp 15) rfl xb 0 rfl y _ (VK (Xq ae.out) I c4) Xf rfl Vy ?_;refine jK a O ?_;clear a K
    rotate_left
    all_goals
     refine rZ 2 fun K a=>?_;go_simp;refine(b4z W4 3 3 y v oM oM oM ((ar.out.below I lR).more I.size lR) hv).mono ?_;rintro ev W5 ⟨⟨s,rfl,dn,bi⟩,bq⟩;have cb:Hid (s.q=eqx L h e):=by show _=_;rw[bi,cp.out,co.out];unfold eqx;rw[Vt ak]
     clear bi;have a7:=O.below bq;have ah:=I.trans (bq.mono I.size);have bb:=gbox ae.out ah c4;refine a.out _ _ a7 (fun _=>?_);clear a K;unfold Rn.v
     try simp only[z]
     refine rZ 3 fun K a=>?_;rw[Vt (by rfl)];refine VQ 52 _ _ none rfl rfl xb 52 _ s rfl rfl bb rfl Vy oC ?_;have cx:KeepX (fun b=>b=xb) W3 (W5.setRow xb s):=a7.trans ⟨rfl,rfl,rfl,sP,fun b _ hb=>Vl _ _ _ _ hb⟩;refine jK a cx ?_;clear a K;refine VF kR ?_ _;have bc:=VC W5 xb _ s _ _ bb;have c3:s.At (W5.setRow xb s) (W5.setRow xb s).heap.size 7:=(dn.other bb (a0O [y]) (fun c hc=>Vl _ _ _ _ hc)).more sP oM;have bs:Below U.heap.size U (W5.setRow xb s):=below_setRow (ag.out.trans (ah.mono ag.out.size)) eq _;obtain⟨W9,d4⟩:=eX (W5.setRow xb s);rw[<- d4] at bc c3 bs⊢;have bp:=Z1 c3;have ac:=Z1 bs;clear d4 cx a7 O i a6 I ah bb dn hv J bq c3 bs ae ar ag bk ak;go_upto_region 13 with(fail)
   all_goals
    have cf:=Z1 (Vj aa.out ac.out);have cd:Hid (∀x∈l,x.At W9 W9.heap.size 7):=Z1 (fun x hx=>((bn.out x hx).below ac.out lR).more ac.out.size lR);have s9:=ac.out.size;have a0:=ad.out;go_wp2_with (first|(refine Vd rfl 52 _ rfl _ rfl _ _ _ _ bc Xf rfl Vy ?_)|(at_builtin;refine Hid.out ?_));show wpList _ _ _ _ _ _;refine a1o eltRat cf.out s rfl rfl rfl rfl rfl oC oM oM ?_;intro v' w' dc az bw
    have ec:Hid (∀x∈l++[s],x.At w' w'.heap.size 7):=Z1 (fun x hx=>by
     rcases V9.1 hx with h|h
     ·exact(cd.out x h).keepT (bw _ dC) az.size
     ·rw[VY.1 h];exact bp.out.keepT (bw _ dC) az.size)
    have e2:Hid (w'.ownsRow V.heap.size 52 4 v' (l++[s]).length ((l++[s]).flatMap Rn.cells)):=Z1 (by rw[Vc,VL];simpa[Rn.cells] using dc);have dv:=Z1 ((bm.out.trans (ac.out.mono cy)).trans az);clear dc az bw cf cd bp bc a0;go_wp2;go_roundw
    case rel=>exact⟨q+1,l++[s],oM,by go_num,by rw[Vc,ad.out];rfl,e2.out,ec.out,dv.out,by rw[map_take _ Hh.out,Xn,ce.out,X5,ZB,cb.out]⟩
    case measure=>exact mS
end Go.Proofs.YtbhdekahdnenjaaGreatDoor
