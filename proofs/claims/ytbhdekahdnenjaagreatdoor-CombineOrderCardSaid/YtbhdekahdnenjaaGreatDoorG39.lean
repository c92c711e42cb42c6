/- Lemmas. -/
import Derived.Test.YtbhdekahdnenjaaGreatDoorG37
import Derived.Test.YtbhdekahdnenjaaGreatDoorG35
import Derived.Test.YtbhdekahdnenjaaGreatDoorG38
set_option linter.unusedVariables false
set_option linter.unusedSimpArgs false
set_option maxRecDepth 100000
set_option maxHeartbeats 16000000
namespace Go.Proofs.YtbhdekahdnenjaaGreatDoor
open Go.Proofs.Tryz Go.RowKit
variable (w:World)
def KS:Nat:=kk 7 12+kk 7 12
theorem kk7 {p:Nat} (h:p<=12):kk 7 p<=123032917:=Vn (a3W 7 h) dC
theorem KS7:7<=KS:=dC
def dlTo (m:Nat) (L:List (List Int)) (k:Nat):List Int:=(List.range m).map (fun e=>if 1<=e/\e<k then mi L 0 e else 0)
def dlOf (m:Nat) (L:List (List Int)):List Int:=dlTo m L m
def places (m:Nat) (F:List Bool):List Nat:=(List.range m).filter (fun e=>F.getD e false)
def zTo (m i:Nat):List Fr:=(List.range m).map (fun j=>if j<i then Fr.part 0 else((0,0):Fr))
def shBase (m:Nat) (q:Fr):List Fr:=(zTo m m).set 0 q
def shFill (o:List Fr) (P:List Nat) (z:List Fr) (j:Nat):List Fr:=(List.range j).foldl (fun o i=>o.set (P.getD i 0) (El.at_ z i)) o
def eqM (L:List (List Int)) (P:List Nat) (i:Nat):List Fr:=if i<P.length then eqr L P i else[]
def shr (m:Nat) (L:List (List Int)) (q:Fr) (P:List Nat):Option (List Fr) :=
 if P.length=0 then some (shBase m q) else(El.solve P.length (eqM L P) (P.map (eqb (dlOf m L)))).map (fun z=>shFill (shBase m q) P z P.length)
def Shr (m:Nat) (L:List (List Int)) (q:Fr) (o:Option (List Fr)):Prop:=∃F,Reach m L (dlOf m L) F/\o=shr m L q (places m F)
theorem Shr.one {m:Nat} {L:List (List Int)} {q:Fr} {o a:Option (List Fr)} (h:Shr m L q o) (i:Shr m L q a):o=a:=by
 obtain⟨F,s,rfl⟩:=h;obtain⟨I,E,rfl⟩:=i;rw[Rch.one s E]
theorem b3d (m:Nat) (L:List (List Int)):List.replicate m 0=dlTo m L 1:=by
 apply Zl
 ·simp[dlTo]
 ·intro j a i
  simp[dlTo];omega
theorem b3c {m k:Nat} (L:List (List Int)) (a:1<=k):(dlTo m L k).set k (mi L 0 k)=dlTo m L (k+1):=by
 apply Zl
 ·simp[dlTo]
 ·intro j i o
  rw[Kl]
  by_cases e:k=j
  ·subst e;simp[dlTo,a]
  ·rw[VB e]
   simp only[dlTo,Zw,Jn]
   by_cases h:1<=j/\j<k
   ·rw[Vt h,Vt ⟨h.1,oM⟩]
   ·rw[VB h,VB oM]
theorem b1w (m:Nat):(List.replicate m Rn.zero).map Rn.q=zTo m 0:=by
 apply Zl
 ·simp[zTo]
 ·intro j a i
  simp[zTo,Rn.zero,Rn.q]
theorem b3I (m k:Nat):(zTo m k).set k (Fr.part 0)=zTo m (k+1):=by
 apply Zl
 ·simp[zTo]
 ·intro j a i
  rw[Kl]
  by_cases e:k=j
  ·subst e;simp[zTo]
  ·rw[VB e]
   simp only[zTo,Zw,Jn]
   by_cases h:j<k
   ·rw[Vt h,Vt oM]
   ·rw[VB h,VB oM]
theorem a7b (o:List Fr) (P:List Nat) (z:List Fr) (j:Nat):shFill o P z (j+1)=(shFill o P z j).set (P.getD j 0) (El.at_ z j):=by
 unfold shFill;rw[Ym,YH];rfl
def SharePost (m:Nat) (L:List (List Int)) (q:Fr) (w:World) (e:Ending) (w':World):Prop :=
 Below w w w'/\((Shr m L q none/\∃k:Int,k≠0/\e=.returned (.tuple #[.slice none 0 0,k]))∨∃A c l,e=.returned (.tuple #[.slice A m c,()])/\l.length=m/\RowsAt Rn.cells 4 w' w' A l/\(∀x∈l,x.At w' w' KS)/\Shr m L q (some (l.map Rn.q)))
theorem Rn.At.stored {w:World} {b:Nat} {t:TypeId} {l:List Rn} (h:Row w b t (rcells l)) (o:Nat) (a:List Value) {y:Rn} {L:Nat} (hy:y.At w w L):y.At (w.setCells b o a) (w.setCells b o a).heap.size L:=by
 rw[a0E];exact hy.other h (a0O _) (fun c i=>a0L _ _ _ _ _ i)
theorem a3N {w:World} {b:Nat} {t:TypeId} {l:List Rn} (h:Row w b t (rcells l)) {j:Nat} (a:j<l.length):w.there b (j*4) 4:=by
 intro q i;refine⟨?_,fr0 _ h⟩;rw[cr9 _ h,Array.getElem?_eq_getElem (by unfold rcells;rw[Yn,Xj (f:=Rn.cells) (sz:=4) (fun _=>rfl)];omega)];rfl
theorem a1c {B:Nat} {a w:World} {b:Nat} (h:Below B a w) (E:B<=b) (o:Nat) (i:List Value):Below B a (w.setCells b o i) :=
 ⟨(a0J b i o w).1.trans h.os,(a0J b i o w).2.1.trans h.tape,(a0J b i o w).2.2.trans h.output,by rw[a0E];exact h.size,fun k s=>(a0L b i o w k oM).trans (h.block k s)⟩
theorem a1J {α:Type} {P:α->Prop} {l:List α} {k:Nat} {x:α} (h:∀y∈l,P y) (i:P x):∀y∈l.set k x,P y:=fun y o=>by
 rcases JD o with a|rfl
 ·exact h y a
 ·exact i
theorem b1R {α β:Type} {f:β->List Value} {g:α->β} {sz:Nat} {w:World} {B:Nat} {A:OA} {l:List α} (h:RowsAt (fun x=>f (g x)) sz w B A l):RowsAt f sz w B A (l.map g):=by
 rcases h with h|⟨b,o,e,s,a⟩
 ·exact .inl (by rw[h];rfl)
 ·exact .inr ⟨b,o,e,s,fun k i=>by have:=a k (by simpa using i);simpa using this⟩
theorem b2Z (A:OA) (m c e:Nat) (M:List IRow) (hm:1<=m) (he:e<m) (L:MatI w w A m m M) (s:∀r∈M,∀x∈r.l,0<=x/\x<=10000) :
  Calls prog 135 #[.slice A m c,e] w fun ev w'=>(∃x:Int,ev=.returned (.int .i64 x)/\(0<=x/\x<=10000)/\mi (matL M) 0 e=x)/\w'=w:=by
 have J:0<M.length:=by rw[L.hl];omega
 obtain⟨b,o,rfl,hb,hr⟩:=RowsAt.look L.hA J;have T:=hr 0 _ rfl;simp at T;have I:=L.hx M[0] (Vm J);have S:e<M[0].l.length:=by rw[I.1.hl,I.2];exact he
 obtain⟨b2,o2,X,a0,E⟩:=RowsAt.look I.1.hA S;have W:=E 0 _ rfl;simp at W;rw[X,I.2] at T;have a:=s _ (Vm J) _ (Vm S);obtain⟨x,i⟩:=eX (M[0].l[e]);rw[<- i] at W a;have a5:(e:Int)<(m:Int):=oM;have a4:(0:Int)<=(e:Int):=oM;have a6:(0:Int)<(m:Int):=oM;have O:=Z1 a;have Q:Hid (mi (matL M) 0 e=x):=by show _=_;unfold mi matL;rw[List.getElem?_map,List.getElem?_eq_getElem J];show M[0].l.getD e 0=_;rw[List.getD_eq_getElem?_getD,List.getElem?_eq_getElem S,i];rfl
 clear hr E I i a X L s;go_enter func135,ntmps135;go_wp2;go_ret;exact⟨⟨x,rfl,O,Q⟩,rfl⟩
theorem a9K (A:OA) (n c m:Nat) (l:List Hld) (d:Int) (pr:Rn) (hl:l.length=n) (hn:n<=200) (hw:∀x∈l,x.wf) (hA:RowsAt Hld.cells 4 w w A l) (hv:Hd.valid m l) (hd:-25567<=d/\d<=84005) (da:pr.At w w.heap.size 3) :
  Calls prog 133 #[m,.slice A n c,d,pr.v,.func (.func 135) #[] #[]] w (SharePost m (Hd.matrix m l d) pr.q w):=by
 obtain⟨L,hL⟩:=eX (Hd.matrix m l d);have HL:=Z1 hL;rw[<- hL];have hm:1<=m/\m<=12:=by have:=hv;unfold Hd.valid at this;simp at this;omega
 have am:=hm.1;have d5:=hm.2;have fk:(m:Int)<=12:=oM;obtain⟨i0,hi,et,eu,fy⟩:=XW intInfo;obtain⟨i1,el,eq,es,fx⟩:=XW ratInfo;have c8:=fun M=>Z1 (Hd.matrix_bd m l d (Hd.valid_shr hv) M);obtain⟨W1,cu,ag,bo,-⟩:=nw1 w pr 52;obtain⟨Hm,dx,dq,e7,e5⟩:=Z5 (a2Z W1 A n c m l d hl hn hw (RowsAt.at_ hA ag) hv hd) cu ag bo ((da.below ag lR).more ag.size lR);have r1:=Vq bo;clear hA hl hw hd hv hn hm cu ag bo da hL;unfold Rn.v;go_enter func133,ntmps133;go_upto_region 1 with(fail);rw[<- dx];go_wp2_with (fail);refine Hm.mono ?_;rintro ev W2 ⟨ah,A2,c2,M,rfl,hM,bj⟩;have HM:=Z1 hM;have c0:=Z1 ((c8 M).out bj);have b6:Hid (matL M=L):=bj.trans HL.symm;have bv:=bT dq ah;have bg:=gB e7 ah r1;have b0:=Z1 ((e5.below ah lR).more ah.size lR);have ft:=bv.out.size;have r2:=Vq bg;clear hM bj ah Hm c8;go_wp2_with (at_make;refine a0D icell 1 (0:Int) rfl _ _ 108 rfl 3 i0 (.int .i64 0) rfl dC ZT hi et rfl eu oM _ _ _ _ m rfl rfl rfl rfl oM ?_;intro w3 br);obtain⟨pb,a8⟩:=eX W2.heap.size
 have O:Row w3 pb 3 (cellsI (List.replicate m 0)):=by
  have:=Vh W2 (.cells ((List.replicate m (0:Int)).flatMap icell).toArray 3);have e:∀k,((List.replicate k (0:Int)).flatMap icell).toArray=cellsI (List.replicate k 0):=fun k=>by unfold cellsI;congr 1;induction k with|zero=>rfl|succ k ih=>rw[Yj,XB,ih];rfl
  rw[<- e];unfold Row;rw[a8,br.out];exact this
 have c4:=Z1 O;have dr:Hid (Below pb W2 w3):=Z1 (by rw[br.out];exact(VM pb W2).alloc (by rw[a8];exact lR) _);rw[<- a8];have fm:pb<=W2:=X6 a8;have fn:W2<=pb:=X6 a8.symm;clear br O a8;go_wp2
 go_loopw [15] (fun i wr=>∃(k:Nat) (pl:LI),1<=k/\k<=m/\i=k/\pl.length=m/\(∀x∈pl,0<=x/\x<=10000)/\Row wr pb 3 (cellsI pl)/\Below pb W2 wr/\pl=dlTo m L k) (fun i _=>m-(intOf i).toNat)
 case atStart=>exact⟨1,_,lR,am,rfl,sP,fun x W=>by rw[Jj W];omega,c4,dr,b3d m L⟩
 case round =>
  obtain⟨V,rfl⟩:=eX wr;obtain⟨k,pl,eo,fj,rfl,ap,aq,a,s,d1⟩:=hrel;have be:=Z1 d1;clear d1;have ej:=s.size;have fi:(0:Int)<=(k:Int):=oM;have ak:=Z1 ((MatI.below HM s oM).more (show(W2:Nat)<=V by omega))
  by_cases d4:k<m
  ·have ez:(k:Int)<(m:Int):=oM
   obtain⟨H1,ae,Hb,bf⟩:=Z4 (b2Z V A2 m c2 k M am d4 ak c0) a s aq;have p1:=Vq a;have p2:=fr0 k a;have p3:V.cell? ⟨pb,k,none⟩=some (.int .i64 pl[k]):=by rw[cr9 k a];unfold cellsI;simp[ap,d4]
   clear a s aq;go_wp2_with (fail);refine H1.mono ?_;rintro ev V2 ⟨⟨x,rfl,W,dk⟩,rfl⟩;have e2:Hid (pl.set k x=dlTo m L (k+1)):=by show _=_;rw[<- b3c L eo,<- be,<- b6,dk]
   clear dk;have bn:=Row.set ae k (.int .i64 x);have d0:(cellsI pl).setIfInBounds k (.int .i64 x)=cellsI (pl.set k x):=by unfold cellsI;simp[ZM]
   rw[d0] at bn;have e6:=Z1 bn;have e0:=Z1 (Hb.setCell (p:=⟨pb,k,none⟩) lR (.int .i64 x));have ec:Hid (∀y∈pl.set k x,0<=y/\y<=10000):=Z1 (a1J bf W);clear bn d0 W H1;go_wp2;go_roundw
   case rel=>exact⟨k+1,pl.set k x,oM,oM,by go_num,by simpa using ap,ec,e6,e0,e2⟩
   case measure=>exact mS
  obtain rfl:k=m:=oM;have bp:RowsAt icell 1 V V.heap.size (some ⟨pb,0,none⟩) pl:=a3v (Value.int .i64) a;obtain⟨ci,cd,bf,Hb,c5⟩:=Z5 (a7h V A2 k c2 M (some ⟨pb,0,none⟩) k pl am d5 ak ap bp) bp aq s (bv.out.trans (s.mono oM));clear a bp aq s;go_wp2_with (fail);refine ci.mono ?_;rintro ev V2 ⟨J,g,F,rfl,f8,hF,ct⟩;have bb:Hid (Reach k L (dlOf k L) F):=by have h:Reach k (matL M) pl F:=ct;rw[b6,be] at h;exact h
  clear ct;have g1:=Vq hF;have ay:=Z1 (RowsAt.at_ cd J);have bw:=Z1 (MatI.more (MatI.below ak J lR) J.size);have bh:Hid (Row V2 w.heap.size 52 pr):=Z1 ((J.block w oM).trans ((Hb.block w oM).trans bg));have b1:=Z1 ((((b0.below Hb oM).more ej lR).below J lR).more J.size lR);have b4:=bT c5 J;have HF:=Z1 hF;clear hF J ci cd ak bg b0 Hb c5;have fv:=b4.out.size;have r4:=Vq bh;go_wp2
  go_loopw [16,54] (fun v vi wr=>∃(q:Nat) (P:List Nat),q<=k/\vi=q/\(∀x∈P,x<k)/\P.length<=q/\wr.ownsRow V2.heap.size 3 1 v P.length (P.flatMap fun x:Nat=>[Value.int .i64 (x:Int)])/\Below V2.heap.size V2 wr/\P=(List.range q).filter (fun e=>F.getD e false)) (fun _ vi _=>k-(intOf vi).toNat)
  case atStart=>exact⟨0,[],Vb _,rfl,sP,sP,Xp _ _ _ _,bR,rfl⟩
  case round =>
   obtain⟨V3,rfl⟩:=eX wr;obtain⟨q,P,fs,rfl,al,f9,T,s,cs⟩:=hrel;have b9:=Z1 cs;clear cs;have fu:=s.size;have fq:(0:Int)<=(q:Int):=oM
   by_cases f6:q<k
   ·have fr:(q:Int)<(k:Int):=oM
    have f0:=(s.cell (p:=⟨g,q,none⟩) g1).trans (show V2.cell? ⟨g,q,none⟩=some (.bool (F.getD q false)) from by rw[cr9 q HF];unfold cellsB;simp[show q<F.length by omega]);have g3:g<V3:=oM;obtain⟨ax,Hb,ab⟩:=Z3 T s al;clear T s al
    cases hf:F.getD q false with
    |false =>
     rw[hf] at f0;have b7:Hid (P=(List.range (q+1)).filter (fun e=>F.getD e false)):=by show _=_;rw[Ym,Yq,<- b9];simp[<- List.getD_eq_getElem?_getD,hf]
     clear hf;go_wp2;go_roundw
     case rel=>exact⟨q+1,P,oM,by go_num,ab,oM,ax,Hb,b7⟩
     case measure=>exact mS
    |true =>
     rw[hf] at f0;have b7:Hid (P++[q]=(List.range (q+1)).filter (fun e=>F.getD e false)):=by show _=_;rw[Ym,Yq,<- b9];simp[<- List.getD_eq_getElem?_getD,hf]
     clear hf;go_wp2_with (at_builtin;refine Hid.out ?_);show wpList _ _ _ _ _ _;refine a1o eltInt ax [q] rfl rfl rfl rfl rfl oC oM oM ?_;intro v' w' d7 cw en;have Ho:Hid (w'.ownsRow V2.heap.size 3 1 v' (P++[q]).length ((P++[q]).flatMap fun x:Nat=>[Value.int .i64 (x:Int)])):=Z1 (by rw[Vc,VL];exact d7);have dt:=Z1 (Hb.out.trans cw);clear d7 cw en;go_wp2;go_roundw
     case rel=>exact⟨q+1,P++[q],oM,by go_num,fun x W=>by rcases V9.1 W with h|h;exact ab x h;rw[VY.1 h];omega,sO,Ho,dt,b7⟩
     case measure=>exact mS
   obtain rfl:q=k:=oM;obtain⟨A3,c3,rfl,bi⟩:=Xw (f:=fun x:Nat=>[Value.int .i64 (x:Int)]) (sz:=1) dC (fun _=>rfl) T rfl;have HP:=Z1 bi
   have dv:Hid (P.length≠0->∀ad,A3=some ad->ad.block<V3.heap.size):=Z1 (fun a6 ad e=>by
    rcases bi with h|⟨b,o,e',hl,_⟩
    ·rw[h] at a6;simp at a6
    ·rw[e'] at e;cases e;exact hl)
   obtain⟨ab,az,bx⟩:=Z3 al (RowsAt.at_ ay s) (MatI.more (MatI.below bw s lR) s.size);have e8:Hid (Row V3 w.heap.size 52 pr):=Z1 ((s.block w oM).trans bh);have cf:=Z1 ((b1.below s lR).more s.size lR);have aa:=Z1 (b4.out.trans (s.mono oM));clear T s al bi ay bw bh b1 b4 HF;go_wp2_with (at_make;refine a0D Rn.cells 4 Rn.zero rfl _ _ 161 rfl 52 i1 (.agg ZR) rfl dC underlying161 el eq rfl es oM _ _ _ _ q rfl rfl rfl rfl oM ?_;intro w5 bs);obtain⟨ob,a7⟩:=eX V3.heap.size
   have O:Row w5 ob 52 (rcells (List.replicate q Rn.zero)):=by
    have:=Vh V3 (.cells ((List.replicate q Rn.zero).flatMap Rn.cells).toArray 52);unfold Row;rw[a7,bs.out];exact this
   have bc:=Z1 O;have ds:Hid (Below ob V3 w5):=Z1 (by rw[bs.out];exact(VM ob V3).alloc (by rw[a7];exact lR) _);rw[<- a7];have fl:ob<=V3:=X6 a7;have an:V3<=ob:=X6 a7.symm;clear bs O a7;go_wp2
   go_loopw [69] (fun vi wr=>∃(i:Nat) (I:List Rn),i<=q/\vi=i/\I.length=q/\(∀x∈I,x.At wr wr KS)/\Row wr ob 52 (rcells I)/\Below ob V3 wr/\I.map Rn.q=zTo q i) (fun vi _=>q-(intOf vi).toNat)
   case atStart=>exact⟨0,_,Vb _,rfl,sP,fun x W=>by rw[Jj W];exact Rn.zero_at _ _ _,bc,ds,b1w q⟩
   case round =>
    obtain⟨V4,rfl⟩:=eX wr;obtain⟨i,I,fg,rfl,d8,ao,a,s,d9⟩:=hrel;have cc:=Z1 d9;clear d9;have ep:=s.size;have fe:(0:Int)<=(i:Int):=oM;have o1:=Vq a
    by_cases ex:i<q
    ·have ff:(i:Int)<(q:Int):=oM
     obtain⟨cg,ae,Hb,e4⟩:=Z4 (a2X V4 0 oM oM) a s ao;clear a s ao;go_wp2_with (fail);refine cg.mono ?_;rintro ev V5 ⟨⟨z,rfl,hz,dn⟩,ai⟩;have eg:Hid ((I.set i z).map Rn.q=zTo q (i+1)):=by show _=_;rw[ZM,cc,dn,b3I]
     clear dn;have E:=gbox ae ai o1;have a0:=Z1 (a3N E (show i<I.length by omega));have ac:=Z1 (a5m z E (show i<I.length by omega));have af:Hid (∀y∈I.set i z,y.At (V5.setCells ob (i*4) z.cells) (V5.setCells ob (i*4) z.cells).heap.size KS):=Z1 (a1J (fun y hy=>Rn.At.stored E _ _ (((e4 y hy).below ai lR).more ai.size lR)) (Rn.At.stored E _ _ (hz.more lR (by have:=KS7;omega))));have e1:=Z1 (a1c (Hb.out.trans (ai.mono oM)) lR (i*4) z.cells);clear E hz ai cg;unfold Rn.v;go_wp2_with (refine KX rfl 52 (.tmp 75) (.tmp 74) rfl ob (i*4) z rfl rfl a0 Vy oC ?_);go_roundw
     case rel=>exact⟨i+1,I.set i z,oM,by go_num,by simpa using d8,af,ac,e1,eg⟩
     case measure=>exact mS
    obtain rfl:i=q:=oM;have dc:Row V4 w.heap.size 52 pr:=(s.block w oM).trans e8;have a0:=Z1 (a3N a (show 0<I.length by omega));obtain⟨V5,aj⟩:=eX (V4.setCells ob (0*4) pr.cells);have E:Row V5 ob 52 (rcells (I.set 0 pr)):=by rw[aj];exact a5m pr a oM
    have bt:∀y∈I.set 0 pr,y.At V5 V5.heap.size KS:=by
     rw[aj];exact a1J (fun y hy=>Rn.At.stored a _ _ (ao y hy)) (Rn.At.stored a _ _ (((cf.below s an).more ep lR).more lR (by have:=KS7;omega)))
    have a5:Below ob V3 V5:=by rw[aj];exact a1c s lR _ _
    have bq:=a5.size;obtain⟨au,S⟩:=eX (I.set 0 pr);have d3:au.length=i:=by rw[S];simpa using d8
    have aw:Hid (au.map Rn.q=shBase i pr.q):=by show _=_;rw[S,ZM,cc];rfl
    have ba:Hid (places i F=P):=b9.symm;rw[<- S] at E bt;have c1:Hid (V5=V4.setCells ob 0 pr):=Z1 (by rw[aj];rfl);have o5:=Vq E;obtain⟨b8,ce,du,b5,ac,af⟩:=Z6 (RowsAt.more (RowsAt.below HP a5 an) bq) (RowsAt.more (RowsAt.below az a5 an) bq) (MatI.more (MatI.below bx a5 an) bq) (aa.out.trans (a5.mono oM)) E bt;clear aj S a ao s a5 E bt HP az bx aa;go_upto_region 23 with(first|(refine Vd rfl 52 _ rfl _ rfl _ _ _ _ dc Xf rfl Vy ?_)|(refine KX rfl 52 (.tmp 79) (.tmp 78) rfl ob 0 pr rfl rfl a0 Vy oC ?_));rw[<- c1];clear dc c1 a0
    by_cases a4:P.length=0
    ·have k1:((P.length:Int)==0):=by rw[a4];rfl
     have HZ:Hid (SharePost i L pr.q w (.returned (.tuple #[.slice (some ⟨ob,0,none⟩) i i,()])) V5):=Z1 ⟨b5,.inr ⟨_,i,au,rfl,d3,a0z ac o5 (fun _ _=>rfl),af,F,bb,by rw[ba,aw];unfold shr;rw[Vt a4]⟩⟩;clear a4;go_wp2
     go_ret2
     exact HZ
    have k1:((P.length:Int)==0)=false:=Jf.2 oM;have ca:=Z1 (b2S V5 A2 (some ⟨pb,0,none⟩) A3 i c2 i P.length c3 M pl P am d5 du c0 ap bf ce oM oM rfl ab (b1R (f:=icell) (g:=fun x:Nat=>(x:Int)) b8));go_wp2_with (fail);refine ca.mono ?_;rintro ev V6 ⟨co,A6,c6,rows,B6,d6,bl,rfl,de,cn,dg,cx,b2,cz,df,cy⟩;have cj:Hid (mq rows=eqM L P):=b4F (by rw[df];apply ZH;intro x W;have h:matL M=L:=b6;unfold matL at h;unfold eqM;rw[Vt (XK.1 W),h]) (fun x W=>VB W);have c9:Hid (bl.map Rn.q=P.map (eqb (dlOf i L))):=by show _=_;rw[cy,be];rfl
    clear df cy;have ck:=Z1 (a9G V6 A6 B6 P.length c6 d6 7 rows bl oM oM oM (by have:=kk7 (show P.length<=12 by omega);omega) de cn dg cx b2 cz);have aa:=Z1 co;clear co de cn dg cx b2 cz ca;go_wp2_with (fail);refine ck.mono ?_;rintro ev V7 ⟨cp,h7⟩;have X:=bT aa cp;have fw:=X.out.size;have av:=Z1 (b5.out.trans (X.mono (by have:=b5.out.size;omega)));clear cp ck
    rcases h7 with⟨di,er,a6,rfl⟩|⟨A7,c7,zl,rfl,fz,dl,dp,dm,dj⟩
    ·have k2:(er != 0):=by simpa using a6
     have HZ:Hid (SharePost i L pr.q w (.returned (.tuple #[.slice none 0 0,er])) V7):=Z1 ⟨av,.inl ⟨⟨F,bb,by rw[ba];unfold shr;rw[VB a4,<- cj,<- c9,di];rfl⟩,er,a6,rfl⟩⟩;clear a6 di;go_wp2
     go_ret2
     exact HZ
    have dw:Hid (shr i L pr.q P=some (shFill (shBase i pr.q) P (zl.map Rn.q) P.length)):=by show _=_;unfold shr;rw[VB a4,<- cj,<- c9,dj];rfl
    clear dj;obtain⟨bz,oz,rfl,ek,dh⟩:=RowsAt.base dl oM;have g0:V6<=bz:=dm _ rfl;have f7:=aa.out.size;have cr:=RowsAt.at_ b8 X;obtain⟨bP,oP,rfl,fb,dd⟩:=RowsAt.base cr oM;have ei:bP≠ob:=by have:=dv.out a4 _ rfl;simp at this;omega
    obtain⟨eb,ea,ch,ed⟩:=Z4 dh dd (gbox ac X o5) (fun y hy=>((af y hy).below X lR).more X.size lR);have eh:Hid (∀x∈zl,x.At V7 V7.heap.size KS):=Z1 (fun x W=>(dp x W).more lR (by have:=a3W 7 (show P.length<=12 by omega);show _<=kk 7 12+kk 7 12;omega));have fp:P.length<=12:=oM;clear dl dh dm cr dd dp ac af b8;go_wp2
    go_loopw [102] (fun vi wr=>∃(j:Nat) (I:List Rn),j<=P.length/\vi=j/\I.length=i/\(∀x∈I,x.At wr wr KS)/\Row wr ob 52 (rcells I)/\KeepX (fun b=>b=ob) V7 wr/\I.map Rn.q=shFill (shBase i pr.q) P (zl.map Rn.q) j) (fun vi _=>P.length-(intOf vi).toNat)
    case atStart=>exact⟨0,au,Vb _,rfl,d3,ed,ch,KeepX.refl _ _,aw⟩
    case round =>
     obtain⟨U,rfl⟩:=eX wr;obtain⟨j,a9,hj,rfl,b3,ar,Q,hX,d2⟩:=hrel;have cb:=Z1 d2;clear d2;have fh:(0:Int)<=(j:Int):=oM;have o6:=Vq Q;have fa:=hX.size
     by_cases bk:j<P.length
     case neg =>
      have cq:Below w w U:=av.out.trans (hX.to_below oM (fun b s e=>oM));have em:j=P.length:=oM;have HZ:Hid (SharePost i L pr.q w (.returned (.tuple #[.slice (some ⟨ob,0,none⟩) i i,()])) U):=Z1 ⟨cq,.inr ⟨_,i,a9,rfl,b3,a0z Q o6 (fun _ _=>rfl),ar,F,bb,by rw[ba,dw,cb,em]⟩⟩;obtain rfl:j=P.length:=oM;clear ar Q hX cq;go_wp2
      go_ret2
      exact HZ
     have ey:(j:Int)<(P.length:Int):=oM;have y1:=(hX.cell (show bP<V7 by omega) ei (oP+j)).trans (show V7.cell? ⟨bP,oP+j,none⟩=some (.int .i64 (P[j]:Nat)) from by have:=ea.out j bk 0 _ rfl;simpa using this);obtain⟨e,he⟩:=eX (P[j]);have fd:e<i:=by rw[he];exact ab _ (Vm bk)
     rw[<- he] at y1;have bm:j<zl.length:=oM;have y2:=hX.range (eb j bm) ek oM;obtain⟨z,hz⟩:=eX (zl[j]);rw[<- hz] at y2;have e3:Hid ((a9.set e z).map Rn.q=shFill (shBase i pr.q) P (zl.map Rn.q) (j+1)):=by show _=_;rw[ZM,cb,a7b,hz,he,El.at_map (List.getElem?_eq_getElem bm),List.getD_eq_getElem?_getD,List.getElem?_eq_getElem bk];rfl
     have bu:=(eh zl[j] (Vm bm)).keepX (fun b s=>by subst s;exact⟨_,_,_,ch,a0O _⟩) hX;rw[<- hz] at bu;have ew:(e:Int)<(i:Int):=oM;have fc:(0:Int)<=(e:Int):=oM;have y3:bP<U:=oM;have y4:bz<U:=oM;have a0:=Z1 (a3N Q (show e<a9.length by omega));have ef:=Z1 y2;have e9:=Z1 (a5m z Q (show e<a9.length by omega));have ee:Hid (∀y∈a9.set e z,y.At (U.setCells ob (e*4) z.cells) (U.setCells ob (e*4) z.cells).heap.size KS):=Z1 (a1J (fun y hy=>Rn.At.stored Q _ _ (ar y hy)) (Rn.At.stored Q _ _ bu));have dy:=Z1 (hX.put (b:=ob) rfl (e*4) z.cells);clear he hz y2 bu ar Q hX;go_wp2_with (first|(refine VH rfl 52 (.tmp 111) rfl bz (oz+j*4) rfl z _ ef Xf rfl Vy ?_)|(refine KX rfl 52 (.tmp 113) (.tmp 112) rfl ob (e*4) z rfl rfl a0 Vy oC ?_));go_roundw
     case rel=>exact⟨j+1,a9.set e z,oM,by go_num,by simpa using b3,ee,e9,dy,e3⟩
     case measure=>exact mS
theorem b2Y (A:OA) (n c m:Nat) (l:List Hld) (d:Int) (hl:l.length=n) (hn:n<=200) (hw:∀x∈l,x.wf) (hA:RowsAt Hld.cells 4 w w A l) (hv:Hd.valid m l) (hd:-25567<=d/\d<=84005) :
  Calls prog 78 #[m,.slice A n c,d] w (SharePost m (Hd.matrix m l d) (Fr.part 10000) w):=by
 obtain⟨L,X⟩:=eX (Hd.matrix m l d);have Hp:=Z1 (a2X w 10000 oM oM);have T:=fun(W:World) (hB:Below w w W) (z:Rn) (J:z.At W W.heap.size 3)=>Z1 (a9K W A n c m l d z hl hn hw (RowsAt.at_ hA hB) hv hd J);unfold Rn.v at T;have Q:=Z1 X;rw[<- X];clear hA hl hw hd hv hn X;go_enter func78,ntmps78;go_wp2_with (fail);refine Hp.mono ?_;rintro ev W2 ⟨⟨z,rfl,J,I⟩,a⟩;have o:=T W2 a z J;rw[I,<- Q] at o;clear I;have O:=Z1 a;clear T J a Hp;unfold Rn.v;go_wp2_with (fail);refine o.mono ?_;rintro ev W3 ⟨s,h⟩;have i:=bT O s;clear s
 rcases h with⟨E,k,hk,rfl⟩|⟨A3,c3,l3,rfl,h3⟩
 ·have S:Hid (SharePost m L (Fr.part 10000) w (.returned (.tuple #[.slice none 0 0,k])) W3):=Z1 ⟨i,.inl ⟨E,k,hk,rfl⟩⟩
  clear hk E;go_wp2
  go_ret2
  exact S
 ·have S:Hid (SharePost m L (Fr.part 10000) w (.returned (.tuple #[.slice A3 m c3,()])) W3):=Z1 ⟨i,.inr ⟨A3,c3,l3,rfl,h3⟩⟩
  clear h3;go_wp2
  go_ret2
  exact S
def QSh (b:Bks) (e:Nat) (d N D:Int):Prop:=∃o,Shr b.g.ents.length (Hd.matrix b.g.ents.length b.holds d) (Fr.part 10000) o/\(N,D)=o.elim (0,0) (fun l=>El.at_ l e)
theorem QSh.one {b:Bks} {e:Nat} {d N D N' D':Int} (h:QSh b e d N D) (i:QSh b e d N' D'):N=N'/\D=D':=by
 obtain⟨o,s,a⟩:=h;obtain⟨J,E,I⟩:=i;rw[Shr.one s E,<- I] at a;exact⟨QQ Prod.fst a,QQ Prod.snd a⟩
theorem Rn.At.eff {w w':World} {d:Int} {x:Rn} {Q:Int->Int->Int->Prop} (h:x.At w' w' KS) (a:Below w w w') (i:Q d x.N x.D):EffPost KS Q d w (.returned x.v) w':=by
 exact⟨a,x,x.N,x.D,rfl,h,i⟩
theorem b4i (b:Bks) (e:Nat) (d:Int) (ak:e≠0) (he:e<b.g.ents.length) (X:b.At w w) (hv:Hd.valid b.g.ents.length b.holds) (hd:-25567<=d/\d<=84005) :
  Calls prog 36 #[b,e,d] w (EffPost KS (QSh b e) d w):=by
 obtain⟨W1,a7,L,E,S,hz⟩:=nw2 w b ZR 36 52;have Q:=X.hg.hel;have J:=Z1 (b2Y W1 b.hA b.hn b.hc b.g.ents.length b.holds d X.hhl (by have:=X.hhn;omega) X.hHw (RowsAt.at_ X.hH L) hv hd);have a4:=Z1 Q;rw[Q] at J;obtain⟨HW,ad,ae⟩:=Z3 a7 L S;have ab:=cr9 20 E;have ac:=cr9 23 E;simp at ab ac;have s0:=Vq E;have s1:=Vq S;have k1:((e:Int)==0)=false:=sO;have an:e<b.g.en:=oM;have k2:decide ((e:Int) ≥ (b.g.en:Int))=false:=Vr oM;have al:(0:Int)<=(e:Int):=oM;have am:(e:Int)<(b.g.en:Int):=oM;clear a7 hz E S L X hv hd Q he;go_enter func36,ntmps36;go_upto_region 1 with(fail);rw[<- HW];go_wp2_with (fail);refine J.mono ?_;rintro ev W2 ⟨O,h2⟩;have a0:=bT ad O;have i:=gB ae O s1;have ah:=i.out;clear ab ac O J
 rcases h2 with⟨a9,er,a8,rfl⟩|⟨A3,c3,l3,rfl,ai,a5,a6,aa⟩
 ·have k3:(er != 0):=by simpa using a8
  have Ho:Hid ((ZR:AV).all (·.oneCell')):=Z1 oC;have o:=VC W2 (w+1) _ ZR _ _ i;have a:=Z1 (VW (P:=prog) _ _ _ 52 _ _ _ o Xf rfl Vy);have I:=Z1 (below_setRow a0 (show(w:Nat)<=w+1 by omega) ZR);have HQ:Hid (QSh b e d Rn.zero.N Rn.zero.D):=⟨none,by rw[a4];exact a9,rfl⟩;clear o a8 a9;go_wp2_with (refine Vz rfl 52 (.tmp 6) (.tmp 37) none rfl rfl (w+1) 52 _ ZR rfl rfl i rfl Vy Ho ?_);exact VG (v:=.agg ZR) (by simp[results,results36,asAddr,Act.put,a.out]) rfl (Rn.At.eff (x:=Rn.zero) (Rn.zero_at _ _ _) I HQ)
 ·have s:e<l3.length:=oM
  obtain⟨b3,o3,rfl,aj,T⟩:=RowsAt.look a5 s;obtain⟨z,hz⟩:=eX (l3[e]);have HQ:Hid (QSh b e d z.N z.D):=⟨some (l3.map Rn.q),by rw[a4];exact aa,by show z.q=El.at_ _ e;rw[El.at_map (List.getElem?_eq_getElem s),hz]⟩;have W:=a6 _ (Vm s);rw[<- hz] at T W;have af:=Z1 T;have Ho:Hid ((z:AV).all (·.oneCell')):=Z1 oC;have o:=VC W2 (w+1) _ z _ _ i;have a:=Z1 (VW (P:=prog) _ _ _ 52 _ _ _ o Xf rfl Vy);have I:=Z1 (below_setRow a0 (show(w:Nat)<=w+1 by omega) z);have ag:=Z1 ((W.other i a0G (fun c hc=>Vl W2 (w+1) c z hc)).more (C:=(W2.setRow (w+1) z).heap.size) sP lR);clear o hz T W a5 a6 aa;go_wp2_with (first|(refine VH rfl 52 (.tmp 40) rfl b3 (o3+e*4) rfl z _ af Xf rfl Vy ?_)|(refine Vz rfl 52 (.tmp 6) (.tmp 41) none rfl rfl (w+1) 52 _ z rfl rfl i rfl Vy Ho ?_));exact VG (v:=z) (by simp[results,results36,asAddr,Act.put,a.out]) rfl (Rn.At.eff ag I HQ)
def OfWhy (b:Bks) (E p:Int):Prop:=∀e:Nat,E=e->e<b.g.ents.length->Cb.valid b->0<=p/\p<b.g.N ->
 Tr.items b e p=none∨∃a,Ct.current b.g b.holds e (Cal.last b.g.Y b.g.M p)=some a/\a.meth=2
def OfPure (b:Bks) (E p:Int) (x:Ctn) (its i:LT) (N D:Int):Prop:=Cb.valid b/\∃(e:Nat) (a:Itv),E=e/\e<b.g.ents.length/\(0<=p/\p<b.g.N) /\
 Ct.current b.g b.holds e (Cal.last b.g.Y b.g.M p)=some a/\x.ent=e/\x.meth=a.meth/\x.since=a.frm/\x.n=its.length/\x.m=i.length/\CtnOf b e p (Ct.intervals b.g b.holds e) a N D its i
def OfAny (b:Bks) (E p:Int) (w:World) (a:Ending) (w':World):Prop :=
 Below w w w'/\((OfWhy b E p/\∃n,n≠0/\a=.returned (.tuple #[Ctn.zero.v,.int .i64 n])) ∨
  ∃(its i:LT) (x:Ctn) (N D:Int),a=.returned (.tuple #[x.v,()])/\OfPure b E p x its i N D /\
   RowsAt Itm.cells 7 w' w' x.A its/\RowsAt Itm.cells 7 w' w' x.B i/\Fresh w x.A/\Fresh w x.B/\RI w' w' KS KS x.s.v N D/\(E=0->N=1/\D=1))
def QOf (b:Bks) (e:Nat) (d N D:Int):Prop:=if e=0 then N=1/\D=1 else QSh b e d N D
theorem QOf.one {b:Bks} {e:Nat} {d N D N' D':Int} (h:QOf b e d N D) (a:QOf b e d N' D'):N=N'/\D=D':=by
 unfold QOf at h a
 by_cases i:e=0
 ·rw[Vt i] at h a;exact⟨h.1.trans a.1.symm,h.2.trans a.2.symm⟩
 ·rw[VB i] at h a;exact h.one a
def OfEx (b:Bks) (E p n:Int):Prop:=(Cb.valid b=false/\n=1)∨(Cb.valid b/\¬ ((0<=p/\p<b.g.N)/\0<=E/\E<b.g.ents.length)/\n=2) ∨
 (Cb.valid b/\∃(e:Nat) (a:Itv),E=e/\e<b.g.ents.length/\(0<=p/\p<b.g.N)/\Ct.current b.g b.holds e (Cal.last b.g.Y b.g.M p)=some a/\OfErr b e p (Ct.intervals b.g b.holds e) a (QOf b e) n)
def OfPureX (b:Bks) (E p:Int) (x:Ctn) (its i:LT) (N D N' D':Int):Prop:=OfPure b E p x its i N D/\∃(e:Nat) (a:Itv),E=e/\Ct.current b.g b.holds e (Cal.last b.g.Y b.g.M p)=some a/\QOf b e (Cal.last b.g.Y b.g.M p) N D/\QOf b e a.frm N' D'
def OfAnyX (b:Bks) (E p:Int) (w:World) (a:Ending) (w':World):Prop :=
 Below w w w'/\((OfWhy b E p/\∃n,n≠0/\OfEx b E p n/\a=.returned (.tuple #[Ctn.zero.v,.int .i64 n])) ∨
  ∃(its i:LT) (x:Ctn) (N D N' D':Int),a=.returned (.tuple #[x.v,()])/\OfPureX b E p x its i N D N' D' /\
   RowsAt Itm.cells 7 w' w' x.A its/\RowsAt Itm.cells 7 w' w' x.B i/\Fresh w x.A/\Fresh w x.B/\RI2 w' w' KS x.s.v x.f.v N D N' D'/\(E=0->N=1/\D=1))
theorem OfAnyX.any {b:Bks} {E p:Int} {w:World} {i:Ending} {w':World} (h:OfAnyX b E p w i w'):OfAny b E p w i w':=by
 refine⟨h.1,?_⟩
 rcases h.2 with⟨a,n,O,_,e⟩|⟨its,S,x,N,D,N',D',e,Q,a,o,s,I,J,L⟩
 ·exact .inl ⟨a,n,O,e⟩
 ·exact .inr ⟨its,S,x,N,D,e,Q.1,a,o,s,I,J.a,L⟩
theorem KSmax:6*KS+1000<=10000000000:=dC
theorem b0i (b:Bks) (E p:Int) (h:Cal.err b.g.Y b.g.M b.g.N p=0) (hE:E<0∨(b.g.en:Int)<=E):CL 16 #[b,E,p] w (.tuple #[Ctn.zero.v,(2:Int)]):=by
 obtain⟨W1,T,Q,i,J,hz⟩:=nw2 w b ZC 36 55;obtain⟨HW,a0,a6,a4⟩:=Z4 T Q J i;have x1:=cr9 1 i;have x2:=cr9 2 i;have x3:=cr9 3 i;simp at x1 x2 x3;have s0:=Vq i;have s1:=Vq J;have O:=Z1 (fun W=>a2N b.g.Y b.g.M b.g.N p W h);obtain⟨la,X⟩:=eX (Cal.last b.g.Y b.g.M p);rw[<- X] at O;clear T hz i J Q X h;go_enter func16,ntmps16;go_upto_region 1 with(fail);rw[<- HW];go_wp2_with (fail);refine(O _).mono ?_;rintro ev W2 ⟨rfl,s⟩;have a5:=gB a4 s s0;have a7:=cr9 20 a5;simp at a7;have L:=Z1 (a0.out.trans (s.mono oM));have o:=gB a6 s s1;clear x1 x2 x3 s
 rcases hE with hE|hE
 ·skip
  have Ho:Hid ((ZC:AV).all (·.oneCell')):=Z1 oC;have S:=VC W2 (w+1) _ ZC _ _ o;have a:=Z1 (VW (P:=prog) _ _ _ 55 _ _ _ S Zd rfl a0x);have I:=Z1 (below_setRow L (show(w:Nat)<=w+1 by omega) ZC);clear S;go_wp2_with (refine Vz rfl 55 (.tmp 6) (.tmp 39) none rfl rfl (w+1) 55 _ ZC rfl rfl o rfl a0x Ho ?_);exact VG (v:=.tuple #[ZC,(2:Int)]) (by simp[results,results16,asAddr,Act.put,a.out]) rfl ⟨rfl,I.out⟩
 ·by_cases hn:E<0
  ·exfalso;omega
  have a8:E ≥ (b.g.en:Int):=hE;have Ho:Hid ((ZC:AV).all (·.oneCell')):=Z1 oC;have S:=VC W2 (w+1) _ ZC _ _ o;have a:=Z1 (VW (P:=prog) _ _ _ 55 _ _ _ S Zd rfl a0x);have I:=Z1 (below_setRow L (show(w:Nat)<=w+1 by omega) ZC);clear S;go_wp2_with (refine Vz rfl 55 (.tmp 6) (.tmp 39) none rfl rfl (w+1) 55 _ ZC rfl rfl o rfl a0x Ho ?_);exact VG (v:=.tuple #[ZC,(2:Int)]) (by simp[results,results16,asAddr,Act.put,a.out]) rfl ⟨rfl,I.out⟩
theorem a8U (b:Bks) (E p:Int) (hb:b.At w w) (hv:Cb.valid b):Calls prog 16 #[b,E,p] w (OfAnyX b E p w):=by
 have S:Gr.valid b.g:=by unfold Cb.valid Tr.valid Jr.ok at hv;simp only[Vp] at hv;exact hv.1.1.1
 have L:Hd.valid b.g.ents.length b.holds:=by unfold Cb.valid at hv;simp only[Vp] at hv;exact hv.2
 have T:Cal.ok b.g.Y b.g.M b.g.N:=by unfold Gr.valid Gr.books at S;simp only[Vp] at S;exact S.1.1.1.1.1.2
 have ac:=hb.hg.hel
 by_cases I:0<=p/\p<b.g.N
 ·by_cases hE:0<=E/\E<b.g.en
  ·obtain⟨e,rfl⟩:∃e:Nat,E=e:=⟨E.toNat,oM⟩
   have O:e<b.g.ents.length:=oM;have hl:=Cal.first_bd b.g.Y b.g.M b.g.N p T I.1 I.2;have hd:-25567<=Cal.last b.g.Y b.g.M p/\Cal.last b.g.Y b.g.M p<=84005:=oM
   have hh:∃a,Ct.current b.g b.holds e (Cal.last b.g.Y b.g.M p)=some a/\(Ct.intervals b.g b.holds e).length<=1000/\(a.meth=0∨a.meth=1∨a.meth=2∨a.meth=3) /\
     (∀W:World,b.At W W.heap.size->Calls prog 75 #[b.g,.slice b.hA b.hn b.hc,e] W (IvsPost (Ct.intervals b.g b.holds e) W)) /\
     (∀(W:World) (d:Int),(d=Cal.last b.g.Y b.g.M p∨d=a.frm)->b.At W W.heap.size->Calls prog 36 #[b,e,d] W (EffPost KS (QOf b e) d W)):=by
    by_cases X:e=0
    ·subst X
     have hi:Ct.intervals b.g b.holds 0=[⟨-25568,84006,3⟩]:=by unfold Ct.intervals;rw[Vt rfl]
     refine⟨⟨-25568,84006,3⟩,?_,?_,.inr (.inr (.inr rfl)),fun W i=>?_,fun W d _ i=>?_⟩
     ·unfold Ct.current
      rw[hi];have h1:(-25568:Int)<=Cal.last b.g.Y b.g.M p:=oM;have h2:Cal.last b.g.Y b.g.M p<84006:=oM;simp[h1,h2]
     ·rw[hi];decide
     ·rw[hi]
      exact b2F W b.g b.hA b.hn b.hc b.holds i.hg i.hhl (by have:=i.hhn;omega) i.hHw i.hH L
     ·refine(b2X W b d).mono ?_
      rintro ev W3 ⟨hB,x,N,D,rfl,hr,hq⟩;exact⟨hB,x,N,D,rfl,hr.more lR dC dC,by unfold QOf;rw[Vt rfl];exact hq rfl⟩
    ·obtain⟨hg,o⟩:=Ct.ivs_good b.g b.holds e X (by have:=hb.hhl;have:=hb.hhn;omega) (Hd.valid_date L)
     obtain⟨a,Q,hm⟩:=Ct.current_good hg hd;refine⟨a,Q,o,hg.met a hm,fun W i=>?_,fun W d a8 i=>?_⟩
     ·exact b4e W b.g b.hA b.hn b.hc b.holds e X O i.hg i.hhl (by have:=i.hhn;omega) i.hHw i.hH L
     ·have a9:-25567<=d/\d<=84005:=by
       rcases a8 with rfl|rfl
       ·exact hd
       ·exact hg.frm a hm
      refine(b4i W b e d X O i L a9).mono ?_;rintro ev W3 ⟨hB,x,N,D,rfl,hr,hq⟩;exact⟨hB,x,N,D,rfl,hr,by unfold QOf;rw[VB X];exact hq⟩
   obtain⟨a,Q,o,hm,hI,a7⟩:=hh;refine(b4n w b e p (Ct.intervals b.g b.holds e) a KS (QOf b e) hb O T I o hm KSmax (fun W i=>a7z W b e (Cal.last b.g.Y b.g.M p) (Ct.intervals b.g b.holds e) a hd Q o i hI) a7 hI).mono ?_;rintro ev W3 ⟨s,h⟩;refine⟨s,?_⟩
   rcases h with⟨h,n,hn,ab,rfl⟩|⟨its,sh,x,N,D,N',D',rfl,h1,h2,h3,h4,h5,h6,h7,h8,h9,a0,a4,J,a5⟩
   ·refine .inl ⟨fun e' aa _ _ _=>?_,n,hn,.inr (.inr ⟨hv,e,a,rfl,O,I,Q,ab⟩),rfl⟩
    have:e'=e:=oM;subst this;exact h.imp id (fun h=>⟨a,Q,h⟩)
   ·exact .inr ⟨its,sh,x,N,D,N',D',rfl,⟨⟨hv,e,a,rfl,O,I,Q,h1,h2,h3,h4,h5,a4⟩,e,a,rfl,Q,J,a5⟩,h6,h7,h8,h9,a0,fun hE=>by have a6:e=0:=oM;unfold QOf at J;rw[Vt a6] at J;exact J⟩
  ·refine(b0i w b E p ((Cal.err_zero _ _ _ _).2 ⟨T,I.1,I.2⟩) oM).mono ?_
   rintro ev W3 ⟨rfl,s⟩;exact⟨s,.inl ⟨fun e' aa h _ _=>absurd (by omega:0<=E/\E<b.g.en) hE,2,dC,.inr (.inl ⟨hv,fun q=>hE oM,rfl⟩),rfl⟩⟩
 ·have O:Cal.err b.g.Y b.g.M b.g.N p≠0:=fun h=>I ((Cal.err_zero _ _ _ _).1 h).2
  refine(b0j w b E p O).mono ?_;rintro ev W3 ⟨rfl,s⟩;exact⟨s,.inl ⟨fun e' _ _ _ h=>absurd h I,2,dC,.inr (.inl ⟨hv,fun q=>I q.1,rfl⟩),rfl⟩⟩
theorem a2y (b:Bks) (E p:Int) (hb:b.At w w):Calls prog 7 #[b,E,p] w (OfAnyX b E p w):=by
 obtain⟨W1,a8,T,O,X,hz⟩:=nw2 w b ZC 36 55;obtain⟨HW,a0,ag,aj,an⟩:=Z5 a8 (hb.at_ T) T O X;have s0:=Vq O;have s1:=Vq X;have J:=O;have Hv:=Z1 (a7E W1 b a0);clear a8 hz O X hb T;go_enter func7,ntmps7;go_upto_region 1 with(fail);rw[<- HW];go_wp2_with (refine Vd rfl 36 _ rfl _ rfl _ _ _ _ J Zg rfl a1b ?_);refine Hv.mono ?_;rintro ev W2 ⟨rfl,o⟩;have ao:=o.size;have L:=Z1 (ag.out.trans (o.mono oM));have ak:=gB aj o s0;have s:=gB an o s1;have a5:=Z1 (a0.at_ o);clear J o
 cases hv:Cb.valid b with
 |false =>
  have HV:=Z1 hv;clear hv;have Ho:Hid ((ZC:AV).all (·.oneCell')):=Z1 oC;have Q:=VC W2 (w+1) _ ZC _ _ s;have a:=Z1 (VW (P:=prog) _ _ _ 55 _ _ _ Q Zd rfl a0x);have I:=Z1 (below_setRow L (show(w:Nat)<=w+1 by omega) ZC);clear Q;go_wp2_with (refine Vz rfl 55 (.tmp 6) (.tmp 11) none rfl rfl (w+1) 55 _ ZC rfl rfl s rfl a0x Ho ?_);exact VG (v:=.tuple #[ZC,(1:Int)]) (by simp[results,results7,asAddr,Act.put,a.out]) rfl ⟨I.out,.inl ⟨fun e _ _ hv=>absurd hv (by rw[HV];decide),1,dC,.inl ⟨HV,rfl⟩,rfl⟩⟩
 |true =>
 have J:=ak.out;have S:=Z1 (a8U W2 b E p a5 hv);clear hv;go_wp2_with (refine Vd rfl 36 _ rfl _ rfl _ _ _ _ J Zg rfl a1b ?_);refine S.mono ?_;rintro ev W3 ⟨W,h⟩;have a4:=bT L W;have i:=gS s W;have ap:=Vq i;clear W J
 rcases h with⟨a9,n,hn,aa,rfl⟩|⟨its,sh,x,N,D,N',D',rfl,ab,h6,h7,h8,h9,a6,a7⟩
 ·have HN:=Z1 a9
  have Hn:=Z1 hn;have al:=Z1 aa;clear a9 hn aa;unfold Ctn.v Ctn.zero;have Ho:Hid ((ZC:AV).all (·.oneCell')):=Z1 oC;have Q:=VC W3 (w+1) _ ZC _ _ i;have a:=Z1 (VW (P:=prog) _ _ _ 55 _ _ _ Q Zd rfl a0x);have I:=Z1 (below_setRow a4 (show(w:Nat)<=w+1 by omega) ZC);clear Q;unfold Rn.zero;go_wp2_with (refine Vz rfl 55 (.tmp 6) (.tmp 16) none rfl rfl (w+1) 55 _ ZC rfl rfl i rfl a0x Ho ?_);exact VG (v:=.tuple #[ZC,n]) (by simp[results,results7,asAddr,Act.put,a.out]) rfl ⟨I.out,.inl ⟨HN,n,Hn,al,rfl⟩⟩
 ·have H6:=Z1 h6
  obtain⟨H7,H8,H9,ac,ae,am⟩:=Z6 h7 h8 h9 a6 a7 ab;clear ab h6 h7 h8 h9 a6 a7;unfold Ctn.v;have Ho:Hid ((x:AV).all (·.oneCell')):=Z1 oC;have Q:=VC W3 (w+1) _ x _ _ i;have a:=Z1 (VW (P:=prog) _ _ _ 55 _ _ _ Q Zd rfl a0x);have I:=Z1 (below_setRow a4 (show(w:Nat)<=w+1 by omega) x);have ah:=Z1 (ac.other (w':=W3.setRow (w+1) x) i (none13 _ rfl) (fun c hc=>Vl _ _ _ _ hc));have af:=Z1 (RowsAt.other_row H6 (n:=W2.heap.size) H8 (show(w:Nat)+1<W2 by have:=Vq s;omega) x);have ai:=Z1 (RowsAt.other_row H7 (n:=W2.heap.size) H9 (show(w:Nat)+1<W2 by have:=Vq s;omega) x);clear Q;go_wp2_with (refine Vz rfl 55 (.tmp 6) (.tmp 16) none rfl rfl (w+1) 55 _ x rfl rfl i rfl a0x Ho ?_);refine VG (v:=.tuple #[x,()]) (by simp[results,results7,asAddr,Act.put,a.out]) rfl ?_;exact⟨I.out,.inr ⟨its,sh,x,N,D,N',D',rfl,am,af,ai,fun ad h=>by have h1:=H8.out ad h;have h2:=L.out.size;omega,fun ad h=>by have h1:=H9.out ad h;have h2:=L.out.size;omega,by have:=ah.out;simpa using this,ae⟩⟩
theorem a9p (b:Bks) (E p:Int) (a:b.At w w):Calls prog 7 #[b,E,p] w (OfAny b E p w):=(a2y w b E p a).mono fun _ _ h=>h.any
def OfParK (b:Bks) (p:Int) (w:World) (a:Ending) (w':World):Prop :=
 Below w w w'/\(((Cb.valid b=false∨Tr.items b 0 p=none)/\∃n,n≠0/\a=.returned (.tuple #[Ctn.zero.v,.int .i64 n])) ∨
  ∃(its:LT) (x:Ctn),Cb.valid b/\Tr.items b 0 p=some its/\a=.returned (.tuple #[x.v,()])/\x.meth=3/\x.n=its.length/\RowsAt Itm.cells 7 w' w' x.A its/\RI w' w'.heap.size 3 3 x.s.v 1 1)
theorem Ct.current_zero {b:Bks} {d:Int} {a:Itv} (h:Ct.current b.g b.holds 0 d=some a):a=⟨-25568,84006,3⟩:=by
 unfold Ct.current Ct.intervals at h;rw[Vt rfl] at h;simpa using List.mem_of_find?_eq_some h
theorem RI.small {w:World} {k j:Nat} {v:Value} (h:RI w w k j v 1 1):RI w w.heap.size 3 3 v 1 1:=by
 obtain⟨E,a,O,o,I,i,Q,s,e,J,L⟩:=h;exact⟨E,a,O,o,I,i,Q,s,e,(J.tight (j:=1) dC dC).more lR dC,(L.tight (j:=1) dC dC).more lR dC⟩
theorem a8T (b:Bks) (p:Int) (hb:b.At w w):Calls prog 7 #[b,(),p] w (OfParK b p w):=by
 refine(a9p w b 0 p hb).mono ?_;rintro ev w' ⟨T,h⟩;refine⟨T,?_⟩
 rcases h with⟨h,n,hn,rfl⟩|⟨its,sh,x,N,D,rfl,E,S,_,_,_,X,W⟩
 ·refine .inl ⟨?_,n,hn,rfl⟩
  cases hv:Cb.valid b with
  |false=>exact .inl rfl
  |true =>
   right
   by_cases o:0<b.g.ents.length/\0<=p/\p<b.g.N
   ·rcases h 0 rfl o.1 hv o.2 with h|⟨I,O,i⟩
    ·exact h
    ·rw[Ct.current_zero O] at i;cases i
   ·unfold Tr.items
    exact VB (fun q=>o q.2)
 ·obtain⟨hv,e,I,he,_,_,a,_,i,_,Q,_,s⟩:=E
  obtain rfl:e=0:=oM;obtain rfl:=Ct.current_zero a;obtain⟨rfl,rfl⟩:=W rfl
  rcases s with⟨q,_⟩|⟨_,l,L,J,_⟩
  ·cases q
  unfold Cb.its at J;rw[Vt rfl] at J;have q3:=XV J;have q4:l.map (Cb.acq b.g (-25568))=l:=Cb.acq_parent L;have q5:its=l:=by rw[<- q3];exact q4
  subst q5;exact .inr ⟨its,x,hv,L,rfl,i,Q,S,X.small⟩
end Go.Proofs.YtbhdekahdnenjaaGreatDoor
