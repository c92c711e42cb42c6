/- Lemmas. -/
import Derived.Test.YtbhdekahdnenjaaGreatDoorG26
set_option linter.unusedVariables false
set_option linter.unusedSimpArgs false
set_option maxRecDepth 100000
set_option maxHeartbeats 16000000
namespace Go.Proofs.YtbhdekahdnenjaaGreatDoor
def firstErr:List Int->Int
 |[]=>0
 |x::l=>if x=0 then firstErr l else x
theorem a1A:∀(l r:LI),(∀x∈l,x=0)->firstErr (l++r)=firstErr r
 |[],r,_=>rfl
 |x::l,r,h=>by
  show(if x=0 then firstErr (l++r) else x)=_;rw[Vt (h x (XN ..))];exact a1A l r (fun y a=>h y (XZ _ a))
namespace Tr
def rateErr (b:Bks) (e:Nat) (la a date:Int):Int :=
 (mapAt (Gr.eat b.g.ents e) a la).elim 15 (fun m=>if Ch.has b.g.chart m then(look b (Gr.eat b.g.ents e).cur la (Ch.found b.g.chart m).basis date).2 else 15)
def itemErr (b:Bks) (e:Nat) (p:Int) (x:EtC) (k:Nat):Int :=
 if(item b e p x k).isSome then 0 else if(rateOf b e (Cal.last b.g.Y b.g.M p) (lat x k).acct x.date).isSome then 2 else rateErr b e (Cal.last b.g.Y b.g.M p) (lat x k).acct x.date
def errsOf (b:Bks) (e:Nat) (p:Int) (x:EtC):List Int:=(List.range x.lines.length).map (itemErr b e p x)
def err (b:Bks) (e:Nat) (p:Int):Int :=
 if valid b then(if e<b.g.ents.length/\0<=p/\p<b.g.N then firstErr ((entries b e p).flatMap (errsOf b e p)) else 2) else 1
end Tr
end Go.Proofs.YtbhdekahdnenjaaGreatDoor
namespace Go.Proofs.YtbhdekahdnenjaaGreatDoor
open Go.Proofs.Tryz Go.RowKit Go.Maps
variable (w:World)
structure Dk (B:Nat) (w:World) (b:Bks) (e:Nat) (p la:Int) (cur:ByteArray) (cv:Bool):Prop where
 hB:B<=w
 hb:b.At w B
 hv:Gr.valid b.g
 he:e<b.g.ents.length
 hp:0<=p/\p<b.g.N
 hla:la=Cal.last b.g.Y b.g.M p
 hcur:cur=(Gr.eat b.g.ents e).cur
 hcv:cv=decide (cur≠b.g.cur)
theorem Dk.below {B:Nat} {w w':World} {b:Bks} {e:Nat} {p la:Int} {cur:BA} {cv:Bool} (h:Dk B w b e p la cur cv) (i:Below B w w') (a:B<=w'):Dk B w' b e p la cur cv :=
 ⟨a,h.hb.below i lR,h.hv,h.he,h.hp,h.hla,h.hcur,h.hcv⟩
theorem Dk.la_date {B:Nat} {w:World} {b:Bks} {e:Nat} {p la:Int} {cur:BA} {cv:Bool} (h:Dk B w b e p la cur cv):Gr.date la/\(Lit.int .i64 la).wf:=by
 have:=Cal.first_bd b.g.Y b.g.M b.g.N p (Gr.cal_ok h.hv) h.hp.1 h.hp.2;rw[h.hla]
 constructor
 ·unfold Gr.date;simp;omega
 ·simp[Lit.wf,IntKind.min,IntKind.max,IntKind.signed,IntKind.bits];omega
def RatePost (B bd mk nk:Nat) (b:Bks) (e:Nat) (p la:Int) (cur:BA) (cv:Bool) (o:Option (Int × Int)) (i:Int) (w:World) (s:Ending) (w':World):Prop :=
 Kp B mk w w'/\B<=w'/\Desks B w' bd mk nk b e p la cur cv/\∃a v m,s=.returned (.tuple #[.int .i64 a,.int .i64 v,.int .i64 m])/\m=i/\(m=0 ↔ o.isSome)/\∀x,o=some x->(a,v)=x
theorem a6P {b:Bks} {w:World} {B:Nat} (i:b.At w B) (m:Int):(Lit.int .i64 (Ch.found b.g.chart m).basis).wf:=by
 unfold Ch.found
 cases h:Ch.find b.g.chart m with
 |none=>rfl
 |some a =>
  have:=i.hg.hcw a (List.mem_of_find?_eq_some h);exact this.2.2.1
theorem b1V (B bd mk nk:Nat) (b:Bks) (e:Nat) (p la:Int) (cur:BA) (cv:Bool) (E d:Int) (J:Dk B w b e p la cur cv) (hd:Desks B w bd mk nk b e p la cur cv) (b9:(Lit.int .i64 E).wf) (b3:(Lit.int .i64 d).wf) (hn:nk<=100000) :
  Calls prog 141 #[.pointer (some ⟨bd,0,none⟩),.int .i64 E,.int .i64 d] w (RatePost B bd mk (nk+1) b e p la cur cv (Tr.rateOf b e la E d) (Tr.rateErr b e la E d) w):=by
 have HK:=Z1 J;have HD:=Z1 hd;obtain⟨f,hd⟩:=hd;have Hb:=Z1 hd.hb;have sd:bd<w:=Vq hd.hb;have hB:=J.hB;obtain⟨x,hx⟩:=eX (Gr.eat b.g.ents e);have ae:b.g.ents[e]'J.he=x:=by rw[hx];unfold Gr.eat;simp[J.he]
 have af:x.At w B:=by rw[<- ae];exact J.hb.hg.hea _ (Vm _)
 obtain⟨be,oe,am,ba,ad⟩:=RowsAt.look J.hb.hg.he J.he;rw[ae] at ad;obtain⟨az,b0,Hx⟩:=Z3 ad af hx;have bb:(e:Int)<(b.g.en:Int):=by have:=J.he;have:=J.hb.hg.hel;omega
 have b5:be<w:=oM;have au:=Z1 am
 have HV:Hid (Tr.rateOf b e la E d=(Tr.mapAt x E la).bind (fun m=>if Ch.has b.g.chart m/\(Tr.look b x.cur la (Ch.found b.g.chart m).basis d).2=0 then some (m,(Tr.look b x.cur la (Ch.found b.g.chart m).basis d).1) else none)):=by
  show _=_;rw[hx];rfl
 have HE:Hid (Tr.rateErr b e la E d=(Tr.mapAt x E la).elim 15 (fun m=>if Ch.has b.g.chart m then(Tr.look b x.cur la (Ch.found b.g.chart m).basis d).2 else 15)):=by
  show _=_;rw[hx];rfl
 have L:Hid (cur=x.cur):=by show _=_;rw[hx];exact J.hcur
 have ay:=Z1 (fun(W:World) (hW:Below w w W)=>b0y W x E la ((af.below (hW.mono hB) lR).more (by have:=hW.size;omega)) J.la_date.1);have al:=Z1 (fun m=>a6P J.hb m);clear J hd hx ae af ad am;go_enter func141,ntmps141;go_upto_region 1 with(fail);have i:Below w w w.drew:=Vw bR 1;refine Vs (S:=Below w w) kR ?_;change wpAnyH _ _ _ _ _ _ _ _ (World.drew w);obtain⟨b1,aq⟩:=eX w.drew;rw[<- aq] at i⊢;clear aq;refine jT 0 i ?_;refine jT 1 i ?_;refine jT 2 i ?_;refine jT 3 i ?_;refine jT 4 i ?_;refine jT 5 i ?_ (v:=.slice (some ⟨be,oe,none⟩) b.g.en b.g.ec) (hy:=(.inl ⟨by rfl,fun W' o=>by have c0:=cr9 20 (gbox Hb o sd);simp at c0;have c9:=Vq (gbox Hb o sd);have ha:=au.out;rw[ha] at c0;go_simp⟩));refine jT 6 i ?_;refine jT 7 i ?_;refine jT 8 i ?_;refine jT 9 i ?_ (v:=.int .i64 e) (hy:=(.inl ⟨by rfl,fun W' o=>by have c0:=cr9 27 (gbox Hb o sd);simp at c0;have c9:=Vq (gbox Hb o sd);go_simp⟩));refine jT 10 i ?_;refine jT 11 i ?_ (v:=x) (hy:=(Vf (by rfl) 81 _ rfl be (oe+e*5) rfl x _ (fun W' o=>VK az o b5) Js rfl a1N));refine jT 12 i ?_;refine jT 13 i ?_;refine jT 14 i ?_;refine jT 15 i ?_;refine jT 16 i ?_ (v:=.int .i64 la) (hy:=(.inl ⟨by rfl,fun W' o=>by have c0:=cr9 29 (gbox Hb o sd);simp at c0;have c9:=Vq (gbox Hb o sd);go_simp⟩));refine rZ 17 fun K hK=>?_;have HC:=Z1 (ay b1 i);go_simp;refine HC.mono ?_;rintro ev W2 ⟨⟨v,m,rfl,hm,hv⟩,an⟩;have a:=i.trans (an.mono i.size);refine jK hK a ?_;clear hK K;refine jT 18 a ?_;refine jT 19 a ?_;refine jT 20 a ?_;refine rZ 21 fun K hK=>?_;go_simp;refine jK hK a ?_;clear hK K;refine rZ 22 fun K hK=>?_;go_simp;refine jK hK a ?_;clear hK K;refine VF kR ?_ _
 try simp only[z]
 have a5:=Z1 a;have I:B<=W2:=by have:=a.size;omega
 have ah:=Z1 (HD.below a);have ag:=Z1 (a.mono hB);have ak:=Z1 (HK.below ag I);clear i a an
 by_cases h0:m=0
 case neg =>
  have k0:(m != 0):=by simp[h0]
  have HN:Hid (Tr.rateOf b e la E d=none):=by
   show _=_;rw[HV]
   cases hq:Tr.mapAt x E la with
   |none=>rfl
   |some y=>exact absurd (hm.2 (by rw[hq];rfl)) h0
  have a4:Hid (15=Tr.rateErr b e la E d):=by
   show _=_;rw[HE]
   cases hq:Tr.mapAt x E la with
   |none=>rfl
   |some y=>exact absurd (hm.2 (by rw[hq];rfl)) h0
  clear hm hv h0;go_wp2;refine VG (results_tmp3 rfl _ _ _) rfl ?_;exact⟨Kp.of a5 hB,I,ah.mono (J8 _),0,0,15,rfl,a4,by rw[HN];decide,fun y hy=>by rw[HN] at hy;cases hy⟩
 have k0:(m != 0)=false:=by simp[h0]
 obtain⟨y,hy⟩:=Option.isSome_iff_exists.1 (hm.1 h0);have b6:=hv y hy;subst b6;have a6:Hid (Tr.rateOf b e la E d=if Ch.has b.g.chart v/\(Tr.look b x.cur la (Ch.found b.g.chart v).basis d).2=0 then some (v,(Tr.look b x.cur la (Ch.found b.g.chart v).basis d).1) else none):=by show _=_;rw[HV,hy];rfl
 have a0:Hid (Tr.rateErr b e la E d=if Ch.has b.g.chart v then(Tr.look b x.cur la (Ch.found b.g.chart v).basis d).2 else 15):=by show _=_;rw[HE,hy];rfl
 clear hm hv hy h0;have aa:=gbox Hb a5 sd;have z4:=cr9 4 aa;simp at z4;have bc:bd<W2:=Vq aa;have T:=ak.out.hb.hg;have Hf:=Z1 (a0Q W2 b.g.cA b.g.cn b.g.cc b.g.chart v T.hcl T.hcn (RowsAt.more T.hc I));clear aa T;go_upto_region 4 with(fail);go_wp2_with (fail);refine Hf.mono ?_;rintro ev W3 ⟨rfl,a8⟩;obtain⟨q,hq⟩:=eX (Ch.found b.g.chart v);rw[<- hq];have b4:Hid ((Lit.int .i64 q.basis).wf):=by show _=_;rw[hq];exact al v
 rw[<- hq] at a6 a0;obtain⟨W4,ap,ao,ab,b7⟩:=nw1 W3 q 113;have ax:=Z1 ap;have s:=a8.trans (ao.mono a8.size);have b8:=Z1 (ag.out.trans (s.mono I));have X:=bT a5 s;have O:B<=W4:=by have:=s.size;omega
 have ai:=Z1 (ah.below s);have Q:=Z1 (ak.below (s.mono I) O);have a2:=cr9 2 ab;simp at a2;have s4:(W3:Nat)<W4:=Vq ab;clear hq ap ab b7 a8 ao s z4;go_upto_region 5 with(fail);rw[<- ax]
 cases hh:Ch.has b.g.chart v with
 |false =>
  have HN:Hid (Tr.rateOf b e la E d=none):=by show _=_;rw[a6,hh];simp
  have a4:Hid (15=Tr.rateErr b e la E d):=by show _=_;rw[a0,hh];simp
  clear hh;go_wp2;refine VG (results_tmp3 rfl _ _ _) rfl ?_;exact⟨Kp.of X hB,O,ai.mono (J8 _),0,0,15,rfl,a4,by rw[HN];decide,fun y hy=>by rw[HN] at hy;cases hy⟩
 |true =>
  have a7:Hid (Tr.rateOf b e la E d=if(Tr.look b cur la q.basis d).2=0 then some (v,(Tr.look b cur la q.basis d).1) else none):=by show _=_;rw[a6,hh,L];simp
  have aj:Hid (Tr.rateErr b e la E d=(Tr.look b cur la q.basis d).2):=by show _=_;rw[a0,hh,L];simp
  have Hl:=Z1 (b2y W4 B bd mk nk b e p la cur cv q.basis d ai Q.hcv O Q.hb (Gr.cal_ok Q.hv) (by rw[L];exact b0.hu) b4.out b3 Q.la_date.2 hn);clear hh;go_wp2_with (fail);refine Hl.mono ?_;rintro ev W5 ⟨a9,rfl,ar⟩;obtain⟨r,hr⟩:=eX (Tr.look b cur la q.basis d);rw[<- hr];rw[<- hr] at a7 aj;have av:=Z1 ((Kp.of X hB).trans a9);have aw:=Z1 ar;have b2:B<=W5:=by have:=a9.b.size;omega
  clear hr ar a9 a2;go_wp2;refine VG (results_tmp3 rfl _ _ _) rfl ?_;refine⟨av,b2,aw,v,r.1,r.2,rfl,aj.symm,?_,fun y hy=>?_⟩
  ·rw[a7];by_cases h:r.2=0 <;> simp[h]
  ·rw[a7] at hy
   by_cases h:r.2=0
   ·rw[Vt h] at hy;cases hy;rfl
   ·rw[VB h] at hy;cases hy
theorem a0P:(prog.info? 70).map (·.size)=some 7:=kR
theorem itmOne (x:Itm):(x:AV).all (·.oneCell'):=oC
def Itm.zero:Itm:=⟨0,0,0,0,0,0,0⟩
def ItemPost (B bd mk nk:Nat) (b:Bks) (e:Nat) (p la:Int) (cur:BA) (cv:Bool) (o:Option Itm) (a:Int) (w:World) (i:Ending) (w':World):Prop :=
 Kp B mk w w'/\B<=w'/\Desks B w' bd mk nk b e p la cur cv/\∃x m,i=.returned (.tuple #[.agg #[.int .i64 x.ent0,.int .i64 x.lin,.int .i64 x.ent,.int .i64 x.acct,.int .i64 x.partner,.int .i64 x.date,.int .i64 x.amt],.int .i64 m])/\m=a/\(m=0 ↔ o.isSome)/\∀y,o=some y->x=y
theorem ItemPost.bad {B bd mk nk e:Nat} {b:Bks} {p la:Int} {cur:BA} {cv:Bool} {o:Option Itm} {a:Int} {w w':World} {m:Int} (J:m=a) (i:o=none) (L:m≠0) (s:Kp B mk w w') (E:B<=w') (I:Desks B w' bd mk nk b e p la cur cv):ItemPost B bd mk nk b e p la cur cv o a w (.returned (.tuple #[.agg #[.int .i64 0,.int .i64 0,.int .i64 0,.int .i64 0,.int .i64 0,.int .i64 0,.int .i64 0],.int .i64 m])) w' :=
 ⟨s,E,I,Itm.zero,m,rfl,J,by simp[i,L],fun y h=>by rw[i] at h;cases h⟩
theorem Kp.then_ {B mk:Nat} {w w' a:World} (h:Kp B mk w w') (k:Below w w' a) (s:B<=w):Kp B mk w a :=
 ⟨h.b.trans (k.mono s),fun i o E=>(k.block i o).trans (h.k i o E)⟩
theorem Desks.setRow {B bd mk nk e i:Nat} {w:World} {b:Bks} {p la:Int} {cur:BA} {cv:Bool} (h:Desks B w bd mk nk b e p la cur cv) (cs:AV) (a:bd≠i) (o:mk≠i):Desks B (w.setRow i cs) bd mk nk b e p la cur cv:=by
 obtain⟨f,h⟩:=h;exact⟨f,(Vl w i bd cs a).trans h.hb,h.hB1,h.hB2,h.hm.kept (a2a w i cs) (by simpa using o),h.hf⟩
theorem Tr.rate_has {b:Bks} {e:Nat} {la a d m v:Int} (h:Tr.rateOf b e la a d=some (m,v)):Ch.has b.g.chart m:=by
 unfold Tr.rateOf at h
 cases i:Tr.mapAt (Gr.eat b.g.ents e) a la with
 |none=>rw[i] at h;cases h
 |some y =>
  rw[i,Option.bind_some] at h
  split at h
  ·rename_i o;cases h;exact o.1
  ·cases h
theorem b2H (B bd mk nk:Nat) (b:Bks) (e:Nat) (p la:Int) (cur:ByteArray) (cv:Bool) (c:EtC) (A:Option Addr) (n kc k:Nat) (hk:Dk B w b e p la cur cv) (hd:Desks B w bd mk nk b e p la cur cv) (hx:(⟨c,A,n,kc⟩:Etr).At w B) (ca:k<n) (hn:nk<=100000) :
  Calls prog 87 #[.pointer (some ⟨bd,0,none⟩),.agg #[.int .i64 c.id,.int .i64 c.ent,.int .i64 c.date,.int .i64 c.kind,.int .i64 c.of_,.string c.text,.slice A n kc],.int .i64 k] w (ItemPost B bd mk (nk+1) b e p la cur cv (Tr.item b e p c k) (Tr.itemErr b e p c k) w):=by
 have hB:=hk.hB;have b8:k<c.lines.length:=by have h1:c.lines.length=n:=hx.hl;omega
 obtain⟨bl,ol,ai,b4,hr⟩:=LinsAt.three hx.hA b8;have ai:A=some ⟨bl,ol,none⟩:=ai;subst ai;obtain⟨l,hl⟩:=eX (Tr.lat c k);have ao:c.lines[k]=l:=by rw[hl];unfold Tr.lat;simp[b8]
 have hr:w.rangeAt bl (ol+k*3) l:=by rw[<- ao];exact hr
 have b9:l.wf:=by rw[<- ao];exact hx.hw.hlw _ (Vm _)
 have HV:Hid (Tr.item b e p c k=(Tr.rateOf b e la l.acct c.date).bind (fun r=>(Tr.conv l.amt r.2).map (fun n=>⟨c.id,k,c.ent,Tr.shown b.g r.1 c.date (Cal.begin_ b.g.Y b.g.M p),l.prt,c.date,n⟩))):=by
  show _=_;unfold Tr.item;rw[<- hl,hk.hla]
 have HI:Hid (Tr.itemErr b e p c k=if(Tr.item b e p c k).isSome=true then 0 else if(Tr.rateOf b e la l.acct c.date).isSome=true then 2 else Tr.rateErr b e la l.acct c.date):=by
  show _=_;unfold Tr.itemErr;rw[<- hl,hk.hla]
 obtain⟨W,a8,ak,a9,hz⟩:=a3w w #[.int .i64 c.id,.int .i64 c.ent,.int .i64 c.date,.int .i64 c.kind,.int .i64 c.of_,.string c.text,.slice (some ⟨bl,ol,none⟩) n kc] #[.int .i64 0,.int .i64 0,.int .i64 0,.int .i64 0,.int .i64 0,.int .i64 0,.int .i64 0] l 46 70 66;obtain⟨W1,aj⟩:=eX ((((w.alloc (.cells #[.int .i64 c.id,.int .i64 c.ent,.int .i64 c.date,.int .i64 c.kind,.int .i64 c.of_,.string c.text,.slice (some ⟨bl,ol,none⟩) n kc] 46)).alloc (.cells #[.int .i64 0,.int .i64 0,.int .i64 0,.int .i64 0,.int .i64 0,.int .i64 0,.int .i64 0] 70)).alloc (.cells l 66)));have bp:Hid (((w.alloc (.cells #[.int .i64 c.id,.int .i64 c.ent,.int .i64 c.date,.int .i64 c.kind,.int .i64 c.of_,.string c.text,.slice (some ⟨bl,ol,none⟩) n kc] 46)).alloc (.cells #[.int .i64 0,.int .i64 0,.int .i64 0,.int .i64 0,.int .i64 0,.int .i64 0,.int .i64 0] 70)).rangeAt bl (ol+k*3) l):=Z1 (VK hr ((bR.alloc lR _).alloc sP _) (Xg b4 hB));rw[<- aj] at W a8 ak a9 hz;obtain⟨HW,Hk,av⟩:=Z3 aj hk (Kp.of (mk:=mk) W hB);have sm:mk<w.heap.size:=by obtain⟨f,h⟩:=hd;exact h.hm.lt
 have cd:bd<w.heap.size:=by obtain⟨f,h⟩:=hd;exact Vq h.hb
 have bt:B<=W1.heap.size:=oM;obtain⟨ay,bc,bi,bj,bk⟩:=Z5 (hk.below (W.mono hB) bt) (hd.below W) a8 ak a9;have s1:w.heap.size<W1.heap.size:=oM;have cb:w.heap.size+1<W1.heap.size:=oM;have c5:w.heap.size+2<W1.heap.size:=oM;have c4:bl<w.heap.size:=Xg b4 hB;have l0:=cr9 0 a9;have c2:=cr9 2 a8;simp at l0 c2;have c8:(0:Int)<=(k:Int):=oM;have c3:(k:Int)<(n:Int):=oM;have c7:Hid ((Lit.int .i64 c.date).wf=true):=hx.hw.hda;have bq:=Z1 (b1V W1 B bd mk nk b e p la cur cv l.acct c.date ay.out bc.out b9.1 hx.hw.hda hn);clear aj hz a8 ak a9 hr hl ao hk hd hx b9 W;go_enter func87,ntmps87;go_upto_region 1 with(fail);go_upto_region 2 with(refine VH rfl 66 (.tmp 17) rfl bl (ol+k*3) rfl l _ bp.out Zx rfl a1a ?_);rw[<- HW.out];go_wp2_with (fail);refine bq.out.mono ?_;rintro ev W2 ⟨O,X,b5,a,v,m,rfl,b6,hm,hv⟩;have bu:w.heap.size≠mk:=oM;have bv:w.heap.size+1≠mk:=oM;have bw:w.heap.size+2≠mk:=oM;obtain⟨ac,ax,bf,b0,a6,ah⟩:=Z6 (av.out.trans O) b5 (ay.out.below O.b X) (O.box bi.out bu) (O.box bj.out bv) (O.box bk.out bw);have s2:=Vq b0.out;have bx:=Vq a6.out;have ba:=Vq ah.out;have bm:=Z1 b6;clear b6 b5 O l0 c2
 by_cases J:m=0
 case neg =>
  have k0:(m != 0)=true:=by simp[J]
  have Hm:=Z1 J
  have HN:Hid (Tr.item b e p c k=none):=by
   show _=_;rw[HV.out]
   cases hq:Tr.rateOf b e la l.acct c.date with
   |none=>rfl
   |some y=>exact absurd (hm.2 (by rw[hq];rfl)) J
  have af:Hid (m=Tr.itemErr b e p c k):=by
   show _=_;rw[HI.out,HN.out]
   have hz:Tr.rateOf b e la l.acct c.date=none:=by
    cases hq:Tr.rateOf b e la l.acct c.date with
    |none=>rfl
    |some y=>exact absurd (hm.2 (by rw[hq];rfl)) J
   rw[hz];simpa using bm.out
  clear hm hv J;have Ho:=Z1 (itmOne Itm.zero);have hR:=VC W2 (w.heap.size+1) _ #[.int .i64 0,.int .i64 0,.int .i64 0,.int .i64 0,.int .i64 0,.int .i64 0,.int .i64 0] _ _ a6.out;have s:=Z1 (VW (P:=prog) _ _ _ 70 _ _ _ hR Zz rfl a0P);have o:=below_setRow (VM w W2) (show w.heap.size<=w.heap.size+1 by omega) #[.int .i64 0,.int .i64 0,.int .i64 0,.int .i64 0,.int .i64 0,.int .i64 0,.int .i64 0];have HP:=Z1 (ItemPost.bad (m:=m) af.out HN.out (Hm.out) (ac.out.then_ o hB) (by show B<=(W2.setRow (w.heap.size+1) #[.int .i64 0,.int .i64 0,.int .i64 0,.int .i64 0,.int .i64 0,.int .i64 0,.int .i64 0]).heap.size;have:=o.size;omega) (ax.out.setRow #[.int .i64 0,.int .i64 0,.int .i64 0,.int .i64 0,.int .i64 0,.int .i64 0,.int .i64 0] (show bd≠w.heap.size+1 by omega) (show mk≠w.heap.size+1 by omega)):ItemPost B bd mk (nk+1) b e p la cur cv (Tr.item b e p c k) (Tr.itemErr b e p c k) w (.returned (.tuple #[.agg #[.int .i64 0,.int .i64 0,.int .i64 0,.int .i64 0,.int .i64 0,.int .i64 0,.int .i64 0],.int .i64 m])) (W2.setRow (w.heap.size+1) #[.int .i64 0,.int .i64 0,.int .i64 0,.int .i64 0,.int .i64 0,.int .i64 0,.int .i64 0]));clear hR o ;go_wp2_with (refine Vz rfl 70 (.tmp 6) (.tmp 31) none rfl rfl (w.heap.size+1) 70 _ #[.int .i64 0,.int .i64 0,.int .i64 0,.int .i64 0,.int .i64 0,.int .i64 0,.int .i64 0] rfl rfl a6.out rfl a0P Ho.out ?_);exact VG (v:=.tuple #[.agg #[.int .i64 0,.int .i64 0,.int .i64 0,.int .i64 0,.int .i64 0,.int .i64 0,.int .i64 0],.int .i64 m]) (by simp[results,results87,asAddr,Act.put,s.out]) rfl HP.out
 have k0:(m != 0)=false:=by simp[J]
 have bh:Hid ((Tr.rateOf b e la l.acct c.date).isSome=true):=hm.1 J;obtain⟨y,hy⟩:=Option.isSome_iff_exists.1 (hm.1 J);have ar:=hv y hy;subst ar;have az:Hid (Tr.item b e p c k=(Tr.conv l.amt v).map (fun n=>⟨c.id,k,c.ent,Tr.shown b.g a c.date (Cal.begin_ b.g.Y b.g.M p),l.prt,c.date,n⟩)):=by show _=_;rw[HV.out,hy];rfl
 have b7:=Tr.rate_has hy;have bn:=Z1 b7;clear hm hv hy J b7;have l1:=cr9 1 ah.out;simp at l1;go_upto_region 5 with(fail);go_wp2_with (fail);refine(b3k W2 l.amt v).mono ?_;rintro ev Q ⟨⟨am,m3,rfl,hm,hv⟩,I⟩;have ad:=Z1 (ac.out.trans (Kp.of (mk:=mk) I X));have a0:B<=Q.heap.size:=by have:=I.size;omega
 have ae:=Z1 (ax.out.below I);have bg:=Z1 (bf.out.below (I.mono X) a0);have a5:=gB b0 I s2;have a7:=gB a6 I bx;have b1:=gB ah I ba;have s3:=Vq a5.out;have bz:=Vq a7.out;have bb:=Vq b1.out;clear I l1
 by_cases J:m3=0
 case neg =>
  have k0:(m3 != 0)=true:=by simp[J]
  have HN:Hid (Tr.item b e p c k=none):=by
   show _=_;rw[az.out]
   cases hq:Tr.conv l.amt v with
   |none=>rfl
   |some y=>exact absurd (hm.2 (by rw[hq];rfl)) J
  have af:Hid (2=Tr.itemErr b e p c k):=by
   show _=_;rw[HI.out,HN.out,bh.out];simp
  clear hm hv J;have Ho:=Z1 (itmOne Itm.zero);have hR:=VC Q (w.heap.size+1) _ #[.int .i64 0,.int .i64 0,.int .i64 0,.int .i64 0,.int .i64 0,.int .i64 0,.int .i64 0] _ _ a7.out;have s:=Z1 (VW (P:=prog) _ _ _ 70 _ _ _ hR Zz rfl a0P);have o:=below_setRow (VM w Q) (show w.heap.size<=w.heap.size+1 by omega) #[.int .i64 0,.int .i64 0,.int .i64 0,.int .i64 0,.int .i64 0,.int .i64 0,.int .i64 0];have HP:=Z1 (ItemPost.bad (m:=2) af.out HN.out dC (ad.out.then_ o hB) (by show B<=(Q.setRow (w.heap.size+1) #[.int .i64 0,.int .i64 0,.int .i64 0,.int .i64 0,.int .i64 0,.int .i64 0,.int .i64 0]).heap.size;have:=o.size;omega) (ae.out.setRow #[.int .i64 0,.int .i64 0,.int .i64 0,.int .i64 0,.int .i64 0,.int .i64 0,.int .i64 0] (show bd≠w.heap.size+1 by omega) (show mk≠w.heap.size+1 by omega)):ItemPost B bd mk (nk+1) b e p la cur cv (Tr.item b e p c k) (Tr.itemErr b e p c k) w (.returned (.tuple #[.agg #[.int .i64 0,.int .i64 0,.int .i64 0,.int .i64 0,.int .i64 0,.int .i64 0,.int .i64 0],.int .i64 2])) (Q.setRow (w.heap.size+1) #[.int .i64 0,.int .i64 0,.int .i64 0,.int .i64 0,.int .i64 0,.int .i64 0,.int .i64 0]));clear hR o ;go_wp2_with (refine Vz rfl 70 (.tmp 6) (.tmp 42) none rfl rfl (w.heap.size+1) 70 _ #[.int .i64 0,.int .i64 0,.int .i64 0,.int .i64 0,.int .i64 0,.int .i64 0,.int .i64 0] rfl rfl a7.out rfl a0P Ho.out ?_);exact VG (v:=.tuple #[.agg #[.int .i64 0,.int .i64 0,.int .i64 0,.int .i64 0,.int .i64 0,.int .i64 0,.int .i64 0],.int .i64 2]) (by simp[results,results87,asAddr,Act.put,s.out]) rfl HP.out
 have k0:(m3 != 0)=false:=by simp[J]
 obtain⟨y,hy⟩:=Option.isSome_iff_exists.1 (hm.1 J);have ar:=hv y hy;subst ar;obtain⟨sh,aq⟩:=eX (Tr.shown b.g a c.date (Cal.begin_ b.g.Y b.g.M p));have T:Hid (Tr.item b e p c k=some ⟨c.id,k,c.ent,sh,l.prt,c.date,am⟩):=by show _=_;rw[az.out,hy,aq];rfl
 have br:=Z1 aq;clear hm hv hy J aq;obtain⟨f3,al⟩:=ae.out;have ag:=Z1 al.hb;have au:=Vq al.hb;clear al;go_upto_region 8 with(fail);have E:Below Q Q Q.drew:=Vw bR 1;refine Vs (S:=Below Q Q) kR ?_;change wpAnyH _ _ _ _ _ _ _ _ (World.drew Q);obtain⟨bs,b3⟩:=eX Q.drew;rw[<- b3] at E⊢;clear b3;refine jT 0 E ?_;refine jT 1 E ?_;refine jT 2 E ?_;refine jT 3 E ?_;refine jT 4 E ?_ (v:=b.g) (hy:=(Vf (by rfl) 29 _ rfl bd 0 rfl b.g _ (fun W' L=>fun j v hj=>by have:=cr9 j (gbox ag.out L au);rw[VN,this];exact a7x hj) VS rfl VJ));refine jT 5 E ?_;refine jT 6 E ?_;refine jT 7 E ?_ (v:=.int .i64 c.date) (hy:=(.inl ⟨by rfl,fun W' L=>by have c0:=cr9 2 (gbox a5.out L s3);simp at c0;have c9:=Vq (gbox a5.out L s3);go_simp⟩));refine jT 8 E ?_;refine jT 9 E ?_;refine jT 10 E ?_;refine jT 11 E ?_ (v:=.int .i64 p) (hy:=(.inl ⟨by rfl,fun W' L=>by have c0:=cr9 28 (gbox ag.out L au);simp at c0;have c9:=Vq (gbox ag.out L au);go_simp⟩));refine rZ 12 fun K hK=>?_;have ab:=bg.out.below (E.mono a0) (by have:=E.size;omega);have HC:=Z1 (b0f bs b.g a c.date p (ab.hb.hg.more ab.hB) ab.hv ab.hp bn.out);go_simp;refine HC.out.mono ?_;rintro ev W4 ⟨rfl,b2⟩;rw[<- br.out];have i:=E.trans (b2.mono E.size);refine jK hK i ?_;clear hK K;refine jT 13 i ?_;refine jT 14 i ?_;refine jT 15 i ?_;refine rZ 16 fun K hK=>?_;go_simp;refine jK hK i ?_;clear hK K;refine rZ 17 fun K hK=>?_;go_simp;refine jK hK i ?_;clear hK K;refine VF kR ?_ _
 try simp only[z]
 have aw:=Z1 (ad.out.trans (Kp.of (mk:=mk) i a0));have c1:B<=W4.heap.size:=by have:=i.size;omega
 have be:=Z1 (ae.out.below i);have a4:=gbox a5.out i s3;have aa:=gbox a7.out i bz;have ap:=gbox b1.out i bb;have y0:=cr9 0 a4;have y1:=cr9 1 a4;have y2:=cr9 2 a4;have l2:=cr9 2 ap;simp at y0 y1 y2 l2;have s4:=Vq a4;have cc:=Vq aa;have c6:=Vq ap;obtain⟨it,an⟩:=eX (⟨c.id,k,c.ent,sh,l.prt,c.date,am⟩:Itm);rw[<- an] at T;have Ho:Hid ((#[.int .i64 c.id,.int .i64 k,.int .i64 c.ent,.int .i64 sh,.int .i64 l.prt,.int .i64 c.date,.int .i64 am]:Array Value).all (·.oneCell')=true):=by show _=_;simp[Value.oneCell']
 have hR:=VC W4 (w.heap.size+1) _ #[.int .i64 c.id,.int .i64 k,.int .i64 c.ent,.int .i64 sh,.int .i64 l.prt,.int .i64 c.date,.int .i64 am] _ _ aa;have s:=Z1 (VW (P:=prog) _ _ _ 70 _ _ _ hR Zz rfl a0P);have o:=below_setRow (VM w W4) (show w.heap.size<=w.heap.size+1 by omega) #[.int .i64 c.id,.int .i64 k,.int .i64 c.ent,.int .i64 sh,.int .i64 l.prt,.int .i64 c.date,.int .i64 am]
 have HP:Hid (ItemPost B bd mk (nk+1) b e p la cur cv (Tr.item b e p c k) (Tr.itemErr b e p c k) w (.returned (.tuple #[it,.int .i64 0])) (W4.setRow (w.heap.size+1) #[.int .i64 c.id,.int .i64 k,.int .i64 c.ent,.int .i64 sh,.int .i64 l.prt,.int .i64 c.date,.int .i64 am])) :=
  Z1 ⟨aw.out.then_ o hB,by have:=o.size;omega,be.out.setRow _ (show bd≠w.heap.size+1 by omega) (show mk≠w.heap.size+1 by omega),it,0,rfl,by rw[HI.out,T.out];rfl,by simp[T.out],fun y h=>by rw[T.out] at h;cases h;rfl⟩
 rw[an] at HP;have bo:=Z1 aa;clear hR o an T E i b2 a4 aa ap;go_wp2_with (refine Vz rfl 70 (.tmp 6) (.tmp 74) none rfl rfl (w.heap.size+1) 70 _ #[.int .i64 c.id,.int .i64 k,.int .i64 c.ent,.int .i64 sh,.int .i64 l.prt,.int .i64 c.date,.int .i64 am] rfl rfl bo.out rfl a0P Ho.out ?_);exact VG (v:=.tuple #[.agg #[.int .i64 c.id,.int .i64 k,.int .i64 c.ent,.int .i64 sh,.int .i64 l.prt,.int .i64 c.date,.int .i64 am],.int .i64 0]) (by simp[results,results87,asAddr,Act.put,s.out]) rfl HP.out
theorem b4J (a c:BA):(!(a.toList==c.toList))=decide (a≠c):=by
 by_cases h:a=c
 ·subst h;simp
 ·have:a.toList≠c.toList:=fun e=>h (Rt.toList_inj e)
  simp[h,this]
theorem a1O {b:Bks} {j:Nat} {v:Value} (a:(b.g:List Value)[j]?=some v):(b:AV)[j]?=some v:=by
 have i:j<21:=by have:=(List.getElem?_eq_some_iff.1 a).1;simpa using this
 have:(b:AV)=(b.g++#[.slice b.eA b.en b.ec,.slice b.rA b.rn b.rc,.slice b.hA b.hn b.hc,b.m0,b.m1,b.m2]:AV):=rfl;rw[this,Array.getElem?_append_left (by simpa using i)];simpa using a
theorem a1b:(prog.info? 36).map (·.size)=some 27:=kR
theorem b1b (B bd:Nat) (b:Bks) (e:Nat) (p la:Int) (hd:w.heap[bd]?=some (.cells #[.string b.g.cur,.int .i64 b.g.Y,.int .i64 b.g.M,.int .i64 b.g.N,.slice b.g.cA b.g.cn b.g.cc,.int .i64 b.g.r0,.int .i64 b.g.r1,.int .i64 b.g.r2,.int .i64 b.g.r3,.int .i64 b.g.r4,.int .i64 b.g.r5,.int .i64 b.g.r6,.int .i64 b.g.r7,.int .i64 b.g.r8,.int .i64 b.g.r9,.int .i64 b.g.r10,.int .i64 b.g.r11,.int .i64 b.g.r12,.int .i64 b.g.r13,.int .i64 b.g.r14,.slice b.g.eA b.g.en b.g.ec,.slice b.eA b.en b.ec,.slice b.rA b.rn b.rc,.slice b.hA b.hn b.hc,b.m0,b.m1,b.m2,.int .i64 0,.int .i64 p,.int .i64 la,.map none,.string ⟨#[]⟩,.bool false] 172 (0,0))) (E:B<=bd) (hb:b.At w B) (he:e<b.g.ents.length) :
  Calls prog 137 #[.pointer (some ⟨bd,0,none⟩),.int .i64 e] w fun ev w'=>ev=.returned (.tuple #[])/\Below B w w'/\∃mk,Desks B w' bd mk 0 b e p la (Gr.eat b.g.ents e).cur (decide ((Gr.eat b.g.ents e).cur≠b.g.cur)):=by
 have sd:=Vq hd;obtain⟨x,hx⟩:=eX (Gr.eat b.g.ents e);have ah:b.g.ents[e]=x:=by rw[hx];unfold Gr.eat;simp[he]
 obtain⟨be,oe,a6,aq,a0⟩:=RowsAt.look hb.hg.he he;rw[ah] at a0;rw[<- hx];have ay:(e:Int)<(b.g.en:Int):=by have:=hb.hg.hel;omega
 have ax:(0:Int)<=(e:Int):=oM;have b0:be≠bd:=oM;have b1:be<w:=oM;have ai:=cr9 27 hd;have zf:=fun j=>fr0 j hd;simp at ai;have i:=Xh w bd 27 _ _ (.int .i64 e) hd;simp at i;obtain⟨W1,T⟩:=eX (w.setCell ⟨bd,27,none⟩ (.int .i64 e));rw[<- T] at i;have Q:Below B w W1:=by rw[T];exact bR.setCell (p:=⟨bd,27,none⟩) E _
 obtain⟨an,ap,aw,ak,av⟩:=Z5 T i a0 Q a6;have ab:=cr9 20 i;have aj:=cr9 31 i;have au:=fun j=>fr0 j i;simp at ab aj;rw[a6] at ab;have e1:W1.cell? ⟨be,oe+e*5+1,none⟩=some (.string x.cur):=(Q.cell (p:=⟨be,oe+e*5+1,none⟩) aq).trans (a0 1 _ rfl);have b3:=Vq i;have b2:be<W1:=by have:=Q.size;omega
 clear hd T i Q hx ah a0 a6 hb;go_enter func137,ntmps137;go_upto_region 1 with(fail);rw[<- an];have J:=Xh W1 bd 31 _ _ (.string x.cur) ap;simp at J;obtain⟨W2,W⟩:=eX (W1.setCell ⟨bd,31,none⟩ (.string x.cur));rw[<- W] at J;have al:Hid (Below B w W2):=by show Below _ _ _;rw[W];exact ak.setCell (p:=⟨bd,31,none⟩) E _
 have ao:=Z1 W;have a5:=Z1 J;have b4:=Vq J;clear W J;go_upto_region 2 with(fail);rw[<- ao];clear ai zf ab aj au e1;have o:(fun W':World=>∃v:Value,W'.heap[bd]?=some (.cells #[.string b.g.cur,.int .i64 b.g.Y,.int .i64 b.g.M,.int .i64 b.g.N,.slice b.g.cA b.g.cn b.g.cc,.int .i64 b.g.r0,.int .i64 b.g.r1,.int .i64 b.g.r2,.int .i64 b.g.r3,.int .i64 b.g.r4,.int .i64 b.g.r5,.int .i64 b.g.r6,.int .i64 b.g.r7,.int .i64 b.g.r8,.int .i64 b.g.r9,.int .i64 b.g.r10,.int .i64 b.g.r11,.int .i64 b.g.r12,.int .i64 b.g.r13,.int .i64 b.g.r14,.slice b.g.eA b.g.en b.g.ec,.slice b.eA b.en b.ec,.slice b.rA b.rn b.rc,.slice b.hA b.hn b.hc,b.m0,b.m1,b.m2,.int .i64 e,.int .i64 p,.int .i64 la,.map none,.string x.cur,v] 172 (0,0))) W2.drew:=⟨_,a5⟩;refine Vs (S:=fun W':World=>∃v:Value,W'.heap[bd]?=some (.cells #[.string b.g.cur,.int .i64 b.g.Y,.int .i64 b.g.M,.int .i64 b.g.N,.slice b.g.cA b.g.cn b.g.cc,.int .i64 b.g.r0,.int .i64 b.g.r1,.int .i64 b.g.r2,.int .i64 b.g.r3,.int .i64 b.g.r4,.int .i64 b.g.r5,.int .i64 b.g.r6,.int .i64 b.g.r7,.int .i64 b.g.r8,.int .i64 b.g.r9,.int .i64 b.g.r10,.int .i64 b.g.r11,.int .i64 b.g.r12,.int .i64 b.g.r13,.int .i64 b.g.r14,.slice b.g.eA b.g.en b.g.ec,.slice b.eA b.en b.ec,.slice b.rA b.rn b.rc,.slice b.hA b.hn b.hc,b.m0,b.m1,b.m2,.int .i64 e,.int .i64 p,.int .i64 la,.map none,.string x.cur,v] 172 (0,0))) kR ?_;change wpAnyH _ _ _ _ _ _ _ _ (World.drew W2);obtain⟨W_0,X⟩:=eX W2.drew;have s:=a5.out;have ad:Below B w W_0:=by rw[X];exact Vw al 1
 have s:W_0.heap[bd]?=some (.cells #[.string b.g.cur,.int .i64 b.g.Y,.int .i64 b.g.M,.int .i64 b.g.N,.slice b.g.cA b.g.cn b.g.cc,.int .i64 b.g.r0,.int .i64 b.g.r1,.int .i64 b.g.r2,.int .i64 b.g.r3,.int .i64 b.g.r4,.int .i64 b.g.r5,.int .i64 b.g.r6,.int .i64 b.g.r7,.int .i64 b.g.r8,.int .i64 b.g.r9,.int .i64 b.g.r10,.int .i64 b.g.r11,.int .i64 b.g.r12,.int .i64 b.g.r13,.int .i64 b.g.r14,.slice b.g.eA b.g.en b.g.ec,.slice b.eA b.en b.ec,.slice b.rA b.rn b.rc,.slice b.hA b.hn b.hc,b.m0,b.m1,b.m2,.int .i64 e,.int .i64 p,.int .i64 la,.map none,.string x.cur,.bool false] 172 (0,0)):=by rw[X];exact a5
 rw[<- X] at o⊢;clear X;refine jT 0 o ?_;refine jT 1 o ?_;refine jT 2 o ?_;refine jT 3 o ?_;refine jT 4 o ?_ (v:=.string x.cur) (hy:=(.inl ⟨by rfl,fun W' a8=>by obtain⟨vv,O⟩:=a8;have c0:=cr9 31 O;simp at c0;have c9:=Vq O;go_simp⟩));refine jT 5 o ?_;refine jT 6 o ?_;refine jT 7 o ?_;refine jT 8 o ?_;refine jT 9 o ?_;refine jT 10 o ?_ (v:=.string b.g.cur) (hy:=(.inl ⟨by rfl,fun W' a8=>by obtain⟨vv,O⟩:=a8;have c0:=cr9 0 O;simp at c0;have c9:=Vq O;go_simp⟩));refine jT 11 o ?_ (v:=.bool (!(x.cur.toList==b.g.cur.toList)));refine jT 12 o ?_;refine jT 13 o ?_;refine rZ 14 fun K hK=>?_;have c0:=cr9 32 s;simp at c0;have cf:=fun j=>fr0 j s;have s3:=Vq s;go_simp;have a:=Xh W_0 bd 32 _ _ (.bool (!(x.cur.toList==b.g.cur.toList))) s;simp at a;refine jK hK ⟨_,a⟩ ?_;clear hK K;refine VF kR ?_ _
 try simp only[z]
 rw[b4J] at a⊢;obtain⟨cv,ae⟩:=eX (decide (x.cur≠b.g.cur));rw[<- ae] at a⊢;obtain⟨W4,a9⟩:=eX (W_0.setCell ⟨bd,32,none⟩ (.bool cv));have am:Hid (Below B w W4):=by show Below _ _ _;rw[a9];exact ad.setCell (p:=⟨bd,32,none⟩) E _
 rw[<- a9] at a⊢;have ar:=cr9 30 a;have b5:=fun j=>fr0 j a;simp at ar;have s4:=Vq a;have L:=Xh W4 bd 30 _ _ (.map (some W4)) a;simp at L;obtain⟨W5,I⟩:=eX (W4.setCell ⟨bd,30,none⟩ (.map (some W4)));have ag:(W5:Nat)=W4:=by rw[I];simp
 rw[<- I] at L;have af:=gbox L (bR.alloc (Yh W5) (.map #[] 0)) (Vq L);have aa:=MapAt.made W5 prog 317;rw[ag] at aa;have a7:Below B w W5:=by rw[I];exact am.setCell (p:=⟨bd,30,none⟩) E _
 have ac:=Z1 (a7.alloc (by have:=a7.size;omega) (.map #[] 0))
 have a4:Hid (Desks B (W5.alloc (.map #[] 0)) bd W4.heap.size 0 b e p la x.cur cv) :=
  ⟨_,af,E,oM,aa,fun bs d v hv=>by cases hv⟩
 rw[I] at ac a4;rw[ae] at a4;have az:=@ZS prog;clear o s ad c0 cf s3 a a9 L aa af ag a7 I;go_wp2
 go_end0
 exact⟨rfl,ac,W4,a4⟩
def Tr.okAt (b:Bks) (e:Nat) (p:Int):Prop:=Tr.valid b/\e<b.g.ents.length/\0<=p/\p<b.g.N
theorem Tr.valid_ok {b:Bks} (h:Tr.valid b):Gr.valid b.g:=by
 unfold Tr.valid Jr.ok at h;simp only[Vp] at h;exact h.1.1
def OpenPost (b:Bks) (e:Nat) (p:Int) (w:World) (a:Ending) (w':World):Prop :=
 Below w w w'/\((¬ Tr.okAt b e p/\∃n,n≠0/\(n=if Tr.valid b then 2 else 1)/\a=.returned (.tuple #[.pointer none,.int .i64 n])) ∨
  (Tr.okAt b e p/\∃bd mk,a=.returned (.tuple #[.pointer (some ⟨bd,0,none⟩),.int .i64 0]) /\
   Desks w w' bd mk 0 b e p (Cal.last b.g.Y b.g.M p) (Gr.eat b.g.ents e).cur (decide ((Gr.eat b.g.ents e).cur≠b.g.cur)) /\
   Dk w w' b e p (Cal.last b.g.Y b.g.M p) (Gr.eat b.g.ents e).cur (decide ((Gr.eat b.g.ents e).cur≠b.g.cur))))
theorem b2n (b:Bks) (e:Nat) (p:Int) (hb:b.At w w) :
  Calls prog 82 #[b,.int .i64 e,.int .i64 p,.bool false] w (OpenPost b e p w):=by
 obtain⟨W1,ag,O,a8,hz⟩:=nw1 w b 36;obtain⟨HW,HB,i⟩:=Z3 ag hb (hb.at_ O);have s1:(w:Nat)<W1:=oM;have ad:=Z1 a8;have av:Hid (∀j v,(b.g:List Value)[j]?=some v->W1.cell? ⟨w,0+j,none⟩=some v):=fun j v hj=>by have:=cr9 j ad;rw[VN,this];exact a1O hj
 have aj:=cr9 21 a8;simp at aj;have HP:=Z1 (show Tr.okAt b e p ↔ _ from Iff.rfl);clear ag hz a8 hb;go_enter func82,ntmps82;go_upto_region 1 with(fail);rw[<- HW];go_wp2_with (refine Vv (by rfl) 29 (.tmp 16) rfl w.heap.size 0 rfl _ _ av.out VS rfl VJ ?_);refine(a4L W1 b.g b.eA b.en b.ec b.ents i.out.hg i.out.hel i.out.hen i.out.hE i.out.hEx).mono ?_;rintro ev W2 ⟨⟨i0,n0,rfl,I⟩,Q⟩;have a0:=O.trans (Q.mono O.size);have E:=gbox ad Q s1;have x0:=cr9 0 E;have ak:=cr9 22 E;simp at x0 ak;have s2:(w:Nat)<W2:=Vq E;obtain⟨an,o,W⟩:=Z3 E (i.out.at_ Q) a0;clear E Q O a0 aj
 by_cases hk:n0=0
 case neg =>
  have b1:(n0 != 0):=by simpa using hk
  have HV:Hid (¬ Tr.okAt b e p):=fun h=>hk (I.2 (by have:=h.1;unfold Tr.valid at this;simp only[Vp] at this;exact this.1))
  have a4:Hid (Tr.valid b=false):=by
   show _=_;unfold Tr.valid;cases hj:Jr.ok b.g (b.ents.map (·.c)) with
   |false=>rfl
   |true=>exact absurd (I.2 hj) hk
  clear I;go_wp2
  go_ret2
  exact⟨W,.inl ⟨HV,1,dC,by rw[a4];rfl,rfl⟩⟩
 subst hk;have HJ:Hid (Jr.ok b.g (b.ents.map (·.c))):=I.1 rfl;clear I;go_wp2_with (fail);refine(a1j W2 b.rA b.rn b.rc b.rates b.g.cur o.out.hrl (by have:=o.out.hrn;omega) o.out.hg.hn o.out.hRw o.out.hR).mono ?_;rintro ev W3 ⟨rfl,S⟩;have a:=bT W S;have T:=gbox an S s2;have s3:(w:Nat)<W3:=Vq T;have x4:=cr9 20 T;simp at x4;have L:=Z1 T;have ar:=Z1 (o.out.at_ S);have b0:=ar.out.hg.hel;clear T S x0 ak
 cases hr:Rates.valid b.g.cur b.rates with
 |false =>
  have HV:Hid (¬ Tr.okAt b e p):=fun h=>by have:=h.1;unfold Tr.valid at this;rw[hr,Yc] at this;cases this
  have a4:Hid (Tr.valid b=false):=by show _=_;unfold Tr.valid;rw[hr,Yc]
  clear hr;go_wp2
  go_ret2
  exact⟨a,.inl ⟨HV,1,dC,by rw[a4];rfl,rfl⟩⟩
 |true =>
 have HV:Hid (Tr.valid b):=by show _=_;unfold Tr.valid;rw[HJ,hr];rfl
 have HG:=Z1 (Tr.valid_ok HV);clear hr HJ;have az:(decide ((e:Int)<0))=false:=sP
 by_cases he:e<b.g.en
 case neg =>
  have au:decide ((e:Int) ≥ (b.g.en:Int)):=sO;have HN:Hid (¬ Tr.okAt b e p):=fun h=>he (by have:=h.2.1;omega);clear HG;go_wp2
  go_ret2
  exact⟨a,.inl ⟨HN,2,dC,by rw[HV];rfl,rfl⟩⟩
 have au:decide ((e:Int) ≥ (b.g.en:Int))=false:=sO;have x1:=cr9 1 L;have x2:=cr9 2 L;have x3:=cr9 3 L;simp at x1 x2 x3
 by_cases hc:Cal.err b.g.Y b.g.M b.g.N p=0
 case neg =>
  have ax:(Cal.err b.g.Y b.g.M b.g.N p != 0):=by simpa using hc
  have HN:Hid (¬ Tr.okAt b e p):=fun h=>hc ((Cal.err_zero _ _ _ _).2 ⟨Gr.cal_ok HG,h.2.2.1,h.2.2.2⟩);have Hc:=Z1 hc;clear hc;go_wp2_with (fail);refine(a4k b.g.Y b.g.M b.g.N p W3 Hc).mono ?_;rintro ev W4 ⟨rfl,s⟩;have J:=bT a s;go_wp2
  go_ret2
  exact⟨J,.inl ⟨HN,2,dC,by rw[HV];rfl,rfl⟩⟩
 have hp:=((Cal.err_zero _ _ _ _).1 hc).2;have Hc:=Z1 hc;have HY:Hid (Tr.okAt b e p):=⟨HV,oM,hp.1,hp.2⟩;clear hc hp;go_wp2_with (fail);refine(a2N b.g.Y b.g.M b.g.N p W3 Hc).mono ?_;rintro ev W4 ⟨rfl,s⟩;have X:=bT a s;have a9:=gbox L s s3;have ao:=Z1 a9;have s4:(w:Nat)<W4:=Vq a9;have ab:(w:Nat)<=W4:=XC s4;have ae:=Z1 (HB.below X lR);obtain⟨la,aa⟩:=eX (Cal.last b.g.Y b.g.M p);have a5:=Z1 aa;rw[<- aa];clear a9 s x1 x2 x3 x4 aa;go_upto_region 9 with(fail);go_upto_region 11 with(refine Vd rfl 36 _ rfl _ rfl _ _ _ _ ao Zg rfl a1b ?_);have aq:=ae.out;obtain⟨W5,ah,a6,ai,aw⟩:=nw1 W4 #[.string b.g.cur,.int .i64 b.g.Y,.int .i64 b.g.M,.int .i64 b.g.N,.slice b.g.cA b.g.cn b.g.cc,.int .i64 b.g.r0,.int .i64 b.g.r1,.int .i64 b.g.r2,.int .i64 b.g.r3,.int .i64 b.g.r4,.int .i64 b.g.r5,.int .i64 b.g.r6,.int .i64 b.g.r7,.int .i64 b.g.r8,.int .i64 b.g.r9,.int .i64 b.g.r10,.int .i64 b.g.r11,.int .i64 b.g.r12,.int .i64 b.g.r13,.int .i64 b.g.r14,.slice b.g.eA b.g.en b.g.ec,.slice b.eA b.en b.ec,.slice b.rA b.rn b.rc,.slice b.hA b.hn b.hc,b.m0,b.m1,b.m2,.int .i64 0,.int .i64 p,.int .i64 la,.map none,.string ⟨#[]⟩,.bool false] 172;obtain⟨am,ac,af,ap⟩:=Z4 ah (X.out.trans (a6.mono ab)) (ae.below a6 ab) ai;clear ah a6 ai aw aq;rw[<- am];go_wp2_with (fail);refine(b1b W5 w W4 b e p la ap ab af HY.2.1).mono ?_;rintro ev W6 ⟨rfl,a7,mk,hD⟩;have J:=Z1 (ac.out.trans a7)
 have al:Hid (Dk w W6 b e p la (Gr.eat b.g.ents e).cur (decide ((Gr.eat b.g.ents e).cur≠b.g.cur))) :=
  ⟨J.size,af.below a7 lR,HG,HY.2.1,HY.2.2,a5,rfl,rfl⟩
 have HD:=Z1 hD;obtain⟨cv,ay⟩:=eX (decide ((Gr.eat b.g.ents e).cur≠b.g.cur));clear a7 hD;go_wp2
 go_ret2
 exact⟨J,.inr ⟨HY,W4,mk,rfl,by rw[<- a5];exact HD,by rw[<- a5];exact al⟩⟩
end Go.Proofs.YtbhdekahdnenjaaGreatDoor
