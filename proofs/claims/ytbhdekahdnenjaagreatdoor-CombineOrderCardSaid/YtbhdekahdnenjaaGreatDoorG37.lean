/- Lemmas. -/
import Derived.Test.YtbhdekahdnenjaaGreatDoorG36
set_option linter.unusedVariables false
set_option linter.unusedSimpArgs false
set_option maxRecDepth 100000
set_option maxHeartbeats 16000000
namespace Go.Proofs.YtbhdekahdnenjaaGreatDoor
open Go.Proofs.Tryz Go.RowKit
variable (w:World)
def Cb.its (g:Grp) (a:Itv) (i la:Int) (full:List Itv) (N D:Int) (its:LT):Option (List Itm) :=
 if a.meth=3 then some (its.map (Cb.acq g a.frm)) else if a.meth=2 then Cb.scaled N D (its.map (Cb.acq g a.frm)) else some (its.filter (Iv.gone g i la full))
def Cb.full (b:Bks) (p:Int) (L:List Itv):List Itv:=L.filter (fun x=>!Iv.off (Cal.begin_ b.g.Y b.g.M p) (Cal.last b.g.Y b.g.M p) x)
def CtnOf (b:Bks) (e:Nat) (p:Int) (L:List Itv) (a:Itv) (N D:Int) (its i:LT):Prop :=
 (a.meth=0/\(Cb.full b p L).length=0/\its=[]/\i=[])∨(¬ (a.meth=0/\(Cb.full b p L).length=0)/\∃l,Tr.items b e p=some l/\Cb.its b.g a (Cal.begin_ b.g.Y b.g.M p) (Cal.last b.g.Y b.g.M p) (Cb.full b p L) N D l=some its/\its.length<=3660/\i=if a.meth=1 then l.map (Cb.acq b.g a.frm) else[])
structure RI2 (w:World) (B K:Nat) (u v:Value) (N D N' D':Int):Prop where
 a:RI w B K K u N D
 b:RI w B K K v N' D'
def OfErr (b:Bks) (e:Nat) (p:Int) (L:List Itv) (a:Itv) (Q:Int->Int->Int->Prop) (n:Int):Prop :=
 ¬ (a.meth=0/\(Cb.full b p L).length=0)/\((Tr.items b e p=none/\n=Tr.err b e p)∨∃l N D,Tr.items b e p=some l/\Q (Cal.last b.g.Y b.g.M p) N D/\Cb.its b.g a (Cal.begin_ b.g.Y b.g.M p) (Cal.last b.g.Y b.g.M p) (Cb.full b p L) N D l=none/\n=2)
def OfPost (b:Bks) (e:Nat) (p:Int) (L:List Itv) (a:Itv) (K:Nat) (Q:Int->Int->Int->Prop) (w:World) (o:Ending) (w':World):Prop :=
 Below w w w'/\(((Tr.items b e p=none∨a.meth=2)/\∃n,n≠0/\OfErr b e p L a Q n/\o=.returned (.tuple #[Ctn.zero.v,.int .i64 n])) ∨
  ∃(its i:LT) (x:Ctn) (N D N' D':Int),o=.returned (.tuple #[x.v,()])/\x.ent=e/\x.meth=a.meth/\x.since=a.frm/\x.n=its.length/\x.m=i.length /\
   RowsAt Itm.cells 7 w' w' x.A its/\RowsAt Itm.cells 7 w' w' x.B i/\Fresh w x.A/\Fresh w x.B/\RI2 w' w' K x.s.v x.f.v N D N' D'/\CtnOf b e p L a N D its i/\Q (Cal.last b.g.Y b.g.M p) N D/\Q a.frm N' D')
theorem a2A {α:Type}:∀(l:List (Option α)) (s:List α),allSome l=some s->s.length=l.length
 |[],s,h=>by cases h;rfl
 |none::_,_,h=>by cases h
 |some y::l,s,h=>by
  unfold allSome at h
  cases a:allSome l with
  |none=>rw[a] at h;cases h
  |some r =>
   rw[a] at h
   cases h
   rw[Xl,Xl,a2A l r a]
theorem Cb.scaled_len {N D:Int} {l r:LT} (h:Cb.scaled N D l=some r):r.length=l.length:=by
 have:=a2A _ _ h
 rwa [Xt] at this
theorem RI.keepS {w w':World} {k j:Nat} {v:Value} {N D:Int} {S:Nat->Prop} (h:RI w w k j v N D) (i:∀b,S b->∃(cs:AV) (t:TypeId) (J:Nat × Nat),w.heap[b]?=some (Obj.cells cs t J)/\∀(j:Nat) (n:Int),cs[j]?≠some (.int .u32 n)) (a:KeepX S w w'):RI w' w' k j v N D:=by
 obtain⟨L,o,W,E,O,s,X,I,e,Q,T⟩:=h;exact RI.more ⟨L,o,W,E,O,s,X,I,e,Q.others i a.block,T.others i a.block⟩ a.size lR lR
section
variable {w w':World} {K:Nat} {u v:Value} {N D N' D':Int}
theorem RI2.at_ (h:RI2 w w K u v N D N' D') (a:Below w w w'):RI2 w' w' K u v N D N' D':=⟨h.a.at_ a,h.b.at_ a⟩
theorem RI2.other {B b:Nat} {cs:AV} {t:TypeId} {s:Nat × Nat} (h:RI2 w B K u v N D N' D') (i:w.heap[b]?=some (.cells cs t s)) (a:∀(j:Nat) (n:Int),cs[j]?≠some (.int .u32 n)) (o:∀c,c≠b->w'.heap[c]?=w.heap[c]?):RI2 w' B K u v N D N' D':=⟨h.a.other i a o,h.b.other i a o⟩
theorem RI2.keepS {S:Nat->Prop} (h:RI2 w w K u v N D N' D') (a:∀b,S b->∃(cs:AV) (t:TypeId) (o:Nat × Nat),w.heap[b]?=some (Obj.cells cs t o)/\∀(j:Nat) (n:Int),cs[j]?≠some (.int .u32 n)) (i:KeepX S w w'):RI2 w' w' K u v N D N' D':=⟨h.a.keepS a i,h.b.keepS a i⟩
end
theorem a1F (n:Nat):Fresh n none:=fun a h=>by cases h
theorem b4n (b:Bks) (e:Nat) (p:Int) (L:List Itv) (o:Itv) (K:Nat) (Q:Int->Int->Int->Prop) (hb:b.At w w) (he:e<b.g.ents.length) (fw:Cal.ok b.g.Y b.g.M b.g.N) (hp:0<=p/\p<b.g.N)
  (hL:L.length<=1000) (hm:o.meth=0∨o.meth=1∨o.meth=2∨o.meth=3) (hK:6*K+1000<=10000000000)
  (hC:∀W:World,b.At W W.heap.size->Calls prog 35 #[b.g,.slice b.hA b.hn b.hc,e,(Cal.last b.g.Y b.g.M p)] W (CurPost o W))
  (hE:∀(W:World) (d:Int),(d=Cal.last b.g.Y b.g.M p∨d=o.frm)->b.At W W.heap.size->Calls prog 36 #[b,e,d] W (EffPost K Q d W))
  (hI:∀W:World,b.At W W.heap.size->Calls prog 75 #[b.g,.slice b.hA b.hn b.hc,e] W (IvsPost L W)) :
  Calls prog 16 #[b,e,p] w (OfPost b e p L o K Q w):=by
 obtain⟨W1,fl,e3,bv,ei,hz⟩:=nw2 w b ZC 36 55;obtain⟨HW,dh,el,dp,dx⟩:=Z5 fl (hb.at_ e3) e3 bv ei;have T:=cr9 1 bv;have x2:=cr9 2 bv;have x3:=cr9 3 bv;simp at T x2 x3;have s0:=Vq bv;have s1:=Vq ei;have i1:e<b.g.en:=by have:=hb.hg.hel;omega
 obtain⟨HC,HE,HI,Hm⟩:=Z4 hC hE hI hm;have h0:Cal.err b.g.Y b.g.M b.g.N p=0:=(Cal.err_zero _ _ _ _).2 ⟨fw,hp.1,hp.2⟩;have H0:=Z1 h0;obtain⟨la,b1⟩:=eX (Cal.last b.g.Y b.g.M p);have bt:=Z1 b1;have gb:Hid (∀W,CL 33 #[.agg #[b.g.Y,b.g.M,b.g.N],p] W (.tuple #[la,()])):=Z1 (fun W=>by rw[b1];exact a2N b.g.Y b.g.M b.g.N p W h0);obtain⟨fi,ec⟩:=eX (Cal.begin_ b.g.Y b.g.M p);have ga:Hid (∀W,CL 34 #[.agg #[b.g.Y,b.g.M,b.g.N],p] W (.tuple #[.int .i64 fi,()])):=Z1 (fun W=>by rw[ec];exact a4W b.g.Y b.g.M b.g.N p W h0);rw[<- b1] at HC HE;have du:=Z1 ec;have n1:¬ (e:Int)<0:=oM;have n2:¬ (e:Int) ≥ (b.g.en:Int):=oM;clear fl hz bv ei hb e3 hC hE hI b1 ec h0 fw hp he hm;go_enter func16,ntmps16;go_upto_region 1 with(fail);rw[<- HW];go_wp2_with (fail);refine(gb _).mono ?_;rintro ev W2 ⟨rfl,e4⟩;have c4:=gB dp e4 s0;have y1:=cr9 1 c4;have y2:=cr9 2 c4;have y3:=cr9 3 c4;have g5:=cr9 20 c4;simp at y1 y2 y3 g5;have s2:=Vq c4;have em:=Z1 e4;clear T x2 x3 e4;go_wp2_with (fail);refine(ga _).mono ?_;rintro ev W3 ⟨rfl,fe⟩;have eh:=em.out.size;have ca:=em.out.trans (fe.mono eh);have gu:=ca.size;obtain⟨W4,fm,ff,fz,h6⟩:=nw1 W3 #[fi,la] 91;have gg:=Z1 fm;have bg:=Z1 (ca.trans (ff.mono gu));obtain⟨en,dq,gn⟩:=Z3 (dh.at_ bg) (gbox dp bg s0) fz;have fy:Hid (∀j v,(b.g:List Value)[j]?=some v->W4.cell? ⟨w,0+j,none⟩=some v):=fun j v hj=>by have:=cr9 j dq;rw[VN,this];exact a1O hj
 have g4:=cr9 23 dq;simp at g4;have s4:=Vq dq;have s3:(W3:Nat)<W4:=oM;have gv:=bg.out.size;clear y1 y2 y3 g5 fe ca fm ff fz h6;go_upto_region 6 with(fail);rw[<- gg];go_wp2_with (refine Vv (by rfl) 29 (.tmp 52) rfl w.heap.size 0 rfl _ _ fy.out VS rfl VJ ?_);refine(HC W4 en).mono ?_;rintro ev W5 ⟨e5,rfl⟩;obtain⟨W6,fn,fg,fu,h7⟩:=nw1 W5 #[o.frm,o.to,o.meth] 93;have gh:=Z1 fn;have gw:=e5.size;have cd:=e5.trans (fg.mono gw);have bh:=Z1 (bg.out.trans (cd.mono gv));have c2:=Z1 (dh.at_ bh);have ct:=Z1 (gbox dp bh s0);have f6:=gB gn cd s3;have ba:=Z1 fu;have s6:=Vq ct;have s7:=Vq ba;have s8:=Vq f6;have gx:=bh.out.size;clear g4 fy e5 fn fg fu h7 cd;go_upto_region 7 with(fail);rw[<- gh];go_upto_region 9 with(fail);have z0:=cr9 0 ba;have z2:=cr9 2 ba;simp at z0 z2;have hS:Below W6 W6 W6.drew:=Vw bR 1;refine Vs (S:=Below W6 W6) kR ?_;change wpAnyH _ _ _ _ _ _ _ _ (World.drew W6);obtain⟨ax,fp⟩:=eX W6.drew;rw[<- fp] at hS⊢;clear fp;refine jT 0 hS ?_;refine jT 1 hS ?_;refine jT 2 hS ?_ (v:=.int .i64 o.meth) (hy:=(.inl ⟨by rfl,fun W' J=>by have c0:=(J.cell (p:=⟨W5,2,none⟩) oM).trans z2;have c9:=Vq (gbox ba J s7);go_simp⟩));refine jT 3 hS ?_;refine jT 4 hS ?_ (v:=.int .i64 o.frm) (hy:=(.inl ⟨by rfl,fun W' J=>by have c0:=(J.cell (p:=⟨W5,0,none⟩) oM).trans z0;have c9:=Vq (gbox ba J s7);go_simp⟩));refine jT 5 hS ?_ (v:=b) (hy:=(Vf (by rfl) 36 _ rfl w.heap.size 0 rfl b _ (fun W' J=>Xq (gbox ct J s6)) Zg rfl a1b));refine jT 6 hS ?_;refine jT 7 hS ?_;refine jT 9 hS ?_ (v:=b) (hy:=(Vf (by rfl) 36 _ rfl w.heap.size 0 rfl b _ (fun W' J=>Xq (gbox ct J s6)) Zg rfl a1b));refine jT 10 hS ?_;refine jT 11 hS ?_;refine jT 12 hS ?_ (v:=.int .i64 o.frm) (hy:=(.inl ⟨by rfl,fun W' J=>by have c0:=(J.cell (p:=⟨W5,0,none⟩) oM).trans z0;have c9:=Vq (gbox ba J s7);go_simp⟩));have fk:=hS.size;refine a0w fun d2 bp Q' a' ck cn co b1=>?_;obtain⟨RG,bu⟩:=eX (Below W6 W6:World->Prop);rw[<- bu] at hS⊢
 have n3:∀(m:Nat) (W:World) (T:Rn) (N1 D1:Int) (x2:Rn) (N2 D2:Int) (bf:Bool) (vf:Value) (pf:Nat),1+cond bf 0 1<=m->RG W->ax.heap.size<=W.heap.size->(RI W W K K T.v N1 D1)->(Hid (Q la N1 D1))->(RI W W K K x2.v N2 D2)->(Hid (Q o.frm N2 D2))->Mk ax W bf vf pf ZC 55->wpAnyH prog d2 bp Q' RG m #[true,true,true,true,true,true,true,true,true,true,true,true,true,true,true,bf,false] ((((a'.put (some 73) (T.v)).put (some 78) (x2.v)).put (some 79) ((.agg (CT e o T x2 none 0 0 none 0 0)))).put (some 14) vf) W:=by
  intro m
  induction m with
  |zero=>intros;omega
  |succ m ih =>
  intro W T N1 D1 x2 N2 D2 bf vf pf hm hS hz F1 F0 F2 F3 Hf;subst ck cn co b1 bu
  try simp only[z]
  by_cases hb:bf
  rotate_left
  ·refine Xc (rs:=(cond bf [] [15]++[])) (by revert hb;cases bf <;> intro hb <;> first|exact absurd dC hb|kernel_rfl) (by revert hb;cases bf <;> decide) (ropt (fun hf=>.cons rfl (fun K hK=>?_) .nil) .nil)
   ·subst hf
    obtain⟨W',au,hB,av,_⟩:=nw1 W ZC 55;go_simp;rw[<- au];clear au;have J:=hS.trans (hB.mono hS.size);refine jK hK J ?_;clear hK K;have hn:=ih W' T N1 D1 x2 N2 D2 true (.pointer (some ⟨W,0,none⟩)) W (by simp only[YP,Y6] at hm⊢;omega) J (Vn hz hB.size) (F1.at_ hB) (F0) (F2.at_ hB) F3 (fun _=>⟨rfl,hz,av⟩) 
    try simp only[z] at hn
    exact hn
  subst hb;obtain⟨rfl,gf,hf⟩:=Hf rfl;clear ih hm;have eo:Hid (RI2 W W K T.v x2.v N1 D1 N2 D2):=Z1 ⟨F1,F2⟩;clear F1 F2;unfold Rn.v;refine rZ 16 fun K hK=>?_;rw[Vt (by rfl)];refine VQ 55 _ _ none rfl rfl pf 55 _ (CT e o T x2 none 0 0 none 0 0) rfl rfl hf rfl a0x oC ?_;have b0:=below_setRow hS (Vn (show(W6:Nat)<=ax from fk) gf) (CT e o T x2 none 0 0 none 0 0);refine jK hK b0 ?_;clear hK K;refine VF kR ?_ _
  try simp only[z]
  have cz:=VC W pf _ (CT e o T x2 none 0 0 none 0 0) _ _ hf;have F1:=(eo.other (w':=W.setRow pf (CT e o T x2 none 0 0 none 0 0)) hf (none13 _ rfl) (fun c hc=>Vl _ _ _ _ hc));obtain⟨W7,ea⟩:=eX (W.setRow pf (CT e o T x2 none 0 0 none 0 0));have ha:(W7:Nat)=W:=by rw[ea];simp
  rw[<- ea] at b0 cz F1⊢;rw[<- ha] at F1;have gp:W6<=pf:=Vn fk gf;obtain⟨gc,g7,hx⟩:=Z3 cz F1 b0;have i2:=b0.size;have hk:=Vq cz;have bz:=Z1 (bh.out.trans (b0.mono gx));have d3:=Z1 (c2.at_ b0);have ex:=gB ct b0 s6;have f7:=gB f6 b0 s8;have gm:=gB ba b0 s7;have i0:=Z1 (gbox dx bz s1);clear ea b0 cz F1 hS hf hz gf eo z0 z2;have d8:=f7.out;have d9:=ex.out;have gj:=Z1 (b2O W7 b e fi la L hL d3 HI);go_wp2_with (first|(refine Vd rfl 91 _ rfl _ rfl _ _ _ _ d8 underlying91 rfl a5i ?_)|(refine Vd rfl 36 _ rfl _ rfl _ _ _ _ d9 Zg rfl a1b ?_));refine gj.mono ?_;rintro ev W8 ⟨ay,A8,c8,rfl,e7⟩;obtain⟨L8,cx⟩:=eX (L.filter (fun x=>!Iv.off fi la x));rw[<- cx] at e7⊢;have br:Hid (Cb.full b p L=L8):=Z1 (by rw[cx,du,bt];rfl);have fv:L8.length<=1000:=Vn (by rw[cx];exact XY _ _) hL;have g8:=Z1 e7;have hw:=Z1 ay;have i3:=ay.size;have d4:=Z1 (d3.at_ ay);have dr:=gS ex ay;have dv:=gS gm ay;have f8:=gS f7 ay;have dn:=gB gc ay hk;have eu:=Z1 (g7.at_ ay);have c1:=Z1 (bz.out.trans (ay.mono (show(W1:Nat)<=W7 from bz.size)));have dy:=Z1 (gbox dx c1 s1);have z2:=cr9 2 dv;simp at z2;have hd:=Vq dv;clear ay d8 d9 cx e7;obtain⟨mt,d1⟩:=eX o.meth;have a7:=Z1 d1;have gr:mt=0∨mt=1∨mt=2∨mt=3:=by rw[d1];exact Hm
  rw[<- d1] at z2;clear d1;have g1:(mt=0/\L8.length=0)∨(mt=0/\L8.length≠0)∨mt=1∨mt=2∨mt=3:=oM;clear gr
  rcases g1 with⟨rfl,h8⟩|⟨rfl,h8⟩|rfl|rfl|rfl
  focus
   have k8:((L8.length:Int)==0):=by rw[h8];rfl
   have cj:=dn.out;have Ho:Hid (((CT e o T x2 none 0 0 none 0 0):AV).all (·.oneCell')):=Z1 oC;have cg:=VC W8 (w+1) _ (CT e o T x2 none 0 0 none 0 0) _ _ dy;have ac:=Z1 (VW (P:=prog) _ _ _ 55 _ _ _ cg Zd rfl a0x);have di:=Z1 (below_setRow (el.out.trans (c1.mono oM)) (show(w:Nat)<=w+1 by omega) (CT e o T x2 none 0 0 none 0 0));have dk:=Z1 (eu.other (w':=W8.setRow (w+1) (CT e o T x2 none 0 0 none 0 0)) dy (none13 _ rfl) (fun c hc=>Vl _ _ _ _ hc));have H8:=Z1 h8;clear cg h8;go_wp2_with (first|(refine Vd rfl 55 _ rfl _ rfl _ _ _ _ cj Zd rfl a0x ?_)|(refine Vz rfl 55 (.tmp 6) (.tmp 92) none rfl rfl (w+1) 55 _ (CT e o T x2 none 0 0 none 0 0) rfl rfl dy rfl a0x Ho ?_));refine VG (v:=.tuple #[(.agg (CT e o T x2 none 0 0 none 0 0)),()]) (by simp[results,results16,asAddr,Act.put,ac.out]) rfl ?_;exact⟨di,.inr ⟨[],[],⟨e,o.meth,o.frm,T,x2,none,0,0,none,0,0⟩,N1,D1,N2,D2,rfl,rfl,rfl,rfl,rfl,rfl,.inl rfl,.inl rfl,a1F _,a1F _,by have:=dk.out;simpa using this,.inl ⟨a7.symm,by rw[br];exact H8,rfl,rfl⟩,by rw[<- bt];exact F0.out,F3.out⟩⟩
  focus
   have k8:((L8.length:Int)==0)=false:=Jf.2 oM;have HN:Hid (¬ (o.meth=0/\L8.length=0)):=Z1 (fun h=>h8 h.2);clear h8
  rotate_left
  focus
   have HN:Hid (¬ (o.meth=0/\L8.length=0)):=Z1 (fun h=>by have:=a7.out;omega)
  rotate_left
  focus
   have HN:Hid (¬ (o.meth=0/\L8.length=0)):=Z1 (fun h=>by have:=a7.out;omega)
  rotate_left
  focus
   have HN:Hid (¬ (o.meth=0/\L8.length=0)):=Z1 (fun h=>by have:=a7.out;omega)
  rotate_left
  all_goals
   have da:=dr.out;have gl:=Z1 (a8Z W8 b e p d4);go_wp2_with (refine Vd rfl 36 _ rfl _ rfl _ _ _ _ da Zg rfl a1b ?_);refine gl.mono ?_;rintro ev W9 ⟨cu,gq⟩;have b9:=Z1 cu;have i4:=cu.size;have b6:=bT c1 cu;have b7:=Z1 (gbox dx b6 s1);have bj:=Z1 (el.out.trans (b6.mono oM));clear z2 da cu
   rcases gq with⟨eg,hn,rfl⟩|⟨its,A9,c9,g0,rfl,bn,fc,fq⟩
   ·obtain⟨n,ef⟩:=eX (Tr.err b e p)
    rw[<- ef] at hn⊢;have k1:(n != 0):=by simpa using hn
    have HV:=Z1 eg;have dm:Hid (OfErr b e p L o Q n):=⟨by rw[br];exact HN,.inl ⟨eg,ef⟩⟩;clear ef;have Hn:=Z1 hn;have Ho:Hid ((ZC:AV).all (·.oneCell')):=Z1 oC;have hR:=VC W9 (w+1) _ ZC _ _ b7;have ac:=Z1 (VW (P:=prog) _ _ _ 55 _ _ _ hR Zd rfl a0x);have e6:=Z1 (below_setRow bj (show(w:Nat)<=w+1 by omega) ZC);clear eg hn hR;go_wp2_with (refine Vz rfl 55 (.tmp 6) (.tmp 102) none rfl rfl (w+1) 55 _ ZC rfl rfl b7 rfl a0x Ho ?_);exact VG (v:=.tuple #[ZC,n]) (by simp[results,results16,asAddr,Act.put,ac.out]) rfl ⟨e6.out,.inl ⟨.inl HV,n,Hn,dm,rfl⟩⟩
   obtain⟨fa,bx,ey,bi,dt,dw,f9⟩:=Z7 g0 fc fq (d4.at_ b9) (gbox dr b9 (Vq dr)) (gbox dv b9 hd) (gbox f8 b9 (Vq f8));obtain⟨aw,ew,ep⟩:=Z3 (gbox dn b9 (Vq dn)) (eu.at_ b9) (RowsAt.at_ g8 b9);have z2:=cr9 2 dw;have p2:=cr9 2 aw;simp at z2 p2;rw[<- a7] at z2;have hi:=Vq dw;have bw:=Vq aw;have g2:=Vq dt;have i6:=Vq f9;have b3:=f9.out;have ak:W9.rangeAt w.heap.size 0 b.g:=fun j v hj=>by have:=cr9 j dt;rw[VN,this];exact a1O hj
   clear g0 fc fq
  focus
   obtain⟨L10,a5⟩:=eX (its.filter (Iv.gone b.g fi la L8));have be:=a3l W9 b.g A9 its.length c9 its fi la A8 L8.length c8 L8 bi.hg rfl oM bx rfl fv ep;rw[<- a5] at be;have ao:=Z1 be;have HO:Hid (Cb.its b.g o fi la L8 N1 D1 its=some L10/\L10.length<=3660):=Z1 ⟨by unfold Cb.its;rw[VB (by have:=a7.out;omega),VB (by have:=a7.out;omega),a5],by rw[a5];exact Vn (XY _ _) bn⟩;clear a5 be;go_wp2_with (first|(refine Vd rfl 91 _ rfl _ rfl _ _ _ _ b3 underlying91 rfl a5i ?_)|(refine Vv (by rfl) 29 (.tmp 107) rfl w.heap.size 0 rfl _ _ ak VS rfl VJ ?_));refine ao.mono ?_;rintro ev af ⟨a4,s,I,rfl,ai,ab⟩;have dc:=a4.size;have a0:=gB aw a4 bw;have p5:=cr9 11 a0;have pz:=fun j=>fr0 j a0;simp at p5;have df:=Vq a0;have a6:KeepX (fun b=>b=pf) W9 (af.setCells pf 11 [.slice s L10.length I]):=((KeepX.refl (fun b=>b=pf) W9).below a4).put (b:=pf) rfl _ _;have ah:=Z1 ai;have a8:=Z1 ab;clear z2 p2 ak ai ab a4 b3 ao;go_upto_region 24 with(fail);obtain⟨W11,X⟩:=eX (af.setCell ⟨pf,11,none⟩ (.slice s L10.length I));have aa:Row W11 pf 55 (CT e o T x2 s L10.length I none 0 0):=by rw[X];exact Row.set a0 11 (.slice s L10.length I)
   have aj:RowsAt Itm.cells 7 W11 W11 s L10:=by
    rw[X];exact RowsAt.kept ah (a1i af pf 11 _) (fun bq oq eq hq=>by have h1:W9<=bq:=a8 _ eq;have h2:bq=pf:=XV hq;omega)
   change KeepX _ W9 (af.setCell ⟨pf,11,none⟩ (.slice s L10.length I)) at a6;rw[<- X] at a6⊢;obtain⟨a9,ae,an⟩:=Z3 a6 aa aj;clear X a6 aa aj a0 ah p5 pz
  rotate_left
  focus
   obtain⟨L10,a5⟩:=eX (its.filter (Iv.gone b.g fi la L8));have be:=a3l W9 b.g A9 its.length c9 its fi la A8 L8.length c8 L8 bi.hg rfl oM bx rfl fv ep;rw[<- a5] at be;have ao:=Z1 be;have HO:Hid (Cb.its b.g o fi la L8 N1 D1 its=some L10/\L10.length<=3660):=Z1 ⟨by unfold Cb.its;rw[VB (by have:=a7.out;omega),VB (by have:=a7.out;omega),a5],by rw[a5];exact Vn (XY _ _) bn⟩;clear a5 be;go_wp2_with (first|(refine Vd rfl 91 _ rfl _ rfl _ _ _ _ b3 underlying91 rfl a5i ?_)|(refine Vv (by rfl) 29 (.tmp 107) rfl w.heap.size 0 rfl _ _ ak VS rfl VJ ?_));refine ao.mono ?_;rintro ev af ⟨a4,s,I,rfl,ai,ab⟩;have dc:=a4.size;have a0:=gB aw a4 bw;have p5:=cr9 11 a0;have pz:=fun j=>fr0 j a0;simp at p5;have df:=Vq a0;have a6:KeepX (fun b=>b=pf) W9 (af.setCells pf 11 [.slice s L10.length I]):=((KeepX.refl (fun b=>b=pf) W9).below a4).put (b:=pf) rfl _ _;have ah:=Z1 ai;have a8:=Z1 ab;clear z2 p2 ak ai ab a4 b3 ao;go_upto_region 24 with(fail);obtain⟨W11,X⟩:=eX (af.setCell ⟨pf,11,none⟩ (.slice s L10.length I));have aa:Row W11 pf 55 (CT e o T x2 s L10.length I none 0 0):=by rw[X];exact Row.set a0 11 (.slice s L10.length I)
   have aj:RowsAt Itm.cells 7 W11 W11 s L10:=by
    rw[X];exact RowsAt.kept ah (a1i af pf 11 _) (fun bq oq eq hq=>by have h1:W9<=bq:=a8 _ eq;have h2:bq=pf:=XV hq;omega)
   change KeepX _ W9 (af.setCell ⟨pf,11,none⟩ (.slice s L10.length I)) at a6;rw[<- X] at a6⊢;obtain⟨a9,ae,an⟩:=Z3 a6 aa aj;clear X a6 aa aj a0 ah p5 pz
  rotate_left
  focus
   go_upto_region 21 with(fail);have al:=a2g W9.drew b.g A9 its.length c9 its o.frm (bi.at_ (Vw bR 1)).hg rfl oM (RowsAt.at_ bx (Vw bR 1));obtain⟨L9,cy⟩:=eX (its.map (Cb.acq b.g o.frm));rw[<- cy] at al;have ed:L9.length<=3660:=by rw[cy,Xt];exact bn
   have dl:=Z1 cy;clear cy;have az:KeepX (fun b=>b=pf) W9 W9.drew/\∃Aq nq cq,Row W9.drew pf 55 (CT e o T x2 Aq nq cq none 0 0):=⟨(KeepX.refl _ _).below (Vw bR 1),none,0,0,aw⟩;have cw:Below W9 W9 W9.drew:=Vw bR 1;refine Vs (S:=fun W=>KeepX (fun b=>b=pf) W9 W/\∃Aq nq cq,Row W pf 55 (CT e o T x2 Aq nq cq none 0 0)) kR ?_;change wpAnyH _ _ _ _ _ _ _ _ (World.drew W9);obtain⟨U0,fj⟩:=eX W9.drew;rw[<- fj] at az cw al⊢;clear fj;have gs:¬ w.heap.size=pf:=oM;refine jT 0 az ?_;refine jT 1 az ?_ (v:=b.g) (hy:=(Vf (by rfl) 29 _ rfl w.heap.size 0 rfl b.g _ (fun W' J=>J.1.range ak g2 gs) VS rfl VJ));refine jT 2 az ?_;refine jT 3 az ?_;refine jT 4 az ?_ (v:=.int .i64 o.frm) (hy:=(.inl ⟨by rfl,fun W' J=>by obtain⟨_,Aq,nq,cq,hr⟩:=J;have c8:=cr9 2 hr;simp at c8;have c7:=Vq hr;go_simp⟩));refine jT 6 az ?_;refine jT 7 az ?_ (v:=T) (hy:=(Vf (by rfl) 52 _ rfl pf 3 rfl T _ (fun W' J=>by obtain⟨_,Aq,nq,cq,hr⟩:=J;intro j v hj;rw[Jv _ _ (3+j) _ _ _ hr];match j,hj with|0,hj=>exact hj|1,hj=>exact hj|2,hj=>exact hj|3,hj=>exact hj) Xf rfl Vy));refine Xc (rs:=[5]) kR sP (XQ rfl (fun KK hK=>?_) Ys);go_simp;refine al.mono ?_;rintro ev bb ⟨cb,A3,c3,rfl,fb,fr⟩;have ar:=cw.trans (cb.mono cw.size);have e8:KeepX (fun b=>b=pf) W9 bb/\∃Aq nq cq,Row bb pf 55 (CT e o T x2 Aq nq cq none 0 0):=⟨az.1.below cb,none,0,0,gbox aw ar bw⟩;refine hK.out _ _ e8 (fun _=>?_);clear hK KK
   try simp only[z]
   refine Xc (rs:=[8]) kR sP (XQ rfl (fun KK hK=>?_) Ys);have e0:=Z1 (a8z bb K K T.v N1 D1 A3 L9.length c3 L9 oM (ew.at_ ar).a rfl oM fb);unfold Rn.v at e0;go_simp;refine e0.mono ?_;rintro ev aq ⟨cc,h4⟩;have ce:=ar.trans (cc.mono ar.size);have bc:KeepX (fun b=>b=pf) W9 aq/\∃Aq nq cq,Row aq pf 55 (CT e o T x2 Aq nq cq none 0 0):=⟨e8.1.below cc,none,0,0,gbox aw ce bw⟩;have bs:=gB aw ce bw;have p5:=cr9 11 bs;have pz:=fun j=>fr0 j bs;simp at p5;have i5:=Vq bs
   have hh:∃(s:OA) (am I:Nat) (er:Int),ev=.returned (.tuple #[.slice s am I,er])/\Hid ((er=2/\Cb.scaled N1 D1 L9=none)∨(er=0/\∃l,Cb.scaled N1 D1 L9=some l/\am=l.length/\RowsAt Itm.cells 7 aq aq s l/\Fresh bb s)):=by
    rcases h4 with⟨h5,n,hn,rfl⟩|⟨l,A,c,ho,rfl,hA,hf⟩
    ·exact⟨none,0,0,n,rfl,Z1 (.inl ⟨hn,h5⟩)⟩
    ·exact⟨A,l.length,c,0,rfl,Z1 (.inr ⟨rfl,l,ho,rfl,hA,hf⟩)⟩
   obtain⟨s,am,I,er,rfl,HH⟩:=hh;clear h4;refine hK.out _ _ bc (fun _=>?_);clear hK KK
   try simp only[z]
   refine jT 9 bc ?_;refine jT 10 bc ?_;refine jT 11 bc ?_;refine jT 12 bc ?_;refine Xc (rs:=[13]) kR sP (XQ rfl (fun KK hK=>?_) Ys);have d0:KeepX (fun b=>b=pf) W9 (aq.setCells pf 11 [.slice s am I])/\∃Aq nq cq,Row (aq.setCells pf 11 [.slice s am I]) pf 55 (CT e o T x2 Aq nq cq none 0 0):=⟨bc.1.put (b:=pf) rfl _ _,s,am,I,Row.set bs 11 (.slice s am I)⟩;go_simp;refine hK.out _ _ d0 (fun _=>?_);clear hK KK
   try simp only[z]
   refine Xc (rs:=[14]) kR sP (XQ rfl (fun KK hK=>?_) Ys);go_simp;refine hK.out _ _ d0 (fun _=>?_);clear hK KK
   try simp only[z]
   refine VF kR ?_ _;obtain⟨W11,X⟩:=eX (aq.setCell ⟨pf,11,none⟩ (.slice s am I));have aa:Row W11 pf 55 (CT e o T x2 s am I none 0 0):=by rw[X];exact Row.set bs 11 (.slice s am I)
   have bm:=d0.1;change KeepX _ W9 (aq.setCell ⟨pf,11,none⟩ (.slice s am I)) at bm
   have fd:∀l,RowsAt Itm.cells 7 aq aq s l->Fresh bb s->RowsAt Itm.cells 7 W11 W11 s l:=fun l hA hf=>by
    rw[X];exact RowsAt.kept hA (a1i aq pf 11 _) (fun bq oq eq hq=>by have h1:bb<=bq:=hf _ eq;have h2:bq=pf:=XV hq;have:=ar.size;omega)
   have ek:=Z1 fd;rw[<- X] at bm⊢;have a9:=Z1 bm;have ae:=Z1 aa;have fx:=ar.size;clear X bm aa bs p5 pz d0 bc e8 az ce ar cw cb cc fb fr al fd b3 ak z2 p2 e0
   by_cases ch:er=0
   rotate_left
   focus
    have k9:(er != 0):=by simpa using ch
    have cr:Row W11 (w+1) 55 ZC:=(a9.block _ (Vq b7) oM).trans b7;have ap:=Z1 cr;have fh:Below w w W11:=bj.out.trans (a9.to_below oM (fun b hb ee=>oM));have gi:=Z1 ch
    have dm:Hid (OfErr b e p L o Q er):=by
     rcases HH.out with⟨h1,h2⟩|⟨h1,_⟩
     ·exact⟨by rw[br];exact HN,.inr ⟨its,N1,D1,fa,by rw[<- bt];exact F0.out,by rw[br,<- bt,<- du];unfold Cb.its;rw[VB (by have:=a7.out;omega),Vt a7.out.symm,<- dl];exact h2,h1⟩⟩
     ·exact absurd h1 ch
    have Ho:Hid ((ZC:AV).all (·.oneCell')):=Z1 oC;have hR:=VC W11 (w+1) _ ZC _ _ cr;have ac:=Z1 (VW (P:=prog) _ _ _ 55 _ _ _ hR Zd rfl a0x);have e6:=Z1 (below_setRow fh (show(w:Nat)<=w+1 by omega) ZC);clear ch hR cr fh;go_wp2_with (refine Vz rfl 55 (.tmp 6) (.tmp 139) none rfl rfl (w+1) 55 _ ZC rfl rfl ap rfl a0x Ho ?_);exact VG (v:=.tuple #[ZC,er]) (by simp[results,results16,asAddr,Act.put,ac.out]) rfl ⟨e6.out,.inl ⟨.inr a7.symm,er,gi,dm,rfl⟩⟩
   subst ch
   obtain⟨L10,b2⟩:∃L10,Hid (Cb.scaled N1 D1 L9=some L10/\am=L10.length/\RowsAt Itm.cells 7 W11 W11 s L10/\Fresh bb s):=by
    rcases HH.out with⟨h,_⟩|⟨_,l,h1,h2,h3,h4⟩
    ·omega
    ·exact⟨l,Z1 ⟨h1,h2,ek l h3 h4,h4⟩⟩
   have HO:Hid (Cb.its b.g o fi la L8 N1 D1 its=some L10/\L10.length<=3660):=Z1 ⟨by unfold Cb.its;rw[VB (by have:=a7.out;omega),Vt a7.out.symm,<- dl];exact b2.1,by have:=Cb.scaled_len b2.1;omega⟩;have an:=Z1 b2.out.2.2.1;have a8:Hid (Fresh W9 s):=Z1 (fun ad h=>Vn fx (b2.2.2.2 ad h));have ft:=b2.out.2.1;subst ft;clear b2 HH ek dl ed;go_upto_region 24 with(fail)
  rotate_left
  focus
   obtain⟨L10,a5⟩:=eX (its.map (Cb.acq b.g o.frm));have al:=a2g W9 b.g A9 its.length c9 its o.frm bi.hg rfl oM bx;rw[<- a5] at al;have ao:=Z1 al;have HO:Hid (Cb.its b.g o fi la L8 N1 D1 its=some L10/\L10.length<=3660):=Z1 ⟨by unfold Cb.its;rw[Vt a7.out.symm,a5],by rw[a5,Xt];exact bn⟩;clear a5 al;go_wp2_with (refine Vv (by rfl) 29 (.tmp 115) rfl w.heap.size 0 rfl _ _ ak VS rfl VJ ?_);refine ao.mono ?_;rintro ev af ⟨a4,s,I,rfl,ai,ab⟩;have dc:=a4.size;have a0:=gB aw a4 bw;have p5:=cr9 11 a0;have pz:=fun j=>fr0 j a0;simp at p5;have df:=Vq a0;have a6:KeepX (fun b=>b=pf) W9 (af.setCells pf 11 [.slice s L10.length I]):=((KeepX.refl (fun b=>b=pf) W9).below a4).put (b:=pf) rfl _ _;have ah:=Z1 ai;have a8:=Z1 ab;clear z2 p2 ak ai ab a4 b3 ao;go_upto_region 24 with(fail);obtain⟨W11,X⟩:=eX (af.setCell ⟨pf,11,none⟩ (.slice s L10.length I));have aa:Row W11 pf 55 (CT e o T x2 s L10.length I none 0 0):=by rw[X];exact Row.set a0 11 (.slice s L10.length I)
   have aj:RowsAt Itm.cells 7 W11 W11 s L10:=by
    rw[X];exact RowsAt.kept ah (a1i af pf 11 _) (fun bq oq eq hq=>by have h1:W9<=bq:=a8 _ eq;have h2:bq=pf:=XV hq;omega)
   change KeepX _ W9 (af.setCell ⟨pf,11,none⟩ (.slice s L10.length I)) at a6;rw[<- X] at a6⊢;obtain⟨a9,ae,an⟩:=Z3 a6 aa aj;clear X a6 aa aj a0 ah p5 pz
  rotate_left
  all_goals
   have fs:(W9:Nat)<=W11:=a9.size;have cp:Row W11 W5.heap.size 93 #[o.frm,o.to,o.meth]:=(a9.block _ hi oM).trans dw;have ap:Hid (Row W11 (w+1) 55 ZC):=Z1 ((a9.block _ (Vq b7) oM).trans b7);have d6:Hid (Row W11 w.heap.size 36 b):=Z1 ((a9.block _ g2 oM).trans dt);have bk:Hid (RI2 W11 W11 K T.v x2.v N1 D1 N2 D2):=Z1 (ew.keepS (fun bq hq=>by subst hq;exact⟨_,_,_,aw,none13 _ rfl⟩) a9);have bl:Below W1 W9 W11:=a9.to_below (by have:=b6.out.size;omega) (fun b hb ee=>oM);have b4:=Z1 (bj.out.trans (bl.mono oM));have dj:Hid (b.At W11 W11):=Z1 ((dh.below (b6.out.trans bl) lR).more (b6.out.trans bl).size)
   have es:Hid (RowsAt Itm.cells 7 W11 W11 A9 its):=Z1 (by
    rcases bx.out with h|⟨bq,oq,e9,ed,hc⟩
    ·exact .inl h
    ·have h1:=ey.out _ e9
     exact .inr ⟨bq,oq,e9,oM,fun j hj i v hv=>(a9.cell ed (fun e=>by have h2:W8<=bq:=h1;omega) _).trans (hc j hj i v hv)⟩)
   have z2:=cr9 2 cp;simp at z2;rw[<- a7] at z2;have ht:=Vq cp;clear cp bl
  rotate_left
  focus
   have cs:W11.rangeAt w.heap.size 0 b.g:=fun j v hj=>by have:=cr9 j d6;rw[VN,this];exact a1O hj
   have p2:=cr9 2 ae;simp at p2;have g3:=Vq ae;have hs:=Vq d6;obtain⟨e1,cf⟩:=eX (its.map (Cb.acq b.g o.frm));have al:=a2g W11 b.g A9 its.length c9 its o.frm dj.hg rfl oM es;rw[<- cf] at al;have ao:=Z1 al;have et:=Z1 cf;clear al cf;go_wp2_with (refine Vv (by rfl) 29 (.tmp 144) rfl w.heap.size 0 rfl _ _ cs VS rfl VJ ?_);refine ao.mono ?_;rintro ev W12 ⟨c6,dg,e2,rfl,d7,ci⟩;have b8:=gbox ae c6 g3;have p5:=cr9 12 b8;have pz:=fun j=>fr0 j b8;simp at p5;have hu:=Vq b8;obtain⟨d5,ej,c5,b5⟩:=Z4 b8 d7 ci c6;clear z2 p2 cs b8 d7 ci c6 ao;go_upto_region 26 with(fail);obtain⟨E,O⟩:=eX (W12.setCell ⟨pf,12,none⟩ (.slice dg e1.length e2));have de:(E:Nat)=W12:=by rw[O];simp[World.setCell]
   have hl:=b5.out.size
   obtain⟨Bs,ds,sh,ag⟩:∃Bs ds sh,Hid (Row E pf 55 (CT e o T x2 s L10.length I Bs sh.length ds)/\Row E (w+1) 55 ZC/\RI2 E E K T.v x2.v N1 D1 N2 D2/\RowsAt Itm.cells 7 E E s L10/\RowsAt Itm.cells 7 E E Bs sh/\Fresh W9 Bs/\Below w w E/\sh=if o.meth=1 then its.map (Cb.acq b.g o.frm) else[]):=by
    refine⟨dg,e2,e1,Z1 ⟨?_,?_,?_,?_,?_,fun ad h=>Vn fs (c5 ad h),?_,?_⟩⟩
    ·rw[O];exact Row.set d5 12 (.slice dg e1.length e2)
    ·rw[O];exact Row.other (gbox ap b5 (Vq ap)) ⟨pf,12,none⟩ (by show w.heap.size+1≠pf;omega) _
    ·rw[de];exact(bk.at_ b5).other d5 (none13 _ rfl) (fun c hc=>by rw[O];exact VR _ _ _ _ (show c≠pf from hc))
    ·rw[O];exact RowsAt.kept (RowsAt.at_ an b5) (a1i W12 pf 12 _) (fun bq oq eq hq=>by have h1:W9<=bq:=a8 _ eq;have h2:bq=pf:=XV hq;omega)
    ·rw[O];exact RowsAt.kept ej (a1i W12 pf 12 _) (fun bq oq eq hq=>by have h1:W11<=bq:=c5 _ eq;have h2:bq=pf:=XV hq;omega)
    ·rw[O];exact(b4.out.trans (b5.mono b4.size)).setCell (p:=⟨pf,12,none⟩) (by show w<=pf;omega) _
    ·rw[Vt a7.out.symm];exact et
   rw[<- O];clear O de p5 pz
  rotate_left
  focus
   go_upto_region 26 with(fail);obtain⟨E,O⟩:=eX W11
   obtain⟨Bs,ds,sh,ag⟩:∃Bs ds sh,Hid (Row E pf 55 (CT e o T x2 s L10.length I Bs sh.length ds)/\Row E (w+1) 55 ZC/\RI2 E E K T.v x2.v N1 D1 N2 D2/\RowsAt Itm.cells 7 E E s L10/\RowsAt Itm.cells 7 E E Bs sh/\Fresh W9 Bs/\Below w w E/\sh=if o.meth=1 then its.map (Cb.acq b.g o.frm) else[]):=by
    rw[O];exact⟨none,0,[],Z1 ⟨ae,ap,bk,an,.inl rfl,a1F _,b4,by rw[VB (by have:=a7.out;omega)]⟩⟩
   rw[<- O];clear O z2
  rotate_left
  focus
   go_upto_region 26 with(fail);obtain⟨E,O⟩:=eX W11
   obtain⟨Bs,ds,sh,ag⟩:∃Bs ds sh,Hid (Row E pf 55 (CT e o T x2 s L10.length I Bs sh.length ds)/\Row E (w+1) 55 ZC/\RI2 E E K T.v x2.v N1 D1 N2 D2/\RowsAt Itm.cells 7 E E s L10/\RowsAt Itm.cells 7 E E Bs sh/\Fresh W9 Bs/\Below w w E/\sh=if o.meth=1 then its.map (Cb.acq b.g o.frm) else[]):=by
    rw[O];exact⟨none,0,[],Z1 ⟨ae,ap,bk,an,.inl rfl,a1F _,b4,by rw[VB (by have:=a7.out;omega)]⟩⟩
   rw[<- O];clear O z2
  rotate_left
  focus
   go_upto_region 26 with(fail);obtain⟨E,O⟩:=eX W11
   obtain⟨Bs,ds,sh,ag⟩:∃Bs ds sh,Hid (Row E pf 55 (CT e o T x2 s L10.length I Bs sh.length ds)/\Row E (w+1) 55 ZC/\RI2 E E K T.v x2.v N1 D1 N2 D2/\RowsAt Itm.cells 7 E E s L10/\RowsAt Itm.cells 7 E E Bs sh/\Fresh W9 Bs/\Below w w E/\sh=if o.meth=1 then its.map (Cb.acq b.g o.frm) else[]):=by
    rw[O];exact⟨none,0,[],Z1 ⟨ae,ap,bk,an,.inl rfl,a1F _,b4,by rw[VB (by have:=a7.out;omega)]⟩⟩
   rw[<- O];clear O z2
  rotate_left
  all_goals
   have cj:=ag.out.1;have bo:=ag.out.2.1;have ez:=Z1 bo;have Ho:Hid (((CT e o T x2 s L10.length I Bs sh.length ds):AV).all (·.oneCell')):=Z1 oC;have cg:=VC E (w+1) _ (CT e o T x2 s L10.length I Bs sh.length ds) _ _ bo;have ac:=Z1 (VW (P:=prog) _ _ _ 55 _ _ _ cg Zd rfl a0x);have di:=Z1 (below_setRow ag.2.2.2.2.2.2.1 (show(w:Nat)<=w+1 by omega) (CT e o T x2 s L10.length I Bs sh.length ds));obtain⟨dk,g6,gd,g9,ge⟩:=Z5 (ag.2.2.1.other (w':=E.setRow (w+1) (CT e o T x2 s L10.length I Bs sh.length ds)) bo (none13 _ rfl) (fun c hc=>Vl _ _ _ _ hc)) (RowsAt.other_row ag.2.2.2.1 (n:=W9.heap.size) a8 (show(w:Nat)+1<W9 from Vq b7) (CT e o T x2 s L10.length I Bs sh.length ds)) (RowsAt.other_row ag.2.2.2.2.1 (n:=W9.heap.size) ag.2.2.2.2.2.1 (show(w:Nat)+1<W9 from Vq b7) (CT e o T x2 s L10.length I Bs sh.length ds)) ag.2.2.2.2.2.1 ag.2.2.2.2.2.2.2;have dd:=bj.out.size;clear bo cg ag;go_wp2_with (first|(refine Vd rfl 55 _ rfl _ rfl _ _ _ _ cj Zd rfl a0x ?_)|(refine Vz rfl 55 (.tmp 6) (.tmp 151) none rfl rfl (w+1) 55 _ (CT e o T x2 s L10.length I Bs sh.length ds) rfl rfl ez rfl a0x Ho ?_));refine VG (v:=.tuple #[(.agg (CT e o T x2 s L10.length I Bs sh.length ds)),()]) (by simp[results,results16,asAddr,Act.put,ac.out]) rfl ?_;refine⟨di,.inr ⟨L10,sh,⟨e,o.meth,o.frm,T,x2,s,L10.length,I,Bs,sh.length,ds⟩,N1,D1,N2,D2,rfl,rfl,rfl,rfl,rfl,rfl,by have:=g6.out;simpa using this,by have:=gd.out;simpa using this,fun ad h=>Vn dd (a8 ad h),fun ad h=>Vn dd (g9 ad h),by have:=dk.out;simpa using this,.inr ⟨by rw[br];exact HN,its,fa,by rw[br,<- du,<- bt];exact HO.1,HO.2,ge⟩,by rw[<- bt];exact F0.out,F3.out⟩⟩
 have n2:∀(m:Nat) (W:World) (T:Rn) (N1 D1:Int) (x2:Rn) (N2 D2:Int) (bf:Bool) (vf:Value) (pf:Nat),2+cond bf 0 1<=m->RG W->ax.heap.size<=W.heap.size->(RI W W K K T.v N1 D1)->(Hid (Q la N1 D1))->(RI W W K K x2.v N2 D2)->(Hid (Q o.frm N2 D2))->Mk ax W bf vf pf ZC 55->wpAnyH prog d2 bp Q' RG m #[true,true,true,true,true,true,true,true,true,true,true,true,true,true,false,bf,false] (((a'.put (some 73) (T.v)).put (some 78) (x2.v)).put (some 14) vf) W:=by
  intro m
  induction m with
  |zero=>intros;omega
  |succ m ih =>
  intro W T N1 D1 x2 N2 D2 bf vf pf hm hS hz F1 F0 F2 F3 Hf;subst ck cn co b1 bu
  try simp only[z]
  refine Xc (rs:=14::(cond bf [] [15]++[])) (by cases bf <;> kernel_rfl) sP (.cons rfl (fun K hK=>?_) (ropt (fun hf=>.cons rfl (fun K hK=>?_) .nil) .nil))
  ·clear ih
   unfold Rn.v;go_simp;obtain⟨W',eb⟩:=eX W;rw[<- eb];have hB:Below W W W':=by rw[eb];exact bR
   clear eb;have J:=hS.trans (hB.mono hS.size);refine jK hK J ?_;clear hK K;have hn:=n3 m W' T N1 D1 x2 N2 D2 bf vf pf oM J (Vn hz hB.size) (F1.at_ hB) (F0) (F2.at_ hB) F3 (Hf.step hB)
   try simp only[z] at hn
   exact hn
  ·subst hf
   obtain⟨W',au,hB,av,_⟩:=nw1 W ZC 55;go_simp;rw[<- au];clear au;have J:=hS.trans (hB.mono hS.size);refine jK hK J ?_;clear hK K;have hn:=ih W' T N1 D1 x2 N2 D2 true (.pointer (some ⟨W,0,none⟩)) W (by simp only[YP,Y6] at hm⊢;omega) J (Vn hz hB.size) (F1.at_ hB) (F0) (F2.at_ hB) F3 (fun _=>⟨rfl,hz,av⟩) 
   try simp only[z] at hn
   exact hn
 have n1:∀(m:Nat) (W:World) (T:Rn) (N1 D1:Int) (bf:Bool) (vf:Value) (pf:Nat),3+cond bf 0 1<=m->RG W->ax.heap.size<=W.heap.size->(RI W W K K T.v N1 D1)->(Hid (Q la N1 D1))->Mk ax W bf vf pf ZC 55->wpAnyH prog d2 bp Q' RG m #[true,true,true,true,true,true,true,true,true,true,true,true,true,false,false,bf,false] ((a'.put (some 73) (T.v)).put (some 14) vf) W:=by
  intro m
  induction m with
  |zero=>intros;omega
  |succ m ih =>
  intro W T N1 D1 bf vf pf hm hS hz F1 F0 Hf;subst ck cn co b1 bu
  try simp only[z]
  refine Xc (rs:=13::(cond bf [] [15]++[])) (by cases bf <;> kernel_rfl) sP (.cons rfl (fun K hK=>?_) (ropt (fun hf=>.cons rfl (fun K hK=>?_) .nil) .nil))
  ·clear ih
   have HQ:=Z1 (HE W o.frm (.inr rfl) (c2.at_ hS));go_simp;refine HQ.mono ?_;rintro r W' ⟨hB,x2,N2,D2,rfl,gz,eh⟩;have J:=hS.trans (hB.mono hS.size);refine jK hK J ?_;clear hK K;have hn:=n2 m W' T N1 D1 x2 N2 D2 bf vf pf oM J (Vn hz hB.size) (F1.at_ hB) (F0) (gz) (Z1 eh) (Hf.step hB)
   try simp only[z] at hn
   exact hn
  ·subst hf
   obtain⟨W',au,hB,av,_⟩:=nw1 W ZC 55;go_simp;rw[<- au];clear au;have J:=hS.trans (hB.mono hS.size);refine jK hK J ?_;clear hK K;have hn:=ih W' T N1 D1 true (.pointer (some ⟨W,0,none⟩)) W (by simp only[YP,Y6] at hm⊢;omega) J (Vn hz hB.size) (F1.at_ hB) (F0) (fun _=>⟨rfl,hz,av⟩) 
   try simp only[z] at hn
   exact hn
 have n0:∀(m:Nat) (W:World) (bf:Bool) (vf:Value) (pf:Nat),4+cond bf 0 1<=m->RG W->ax.heap.size<=W.heap.size->Mk ax W bf vf pf ZC 55->wpAnyH prog d2 bp Q' RG m #[true,true,true,true,true,true,true,true,false,true,true,true,true,false,false,bf,false] (a'.put (some 14) vf) W:=by
  intro m
  induction m with
  |zero=>intros;omega
  |succ m ih =>
  intro W bf vf pf hm hS hz Hf;subst ck cn co b1 bu
  try simp only[z]
  refine Xc (rs:=8::(cond bf [] [15]++[])) (by cases bf <;> kernel_rfl) sP (.cons rfl (fun K hK=>?_) (ropt (fun hf=>.cons rfl (fun K hK=>?_) .nil) .nil))
  ·clear ih
   have HQ:=Z1 (HE W la (.inl rfl) (c2.at_ hS));go_simp;refine HQ.mono ?_;rintro r W' ⟨hB,T,N1,D1,rfl,gy,gt⟩;have J:=hS.trans (hB.mono hS.size);refine jK hK J ?_;clear hK K;have hn:=n1 m W' T N1 D1 bf vf pf oM J (Vn hz hB.size) (gy) (Z1 gt) (Hf.step hB)
   try simp only[z] at hn
   exact hn
  ·subst hf
   obtain⟨W',au,hB,av,_⟩:=nw1 W ZC 55;go_simp;rw[<- au];clear au;have J:=hS.trans (hB.mono hS.size);refine jK hK J ?_;clear hK K;have hn:=ih W' true (.pointer (some ⟨W,0,none⟩)) W (by simp only[YP,Y6] at hm⊢;omega) J (Vn hz hB.size) (fun _=>⟨rfl,hz,av⟩) 
   try simp only[z] at hn
   exact hn
 have hn:=n0 _ ax false undef 0 lR hS lR  (fun h=>nomatch h);subst ck cn co b1 bu;exact hn
end Go.Proofs.YtbhdekahdnenjaaGreatDoor
