/- Lemmas. -/
import Derived.Laws.OwnMore
import Derived.Laws.CopyRow
import Derived.Test.YtbhdekahdnenjaaGreatDoorG12
import Derived.Test.YtbhdekahdnenjaaGreatDoorG16
set_option linter.unusedVariables false
set_option linter.unusedSimpArgs false
set_option maxRecDepth 100000
set_option maxHeartbeats 16000000
namespace Go.Proofs.YtbhdekahdnenjaaGreatDoor
open Go.Proofs.Tryz Go.RowKit
variable (w:World)
def Lnk.wf (x:Lnk):Prop:=(Lit.int .i64 x.frm).wf/\(Lit.int .i64 x.to).wf/\(Lit.int .i64 x.since).wf
abbrev LnksAt:=RowsAt Lnk.cells 3
structure Ent.At (w:World) (B:Nat) (e:Ent):Prop where
 hcl:e.chart.length=e.cn
 hcn:e.cn<=100000
 hc:AccsAt w B e.cA e.chart
 hcw:∀a∈e.chart,a.wf
 hll:e.links.length=e.ln
 hln:e.ln<=100000
 hl:LnksAt w B e.lA e.links
 hlw:∀x∈e.links,x.wf
 hn:e.name.size<=maxLen
 hu:e.cur.size<=maxLen
theorem Ent.At.below {w w'} {B C} {e:Ent} (h:e.At w B) (i:Below C w w') (a:B<=C):e.At w' B :=
 ⟨h.hcl,h.hcn,RowsAt.below h.hc i a,h.hcw,h.hll,h.hln,RowsAt.below h.hl i a,h.hlw,h.hn,h.hu⟩
theorem Ent.At.more {w} {B C} {e:Ent} (h:e.At w B) (a:B<=C):e.At w C :=
 ⟨h.hcl,h.hcn,RowsAt.more h.hc a,h.hcw,h.hll,h.hln,RowsAt.more h.hl a,h.hlw,h.hn,h.hu⟩
theorem Ent.At.at_ {w w'} {e:Ent} (h:e.At w w) (a:Below w w w'):e.At w' w'.heap.size:=(h.below a lR).more a.size
theorem LnksAt.three {w} {B} {A} {l} (h:LnksAt w B A l) {k} (s:k<l.length):∃b o,A=some ⟨b,o,none⟩/\b<B/\w.cell? ⟨b,o+k*3,none⟩=some (.int .i64 l[k].frm)/\w.cell? ⟨b,o+k*3+1,none⟩=some (.int .i64 l[k].to)/\w.cell? ⟨b,o+k*3+2,none⟩=some (.int .i64 l[k].since):=by
 obtain⟨b,o,e,i,a⟩:=RowsAt.look h s;exact⟨b,o,e,i,a 0 _ rfl,a 1 _ rfl,a 2 _ rfl⟩
theorem b0D (e:Ent) (A) (n c) (gch) (x:Lnk) (hl:gch.length=n) (hn:n<=100000) (he:e.At w w) (hg:AccsAt w w A gch) :
  CL 259 #[e,.slice A n c,x] w (Gr.linkOk e.chart gch x):=by
 obtain⟨W1,ag,I,ah,a9,hz⟩:=nw2 w e x 81 115;have HW:=Z1 ag;have ai:=RowsAt.at_ hg I;have ak:=RowsAt.at_ he.hc I;have x2:=cr9 2 ah;have y0:=cr9 0 a9;simp at x2 y0;have av:(w:Nat)+1<W1:=oM;obtain⟨an,ao,ap⟩:=Z3 a9 he.hcl he.hcn;clear ag hz ah a9 he hg;go_enter func259,ntmps259;go_upto_region 1 with(fail);rw[<- HW];go_wp2_with (fail);refine(a0Q W1 e.cA e.cn e.cc e.chart x.frm ao ap ak).mono ?_;rintro r W2 ⟨rfl,a5⟩;have o:=gbox an a5 av;obtain⟨q,hq⟩:=eX (Ch.found e.chart x.frm);rw[<- hq];have Hq:=Z1 hq;obtain⟨L,ac,ar⟩:=a0I W2 q 113;have a:=gbox o L (Vq o);obtain⟨W3,a7⟩:=eX ((W2.alloc (.cells q 113)));rw[<- a7] at L ac ar a;have al:=Z1 a7;have S:=I.trans (a5.mono I.size);have T:=S.trans (L.mono S.size);have aj:=RowsAt.at_ (RowsAt.at_ ai a5) L;clear x2 y0 a7 hq o;have y1:=cr9 1 a;simp at y1;have s3:(w:Nat)+1<W3:=Vq a;have ae:=Z1 a;have af:=Z1 ac;clear a ac;go_upto_region 2 with(fail);rw[<- al];go_wp2_with (fail);refine(a0Q W3 A n c gch x.to hl hn aj).mono ?_;rintro r W4 ⟨rfl,a6⟩;obtain⟨p,hp⟩:=eX (Ch.found gch x.to);rw[<- hp];have Hp:=Z1 hp;have s:=gbox ae a6 s3;have aa:=gbox af a6 (Vq af);have W:=T.trans (a6.mono T.size);obtain⟨O,ad,au⟩:=a0I W4 p 113;have E:=gbox s O (Vq s);have ab:=gbox aa O (Vq aa);obtain⟨W5,a8⟩:=eX ((W4.alloc (.cells p 113)));rw[<- a8] at O ad au E ab;have am:=Z1 a8;have J:=W.trans (O.mono W.size);clear y1 a8 hp s aa;have y2:=cr9 2 E;have q1:=cr9 1 ab;have p1:=cr9 1 ad;simp at y2 q1 p1;clear E ab ad aj ai ak;go_upto_region 3 with(fail);rw[<- am]
 by_cases i:Ch.has e.chart x.frm
 ·by_cases Q:Ch.has gch x.to
  ·by_cases h3:q.kind=p.kind
   ·have aq:(q.kind==p.kind):=by simp[h3]
    have X:Hid (Gr.linkOk e.chart gch x=Gr.date x.since):=by show _=_;rw[Gr.linkOk,i,Q,<- Hq,<- Hp,VT h3];rfl
    rw[i,Q];clear i Q h3;go_wp2_with (fail);refine(a0S x.since W5).mono ?_;rintro r W6 ⟨rfl,rfl⟩;go_wp2;go_ret;exact⟨by rw[X];unfold Gr.date;rw[Bool.decide_and];rfl,J⟩
   ·have aq:(q.kind==p.kind)=false:=by simp[h3]
    have X:Hid (Gr.linkOk e.chart gch x=false):=by show _=_;rw[Gr.linkOk,i,Q,<- Hq,<- Hp,Vr h3];rfl
    rw[i,Q];clear i Q h3;go_wp2;go_ret;exact⟨by rw[X];rfl,J⟩
  ·have a4:Ch.has gch x.to=false:=by simpa using Q
   have X:Hid (Gr.linkOk e.chart gch x=false):=by show _=_;rw[Gr.linkOk,i,a4];rfl
   rw[i,a4];clear i Q a4;go_wp2;go_ret;exact⟨by rw[X];rfl,J⟩
 ·have a0:Ch.has e.chart x.frm=false:=by simpa using i
  have X:Hid (Gr.linkOk e.chart gch x=false):=by show _=_;rw[Gr.linkOk,a0];rfl
  rw[a0];clear i a0;go_wp2;go_ret;exact⟨by rw[X];rfl,J⟩
theorem linkLaw:Maps.Keyed prog 115:=Kx (deep_law_laid laidOut (m:=2) oM (YZ kR) kR kR)
theorem linkKey (a b c) (J:(Lit.int .i64 a).wf) (L:(Lit.int .i64 b).wf) (O:(Lit.int .i64 c).wf):∃kl,keyOf prog 115 (.agg #[a,b,c])=some kl:=by
 unfold keyOf;rw[Zq];have s:prog.keyType 115:=kR;have i:prog.cellsOf 115=3:=kR
 have E:(Value.agg #[a,b,c]).formed prog 115:=by
  simp[Value.formed,Zq,i]
 simp only[s,E,Qm,if_true];have I:∃n,prog.types.size=n+1:=⟨prog.types.size-1,by have:0<prog.types.size:=YZ kR;omega⟩;obtain⟨n,Q⟩:=I;rw[Q];have o:prog.cellsOf 3=1:=kR;simp[Program.keyLits,Zq,YM,Value.cells,o,i,J,L,O]
def SeenL (w:World) (b:Nat) (l:List Lnk) (k:Nat):Prop :=
 ∃f,MapAt w prog 115 b k f/\∀x y,f (.agg #[.int .i64 x,(),.int .i64 y])=if(l.take k).any (fun r=>decide (r.frm=x)&&decide (r.since=y)) then some (.bool true) else none
section
variable {w w':World} {b B:Nat} {l:List Lnk} {k:Nat}
theorem SeenL.lt (h:SeenL w b l k):b<w:=by obtain⟨f,h,_⟩:=h;exact h.lt
theorem SeenL.below (h:SeenL w b l k) (i:Below B w w') (a:b<B):SeenL w' b l k:=by obtain⟨f,h,r⟩:=h;exact⟨f,h.below i a,r⟩
theorem SeenL.alloc (h:SeenL w b l k) (o):SeenL (w.alloc o) b l k:=by obtain⟨f,h,r⟩:=h;exact⟨f,h.alloc o,r⟩
theorem SeenL.made (w:World) (l):SeenL (w.alloc (.map #[] 0)) w l 0:=⟨_,MapAt.made w _ _,fun x y=>sP⟩
theorem SeenL.look (h:SeenL w b l k) (x y) (s:(Lit.int .i64 x).wf) (hy:(Lit.int .i64 y).wf) :
  (Instr.lookup 328 (.map (some b)) (.agg #[x,(),y]) false).run prog w=.ok (.bool ((l.take k).any (fun r=>decide (r.frm=x)&&decide (r.since=y)))) w:=by
 obtain⟨f,o,a⟩:=h;obtain⟨I,i⟩:=linkKey x 0 y s rfl hy;have E:(zeroValue 4).run prog w=.ok (.bool false) w:=kR;rw[o.lookup linkLaw underlying328 E i,a]
 cases(l.take k).any (fun r=>decide (r.frm=x)&&decide (r.since=y)) <;> rfl
open Classical in
theorem a8w (E:k<l.length) (f:Value->Option Value) (s:∀x y,f (.agg #[.int .i64 x,(),.int .i64 y])=if(l.take k).any (fun r=>decide (r.frm=x)&&decide (r.since=y)) then some (.bool true) else none) :
  ∀x y,(fun v=>if v=.agg #[.int .i64 l[k].frm,(),.int .i64 l[k].since] then some (Value.bool true) else f v) (.agg #[.int .i64 x,(),.int .i64 y])=if(l.take (k+1)).any (fun r=>decide (r.frm=x)&&decide (r.since=y)) then some (.bool true) else none:=by
 intro x y;show(if _ then _ else f _)=_;rw[tse E,YD]
 by_cases h:l[k].frm=x/\l[k].since=y
 ·obtain⟨a,i⟩:=h
  rw[Vt (by rw[a,i]),Vt (by simp[a,i])]
 ·rw[VB (by
   intro e;simp only[Value.agg.injEq,Array.mk.injEq,List.cons.injEq,Value.int.injEq,Jl,KF] at e;exact h ⟨e.1.symm,e.2.symm⟩),s]
  have o:(decide (l[k].frm=x)&&decide (l[k].since=y))=false:=by simpa using h
  simp[o]
end
theorem b3F {l} {i} (h:i<l.length):Gr.lat l i=l[i]:=by simp[Gr.lat,h]
theorem a8b {l} {i} (h:i<l.length):Gr.fresh l i l[i]=!(l.take i).any (fun r=>decide (r.frm=l[i].frm)&&decide (r.since=l[i].since)):=rfl
theorem a1K {chart gch} {l} {i} (h:i<l.length) (a:Gr.linkAt chart gch l i=false):Gr.mapping chart gch l=false:=by
 unfold Gr.mapping;rw[Ch.all_not h a,Yc]
theorem b2w (e:Ent) (A) (n c) (gch) (hl:gch.length=n) (hn:n<=100000) (bc:∀a∈gch,a.wf) (he:e.At w w) (hg:AccsAt w w A gch) :
  CL 220 #[e,.slice A n c] w (Gr.mapping e.chart gch e.links):=by
 obtain⟨W1,b6,a9,ad,hz⟩:=nw1 w e 81;have HW:=Z1 b6;have av:=he.at_ a9;have ax:=RowsAt.at_ hg a9;have x2:=cr9 2 ad;have x3:=cr9 3 ad;simp at x2 x3;have s1:(w:Nat)<W1:=oM;obtain⟨bh,bn,bj,bk,bl,a8⟩:=Z6 ad bc he.hcl he.hcn he.hcw he.hll;have bx:=he.hln;have al:=Z1 he.hlw;have bu:=@ZS prog;clear b6 hz ad bc;go_enter func220,ntmps220;go_upto_region 1 with(fail);rw[<- HW];go_wp2_with (fail);refine(a2V W1 A n c gch true hl hn bn ax).mono ?_;rintro r W2 ⟨rfl,aa⟩;have a0:=a9.trans (aa.mono a9.size);have T:=gbox bh aa s1;have af:=av.at_ aa;clear x2 x3
 by_cases h1:Ch.valid true gch
 ·have x2:=cr9 2 T
  have x3:=cr9 3 T;simp at x2 x3;have s2:(w:Nat)<W2:=Vq T;have bi:=Z1 T;have H1:=Z1 h1;have b8:=af.hc;rw[h1];clear T h1 he av hg;go_wp2_with (fail);refine(a2V W2 e.cA e.cn e.cc e.chart false bj bk bl b8).mono ?_;rintro r W3 ⟨rfl,ab⟩;have J:=a0.trans (ab.mono a0.size);have a4:=gbox bi ab s2;have aw:=af.at_ ab;have ay:=RowsAt.at_ (RowsAt.at_ ax aa) ab;clear x2 x3 b8 af ax
  by_cases h2:Ch.valid false e.chart
  ·have x3:=cr9 3 a4
   simp at x3;have s3:(w:Nat)<W3:=Vq a4;have b3:=Z1 a4;have H2:=Z1 h2;rw[h2];clear a4 h2
   by_cases h4:400<e.ln
   ·have bo:(400:Int)<(e.ln:Int):=oM
    have HV:Hid (Gr.mapping e.chart gch e.links=false):=by show _=_;rw[Gr.mapping,Vr (by have:=a8.out;omega)];simp
    clear h4;go_wp2;go_ret;exact⟨by rw[HV];rfl,J⟩
   ·have bo:¬ (400:Int)<(e.ln:Int):=oM
    have HV:Hid (Gr.mapping e.chart gch e.links=(List.range e.links.length).all (Gr.linkAt e.chart gch e.links)):=by
     show _=_;rw[Gr.mapping,H1,H2,VT (by have:=a8.out;omega)];rfl
    have ar:=(VD W3 (.map #[] 0) _ s3).trans b3;have bf:=cr9 3 ar;simp at bf;obtain⟨b9,bm,_,b2⟩:=Z4 aw ay ar (SeenL.made W3 e.links);clear ar aw ay;go_wp2
    go_loopw [28] (fun i wr=>∃k:Nat,k<=e.ln/\i=k/\(List.range k).all (Gr.linkAt e.chart gch e.links)/\SeenL wr W3 e.links k/\Below W3 W3 wr) (fun i _=>e.ln-(intOf i).toNat)
    case atStart=>exact⟨0,Vb _,rfl,rfl,b2.out,bR.alloc lR _⟩
    case round =>
     obtain⟨k,hk,rfl,ah,Q,a5⟩:=hrel;have ag:=Z1 ah;have bv:=a5.size;have br:=J.trans (a5.mono J.size);clear ah x3 bf bu
     by_cases bz:k<e.ln
     ·have L:k<e.links.length:=by have:=a8.out;omega
      obtain⟨b,o,bp,_,c0,c1,c2⟩:=LnksAt.three (RowsAt.below b9.out.hl a5 lR) L;obtain⟨ap,a7,I,bw⟩:=a1m wr (e.links[k]) #[.int .i64 e.links[k].frm,(),.int .i64 e.links[k].since] 115 115;have ae:=gbox b3 a5 s3;have E:=gbox ae ap (Vq ae);have s:=(Q.alloc (.cells (e.links[k]) 115)).alloc (.cells #[.int .i64 e.links[k].frm,(),.int .i64 e.links[k].since] 115);obtain⟨Wa,aq⟩:=eX (((wr.alloc (.cells (e.links[k]) 115)).alloc (.cells #[.int .i64 e.links[k].frm,(),.int .i64 e.links[k].since] 115)));rw[<- aq] at ap a7 I bw E s;have bg:=Z1 aq;have hw:=al.out _ (Vm L);have az:=s.look _ _ hw.1 hw.2.2;have aj:=ae;have x3:=cr9 3 aj;simp at x3;have O:=a5.trans (ap.mono bv);have X:=Z1 (b3F L);have b4:=Z1 (a8b L);clear ae aj aq hw;go_upto_region 8 with(fail);rw[<- bg];clear bp;have z0:=cr9 0 I;have z1:=cr9 1 I;have z2:=cr9 2 I;have y0:=cr9 0 a7;have y1:=cr9 1 a7;have y2:=cr9 2 a7;have w0:=cr9 0 E;have w1:=cr9 1 E;have w2:=cr9 2 E;have w3:=cr9 3 E;have w4:=cr9 4 E;simp at z0 z1 z2 y0 y1 y2 w0 w1 w2 w3 w4;have t2:(wr:Nat)+1<Wa:=Vq I;have b5:=Z1 I;have au:=J.trans (O.mono J.size);clear a7 I E c0 c1 c2 x3 Q
      by_cases hs:(e.links.take k).any (fun r=>decide (r.frm=e.links[k].frm)&&decide (r.since=e.links[k].since))
      ·rw[hs] at az
       have W:=Z1 (a1K (chart:=e.chart) (gch:=gch) L (by rw[Gr.linkAt,X,b4,hs];simp));clear hs;go_wp2;go_ret;exact⟨by rw[W];rfl,au⟩
      ·have b1:(e.links.take k).any (fun r=>decide (r.frm=e.links[k].frm)&&decide (r.since=e.links[k].since))=false:=by simpa using hs
       rw[b1] at az;have Hs:=Z1 b1;have ba:=(b9.out.below O lR).more O.size;have bb:=(RowsAt.below bm O lR).more O.size;clear hs b1;go_wp2_with (fail);refine(b0D Wa e A n c gch e.links[k] hl hn ba bb).mono ?_;rintro r W5 ⟨rfl,ac⟩;have ai:=O.trans (ac.mono O.size);have b7:=au.trans (ac.mono au.size);have S:=s.below ac s.lt;have a6:=gbox b5 ac t2;clear z0 z1 z2 y0 y1 y2 w0 w1 w2 w3 w4 az ba bb
       by_cases ho:Gr.linkOk e.chart gch e.links[k]
       ·rw[ho]
        have z0:=cr9 0 a6;have z1:=cr9 1 a6;have z2:=cr9 2 a6;simp at z0 z1 z2;have ak:=Z1 (Gr.range_all ag (show Gr.linkAt e.chart gch e.links k by rw[Gr.linkAt,X,b4,Hs,ho];rfl));obtain⟨f,hm,hf⟩:=S;obtain⟨kl,be⟩:=linkKey e.links[k].frm 0 e.links[k].since (al _ (Vm L)).1 rfl (al _ (Vm L)).2.2;have am:=Z1 (a8w L f hf);clear ho a6 hf;go_wp2_with (at_mapUpdate;refine Xv rfl _ _ _ rfl hm linkLaw underlying328 rfl (by unfold maxLen;omega) _ _ _ rfl rfl be ?_;intro w7 bt bs);have bq:=ai.grown bs ai.size (fun j e=>by cases e;exact lR);go_roundw
        case rel=>exact⟨k+1,oM,by go_num,ak,⟨_,bt,am⟩,bq⟩
        case measure=>exact mS
       ·have b0:Gr.linkOk e.chart gch e.links[k]=false:=by simpa using ho
        rw[b0];have W:=Z1 (a1K (chart:=e.chart) (gch:=gch) L (by rw[Gr.linkAt,X,b0];rfl));clear ho b0 a6 S;go_wp2;go_ret;exact⟨by rw[W];rfl,b7⟩
     ·obtain rfl:k=e.ln:=oM
      have W:Hid (Gr.mapping e.chart gch e.links):=by show _=_;rw[HV,a8];exact ag
      clear Q;go_wp2;go_ret;exact⟨by rw[W];rfl,br⟩
  ·have ao:Ch.valid false e.chart=false:=by simpa using h2
   have HV:Hid (Gr.mapping e.chart gch e.links=false):=by show _=_;rw[Gr.mapping,ao];simp
   rw[ao];clear h2 ao a4 aw ay;go_wp2;go_ret;exact⟨by rw[HV];rfl,J⟩
 ·have an:Ch.valid true gch=false:=by simpa using h1
  have HV:Hid (Gr.mapping e.chart gch e.links=false):=by show _=_;rw[Gr.mapping,an];simp
  rw[an];clear h1 an T af he av;go_wp2;go_ret;exact⟨by rw[HV];rfl,a0⟩
structure Grp.At (w:World) (B:Nat) (g:Grp):Prop where
 hcl:g.chart.length=g.cn
 hcn:g.cn<=100000
 hc:AccsAt w B g.cA g.chart
 hcw:∀a∈g.chart,a.wf
 hel:g.ents.length=g.en
 hen:g.en<=100000
 he:RowsAt Ent.cells 5 w B g.eA g.ents
 hea:∀e∈g.ents,e.At w B
 hn:g.cur.size<=maxLen
 hr:∀r∈Gr.roles g,(Lit.int .i64 r.code).wf
theorem Grp.At.below {w w'} {B C} {g:Grp} (h:g.At w B) (i:Below C w w') (a:B<=C):g.At w' B :=
 ⟨h.hcl,h.hcn,RowsAt.below h.hc i a,h.hcw,h.hel,h.hen,RowsAt.below h.he i a,fun e o=>(h.hea e o).below i a,h.hn,h.hr⟩
theorem Grp.At.more {w} {B C} {g:Grp} (h:g.At w B) (a:B<=C):g.At w C :=
 ⟨h.hcl,h.hcn,RowsAt.more h.hc a,h.hcw,h.hel,h.hen,RowsAt.more h.he a,fun e i=>(h.hea e i).more a,h.hn,h.hr⟩
theorem Grp.At.at_ {w w'} {g:Grp} (h:g.At w w) (a:Below w w w'):g.At w' w'.heap.size:=(h.below a lR).more a.size
theorem VJ:(prog.info? 29).map (·.size)=some 21:=kR
theorem a1E:(prog.info? 26).map (·.size)=some 15:=kR
theorem a1N:(prog.info? 81).map (·.size)=some 5:=kR
def RolesPost (g:Grp) (w:World) (e:Ending) (w':World):Prop :=
 Below w w w'/\∃b,e=.returned (.slice (some ⟨b,0,none⟩) 15 15)/\w<=b/\RowsAt Role.cells 5 w' w' (some ⟨b,0,none⟩) (Gr.roles g)
theorem a1x {α:Type} (f:α->List Value) (sz:Nat):∀(l:List α),(∀a∈l,(f a).length=sz)->∀(k:Nat) (o:k<l.length) (j:Nat),j<sz->(l.flatMap f)[k*sz+j]?=(f l[k])[j]?
 |a::l,h,0,_,j,hj=>by
  rw[XB,List.getElem?_append_left (by rw[h a (XN)];omega)];simp
 |a::l,h,k+1,o,j,hj=>by
  have i:=h a (XN);rw[XB,List.getElem?_append_right (by rw[i,Jq];omega),i];rw[show(k+1)*sz+j-sz=k*sz+j by rw[Jq];omega];exact a1x f sz l (fun b s=>h b (XZ _ s)) k (by simpa using o) j hj
theorem a0z {α:Type} {f:α->List Value} {sz} {w} {B b} {l} {t} {fr} (J:w.heap[b]?=some (.cells (l.flatMap f).toArray t fr)) (I:b<B) (E:∀a∈l,(f a).length=sz):RowsAt f sz w B (some ⟨b,0,none⟩) l:=by
 refine .inr ⟨b,0,rfl,I,fun k s j v o=>?_⟩;have i:j<sz:=by have:=(List.getElem?_eq_some_iff.1 o).1;rw[E _ (Vm s)] at this;exact this
 rw[VN,cr9 _ J];have:=a1x f sz l E k s j i;rw[o] at this;simpa using this
theorem a4E (g):Calls prog 218 #[.agg #[g.r0,g.r1,g.r2,g.r3,g.r4,g.r5,g.r6,g.r7,g.r8,g.r9,g.r10,g.r11,g.r12,g.r13,g.r14]] w (RolesPost g w):=by
 go_enter func218,ntmps218;go_wp2;go_ret
 exact⟨(bR.alloc lR _).alloc sP _,w+1,rfl,oM,a0z (by
  have:=Vh (w.alloc (.cells #[g.r0,g.r1,g.r2,g.r3,g.r4,g.r5,g.r6,g.r7,g.r8,g.r9,g.r10,g.r11,g.r12,g.r13,g.r14] 26)) (.cells ((Gr.roles g).flatMap Role.cells).toArray 291)
  rwa [show(w.alloc (.cells #[g.r0,g.r1,g.r2,g.r3,g.r4,g.r5,g.r6,g.r7,g.r8,g.r9,g.r10,g.r11,g.r12,g.r13,g.r14] 26)).heap.size=w.heap.size+1 by simp] at this) sP (by simp[Gr.roles,Role.cells])⟩
theorem a4D (g):Calls prog 106 #[.agg #[g.r0,g.r1,g.r2,g.r3,g.r4,g.r5,g.r6,g.r7,g.r8,g.r9,g.r10,g.r11,g.r12,g.r13,g.r14]] w (RolesPost g w):=by
 go_enter func106,ntmps106;go_wp2;go_ret
 exact⟨(bR.alloc lR _).alloc sP _,w+1,rfl,oM,a0z (by
  have:=Vh (w.alloc (.cells #[g.r0,g.r1,g.r2,g.r3,g.r4,g.r5,g.r6,g.r7,g.r8,g.r9,g.r10,g.r11,g.r12,g.r13,g.r14] 26)) (.cells ((Gr.roles g).flatMap Role.cells).toArray 196)
  rwa [show(w.alloc (.cells #[g.r0,g.r1,g.r2,g.r3,g.r4,g.r5,g.r6,g.r7,g.r8,g.r9,g.r10,g.r11,g.r12,g.r13,g.r14] 26)).heap.size=w.heap.size+1 by simp] at this) sP (by simp[Gr.roles,Role.cells])⟩
theorem Xk (W:World) (cs:List Value) (t):∀j u,cs[j]?=some u->(W.alloc (.cells cs.toArray t)).cell? ((⟨W,0,none⟩:Addr).add j)=some u:=by
 intro j u a;rw[Zb,VN,cr9 _ (Vh W _)];simpa using a
theorem Xw {α:Type} {f:α->List Value} {sz} (a0:0<sz) (s:∀a,(f a).length=sz) {W} {base n} {v} {e} {l} (h:W.ownsRow base e sz v n (l.flatMap f)) (X:n=l.length):∃A c,v=.slice A n c/\RowsAt f sz W W A l:=by
 subst X
 rcases h.2 with⟨e,S⟩|⟨g,I,cur,e,_,J,O,_,hs,o⟩
 ·exact⟨none,0,by rw[e,S],.inl (List.length_eq_zero_iff.1 S)⟩
 ·refine⟨_,I,e,.inr ⟨g,0,rfl,(Array.getElem?_eq_some_iff.1 J).1,fun k E j v L=>?_⟩⟩
  have T:j<sz:=by have:=(List.getElem?_eq_some_iff.1 L).1;rw[s] at this;exact this
  rw[VN,cr9 _ J]
  have i:(l.flatMap f)[k*sz+j]?=(f l[k])[j]?:=by
   clear L o hs O J e h
   induction l generalizing k with
   |nil=>simp at E
   |cons a l ih =>
    match k,E with
    |0,_=>rw[XB,List.getElem?_append_left (by rw[s];omega)];simp
    |k+1,E =>
     rw[XB,List.getElem?_append_right (by rw[s,Jq];omega),s,show(k+1)*sz+j-sz=k*sz+j by rw[Jq];omega];exact ih k (by simpa using E)
  rw[L] at i
  have Q:k*sz+j<l.length*sz:=by
   have:(k+1)*sz<=l.length*sz:=Jw _ oM;rw[Jq] at this;omega
  have:(cur.toList.take (l.length*sz))[k*sz+j]?=some v:=by rw[o];exact i
  rw[List.getElem?_take,Vt Q] at this;simpa using this
def Fresh (n:Nat) (A:OA):Prop:=∀a,A=some a->n<=a.block
theorem a0K {W:World} {base n sz} {A} {m c} {e} {xs} (h:W.ownsRow base e sz (.slice A m c) n xs):Fresh base A:=by
 intro E o;subst o
 rcases h.2 with⟨a,_⟩|⟨g,i,cur,a,s,_⟩
 ·cases a
 ·cases a;exact s
theorem RowsAt.other_row {α:Type} {f:α->List Value} {sz} {w} {A} {l} (h:RowsAt f sz w w A l) {b n} (s:Fresh n A) (J:b<n) (cs):RowsAt f sz (w.setRow b cs) (w.setRow b cs).heap.size A l:=by
 rcases h with h|⟨b',o,e,I,i⟩
 ·exact .inl h
 ·have a:b'≠b:=by have:=s _ e;simp at this;omega
  exact .inr ⟨b',o,e,by simpa using I,fun k E j v hv=>(World.cell?_of_block (w:=w) (Vl w b b' cs a)).trans (i k E j v hv)⟩
theorem Vj {a b} {base} {e} {size n} {v} {xs} (h:a.ownsRow base e size v n xs) (o:Below a.heap.size a b):b.ownsRow base e size v n xs :=
 h.kept (row:=none) ⟨o.os,o.tape,o.output,o.size,fun i s _=>o.block i s⟩ (by cases v.ownBlock <;> simp)
theorem Xj {α:Type} {f:α->List Value} {sz:Nat} (i:∀a,(f a).length=sz):∀(l:List α),(l.flatMap f).length=l.length*sz
 |[]=>sP
 |a::l=>by rw[XB,Vc,Xj i l,i,Xl,Jq];omega
theorem a0N {α:Type} {f:α->List Value} {sz} (s:0<sz) (E:∀a,(f a).length=sz) {w} {B} {ad} {l} (h:RowsAt f sz w B (some ad) l):∀j u,(l.flatMap f)[j]?=some u->w.cell? (ad.add j)=some u:=by
 intro j u i
 rcases h with h|⟨b,o,e,_,Q⟩
 ·subst h;simp at i
 ·cases e
  have L:j<l.length*sz:=by have:=(List.getElem?_eq_some_iff.1 i).1;rwa [Xj E] at this
  have I:j / sz<l.length:=Nat.div_lt_of_lt_mul (by rwa [K5]);have O:=QJ j s;have J:j / sz*sz+j % sz=j:=Nat.div_add_mod' j sz;have e:=a1x f sz l (fun a _=>E a) (j / sz) I (j % sz) O;rw[J,i] at e;have:=Q (j / sz) I (j % sz) u e.symm;rw[Zb];rw[show o+j / sz*sz+j % sz=o+j by omega] at this;exact this
def RowsTy {α:Type} (t:TypeId) (w:World) (A:OA) (l:List α):Prop:=l=[]∨∃b o cur a,A=some ⟨b,o,none⟩/\w.heap[b]?=some (.cells cur t a)
theorem RowsTy.below {α:Type} {t} {w w'} {A} {l:List α} (h:RowsTy t w A l) (s:Below w w w'):RowsTy t w' A l:=by
 rcases h with h|⟨b,o,cur,i,e,a⟩
 ·exact .inl h
 ·exact .inr ⟨b,o,cur,i,e,(s.block b (Vq a)).trans a⟩
theorem RowsTy.kept {α:Type} {f:α->List Value} {sz} {t} {w w'} {A} {l} {v} (h:RowsTy t w A l) (Q:RowsAt f sz w w A l) {base s n} {e'} {xs} (S:w.ownsRow base e' s v n xs) (a:e'≠t) (J:w.grownBy w' v.ownBlock) :
  RowsTy t w' A l/\RowsAt f sz w' w' A l:=by
 rcases h with h|⟨b,o,cur,O,e,E⟩
 ·exact⟨.inl h,.inl h⟩
 ·have a:some b≠v.ownBlock:=fun q=>by
   rcases S.2 with⟨rfl,_⟩|⟨g,L,I,rfl,_,i,_⟩
   ·simp[Value.ownBlock] at q
   ·simp[Value.ownBlock] at q
    subst q;rw[E] at i
    cases i
    exact a rfl
  refine⟨.inr ⟨b,o,cur,O,e,(J.block b (Vq E) a).trans E⟩,RowsAt.kept Q J fun b' T q=>?_⟩;rw[e] at q
  cases q
  exact a
theorem a3j {α:Type} {f:α->List Value} {sz} {t} {W} {base n} {A} {c} {l} (h:W.ownsRow base t sz (.slice A n c) n (l.flatMap f)) (s:n=l.length):RowsTy t W A l:=by
 subst s
 rcases h.2 with⟨e,i⟩|⟨g,a,cur,e,_,o,_⟩
 ·exact .inl (List.length_eq_zero_iff.1 i)
 ·cases e;exact .inr ⟨g,0,cur,_,rfl,o⟩
def ClonePost {α:Type} (f:α->List Value) (sz:Nat) (t:TypeId) (n:Nat) (l:List α) (w:World) (e:Ending) (w':World):Prop :=
 Below w w w'/\∃A c,e=.returned (.slice A n c)/\w'.ownsRow w t sz (.slice A n c) n (l.flatMap f)
theorem ClonePost.nil {α:Type} {f:α->List Value} {sz} {t} {w}:ClonePost f sz t 0 ([]:List α) w (.returned (.slice none 0 0)) w :=
 ⟨bR,none,0,rfl,sP,.inl ⟨rfl,rfl⟩⟩
theorem linInfo:(prog.info? 66).map (fun i=>(i.zero,i.size,i.bytes))=some (some (.agg #[(),(),()]),3,24):=kR
theorem b1k (A) (n c) (l) (Q:l.length=n) (hn:n<=100000) (h:RowsAt Lin.cells 3 w w A l) :
  Calls prog 173 #[.slice A n c] w (ClonePost Lin.cells 3 66 n l w):=by
 have qn:=fun(w:World) (a:OA) (n c n' c':Nat)=>Zp (P:=prog) w _ _ a n c n' c' underlying44
 cases A with
 |none =>
  have T:l=[]:=by rcases h with h|⟨b,o,e,_⟩;exact h;cases e
  subst T;obtain rfl:n=0:=by simpa using Q.symm
  clear Q h hn;go_enter func173,ntmps173;go_wp2;go_ret;exact ClonePost.nil
 |some ad =>
  obtain⟨i0,hi,a4,a5,a6⟩:=XW linInfo;have E:Hid (∀j u,(l.flatMap Lin.cells)[j]?=some u->(w.alloc (.cells #[] 66)).cell? (ad.add j)=some u):=Z1 fun j u hj=>Lib.cell?_alloc_some _ (a0N (f:=Lin.cells) (sz:=3) dC (fun _=>rfl) h j u hj);have J:Hid ((l.flatMap Lin.cells).length=n*3):=by show _=_;rw[Xj (f:=Lin.cells) (sz:=3) (fun _=>rfl),Q]
  have L:Hid (∀u∈l.flatMap Lin.cells,u.oneCell'=true):=Z1 fun u hu=>by
   rw[Yz] at hu;obtain⟨x,_,hx⟩:=hu;revert u;simp[Lin.cells,Value.oneCell']
  have W:0+n<=maxLen:=by unfold maxLen;omega
  have X:(0+n)*24<=140737488355328:=oM;have a0:w.heap.size<=(w.alloc (.cells #[] 66)).heap.size:=sP;have s:=Y5 (e:=66) (size:=3) w #[] 0 lR (Vb _) rfl;clear Q h;go_enter func173,ntmps173;go_wp2_with (at_builtin;refine Hid.out ?_);show wpList _ _ _ _ _ _;refine Xd _ rfl _ _ 44 rfl w.heap.size 66 i0 (.agg #[(),(),()]) 3 24 underlying44 hi a4 a5 a6 rfl dC _ _ _ rfl s ad n c (l.flatMap Lin.cells) rfl J.out E.out L.out W X a0 ?_;intro v' w1 i I _;have hb:Below w w w1:=((VM _ w).alloc lR _).grown I sP (fun k hk=>(s.lt k hk).1);rw[VN,Xr] at i
  obtain⟨S,c',rfl⟩:∃S c',v'=.slice S n c':=by
   rcases i.2 with⟨e,T⟩|⟨g,a7,cur,e,_⟩
   ·exact⟨none,0,by rw[e,T]⟩
   ·exact⟨_,_,e⟩
  have O:=Z1 i;have Hb:=Z1 hb;clear i hb;go_wp2;go_ret;exact⟨Hb.out,S,c',rfl,O.out⟩
theorem accInfo:(prog.info? 113).map (fun i=>(i.zero,i.size,i.bytes))=some (some (.agg #[(),(),(),()]),4,32):=kR
theorem a2P (A) (n c) (l) (Q:l.length=n) (hn:n<=100000) (h:RowsAt Acc.cells 4 w w A l) :
  Calls prog 165 #[.slice A n c] w (ClonePost Acc.cells 4 113 n l w):=by
 have qn:=fun(w:World) (a:OA) (n c n' c':Nat)=>Zp (P:=prog) w _ _ a n c n' c' Jk
 cases A with
 |none =>
  have T:l=[]:=by rcases h with h|⟨b,o,e,_⟩;exact h;cases e
  subst T;obtain rfl:n=0:=by simpa using Q.symm
  clear Q h hn;go_enter func165,ntmps165;go_wp2;go_ret;exact ClonePost.nil
 |some ad =>
  obtain⟨i0,hi,a4,a5,a6⟩:=XW accInfo;have E:Hid (∀j u,(l.flatMap Acc.cells)[j]?=some u->(w.alloc (.cells #[] 113)).cell? (ad.add j)=some u):=Z1 fun j u hj=>Lib.cell?_alloc_some _ (a0N (f:=Acc.cells) (sz:=4) dC (fun _=>rfl) h j u hj);have J:Hid ((l.flatMap Acc.cells).length=n*4):=by show _=_;rw[Xj (f:=Acc.cells) (sz:=4) (fun _=>rfl),Q]
  have L:Hid (∀u∈l.flatMap Acc.cells,u.oneCell'=true):=Z1 fun u hu=>by
   rw[Yz] at hu;obtain⟨x,_,hx⟩:=hu;revert u;simp[Acc.cells,Value.oneCell']
  have W:0+n<=maxLen:=by unfold maxLen;omega
  have X:(0+n)*32<=140737488355328:=oM;have a0:w.heap.size<=(w.alloc (.cells #[] 113)).heap.size:=sP;have s:=Y5 (e:=113) (size:=4) w #[] 0 lR (Vb _) rfl;clear Q h;go_enter func165,ntmps165;go_wp2_with (at_builtin;refine Hid.out ?_);show wpList _ _ _ _ _ _;refine Xd _ rfl _ _ 24 rfl w.heap.size 113 i0 (.agg #[(),(),(),()]) 4 32 Jk hi a4 a5 a6 rfl dC _ _ _ rfl s ad n c (l.flatMap Acc.cells) rfl J.out E.out L.out W X a0 ?_;intro v' w1 i I _;have hb:Below w w w1:=((VM _ w).alloc lR _).grown I sP (fun k hk=>(s.lt k hk).1);rw[VN,Xr] at i
  obtain⟨S,c',rfl⟩:∃S c',v'=.slice S n c':=by
   rcases i.2 with⟨e,T⟩|⟨g,a7,cur,e,_⟩
   ·exact⟨none,0,by rw[e,T]⟩
   ·exact⟨_,_,e⟩
  have O:=Z1 i;have Hb:=Z1 hb;clear i hb;go_wp2;go_ret;exact⟨Hb.out,S,c',rfl,O.out⟩
theorem lnkInfo:(prog.info? 115).map (fun i=>(i.zero,i.size,i.bytes))=some (some (.agg #[(),(),()]),3,24):=kR
theorem a4n (A) (n c) (l) (Q:l.length=n) (hn:n<=100000) (h:RowsAt Lnk.cells 3 w w A l) :
  Calls prog 167 #[.slice A n c] w (ClonePost Lnk.cells 3 115 n l w):=by
 have qn:=fun(w:World) (a:OA) (n c n' c':Nat)=>Zp (P:=prog) w _ _ a n c n' c' underlying79
 cases A with
 |none =>
  have T:l=[]:=by rcases h with h|⟨b,o,e,_⟩;exact h;cases e
  subst T;obtain rfl:n=0:=by simpa using Q.symm
  clear Q h hn;go_enter func167,ntmps167;go_wp2;go_ret;exact ClonePost.nil
 |some ad =>
  obtain⟨i0,hi,a4,a5,a6⟩:=XW lnkInfo;have E:Hid (∀j u,(l.flatMap Lnk.cells)[j]?=some u->(w.alloc (.cells #[] 115)).cell? (ad.add j)=some u):=Z1 fun j u hj=>Lib.cell?_alloc_some _ (a0N (f:=Lnk.cells) (sz:=3) dC (fun _=>rfl) h j u hj);have J:Hid ((l.flatMap Lnk.cells).length=n*3):=by show _=_;rw[Xj (f:=Lnk.cells) (sz:=3) (fun _=>rfl),Q]
  have L:Hid (∀u∈l.flatMap Lnk.cells,u.oneCell'=true):=Z1 fun u hu=>by
   rw[Yz] at hu;obtain⟨x,_,hx⟩:=hu;revert u;simp[Lnk.cells,Value.oneCell']
  have W:0+n<=maxLen:=by unfold maxLen;omega
  have X:(0+n)*24<=140737488355328:=oM;have a0:w.heap.size<=(w.alloc (.cells #[] 115)).heap.size:=sP;have s:=Y5 (e:=115) (size:=3) w #[] 0 lR (Vb _) rfl;clear Q h;go_enter func167,ntmps167;go_wp2_with (at_builtin;refine Hid.out ?_);show wpList _ _ _ _ _ _;refine Xd _ rfl _ _ 79 rfl w.heap.size 115 i0 (.agg #[(),(),()]) 3 24 underlying79 hi a4 a5 a6 rfl dC _ _ _ rfl s ad n c (l.flatMap Lnk.cells) rfl J.out E.out L.out W X a0 ?_;intro v' w1 i I _;have hb:Below w w w1:=((VM _ w).alloc lR _).grown I sP (fun k hk=>(s.lt k hk).1);rw[VN,Xr] at i
  obtain⟨S,c',rfl⟩:∃S c',v'=.slice S n c':=by
   rcases i.2 with⟨e,T⟩|⟨g,a7,cur,e,_⟩
   ·exact⟨none,0,by rw[e,T]⟩
   ·exact⟨_,_,e⟩
  have O:=Z1 i;have Hb:=Z1 hb;clear i hb;go_wp2;go_ret;exact⟨Hb.out,S,c',rfl,O.out⟩
theorem entInfo:(prog.info? 81).map (fun i=>(i.zero,i.size,i.bytes))=some (some (.agg #[.string ByteArray.empty,.string ByteArray.empty,.slice none 0 0,.slice none 0 0,false]),5,88):=kR
theorem b1n (A) (n c) (l) (Q:l.length=n) (hn:n<=100000) (h:RowsAt Ent.cells 5 w w A l) :
  Calls prog 166 #[.slice A n c] w (ClonePost Ent.cells 5 81 n l w):=by
 have qn:=fun(w:World) (a:OA) (n c n' c':Nat)=>Zp (P:=prog) w _ _ a n c n' c' underlying27
 cases A with
 |none =>
  have T:l=[]:=by rcases h with h|⟨b,o,e,_⟩;exact h;cases e
  subst T;obtain rfl:n=0:=by simpa using Q.symm
  clear Q h hn;go_enter func166,ntmps166;go_wp2;go_ret;exact ClonePost.nil
 |some ad =>
  obtain⟨i0,hi,a4,a5,a6⟩:=XW entInfo;have E:Hid (∀j u,(l.flatMap Ent.cells)[j]?=some u->(w.alloc (.cells #[] 81)).cell? (ad.add j)=some u):=Z1 fun j u hj=>Lib.cell?_alloc_some _ (a0N (f:=Ent.cells) (sz:=5) dC (fun _=>rfl) h j u hj);have J:Hid ((l.flatMap Ent.cells).length=n*5):=by show _=_;rw[Xj (f:=Ent.cells) (sz:=5) (fun _=>rfl),Q]
  have L:Hid (∀u∈l.flatMap Ent.cells,u.oneCell'=true):=Z1 fun u hu=>by
   rw[Yz] at hu;obtain⟨x,_,hx⟩:=hu;revert u;simp[Ent.cells,Value.oneCell']
  have W:0+n<=maxLen:=by unfold maxLen;omega
  have X:(0+n)*88<=140737488355328:=oM;have a0:w.heap.size<=(w.alloc (.cells #[] 81)).heap.size:=sP;have s:=Y5 (e:=81) (size:=5) w #[] 0 lR (Vb _) rfl;clear Q h;go_enter func166,ntmps166;go_wp2_with (at_builtin;refine Hid.out ?_);show wpList _ _ _ _ _ _;refine Xd _ rfl _ _ 27 rfl w.heap.size 81 i0 (.agg #[.string ByteArray.empty,.string ByteArray.empty,.slice none 0 0,.slice none 0 0,false]) 5 88 underlying27 hi a4 a5 a6 rfl dC _ _ _ rfl s ad n c (l.flatMap Ent.cells) rfl J.out E.out L.out W X a0 ?_;intro v' w1 i I _;have hb:Below w w w1:=((VM _ w).alloc lR _).grown I sP (fun k hk=>(s.lt k hk).1);rw[VN,Xr] at i
  obtain⟨S,c',rfl⟩:∃S c',v'=.slice S n c':=by
   rcases i.2 with⟨e,T⟩|⟨g,a7,cur,e,_⟩
   ·exact⟨none,0,by rw[e,T]⟩
   ·exact⟨_,_,e⟩
  have O:=Z1 i;have Hb:=Z1 hb;clear i hb;go_wp2;go_ret;exact⟨Hb.out,S,c',rfl,O.out⟩
def KeepT (t:TypeId) (W o:World):Prop:=∀(b:Nat) (a:AV) (i:Nat × Nat),W.heap[b]?=some (Obj.cells a t i)->o.heap[b]?=some (Obj.cells a t i)
theorem KeepT.refl (t) (W):KeepT t W W:=fun _ _ _ h=>h
theorem KeepT.trans {t} {A B C} (h:KeepT t A B) (k:KeepT t B C):KeepT t A C:=fun b a i e=>k b a i (h b a i e)
theorem KeepT.below {t} {W a:World} (h:Below W W a):KeepT t W a:=fun b _ _ e=>(h.block b (Vq e)).trans e
theorem KeepT.putObj {t} (W) (l) (o o') (h:W.heap[l]?=some o) (a:o.isCells=false):KeepT t W (W.putObj l o'):=fun b i s e =>
 (World.putObj_heap_other (fun q=>by rw[q,h] at e;cases e;cases a)).trans e
theorem KeepT.setCell {t s} {W} {p} {cs} {fr} (h:W.heap[p.block]?=some (.cells cs s fr)) (a:s≠t) (v):KeepT t W (W.setCell p v):=fun b i o e =>
 (VR _ _ _ _ (fun q=>by rw[q,h] at e;cases e;exact a rfl)).trans e
theorem KeepT.setRow {t s} {W} {b} {cs} {fr} (h:W.heap[b]?=some (.cells cs s fr)) (a:s≠t) (new):KeepT t W (W.setRow b new):=fun b' i o e =>
 (Vl _ _ _ _ (fun q=>by rw[q,h] at e;cases e;exact a rfl)).trans e
theorem RowsTy.keepT {α:Type} {f:α->List Value} {sz} {t} {W W'} {A} {l} (h:RowsTy t W A l) (L:RowsAt f sz W W A l) (E:KeepT t W W') (Q:(W:Nat)<=W'):RowsTy t W' A l/\RowsAt f sz W' W' A l:=by
 rcases h with h|⟨b,o,cur,I,e,a⟩
 ·exact⟨.inl h,.inl h⟩
 ·refine⟨.inr ⟨b,o,cur,I,e,E _ _ _ a⟩,?_⟩
  rcases L with h|⟨b',S,s,O,J⟩
  ·exact .inl h
  ·rw[e] at s
   cases s
   exact .inr ⟨b,o,e,oM,fun k i j v hv=>(World.cell?_of_block (w:=W) ((E _ _ _ a).trans a.symm)).trans (J k i j v hv)⟩
def Elt (P:Program) (t e:TypeId) (sz:Nat):Prop :=
 ∃(i:TypeInfo) (z:Value) (a:Nat),P.underlying t=some (.slice e)/\P.info? e=some i/\i.zero=some z/\i.size=sz/\i.bytes=a/\z.cells.size=sz/\0<sz/\a<=1000
theorem a4e {P} {t e} {sz bts} {z} (L:P.underlying t=some (.slice e)) (h:(P.info? e).map (fun i=>(i.zero,i.size,i.bytes))=some (some z,sz,bts)) (O:z.cells.size=sz) (a:0<sz) (I:bts<=1000):Elt P t e sz:=by
 obtain⟨Q,J,o,s,E⟩:=XW h;exact⟨Q,z,bts,L,J,o,s,E,O,a,I⟩
theorem b3A {w:World} {base base' size n} {e} {v} {xs} (h:w.ownsRow base e size v n xs) (o:base'<=base):w.ownsRow base' e size v n xs :=
 ⟨h.1,h.2.imp id (fun⟨g,i,cur,a,b,c⟩=>⟨g,i,cur,a,Vn o b,c⟩)⟩
theorem a2L {W w'} {base n sz} {e t'} {v} {xs} (i:W.ownsRow base e sz v n xs) (J:W.grownBy w' v.ownBlock) (s:t'≠e):KeepT t' W w':=by
 intro b L O o;refine(J.block b (Vq o) (fun q=>?_)).trans o
 rcases i.2 with⟨rfl,_⟩|⟨g,I,E,rfl,_,a,_⟩
 ·simp[Value.ownBlock] at q
 ·simp[Value.ownBlock] at q
  subst q;rw[o] at a
  cases a
  exact s rfl
theorem a1o {P} {ops} {rest} {o} {a} {Q} {W:World} {base} {e t} {sz n} {v} {xs} (E:Elt P t e sz) (J:W.ownsRow base e sz v n xs) (cs)
  {s x:Operand} (T:o.guard=none) (ho:o.op=.call { callee:=.builtin .append,args:=#[s,x],argTypes:=#[t,t] }) (hs:a.eval s=v) (hx:a.eval x=.slice (some ⟨W,0,none⟩) 1 1) (hl:cs.length=sz) (h1:cs.all (·.oneCell')) (hn:n<=100000) (hb:base<=W)
  (h:∀v' w',w'.ownsRow base e sz v' (n+1) (xs++cs)->Below base W w'->(∀t',t'≠e->KeepT t' W w')->wpList P ops Q rest (a.put o.dst v') w'):wpList P ops Q (o::rest) a (W.alloc (.cells cs.toArray e)):=by
 obtain⟨i,z,I,hu,hi,hz,a4,S,a5,h0,O⟩:=E;have L:=J.alloc (.cells cs.toArray e);have hw:W.heap.size<=(W.alloc (.cells cs.toArray e)).heap.size:=sP;have a6:(n+1)*I<=100001*1000:=ZL oM O;refine Xd _ T s x t ho base e i z sz I hu hi hz a4 S a5 h0 v n xs hs L ⟨W,0,none⟩ 1 1 cs hx oM (Xk W cs e) (fun u hu=>by simpa using Xb.1 h1 u hu) (by unfold maxLen;omega) oM oM ?_;intro v' w' a0 hg _;exact h v' w' a0 (((VM _ W).alloc hb _).grown hg oM (fun k hk=>(L.lt k hk).1)) (fun t' X=>(KeepT.below (bR.alloc lR _)).trans (a2L L hg X))
theorem a3i {P:Program} {o:Oper} {a:Act} {K:Act->World->Prop} {Q:Exit->Act->World->Prop} {W:World} {base:Nat} {e t:TypeId} {sz n:Nat} {v:Value} {xs:List Value} (E:Elt P t e sz) (J:W.ownsRow base e sz v n xs) (S:Addr) (m c:Nat) (I:List Value)
  {s x:Operand} (ho:o.op=.call { callee:=.builtin .append,args:=#[s,x],argTypes:=#[t,t] }) (hs:a.eval s=v) (hx:a.eval x=.slice (some S) m c) (hl:I.length=m*sz) (L:∀j u,I[j]?=some u->W.cell? (S.add j)=some u) (h1:I.all (·.oneCell')) (hn:n+m<=100000) (hb:base<=W)
  (h:∀v' w',w'.ownsRow base e sz v' (n+m) (xs++I)->Below base W w'->(∀t',t'≠e->KeepT t' W w')->(∀b,b<W.heap.size->some b≠v.ownBlock->w'.heap[b]?=W.heap[b]?)->K (a.put o.dst v') w'):o.wp P a W K Q:=by
 obtain⟨i,z,O,hu,hi,hz,a5,X,a6,h0,T⟩:=E;have a7:(n+m)*O<=100000*1000:=ZL hn T;refine Ql W s x t ho base e i z sz O hu hi hz a5 X a6 h0 v n xs hs J S m c I hx hl L (fun u hu=>by simpa using Xb.1 h1 u hu) (by unfold maxLen;omega) oM hb ?_;intro v' w' a4 hg _;exact h v' w' a4 ((VM _ W).grown hg hb (fun k hk=>(J.lt k hk).1)) (fun t' a0=>a2L J hg a0) hg.block
theorem a2B {F:Fence} {m} {P} {ops} {rest} {o} {a} {Q} {W:World} {base} {e t} {sz n} {v} {xs} (E:Elt P t e sz) (J:W.ownsRow base e sz v n xs) (cs)
  {s x:Operand} (S:o.guard=none) (ho:o.op=.call { callee:=.builtin .append,args:=#[s,x],argTypes:=#[t,t] }) (hs:a.eval s=v) (hx:a.eval x=.slice (some ⟨W,0,none⟩) 1 1) (hl:cs.length=sz) (h1:cs.all (·.oneCell')) (hn:n<=100000) (hb:base<=W)
  (h:∀v' w',w'.ownsRow base e sz v' (n+1) (xs++cs)->(W.alloc (.cells cs.toArray e)).grownBy w' v.ownBlock->wpListIn F m P ops Q rest (a.put o.dst v') w'):wpListIn F m P ops Q (o::rest) a (W.alloc (.cells cs.toArray e)):=by
 obtain⟨i,z,I,hu,hi,hz,X,O,a0,h0,L⟩:=E;have ha:=J.alloc (.cells cs.toArray e);have hw:W.heap.size<=(W.alloc (.cells cs.toArray e)).heap.size:=sP;have a4:(n+1)*I<=100001*1000:=ZL oM L;refine wpListIn_append_own _ S s x t ho base e i z sz I hu hi hz X O a0 h0 v n xs hs ha ⟨W,0,none⟩ 1 1 cs hx oM (Xk W cs e) (fun u hu=>by simpa using Xb.1 h1 u hu) (by unfold maxLen;omega) oM oM ?_;intro v' w' T hg _;exact h v' w' T hg
theorem eltInt:Elt prog 108 3 1:=a4e ZT (show _=some (some (.int .i64 0),1,8) by kernel_rfl) rfl dC dC
theorem eltRat:Elt prog 161 52 4:=a4e underlying161 (show _=some (some (.agg ZR),4,64) by kernel_rfl) rfl dC dC
theorem eltRow:Elt prog 262 161 1:=a4e underlying262 (show _=some (some (.slice none 0 0),1,24) by kernel_rfl) rfl dC dC
theorem eltItv:Elt prog 97 93 3:=a4e underlying97 (show _=some (some (.agg #[(),(),()]),3,24) by kernel_rfl) rfl dC dC
structure MRow where
 b:Nat
 l:List Rn
def rcells (l:List Rn):Array Value:=(l.flatMap Rn.cells).toArray
def hcells (n k wd:Nat) (R:Nat->MRow):Array Value:=((List.range n).map (fun i=>if i<k then Value.slice (some ⟨(R i).b,0,none⟩) wd wd else .slice none 0 0)).toArray
structure Mx (w:World) (lo g n k wd:Nat) (R:Nat->MRow) (K:Nat->Nat):Prop where
 hg:Row w g 161 (hcells n k wd R)
 hr:∀i,i<k->Row w (R i).b 52 (rcells (R i).l)/\(R i).l.length=wd/\lo<=(R i).b
 inj:∀i,i<k->∀j,j<k->(R i).b=(R j).b->i=j
 hx:∀i,i<k->∀x∈(R i).l,x.At w w (K i)
theorem a2K {α:Type} (f) (n i) (v:α):((List.range n).map f).set i v=(List.range n).map (fun j=>if j=i then v else f j):=by
 apply List.ext_getElem?;intro j;rw[List.getElem?_set]
 by_cases a:j<n
 ·by_cases h:i=j
  ·subst h;simp[a]
  ·simp[h,a,Ne.symm h]
 ·have:¬ i=j∨¬ i<n:=oM
  by_cases h:i=j
  ·subst h;simp[a]
  ·simp[h,a]
theorem b3S (l:List Rn):∀k (x:Rn),k<l.length->((((l.flatMap Rn.cells).set (k*4) (.bool x.g1)).set (k*4+1) (.slice x.A1 x.n1 x.c1)).set (k*4+2) (.bool x.g2)).set (k*4+3) (.slice x.A2 x.n2 x.c2)=(l.set k x).flatMap Rn.cells:=by
 induction l with
 |nil=>intro k x h;simp at h
 |cons y t ih =>
  intro k x h
  match k with
  |0=>simp[Rn.cells]
  |k+1 =>
   have:=ih k x (by simpa using h);rw[YL,XB,XB,<- this,show(k+1)*4=k*4+4 by omega];simp[Rn.cells]
theorem a5m {w} {b} {t} {l} {k} (x) (h:Row w b t (rcells l)) (i:k<l.length):Row (w.setCells b (k*4) x.cells) b t (rcells (l.set k x)):=by
 have a:=Row.set (Row.set (Row.set (Row.set h (k*4) (.bool x.g1)) (k*4+1) (.slice x.A1 x.n1 x.c1)) (k*4+2) (.bool x.g2)) (k*4+3) (.slice x.A2 x.n2 x.c2)
 have e:(((((rcells l).setIfInBounds (k*4) (.bool x.g1)).setIfInBounds (k*4+1) (.slice x.A1 x.n1 x.c1)).setIfInBounds (k*4+2) (.bool x.g2)).setIfInBounds (k*4+3) (.slice x.A2 x.n2 x.c2))=rcells (l.set k x):=by
  unfold rcells;rw[<- b3S l k x i];simp
 rw[e] at a;exact a
theorem a0L (b:Nat):∀(a:List Value) (o:Nat) (w:World) (c:Nat),c≠b->(w.setCells b o a).heap[c]?=w.heap[c]?
 |[],_,_,_,_=>rfl
 |v::a,o,w,c,h=>by
  show((w.setCell ⟨b,o,none⟩ v).setCells b (o+1) a).heap[c]?=_;rw[a0L b a (o+1) _ c h,VR _ _ _ _ (by show c≠b;exact h)]
theorem a0E (b:Nat):∀(a:List Value) (o:Nat) (w:World),(w.setCells b o a).heap.size=w.heap.size
 |[],_,_=>rfl
 |v::a,o,w=>by
  show((w.setCell ⟨b,o,none⟩ v).setCells b (o+1) a).heap.size=_;rw[a0E b a (o+1)];simp[World.setCell]
theorem a0O (l) (j:Nat) (n):(rcells l)[j]?≠some (.int .u32 n):=by
 intro h;have a:=Array.mem_of_getElem? h;unfold rcells at a;rw[List.mem_toArray,Yz] at a;obtain⟨x,_,i⟩:=a;simp[Rn.cells] at i
theorem a1L (n k wd) (R) (j:Nat) (z):(hcells n k wd R)[j]?≠some (.int .u32 z):=by
 intro h;have a:=Array.mem_of_getElem? h;unfold hcells at a;rw[List.mem_toArray,Yg] at a;obtain⟨x,_,i⟩:=a
 split at i <;> cases i
theorem Rn.At.other {w w'} {B K b:Nat} {x:Rn} {cs} {t} {fr} (h:x.At w B K) (i:w.heap[b]?=some (.cells cs t fr)) (a:∀(j:Nat) (n:Int),cs[j]?≠some (.int .u32 n)) (o:∀c,c≠b->w'.heap[c]?=w.heap[c]?):x.At w' B K:=by
 exact RI.other h i a o
theorem rowHdr:(161:Nat)≠52:=dC
section
variable {w:World} {lo g n k wd:Nat} {R:Nat->MRow} {K:Nat->Nat}
theorem Mx.ne (h:Mx w lo g n k wd R K) {i} (s:i<k):(R i).b≠g:=by
 intro e;have a:=(h.hr i s).1;have o:=h.hg;unfold Row at a o;rw[e,o] at a;injection a with a;injection a with _ a;exact rowHdr a
theorem Mx.below {w'} (h:Mx w lo g n k wd R K) (o:Below w w w'):Mx w' lo g n k wd R K :=
 ⟨(o.block g (Vq h.hg)).trans h.hg,fun i a=>⟨(o.block _ (Vq (h.hr i a).1)).trans (h.hr i a).1,(h.hr i a).2⟩,h.inj,fun i a x s=>((h.hx i a x s).below o lR).more o.size lR⟩
theorem Mx.wider {K'} (h:Mx w lo g n k wd R K) (o:∀i,i<k->K i<=K' i):Mx w lo g n k wd R K':=⟨h.hg,h.hr,h.inj,fun i a x s=>(h.hx i a x s).more lR (o i a)⟩
theorem Mx.head (h:Mx w lo g n k wd R K) {i} (a:i<k) (o:i<n):w.cell? ⟨g,i,none⟩=some (.slice (some ⟨(R i).b,0,none⟩) wd wd):=by
 rw[cr9 i h.hg];unfold hcells;simp[o,a]
theorem Mx.get (h:Mx w lo g n k wd R K) {i j} (o:i<k) (J:j<wd):∃x:Rn,(R i).l[j]?=some x/\w.rangeAt (R i).b (j*4) x.cells/\x.At w w (K i):=by
 obtain⟨s,I,_⟩:=h.hr i o;have a:j<(R i).l.length:=oM;refine⟨(R i).l[j],List.getElem?_eq_getElem a,?_,h.hx i o _ (Vm a)⟩;intro q v hv;have E:q<4:=(List.getElem?_eq_some_iff.1 hv).1;rw[Jv _ _ (j*4+q) _ _ _ s];unfold rcells;have e:=a1x Rn.cells 4 (R i).l (fun _ _=>rfl) j a q E;rw[hv] at e;simpa using e
theorem Mx.there (h:Mx w lo g n k wd R K) {i j} (a:i<k) (o:j<wd):w.there (R i).b (j*4) 4:=by
 obtain⟨x,_,E,_⟩:=h.get a o;intro q s;exact⟨E.isSome q s,fr0 _ (h.hr i a).1⟩
theorem Mx.change (h:Mx w lo g n k wd R K) {i} (J:i<k) {w'} {l} {K'} (W:∀q,q<k->K q<=K' q) (I:Row w' (R i).b 52 (rcells l)) (X:l.length=wd) (Q:∀c,c≠(R i).b->w'.heap[c]?=w.heap[c]?) (O:(w':Nat)=w)
  (hx:∀x∈l,x.At w' w' (K' i)):Mx w' lo g n k wd (fun q=>if q=i then⟨(R i).b,l⟩ else R q) K'/\∀(y:Rn) (L:Nat),y.At w w L->y.At w' w' L:=by
 obtain⟨S,h2,T⟩:=h.hr i J;have s:∀q,(if q=i then(⟨(R i).b,l⟩:MRow) else R q).b=(R q).b:=fun q=>by by_cases e:q=i <;> simp[e]
 have a:∀(y:Rn) (L:Nat),y.At w w L->y.At w' w' L:=fun y L E=>by rw[O];exact E.other S (a0O _) Q
 refine⟨⟨?_,fun q o=>?_,fun q o p hp e=>h.inj q o p hp (by rw[s,s] at e;exact e),fun q o y E=>?_⟩,a⟩
 ·have e:hcells n k wd (fun q=>if q=i then(⟨(R i).b,l⟩:MRow) else R q)=hcells n k wd R:=by unfold hcells;simp only[s]
  rw[e];exact(Q _ (fun q=>h.ne J q.symm)).trans h.hg
 ·by_cases e:q=i
  ·subst e;simp only[Vt rfl];exact⟨I,X,T⟩
  ·simp only[VB e];exact⟨(Q _ (fun r=>e (h.inj q o i J r))).trans (h.hr q o).1,(h.hr q o).2⟩
 ·by_cases e:q=i
  ·subst e;simp only[Vt rfl] at E;exact hx y E
  ·simp only[VB e] at E;exact a _ _ ((h.hx q o y E).more lR (W q o))
theorem Mx.put (h:Mx w lo g n k wd R K) {i j} (o:i<k) (T:j<wd) (x) {K'} (E:∀q,q<k->K q<=K' q) (Q:x.At w w (K' i)) :
  Mx (w.setCells (R i).b (j*4) x.cells) lo g n k wd (fun q=>if q=i then⟨(R i).b,(R i).l.set j x⟩ else R q) K'/\∀(y:Rn) (L:Nat),y.At w w L->y.At (w.setCells (R i).b (j*4) x.cells) (w.setCells (R i).b (j*4) x.cells).heap.size L:=by
 obtain⟨s,I,_⟩:=h.hr i o;have a:=fun c (J:c≠(R i).b)=>a0L (R i).b x.cells (j*4) w c J;refine h.change o E (a5m x s oM) (by simpa using I) a (a0E _ _ _ _) fun y S=>?_;rw[a0E]
 rcases JD S with O|rfl
 ·exact((h.hx i o y O).more lR (E i o)).other s (a0O _) a
 ·exact Q.other s (a0O _) a
theorem Mx.other {w':World} {b} {cs} {t} {fr} (h:Mx w lo g n k wd R K) (I:w.heap[b]?=some (.cells cs t fr)) (o:∀(j:Nat) (z:Int),cs[j]?≠some (.int .u32 z)) (J:b≠g) (L:∀i,i<k->(R i).b≠b) (E:∀c,c≠b->w'.heap[c]?=w.heap[c]?) (s:(w':Nat)=w):Mx w' lo g n k wd R K :=
 ⟨(E g J.symm).trans h.hg,fun i a=>⟨(E _ (L i a)).trans (h.hr i a).1,(h.hr i a).2⟩,h.inj,fun i a x O=>by rw[s];exact(h.hx i a x O).other I o E⟩
theorem Mx.swap {K0} (h:Mx w lo g n n wd R (fun _=>K0)) {i j} (S:i<n) (X:j<n) :
  Mx ((w.setCell ⟨g,i,none⟩ (.slice (some ⟨(R j).b,0,none⟩) wd wd)).setCell ⟨g,j,none⟩ (.slice (some ⟨(R i).b,0,none⟩) wd wd)) lo g n n wd (fun q=>if q=j then R i else if q=i then R j else R q) (fun _=>K0):=by
 have W:=Row.set (Row.set h.hg i (.slice (some ⟨(R j).b,0,none⟩) wd wd)) j (.slice (some ⟨(R i).b,0,none⟩) wd wd);have L:((w.setCell ⟨g,i,none⟩ (.slice (some ⟨(R j).b,0,none⟩) wd wd)).setCell ⟨g,j,none⟩ (.slice (some ⟨(R i).b,0,none⟩) wd wd)).heap.size=w.heap.size:=by simp[World.setCell]
 have s:∀c,c≠g->((w.setCell ⟨g,i,none⟩ (.slice (some ⟨(R j).b,0,none⟩) wd wd)).setCell ⟨g,j,none⟩ (.slice (some ⟨(R i).b,0,none⟩) wd wd)).heap[c]?=w.heap[c]?:=fun c Q=>by
  rw[VR _ _ _ _ (by show c≠g;exact Q),VR _ _ _ _ (by show c≠g;exact Q)]
 have E:∀q,(if q=j then R i else if q=i then R j else R q)=R (if q=j then i else if q=i then j else q):=fun q=>by split;rfl;split <;> rfl
 have a:∀q,q<n->(if q=j then i else if q=i then j else q)<n:=fun q o=>by split;exact S;split <;> omega
 refine⟨?_,fun q o=>?_,fun q o p hp e=>?_,fun q o y T=>?_⟩
 ·have e:hcells n n wd (fun q=>if q=j then R i else if q=i then R j else R q)=((hcells n n wd R).setIfInBounds i (.slice (some ⟨(R j).b,0,none⟩) wd wd)).setIfInBounds j (.slice (some ⟨(R i).b,0,none⟩) wd wd):=by
   unfold hcells;simp only[Yd,a2K]
   congr 1
   apply ZH;intro q o;have J:q<n:=by simpa using o
   by_cases I:q=j
   ·simp[I,X]
   ·by_cases O:q=i
    ·subst O;simp[I,S]
    ·simp[I,O,J]
  rw[e];exact W
 ·rw[E]
  exact⟨(s _ (h.ne (a q o))).trans (h.hr _ (a q o)).1,(h.hr _ (a q o)).2⟩
 ·rw[E,E] at e
  have:=h.inj _ (a q o) _ (a p hp) e
  revert this
  split <;> split <;> (try split) <;> (try split) <;> omega
 ·rw[E] at T
  rw[L];exact(h.hx _ (a q o) y T).other h.hg (a1L _ _ _ _) s
end
theorem a5l {P} (w) (dT sT ty elem) (sz g o dLen dCap) (a) (sLen sCap) (cur) (t) (cs)
  (X:P.underlying dT=some (.slice elem)) (L:(P.info? elem).map (·.size)=some sz)
  (Q:w.heap[g]?=some (.cells cur t (0,0))) (W:cs.length=Nat.min sLen dLen*sz)
  (E:∀j v,cs[j]?=some v->w.cell? (a.add j)=some v) (s:o+cs.length<=cur.size) (O:∀v∈cs,v.oneCell') :
  (Builtin.copy_ #[dT,sT] ty #[.slice (some ⟨g,o,none⟩) dLen dCap,.slice (some a) sLen sCap]).run P w =
   .ok (goInt (Nat.min sLen dLen)) (w.setRow g (cur.toList.take o++cs++cur.toList.drop (o+cs.length)).toArray):=by
 have T:=run_loadCells_list (P:=P) w a cs E;have J:=run_storeCells_at P g o t cs 0 cur w Q (by simpa using s) O
 cases I:P.info? elem with
 |none=>simp[I] at L
 |some i =>
  have S:i.size=sz:=by simpa[I] using L
  simp[Builtin.copy_,run_underlying X,Builtin.lenOf,Builtin.firstCells,sizeOf,typeInfo,I,S,<- W,T,J]
theorem a3o {P} {ops} {rest} {o} {a} {Q} (w) (I:o.guard=none) (d s:Operand) (dT sT elem) (ho:o.op=.call { callee:=.builtin .copy,args:=#[d,s],argTypes:=#[dT,sT] })
  (sz g m dc sc) (ad) (cur) (t) (cs) (T:a.eval d=.slice (some ⟨g,0,none⟩) m dc) (hs:a.eval s=.slice (some ad) m sc) (hu:P.underlying dT=some (.slice elem)) (J:(P.info? elem).map (·.size)=some sz)
  (W:w.heap[g]?=some (.cells cur t (0,0))) (X:cs.length=m*sz) (E:∀j v,cs[j]?=some v->w.cell? (ad.add j)=some v) (L:cs.length<=cur.size) (O:∀v∈cs,v.oneCell')
  (h:∀v,wpList P ops Q rest (a.put o.dst v) (w.setRow g (cur.toList.take 0++cs++cur.toList.drop (0+cs.length)).toArray)):wpList P ops Q (o::rest) a w:=by
 refine Jt I fun K S=>?_;have i:=a5l (P:=P) w dT sT o.type elem sz g 0 m dc ad m sc cur t cs hu J W (by rw[show Nat.min m m=m from Nat.min_self m];exact X) E oM O;unfold Oper.wp;simp[execOp,ho,resolve,invoke,builtin,T,hs,i,Result.andThen];exact S _ _ (by simpa using h _)
theorem a3F {P} {ops} {w} {Q:Act->Prop} {a} {i} {rest} (J:Region.wanted i (yielded ops a.tmps)) (ty) (x:Operand) (I:i.op=.load ty x) (b o) (L:a.eval x=.pointer (some ⟨b,o,none⟩)) (v)
  (E:(loadVar ty ⟨b,o,none⟩).run P w=.ok v w) (h:wpStill P ops w Q rest (a.put i.dst v)):wpStill P ops w Q (i::rest) a:=by
 refine wpStill_step (fun K s=>?_);rw[Vt J];unfold Oper.still execOp;simp only[I,L,Instr.loadAt,Instr.sureAddr,Jz,K7,JZ,E,Oper.stillUpon];exact⟨trivial,s _ h⟩
theorem a9R {W:World} {base n sz b} {v} {e t} {xs} {cs} {fr} (h:W.ownsRow base e sz v n xs) (a:v.ownBlock=some b) (i:W.heap[b]?=some (.cells cs t fr)) (E:e≠t):False:=by
 rcases h.2 with⟨rfl,_⟩|⟨g,o,cur,rfl,_,s,_⟩
 ·simp[Value.ownBlock] at a
 ·simp[Value.ownBlock] at a
  subst a;rw[s] at i
  cases i
  exact E rfl
end Go.Proofs.YtbhdekahdnenjaaGreatDoor
