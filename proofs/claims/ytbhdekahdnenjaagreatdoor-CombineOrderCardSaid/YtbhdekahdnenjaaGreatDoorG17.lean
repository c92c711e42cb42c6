/- Lemmas. -/
import Derived.ShutString
import Derived.ChangeOld
import Derived.Deep.Slices
import Derived.Test.YtbhdekahdnenjaaGreatDoorG28
set_option linter.unusedVariables false
set_option linter.unusedSimpArgs false
set_option maxRecDepth 100000
set_option maxHeartbeats 16000000
namespace Go.Proofs.YtbhdekahdnenjaaGreatDoor
open Go.Proofs.Tryz Go.RowKit
variable (w:World)
structure Ent.Out (w:World) (B:Nat) (e:Ent):Prop where
 hcl:e.chart.length=e.cn
 hcn:e.cn<=maxLen
 hc:AccsAt w B e.cA e.chart
 hcw:∀a∈e.chart,a.wf
 hll:e.links.length=e.ln
 hln:e.ln<=maxLen
 hl:LnksAt w B e.lA e.links
 hlw:∀x∈e.links,x.wf
 hn:e.name.size<=maxLen
 hu:e.cur.size<=maxLen
structure Grp.Out (w:World) (B:Nat) (g:Grp):Prop where
 hcl:g.chart.length=g.cn
 hcn:g.cn<=maxLen
 hc:AccsAt w B g.cA g.chart
 hcw:∀a∈g.chart,a.wf
 hel:g.ents.length=g.en
 hen:g.en<=maxLen
 he:RowsAt Ent.cells 5 w B g.eA g.ents
 hea:∀e∈g.ents,e.Out w B
 hn:g.cur.size<=maxLen
 hr:∀r∈Gr.roles g,(Lit.int .i64 r.code).wf
theorem Ent.Out.below {w w':World} {B C:Nat} {e:Ent} (h:e.Out w B) (i:Below C w w') (a:B<=C):e.Out w' B :=
 ⟨h.hcl,h.hcn,RowsAt.below h.hc i a,h.hcw,h.hll,h.hln,RowsAt.below h.hl i a,h.hlw,h.hn,h.hu⟩
theorem Ent.Out.more {w:World} {B C:Nat} {e:Ent} (h:e.Out w B) (a:B<=C):e.Out w C :=
 ⟨h.hcl,h.hcn,RowsAt.more h.hc a,h.hcw,h.hll,h.hln,RowsAt.more h.hl a,h.hlw,h.hn,h.hu⟩
theorem Grp.Out.below {w w':World} {B C:Nat} {g:Grp} (h:g.Out w B) (i:Below C w w') (a:B<=C):g.Out w' B :=
 ⟨h.hcl,h.hcn,RowsAt.below h.hc i a,h.hcw,h.hel,h.hen,RowsAt.below h.he i a,fun e o=>(h.hea e o).below i a,h.hn,h.hr⟩
theorem Grp.Out.more {w:World} {B C:Nat} {g:Grp} (h:g.Out w B) (a:B<=C):g.Out w C :=
 ⟨h.hcl,h.hcn,RowsAt.more h.hc a,h.hcw,h.hel,h.hen,RowsAt.more h.he a,fun e i=>(h.hea e i).more a,h.hn,h.hr⟩
theorem Grp.Out.at_ {w w':World} {g:Grp} (h:g.Out w w) (a:Below w w w'):g.Out w' w'.heap.size:=(h.below a lR).more a.size
def Gr.Short (g:Grp):Prop:=g.cn<=60/\g.en<=14/\∀e∈g.ents,e.cn<=40/\e.ln<=60
theorem Grp.Out.at_short {w:World} {B:Nat} {g:Grp} (h:g.Out w B) (s:Gr.Short g):g.At w B:=by
 obtain⟨E,I,i⟩:=s;refine⟨h.hcl,oM,h.hc,h.hcw,h.hel,oM,h.he,fun e a=>?_,h.hn,h.hr⟩;have o:=h.hea e a;have:=i e a;exact⟨o.hcl,oM,o.hc,o.hcw,o.hll,oM,o.hl,o.hlw,o.hn,o.hu⟩
def FewPost (g:Grp) (w:World) (e:Ending) (w':World):Prop:=(∃b,e=.returned (.bool b)/\(b->Gr.Short g))/\Below w w w'
theorem b2P (g:Grp) (S:g.Out w w) :
  Calls prog 54 #[g] w (FewPost g w):=by
 obtain⟨W1,a0,O,a4,hz⟩:=nw1 w g 29;obtain⟨HW,ab,aj⟩:=Z3 a0 a4 (S.at_ O);have s1:(w:Nat)<W1:=oM;have a5:=Z1 S.hel;have ai:=S.hen;have ad:=S.hcn;have ak:=S.hn;unfold maxLen at ai ad ak;clear a0 hz a4 S;go_enter func54,ntmps54;go_upto_region 1 with(fail);rw[<- HW];go_wp2
 go_loopw [3] (fun i wr=>∃k:Nat,k<=g.en/\i=k/\(∀e∈g.ents.take k,e.cn<=40/\e.ln<=60)/\Below W1 W1 wr) (fun i _=>g.en-(intOf i).toNat)
 case atStart=>exact⟨0,Vb _,rfl,sP,bR⟩
 case round =>
  obtain⟨k,hk,rfl,L,Q⟩:=hrel;have J:=Z1 L;have s:=gbox ab Q s1;have a9:=cr9 20 s;have x4:=cr9 4 s;have x0:=cr9 0 s;simp at a9 x4 x0;have sr:(w:Nat)<wr:=Vq s;have a:=O.trans (Q.mono O.size);clear L s
  by_cases an:k<g.en
  ·have a7:k<g.ents.length:=by have:=a5.out;omega
   have a6:=Z1 (aj.out.below Q lR);obtain⟨b,o,X,al,hr⟩:=RowsAt.look a6.out.he a7;obtain⟨e,he⟩:=eX (g.ents[k]);rw[<- he] at hr;rw[X] at a9;have Hr:=Z1 hr;have E:=a6.out.hea e (by rw[he];exact Vm _);have ae:=E.hcn;have af:=E.hln;have ag:=E.hn;have ah:=E.hu;unfold maxLen at ae af ag ah;have HE:=Z1 he;have am:b<wr:=by have:=Q.size;omega
   have I:e.cn<=40->e.ln<=60->Hid (∀e∈g.ents.take (k+1),e.cn<=40/\e.ln<=60):=fun T W =>
    Z1 (a1S (P:=fun e:Ent=>e.cn<=40/\e.ln<=60) a7 J (by rw[<- HE];exact⟨T,W⟩))
   clear hr X E he
   by_cases T:e.cn<=40
   case neg =>
    clear I;go_wp2_with (refine VH rfl 81 (.tmp 15) rfl b (o+k*5) rfl e _ Hr Js rfl a1N ?_);go_ret;exact⟨⟨_,rfl,fun h=>by cases h⟩,a.alloc a.size _⟩
   by_cases W:e.ln<=60
   case neg =>
    clear I;go_wp2_with (refine VH rfl 81 (.tmp 15) rfl b (o+k*5) rfl e _ Hr Js rfl a1N ?_);go_ret;exact⟨⟨_,rfl,fun h=>by cases h⟩,a.alloc a.size _⟩
   have ac:=I T W;clear I
   by_cases h3:(60:Int)<wrap64 ((e.name.size:Int)+(e.cur.size:Int))
   ·go_wp2_with (refine VH rfl 81 (.tmp 15) rfl b (o+k*5) rfl e _ Hr Js rfl a1N ?_)
    go_ret;exact⟨⟨_,rfl,fun h=>by cases h⟩,a.alloc a.size _⟩
   ·go_wp2_with (refine VH rfl 81 (.tmp 15) rfl b (o+k*5) rfl e _ Hr Js rfl a1N ?_)
    go_roundw
    case rel=>exact⟨k+1,oM,by go_num,ac,Q.alloc Q.size _⟩
    case measure=>exact mS
  ·obtain rfl:k=g.en:=oM
   have a8:g.ents.take g.en=g.ents:=Vg (by have:=a5.out;omega);have aa:Hid (∀e∈g.ents,e.cn<=40/\e.ln<=60):=by show∀e∈_,_;have:=J.out;rw[a8] at this;exact this
   clear a8
   by_cases T:g.cn<=60
   case neg =>
    go_wp2;go_ret;exact⟨⟨_,rfl,fun h=>by cases h⟩,a⟩
   by_cases W:g.en<=14
   case neg =>
    go_wp2;go_ret;exact⟨⟨_,rfl,fun h=>by cases h⟩,a⟩
   go_wp2;go_ret;exact⟨⟨_,rfl,fun _=>⟨T,W,aa⟩⟩,a⟩
open Go.ChangeShapes Go.WideShapes Go.ChangeAt Go.Deep
section
variable {H:Type} {enc:TypeId × Value->H} {P:Program} {w:World} {base:Nat} {spare:Nat->Bool} {held:Bool}
theorem Vk {t:TypeId} {s:Array Field} {a:Nat} {cs:List Value} {x:DataW H × List MemPlace} (J:P.underlying t=some (.struct s)) (h:DataW.trod enc P w base spare held a t cs=some x) (j:Nat) (T:TypeId) (o:Nat) (i:(s[j]?).map (fun f=>(f.type,f.offset))=some (T,o)) :
  ∃n y,DataW.trod enc P w base spare held n T ((cs.drop o).take (P.cellsOf T))=some y:=by
 obtain⟨L,n,_,_,_,E,I⟩:=DataW.trod_struct J h;rw[Option.map_eq_some_iff] at i;obtain⟨f,i,e⟩:=i
 cases e
 have O:j<s.size:=(Array.getElem?_eq_some_iff.1 i).1;exact⟨n,L[j]' oM,(I j f i).trans (List.getElem?_eq_getElem oM)⟩
theorem Vx {t:TypeId} {k:IK} {a:Nat} {v:Value} {x:DataW H × List MemPlace} (i:P.underlying t=some (.int k)) (h:DataW.trod enc P w base spare held a t [v]=some x):∃n,v=.int k n/\(Lit.int k n).wf:=by
 obtain⟨n,e,_,o⟩:=DataW.trod_int i h;exact⟨n,by simpa using e,o⟩
theorem a0A {t:TypeId} {a:Nat} {v:Value} {x:DataW H × List MemPlace} (i:P.underlying t=some .string) (h:DataW.trod enc P w base spare held a t [v]=some x):∃s:BA,v=.string s/\s.size<=maxLen:=by
 obtain⟨s,e,_,o⟩:=DataW.trod_string i h;exact⟨s,by simpa using e,o⟩
theorem a3e {t:TypeId} {a:Nat} {v:Value} {x:DataW H × List MemPlace} (i:P.underlying t=some .bool) (h:DataW.trod enc P w base spare held a t [v]=some x):∃b:Bool,v=.bool b:=by
 obtain⟨b,e,_⟩:=DataW.trod_bool i h;exact⟨b,by simpa using e⟩
theorem a1q {α:Type} {f:α->List Value} {sz:Nat} {Wf:α->Prop} (zero:α) {tS tE:TypeId} (hu:P.underlying tS=some (.slice tE)) (a4:P.cellsOf tE=sz) (aa:0<sz) (Q:∀a,(f a).length=sz)
  (I:∀(n:Nat) (cs:List Value) (x:DataW H × List MemPlace),DataW.trod enc P w base spare held n tE cs=some x->cs.length=sz->∃a,Wf a/\cs=f a)
  {L:Nat} {v:Value} {x:DataW H × List MemPlace} (h:DataW.trod enc P w base spare held L tS [v]=some x) :
  ∃(A:OA) (n c:Nat) (l:List α),v=.slice A n c/\l.length=n/\n<=maxLen/\(∀a∈l,Wf a)/\RowsAt f sz w w A l:=by
 rcases open_slice hu h with⟨s,_⟩|⟨a,len,a0,m,n,D,Pl,s,_,hl,hm,a9,_,hi⟩
 ·exact⟨none,0,0,[],by simpa using s,rfl,by unfold maxLen;omega,sP,.inl rfl⟩
 ·have ac:len<=m:=by rw[a9];split <;> omega
  have O:∀i,i<len->∃r:α,Wf r/\∀j u,(f r)[j]?=some u->w.cell? (a.add (i*sz+j))=some u:=by
   intro i o;obtain⟨ab,hc,ht⟩:=hi i oM;rw[a4] at hc;obtain⟨_,a6,hat⟩:=World.cells?_some hc;obtain⟨r,hr,e⟩:=I _ _ _ ht a6;refine⟨r,hr,fun j u X=>?_⟩;have a7:j<sz:=by have:=(List.getElem?_eq_some_iff.1 X).1;rw[Q] at this;exact this
   have:=hat j a7;rw[e,X] at this;rw[<- Go.Deep.add_add];exact this
  have a5:∃F:Nat->α,∀i,i<len->Wf (F i)/\∀j u,(f (F i))[j]?=some u->w.cell? (a.add (i*sz+j))=some u:=by
   refine⟨fun i=>if o:i<len then Classical.choose (O i o) else zero,fun i o=>?_⟩;simp only[o,dite_true];exact Classical.choose_spec (O i o)
  obtain⟨F,hF⟩:=a5;refine⟨some a,len,a0,(List.range len).map F,by simpa using s,sP,oM,?_,?_⟩
  ·intro r hr
   simp only[Yg,XK] at hr;obtain⟨i,o,rfl⟩:=hr;exact(hF i o).1
  ·rcases Y0 len with W|S
   ·left;rw[W];rfl
   ·right
    obtain⟨b,off,T⟩:=a;have E:0<(f (F 0)).length:=by rw[Q];exact aa
    have W:=(hF 0 S).2 0 _ (List.getElem?_eq_getElem E);have J:T=none:=by simpa[Addr.add] using World.cell?_spot W
    subst J;refine⟨b,off,rfl,block_lt_of_cell (by simpa[Addr.add] using W),fun k hk=>?_⟩;have a8:k<len:=by simpa using hk
    have e:((List.range len).map F)[k]=F k:=sP;rw[e];intro j u X;have h1:=(hF k a8).2 j u X;rw[Go.WideShapes.add_plain] at h1;rw[QT];exact h1
end
theorem cStr:Tryz.prog.cellsOf 9=1:=kR
theorem cInt:Tryz.prog.cellsOf 3=1:=kR
theorem cBool:Tryz.prog.cellsOf 4=1:=kR
theorem cAcc:Tryz.prog.cellsOf 113=4:=kR
theorem cLnk:Tryz.prog.cellsOf 115=3:=kR
theorem cEnt:Tryz.prog.cellsOf 81=5:=kR
theorem cCal:Tryz.prog.cellsOf 23=3:=kR
theorem cRol:Tryz.prog.cellsOf 26=15:=kR
theorem cGrp:Tryz.prog.cellsOf 29=21:=kR
theorem cSA:Tryz.prog.cellsOf 24=1:=kR
theorem cSL:Tryz.prog.cellsOf 79=1:=kR
theorem cSE:Tryz.prog.cellsOf 27=1:=kR
theorem cLin:Tryz.prog.cellsOf 66=3:=kR
theorem cEtr:Tryz.prog.cellsOf 46=7:=kR
theorem cRt:Tryz.prog.cellsOf 41=4:=kR
theorem cHld:Tryz.prog.cellsOf 43=4:=kR
theorem cBks:Tryz.prog.cellsOf 36=27:=kR
theorem cSN:Tryz.prog.cellsOf 44=1:=kR
theorem cST:Tryz.prog.cellsOf 30=1:=kR
theorem cSR:Tryz.prog.cellsOf 31=1:=kR
theorem cSH:Tryz.prog.cellsOf 32=1:=kR
def Lin.wfO (x:Lin):Prop:=(Lit.int .i64 x.acct).wf/\(Lit.int .i64 x.amt).wf/\(Lit.int .i64 x.prt).wf
structure Etr.Out (w:World) (B:Nat) (x:Etr):Prop where
 hl:x.c.lines.length=x.ln
 hn:x.ln<=maxLen
 hA:RowsAt Lin.cells 3 w B x.lA x.c.lines
 hw:∀l∈x.c.lines,l.wfO
 h1:(Lit.int .i64 x.c.id).wf
 h2:(Lit.int .i64 x.c.ent).wf
 h3:(Lit.int .i64 x.c.date).wf
 h4:(Lit.int .i64 x.c.kind).wf
 h5:(Lit.int .i64 x.c.of_).wf
 h6:x.c.text.size<=maxLen
structure Bks.Out (w:World) (B:Nat) (b:Bks):Prop where
 hg:b.g.Out w B
 hel:b.ents.length=b.en
 hen:b.en<=maxLen
 hec:b.en<=b.ec
 hE:RowsAt Etr.cells 7 w B b.eA b.ents
 hEx:∀x∈b.ents,x.Out w B
 hrl:b.rates.length=b.rn
 hrn:b.rn<=maxLen
 hR:RatesAt w B b.rA b.rates
 hRw:∀r∈b.rates,r.wf
 hhl:b.holds.length=b.hn
 hhn:b.hn<=maxLen
 hH:HldsAt w B b.hA b.holds
 hHw:∀x∈b.holds,x.wf
theorem b1F {H:Type} {enc:TypeId × Value->H} {P:Program} {w:World} {base:Nat} {spare:Nat->Bool} {held:Bool} {s J:TypeId} {o n c:Nat} {A:OA} {x:DataW H × List MemPlace} (I:P.underlying s=some (.slice J)) (h:DataW.trod enc P w base spare held o s [.slice A n c]=some x):n<=c:=by
 rcases open_slice I h with⟨i,_⟩|⟨a,len,E,m,Q,D,L,i,_,O,_⟩
 ·simp at i;omega
 ·simp at i;omega
theorem b1U {w:World} {B:Nat} {A:OA} {l:List Rt} (h:RowsAt Rt.cells 4 w B A l):RatesAt w B A l:=by
 rcases h with h|⟨b,o,e,s,a⟩
 ·exact .inl h
 ·exact .inr ⟨b,o,e,s,fun k i=>⟨a k i 0 _ rfl,a k i 1 _ rfl,a k i 2 _ rfl,a k i 3 _ rfl⟩⟩
section
variable {H:Type} {enc:TypeId × Value->H} {w:World} {spare:Nat->Bool} {held:Bool}
theorem b3s {i:Nat} {cs:List Value} {x:DataW H × List MemPlace} (h:DataW.trod enc Tryz.prog w 0 spare held i 113 cs=some x) (S:cs.length=4) :
  ∃a:Acc,a.wf/\cs=a.cells:=by
 match cs,S with
 |[c0,c1,c2,c3],_ =>
  obtain⟨_,_,o⟩:=Vk J0 h 0 3 0 rfl;obtain⟨_,_,s⟩:=Vk J0 h 1 3 1 rfl;obtain⟨_,_,E⟩:=Vk J0 h 2 3 2 rfl;obtain⟨_,_,I⟩:=Vk J0 h 3 3 3 rfl;simp only[cInt,YX,Yk,Yy,YV] at o s E I;obtain⟨a,rfl,J⟩:=Vx VP o;obtain⟨b,rfl,L⟩:=Vx VP s;obtain⟨c,rfl,O⟩:=Vx VP E;obtain⟨d,rfl,Q⟩:=Vx VP I;exact⟨⟨a,b,c,d⟩,⟨J,L,O,Q⟩,rfl⟩
theorem b2z {i:Nat} {cs:List Value} {x:DataW H × List MemPlace} (h:DataW.trod enc Tryz.prog w 0 spare held i 115 cs=some x) (O:cs.length=3) :
  ∃a:Lnk,a.wf/\cs=a.cells:=by
 match cs,O with
 |[c0,c1,c2],_ =>
  obtain⟨_,_,o⟩:=Vk Qx h 0 3 0 rfl;obtain⟨_,_,s⟩:=Vk Qx h 1 3 1 rfl;obtain⟨_,_,E⟩:=Vk Qx h 2 3 2 rfl;simp only[cInt,YX,Yk,Yy,YV] at o s E;obtain⟨a,rfl,I⟩:=Vx VP o;obtain⟨b,rfl,J⟩:=Vx VP s;obtain⟨c,rfl,L⟩:=Vx VP E;exact⟨⟨a,b,c⟩,⟨I,J,L⟩,rfl⟩
theorem a6O {i:Nat} {v:Value} {x:DataW H × List MemPlace} (h:DataW.trod enc Tryz.prog w 0 spare held i 24 [v]=some x) :
  ∃(A:OA) (n c:Nat) (l:List Acc),v=.slice A n c/\l.length=n/\n<=maxLen/\(∀a∈l,a.wf)/\AccsAt w w A l :=
 a1q Acc.zero Tryz.underlying24 cAcc dC (fun _=>rfl) (fun _ _ _ h o=>b3s h o) h
theorem b0B {i:Nat} {v:Value} {x:DataW H × List MemPlace} (h:DataW.trod enc Tryz.prog w 0 spare held i 79 [v]=some x) :
  ∃(A:OA) (n c:Nat) (l:List Lnk),v=.slice A n c/\l.length=n/\n<=maxLen/\(∀a∈l,a.wf)/\LnksAt w w A l :=
 a1q Lnk.zero Tryz.underlying79 cLnk dC (fun _=>rfl) (fun _ _ _ h o=>b2z h o) h
theorem b2V {i:Nat} {cs:List Value} {x:DataW H × List MemPlace} (h:DataW.trod enc Tryz.prog w 0 spare held i 81 cs=some x) (O:cs.length=5) :
  ∃a:Ent,a.Out w w.heap.size/\cs=a.cells:=by
 match cs,O with
 |[c0,c1,c2,c3,c4],_ =>
  obtain⟨_,_,o⟩:=Vk JK h 0 9 0 rfl;obtain⟨_,_,E⟩:=Vk JK h 1 9 1 rfl;obtain⟨_,_,I⟩:=Vk JK h 2 24 2 rfl;obtain⟨_,_,J⟩:=Vk JK h 3 79 3 rfl;obtain⟨_,_,L⟩:=Vk JK h 4 4 4 rfl;simp only[cStr,cBool,cSA,cSL,YX,Yk,Yy,YV] at o E I J L;obtain⟨s,rfl,Q⟩:=a0A Jm o;obtain⟨u,rfl,S⟩:=a0A Jm E;obtain⟨A,n,c,l,rfl,T,W,X,k4⟩:=a6O I;obtain⟨B,m,d,q,rfl,j1,j2,j3,j4⟩:=b0B J;obtain⟨b,rfl⟩:=a3e Tryz.underlying4 L;exact⟨⟨s,u,A,n,c,l,B,m,d,q,b⟩,⟨T,W,k4,X,j1,j2,j4,j3,Q,S⟩,rfl⟩
theorem b1a {i:Nat} {v:Value} {x:DataW H × List MemPlace} (h:DataW.trod enc Tryz.prog w 0 spare held i 27 [v]=some x) :
  ∃(A:OA) (n c:Nat) (l:List Ent),v=.slice A n c/\l.length=n/\n<=maxLen/\(∀a∈l,a.Out w w)/\RowsAt Ent.cells 5 w w A l :=
 a1q Ent.zero Tryz.underlying27 cEnt dC (fun _=>rfl) (fun _ _ _ h o=>b2V h o) h
theorem b2L {i:Nat} {cs:List Value} {x:DataW H × List MemPlace} (h:DataW.trod enc Tryz.prog w 0 spare held i 29 cs=some x) (hl:cs.length=21) :
  ∃g:Grp,g.Out w w.heap.size/\cs=g:=by
 match cs,hl with
 |[c0,c1,c2,c3,c4,c5,c6,c7,c8,c9,c10,c11,c12,c13,c14,c15,c16,c17,c18,c19,c20],_ =>
  obtain⟨_,_,hS⟩:=Vk JJ h 0 9 0 rfl;obtain⟨_,_,O⟩:=Vk JJ h 1 23 1 rfl;obtain⟨_,_,hA⟩:=Vk JJ h 2 24 4 rfl;obtain⟨_,_,a⟩:=Vk JJ h 3 26 5 rfl;obtain⟨_,_,hE⟩:=Vk JJ h 4 27 20 rfl;simp only[cStr,cCal,cSA,cRol,cSE,YX,Yk,Yy,YV] at hS O hA a hE;obtain⟨_,_,h1⟩:=Vk Qf O 0 3 0 rfl;obtain⟨_,_,h2⟩:=Vk Qf O 1 3 1 rfl;obtain⟨_,_,h3⟩:=Vk Qf O 2 3 2 rfl;obtain⟨_,_,q0⟩:=Vk X8 a 0 3 0 rfl;obtain⟨_,_,q1⟩:=Vk X8 a 1 3 1 rfl;obtain⟨_,_,q2⟩:=Vk X8 a 2 3 2 rfl;obtain⟨_,_,q3⟩:=Vk X8 a 3 3 3 rfl;obtain⟨_,_,q4⟩:=Vk X8 a 4 3 4 rfl;obtain⟨_,_,q5⟩:=Vk X8 a 5 3 5 rfl;obtain⟨_,_,q6⟩:=Vk X8 a 6 3 6 rfl;obtain⟨_,_,q7⟩:=Vk X8 a 7 3 7 rfl;obtain⟨_,_,q8⟩:=Vk X8 a 8 3 8 rfl;obtain⟨_,_,q9⟩:=Vk X8 a 9 3 9 rfl;obtain⟨_,_,o⟩:=Vk X8 a 10 3 10 rfl;obtain⟨_,_,E⟩:=Vk X8 a 11 3 11 rfl;obtain⟨_,_,I⟩:=Vk X8 a 12 3 12 rfl;obtain⟨_,_,J⟩:=Vk X8 a 13 3 13 rfl;obtain⟨_,_,L⟩:=Vk X8 a 14 3 14 rfl;simp only[cInt,YX,Yk,Yy,YV] at h1 h2 h3 q0 q1 q2 q3 q4 q5 q6 q7 q8 q9 o E I J L;obtain⟨s,rfl,hs⟩:=a0A Jm hS;obtain⟨Y,rfl,hY⟩:=Vx VP h1;obtain⟨M,rfl,hM⟩:=Vx VP h2;obtain⟨N,rfl,hN⟩:=Vx VP h3;obtain⟨A,n,c,l,rfl,k1,k2,k3,k4⟩:=a6O hA;obtain⟨r0,rfl,v0⟩:=Vx VP q0;obtain⟨r1,rfl,v1⟩:=Vx VP q1;obtain⟨r2,rfl,v2⟩:=Vx VP q2;obtain⟨r3,rfl,v3⟩:=Vx VP q3;obtain⟨r4,rfl,v4⟩:=Vx VP q4;obtain⟨r5,rfl,v5⟩:=Vx VP q5;obtain⟨r6,rfl,v6⟩:=Vx VP q6;obtain⟨r7,rfl,v7⟩:=Vx VP q7;obtain⟨r8,rfl,v8⟩:=Vx VP q8;obtain⟨r9,rfl,v9⟩:=Vx VP q9;obtain⟨Q,rfl,a0⟩:=Vx VP o;obtain⟨S,rfl,a4⟩:=Vx VP E;obtain⟨T,rfl,a5⟩:=Vx VP I;obtain⟨W,rfl,a6⟩:=Vx VP J;obtain⟨X,rfl,a7⟩:=Vx VP L;obtain⟨B,m,d,q,rfl,j1,j2,j3,j4⟩:=b1a hE;refine⟨⟨s,Y,M,N,A,n,c,l,r0,r1,r2,r3,r4,r5,r6,r7,r8,r9,Q,S,T,W,X,B,m,d,q⟩,⟨k1,k2,k4,k3,j1,j2,j4,j3,hs,?_⟩,rfl⟩;simp only[Gr.roles,List.forall_mem_cons];exact⟨v0,v1,v2,v3,v4,v5,v6,v7,v8,v9,a0,a4,a5,a6,a7,fun _ h=>by cases h⟩
theorem b2A {i:Nat} {cs:List Value} {x:DataW H × List MemPlace} (h:DataW.trod enc Tryz.prog w 0 spare held i 66 cs=some x) (O:cs.length=3) :
  ∃a:Lin,a.wfO/\cs=a.cells:=by
 match cs,O with
 |[c0,c1,c2],_ =>
  obtain⟨_,_,o⟩:=Vk Qg h 0 3 0 rfl;obtain⟨_,_,s⟩:=Vk Qg h 1 3 1 rfl;obtain⟨_,_,E⟩:=Vk Qg h 2 3 2 rfl;simp only[cInt,YX,Yk,Yy,YV] at o s E;obtain⟨a,rfl,I⟩:=Vx VP o;obtain⟨b,rfl,J⟩:=Vx VP s;obtain⟨c,rfl,L⟩:=Vx VP E;exact⟨⟨a,b,c⟩,⟨I,J,L⟩,rfl⟩
theorem b0C {i:Nat} {v:Value} {x:DataW H × List MemPlace} (h:DataW.trod enc Tryz.prog w 0 spare held i 44 [v]=some x) :
  ∃(A:OA) (n c:Nat) (l:List Lin),v=.slice A n c/\l.length=n/\n<=maxLen/\(∀a∈l,a.wfO)/\RowsAt Lin.cells 3 w w A l :=
 a1q Lin.zero Tryz.underlying44 cLin dC (fun _=>rfl) (fun _ _ _ h o=>b2A h o) h
theorem b2Q {i:Nat} {cs:List Value} {x:DataW H × List MemPlace} (h:DataW.trod enc Tryz.prog w 0 spare held i 46 cs=some x) (hl:cs.length=7) :
  ∃a:Etr,a.Out w w.heap.size/\cs=a.cells:=by
 match cs,hl with
 |[c0,c1,c2,c3,c4,c5,c6],_ =>
  obtain⟨_,_,o⟩:=Vk ZK h 0 3 0 rfl;obtain⟨_,_,E⟩:=Vk ZK h 1 3 1 rfl;obtain⟨_,_,I⟩:=Vk ZK h 2 3 2 rfl;obtain⟨_,_,J⟩:=Vk ZK h 3 3 3 rfl;obtain⟨_,_,L⟩:=Vk ZK h 4 3 4 rfl;obtain⟨_,_,O⟩:=Vk ZK h 5 9 5 rfl;obtain⟨_,_,Q⟩:=Vk ZK h 6 44 6 rfl;simp only[cInt,cStr,cSN,YX,Yk,Yy,YV] at o E I J L O Q;obtain⟨a,rfl,T⟩:=Vx VP o;obtain⟨b,rfl,W⟩:=Vx VP E;obtain⟨c,rfl,X⟩:=Vx VP I;obtain⟨d,rfl,hd⟩:=Vx VP J;obtain⟨e,rfl,he⟩:=Vx VP L;obtain⟨s,rfl,hs⟩:=a0A Jm O;obtain⟨A,n,S,l,rfl,k1,k2,k3,k4⟩:=b0C Q;exact⟨⟨⟨a,b,c,d,e,s,l⟩,A,n,S⟩,⟨k1,k2,k4,k3,T,W,X,hd,he,hs⟩,rfl⟩
theorem b0Y {i:Nat} {v:Value} {x:DataW H × List MemPlace} (h:DataW.trod enc Tryz.prog w 0 spare held i 30 [v]=some x) :
  ∃(A:OA) (n c:Nat) (l:List Etr),v=.slice A n c/\l.length=n/\n<=maxLen/\(∀a∈l,a.Out w w)/\RowsAt Etr.cells 7 w w A l :=
 a1q Etr.zero Tryz.underlying30 cEtr dC (fun _=>rfl) (fun _ _ _ h o=>b2Q h o) h
theorem b2K {i:Nat} {cs:List Value} {x:DataW H × List MemPlace} (h:DataW.trod enc Tryz.prog w 0 spare held i 43 cs=some x) (S:cs.length=4) :
  ∃a:Hld,a.wf/\cs=a.cells:=by
 match cs,S with
 |[c0,c1,c2,c3],_ =>
  obtain⟨_,_,o⟩:=Vk Kf h 0 3 0 rfl;obtain⟨_,_,s⟩:=Vk Kf h 1 3 1 rfl;obtain⟨_,_,E⟩:=Vk Kf h 2 3 2 rfl;obtain⟨_,_,I⟩:=Vk Kf h 3 3 3 rfl;simp only[cInt,YX,Yk,Yy,YV] at o s E I;obtain⟨a,rfl,J⟩:=Vx VP o;obtain⟨b,rfl,L⟩:=Vx VP s;obtain⟨c,rfl,O⟩:=Vx VP E;obtain⟨d,rfl,Q⟩:=Vx VP I;exact⟨⟨a,b,c,d⟩,⟨J,L,O,Q⟩,rfl⟩
theorem b0J {i:Nat} {v:Value} {x:DataW H × List MemPlace} (h:DataW.trod enc Tryz.prog w 0 spare held i 32 [v]=some x) :
  ∃(A:OA) (n c:Nat) (l:List Hld),v=.slice A n c/\l.length=n/\n<=maxLen/\(∀a∈l,a.wf)/\HldsAt w w A l :=
 a1q Hld.zero Tryz.underlying32 cHld dC (fun _=>rfl) (fun _ _ _ h o=>b2K h o) h
theorem b3Q {i:Nat} {cs:List Value} {x:DataW H × List MemPlace} (h:DataW.trod enc Tryz.prog w 0 spare held i 41 cs=some x) (S:cs.length=4) :
  ∃r:Rt,r.wf/\cs=r.cells:=by
 match cs,S with
 |[c0,c1,c2,c3],_ =>
  obtain⟨_,_,o⟩:=Vk Ky h 0 9 0 rfl;obtain⟨_,_,E⟩:=Vk Ky h 1 3 1 rfl;obtain⟨_,_,I⟩:=Vk Ky h 2 3 2 rfl;obtain⟨_,_,J⟩:=Vk Ky h 3 3 3 rfl;simp only[cStr,cInt,YX,Yk,Yy,YV] at o E I J;obtain⟨s,rfl,T⟩:=a0A Jm o;obtain⟨a,rfl,L⟩:=Vx VP E;obtain⟨b,rfl,O⟩:=Vx VP I;obtain⟨c,rfl,Q⟩:=Vx VP J;exact⟨⟨s,a,b,c⟩,⟨T,L,O,Q⟩,rfl⟩
theorem b1Q {a:Nat} {v:Value} {x:DataW H × List MemPlace} (h:DataW.trod enc Tryz.prog w 0 spare held a 31 [v]=some x) :
  ∃(A:OA) (n c:Nat) (rs:List Rt),v=.slice A n c/\rs.length=n/\n<=maxLen/\(∀r∈rs,r.wf)/\RatesAt w w A rs:=by
 obtain⟨A,n,c,l,e,i,o,s,E⟩:=a1q (f:=Rt.cells) (Wf:=Rt.wf) Rt.zero Tryz.underlying31 cRt dC (fun _=>rfl) (fun _ _ _ h I=>b3Q h I) h;exact⟨A,n,c,l,e,i,o,s,b1U E⟩
theorem b4q {r:Reach} {T:Nat} {v:Value} {d:DataW H} {p:List MemPlace} (hv:Value.okWide Tryz.prog w r T 36 v) (h:DataW.Trod enc Tryz.prog w 0 spare held 36 v d p) :
  ∃b:Bks,v=b/\b.Out w w.heap.size:=by
 obtain⟨o,rfl,i⟩:=okWide_struct Zc hv;rw[cBks] at i;obtain⟨E,a⟩:=h;simp only[Value.cells] at a;obtain⟨o⟩:=o
 match o,i with
 |[x0,x1,x2,x3,x4,x5,x6,x7,x8,x9,x10,x11,x12,x13,x14,x15,x16,x17,x18,x19,x20,x21,x22,x23,x24,x25,x26],_ =>
  obtain⟨_,_,I⟩:=Vk Zc a 0 29 0 rfl;obtain⟨_,_,s⟩:=Vk Zc a 1 30 21 rfl;obtain⟨_,_,L⟩:=Vk Zc a 2 31 22 rfl;obtain⟨_,_,J⟩:=Vk Zc a 3 32 23 rfl;simp only[cGrp,cST,cSR,cSH,YX,Yk,Yy,YV] at I s L J;obtain⟨g,hg,e⟩:=b2L I rfl;obtain⟨O,n1,W,l1,rfl,i1,i2,i3,i4⟩:=b0Y s;have i5:=b1F Tryz.underlying30 s;obtain⟨Q,n2,X,l2,rfl,j1,j2,j3,j4⟩:=b1Q L;obtain⟨S,n3,c3,l3,rfl,k1,k2,k3,k4⟩:=b0J J;simp only[List.cons.injEq] at e;obtain⟨rfl,rfl,rfl,rfl,rfl,rfl,rfl,rfl,rfl,rfl,rfl,rfl,rfl,rfl,rfl,rfl,rfl,rfl,rfl,rfl,rfl,_⟩:=e;exact⟨⟨g,O,n1,W,l1,Q,n2,X,l2,S,n3,c3,l3,x24,x25,x26⟩,rfl,⟨hg,i1,i2,i5,i4,i3,j1,j2,j4,j3,k1,k2,k4,k3⟩⟩
end
def Etr.Few (x:Etr):Prop:=x.ln<=60/\∀z∈x.c.lines,-1125899906842624<=z.amt/\z.amt<=1125899906842624
theorem Etr.Out.below {w w':World} {B C:Nat} {x:Etr} (h:x.Out w B) (i:Below C w w') (a:B<=C):x.Out w' B:=⟨h.hl,h.hn,RowsAt.below h.hA i a,h.hw,h.h1,h.h2,h.h3,h.h4,h.h5,h.h6⟩
theorem Etr.Out.more {w:World} {B C:Nat} {x:Etr} (h:x.Out w B) (a:B<=C):x.Out w C:=⟨h.hl,h.hn,RowsAt.more h.hA a,h.hw,h.h1,h.h2,h.h3,h.h4,h.h5,h.h6⟩
theorem Etr.Out.at_few {w:World} {B:Nat} {x:Etr} (h:x.Out w B) (i:x.Few):x.At w B:=by
 refine⟨h.hl,h.hA,h.h1,h.h3,h.h5,h.h6,?_,fun z a=>⟨(h.hw z a).1,i.2 z a,(h.hw z a).2.2⟩⟩;have:=i.1;have:=h.hl;omega
theorem Bks.Out.below {w w':World} {B C:Nat} {b:Bks} (h:b.Out w B) (i:Below C w w') (a:B<=C):b.Out w' B :=
 ⟨h.hg.below i a,h.hel,h.hen,h.hec,RowsAt.below h.hE i a,fun x o=>(h.hEx x o).below i a,h.hrl,h.hrn,RatesAt.below h.hR i a,h.hRw,h.hhl,h.hhn,RowsAt.below h.hH i a,h.hHw⟩
theorem Bks.Out.more {w:World} {B C:Nat} {b:Bks} (h:b.Out w B) (a:B<=C):b.Out w C :=
 ⟨h.hg.more a,h.hel,h.hen,h.hec,RowsAt.more h.hE a,fun x i=>(h.hEx x i).more a,h.hrl,h.hrn,RatesAt.more h.hR a,h.hRw,h.hhl,h.hhn,RowsAt.more h.hH a,h.hHw⟩
theorem Bks.Out.at_ {w w':World} {b:Bks} (h:b.Out w w) (a:Below w w w'):b.Out w' w'.heap.size:=(h.below a lR).more a.size
def Bks.Few18 (b:Bks):Prop:=Gr.Short b.g/\b.en<=61/\(∀x∈b.ents,x.Few)/\b.rn<=300
def Bks.Few (b:Bks):Prop:=Bks.Few18 b/\b.hn<=30
theorem Bks.Out.at_few {w:World} {B:Nat} {b:Bks} (h:b.Out w B) (J:b.Few):b.At w B:=by
 obtain⟨⟨i,o,s,E⟩,I⟩:=J;exact⟨h.hg.at_short i,h.hel,o,h.hE,fun x a=>(h.hEx x a).at_few (s x a),h.hrl,E,h.hR,h.hRw,h.hhl,I,h.hH,h.hHw⟩
def FewBP (P:Prop) (w:World) (e:Ending) (w':World):Prop:=(∃b,e=.returned (.bool b)/\(b->P))/\Below w w w'
theorem b0X (g:Grp) (B:OA) (m d:Nat) (l:List Etr) (hg:g.Out w w) (ac:l.length=m) (hm:m<=maxLen) (hB:RowsAt Etr.cells 7 w w B l) (a6:∀y∈l,y.Out w w) :
  Calls prog 27 #[g,.slice B m d] w (FewBP (Gr.Short g/\m<=61/\∀x∈l,x.Few) w):=by
 obtain⟨W1,a7,E,a8,hz⟩:=nw1 w g 29;obtain⟨HW,aj,ah,ai,a5,ap,a0⟩:=Z7 a7 (hg.at_ E) (RowsAt.at_ hB E) (fun y hy=>((a6 y hy).below E lR).more E.size) ac a8 E;have s1:(w:Nat)<W1:=oM;unfold maxLen at hm;clear a7 hz a8 hg ac hB a6 E;go_enter func27,ntmps27;go_upto_region 1 with(fail);rw[<- HW];go_wp2
 go_loopw [5] (fun i wr=>∃k:Nat,k<=m/\i=k/\Hid (∀x∈l.take k,x.Few)/\k<=61/\Below W1 W1 wr) (fun i _=>m-(intOf i).toNat)
 case atStart=>exact⟨0,Vb _,rfl,Z1 sP,oM,bR⟩
 case round =>
  obtain⟨w5,rfl⟩:=eX wr;obtain⟨k,hk,rfl,HK,a9,W⟩:=hrel;have s:=a0.out.trans (W.mono a0.size);have av:=W.size
  by_cases b4:k<m
  case neg =>
   obtain rfl:k=m:=oM;have ak:Hid (∀x∈l,x.Few):=Z1 (by have:=HK.out;rw[Vg (by have:=a5.out;omega)] at this;exact this);have a4:=Z1 (b2P w5 g ((aj.below W lR).more av));have I:w5.rangeAt w.heap.size 0 g:=Xq (gbox ap W s1);go_wp2_with (refine Vv (by rfl) 29 (.tmp 2) rfl w.heap.size 0 rfl _ _ I VS rfl VJ ?_);refine a4.mono ?_;rintro ev W2 ⟨⟨r,rfl,hr⟩,au⟩;have Hr:=Z1 hr;clear hr I;go_wp2;go_ret;exact⟨⟨r,rfl,fun q=>⟨Hr q,a9,ak⟩⟩,s.trans (au.mono s.size)⟩
  have aa:k<l.length:=by have:=a5.out;omega
  have O:=RowsAt.below ah W lR;obtain⟨b,o,rfl,b0,c0⟩:=RowsAt.look O aa;obtain⟨x,hx⟩:=eX (l[k]);rw[<- hx] at c0;have L:=(ai x (by rw[hx];exact Vm _)).below W lR;have af:=L.hn;have ag:=L.h6;unfold maxLen at af ag;have Q:=Z1 L;have am:Hid (x.Few->∀y∈l.take (k+1),y.Few):=Z1 (fun h=>a1S (P:=Etr.Few) aa HK (by rw[<- hx];exact h));have p5:=c0 5 _ rfl;have p6:=c0 6 _ rfl;have az:=Z1 p5;have ar:=Z1 p6;have b1:b<w5:=oM;have b3:(k:Int)<(m:Int):=oM;obtain⟨tx,ad⟩:=eX x.c.text;obtain⟨ln,J⟩:=eX x.ln;obtain⟨lA,X⟩:=eX x.lA;obtain⟨lc,ab⟩:=eX x.lc;rw[<- ad] at p5 ag;rw[<- X,<- J,<- ab] at p6 ar;rw[<- J] at af;have S:=Z1 J;have aq:=Z1 X;clear hx L c0 O ad J X ab
  by_cases h1:ln<=60
  case neg =>
   go_wp2;go_ret;exact⟨⟨_,rfl,fun h=>by cases h⟩,s⟩
  by_cases h2:tx.size<=200
  case neg =>
   go_wp2;go_ret;exact⟨⟨_,rfl,fun h=>by cases h⟩,s⟩
  by_cases h3:k<=60
  case neg =>
   go_wp2;go_ret;exact⟨⟨_,rfl,fun h=>by cases h⟩,s⟩
  go_wp2
  go_loopw [6] (fun i wr=>∃u:Nat,u<=ln/\i=u/\Hid (∀z∈x.c.lines.take u,-1125899906842624<=z.amt/\z.amt<=1125899906842624)/\wr=w5) (fun i _=>ln-(intOf i).toNat)
  case atStart=>exact⟨0,Vb _,rfl,Z1 sP,rfl⟩
  case round =>
   obtain⟨u,hu,rfl,HU,rfl⟩:=hrel;have b5:(u:Int)<=(ln:Int):=oM
   by_cases ay:u<ln
   case neg =>
    obtain rfl:u=ln:=oM;have al:=Z1 (am ⟨by rw[<- S];exact h1,by have:=HU.out;rw[Vg (by have:=Q.out.hl;have:=S.out;omega)] at this;exact this⟩);go_wp2;go_roundw
    case rel=>exact⟨k+1,oM,by go_num,al,oM,W⟩
    case measure=>exact mS
   have ae:u<x.c.lines.length:=by have:=Q.out.hl;have:=S.out;omega
   obtain⟨b2,o2,T,aw,d0⟩:=LinsAt.three Q.hA ae;rw[<- aq] at T;obtain⟨a,ha⟩:=eX (x.c.lines[u].amt);have q1:=d0 1 _ rfl;rw[<- ha] at q1;have ao:Hid (-1125899906842624<=a/\a<=1125899906842624->∀z∈x.c.lines.take (u+1),-1125899906842624<=z.amt/\z.amt<=1125899906842624):=Z1 (fun h=>a1S (P:=fun z:Lin=>-1125899906842624<=z.amt/\z.amt<=1125899906842624) ae HU (by rw[<- ha];exact h));have ax:b2<wr:=oM;rw[T] at p6;clear ha d0 T
   by_cases g1:a<=1125899906842624
   case neg =>
    go_wp2;go_ret;exact⟨⟨_,rfl,fun h=>by cases h⟩,s⟩
   by_cases g2:-1125899906842624<=a
   case neg =>
    have g3:a < -1125899906842624:=oM;clear g2;go_wp2;go_ret;exact⟨⟨_,rfl,fun h=>by cases h⟩,s⟩
   have g3:¬ a < -1125899906842624:=oM;have an:=Z1 (ao ⟨g2,g1⟩);go_wp2;go_roundw
   case rel=>exact⟨u+1,oM,by go_num,an,trivial⟩
   case measure=>exact mS
theorem b0W (b:Bks) (W:b.Out w w):Calls prog 13 #[b] w (FewBP (Bks.Few18 b) w):=by
 obtain⟨W1,L,E,i,hz⟩:=nw1 w b 36;obtain⟨HW,a,S,T⟩:=Z4 L (W.at_ E) E i;have O:W1.rangeAt w.heap.size 0 b.g:=fun j v hj=>by have:=cr9 j i;rw[VN,this];exact a1O hj
 have Q:=cr9 21 i;simp at Q;have s0:=Vq i;have X:=W.hrn;unfold maxLen at X;have Hf:=Z1 (b0X W1 b.g b.eA b.en b.ec b.ents a.hg a.hel a.hen a.hE a.hEx);clear L hz i W E;go_enter func13,ntmps13;go_upto_region 1 with(fail);rw[<- HW];go_wp2_with (refine Vv (by rfl) 29 (.tmp 3) rfl w.heap.size 0 rfl _ _ O VS rfl VJ ?_);refine Hf.mono ?_;rintro ev W2 ⟨⟨r,rfl,hr⟩,I⟩;have J:=gbox T I s0;have a0:=cr9 22 J;simp at a0;have s2:=Vq J;have o:=Z1 (S.out.trans (I.mono oM));have Hr:=Z1 hr;clear O Q I J hr
 cases r with
 |false =>
  go_wp2;go_ret;exact⟨⟨_,rfl,fun h=>by cases h⟩,o⟩
 |true =>
  have s:=Z1 (Hr rfl)
  by_cases h3:b.rn<=300
  ·have k1:(b.rn:Int)<=300:=oM
   go_wp2;go_ret;exact⟨⟨_,rfl,fun _=>⟨s.1,s.2.1,s.2.2,h3⟩⟩,o⟩
  ·have k1:¬ (b.rn:Int)<=300:=oM
   go_wp2;go_ret;exact⟨⟨_,rfl,fun h=>by simp at h;omega⟩,o⟩
theorem b0V (b:Bks) (S:b.Out w w):Calls prog 5 #[b] w (FewBP (Bks.Few b) w):=by
 obtain⟨W1,I,o,a,hz⟩:=nw1 w b 36;obtain⟨HW,L,O⟩:=Z3 I o a;have J:=a;have s0:=Vq a;have T:=S.hhn;unfold maxLen at T;have Hf:=Z1 (b0W W1 b (S.at_ o));clear I hz a S o;go_enter func5,ntmps5;go_upto_region 1 with(fail);rw[<- HW];go_wp2_with (refine Vd rfl 36 _ rfl _ rfl _ _ _ _ J Zg rfl a1b ?_);refine Hf.mono ?_;rintro ev W2 ⟨⟨r,rfl,X⟩,s⟩;have E:=gbox O s s0;have W:=cr9 23 E;simp at W;have s2:=Vq E;have i:=Z1 (L.out.trans (s.mono oM));have Hr:=Z1 X;clear J s E X
 cases r with
 |false =>
  go_wp2;go_ret;exact⟨⟨_,rfl,fun h=>by cases h⟩,i⟩
 |true =>
  have Q:=Z1 (Hr rfl)
  by_cases h3:b.hn<=30
  ·have k1:(b.hn:Int)<=30:=oM
   go_wp2;go_ret;exact⟨⟨_,rfl,fun _=>⟨Q,h3⟩⟩,i⟩
  ·have k1:¬ (b.hn:Int)<=30:=oM
   go_wp2;go_ret;exact⟨⟨_,rfl,fun h=>by simp at h;omega⟩,i⟩
end Go.Proofs.YtbhdekahdnenjaaGreatDoor
namespace Go.Proofs.YtbhdekahdnenjaaGreatDoor
open Go.ChangeShapes Go.WideShapes Go.ChangeAt Go.RowKit Go.Deep
theorem cSM:Tryz.prog.cellsOf 33=1:=kR
theorem cSK:Tryz.prog.cellsOf 34=1:=kR
theorem cStr1:Tryz.prog.cellsOf 9=1:=kR
structure Bks.One (b:Bks):Prop where
 h0:b.m0.oneCell'
 h1:b.m1.oneCell'
 h2:b.m2.oneCell'
theorem a5U {H:Type} {enc:TypeId × Value->H} {P:Program} {w:World} {base:Nat} {spare:Nat->Bool} {held:Bool} {s J:TypeId} {o:Nat} {v:Value} {x:DataW H × List MemPlace} (I:P.underlying s=some (.slice J)) (h:DataW.trod enc P w base spare held o s [v]=some x):v.oneCell':=by
 rcases open_slice I h with⟨i,_⟩|⟨a,len,E,m,Q,D,L,i,_,O,_⟩
 ·simp at i;rw[i];rfl
 ·simp at i;rw[i];rfl
theorem a8q {H:Type} {enc:TypeId × Value->H} {P:Program} {w:World} {base:Nat} {spare:Nat->Bool} {held:Bool} {o:TypeId} {a:Nat} {v:Value} {x:DataW H × List MemPlace} (E:P.underlying o=some .string) (h:DataW.trod enc P w base spare held a o [v]=some x):v.oneCell':=by
 obtain⟨s,i,_⟩:=DataW.trod_string E h;simp at i;rw[i];rfl
theorem b4p {H:Type} {enc:TypeId × Value->H} {w:World} {spare:Nat->Bool} {held:Bool} {b:Bks} {d:DataW H} {p:List MemPlace} (h:DataW.Trod enc Tryz.prog w 0 spare held 36 (b) d p):b.One:=by
 obtain⟨i,a⟩:=h;simp only[Value.cells] at a;obtain⟨_,_,o⟩:=Vk Zc a 4 33 24 rfl;obtain⟨_,_,s⟩:=Vk Zc a 5 34 25 rfl;obtain⟨_,_,E⟩:=Vk Zc a 6 9 26 rfl;simp only[cSM,cSK,cStr1,YX,Yk,Yy,YV] at o s E;exact⟨a5U Tryz.underlying33 o,a5U Tryz.underlying34 s,a8q Jm E⟩
end Go.Proofs.YtbhdekahdnenjaaGreatDoor
