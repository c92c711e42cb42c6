/- My texts FewW, OpenB, FewB. -/
import Derived.ShutString
import Derived.ChangeOld
import Derived.Deep.Slices
import Derived.Test.YtniaimjknmhapaaGreatDoorG28
set_option linter.unusedVariables false
set_option linter.unusedSimpArgs false
set_option maxRecDepth 100000
set_option maxHeartbeats 16000000
namespace Go.Proofs.YtniaimjknmhapaaGreatDoor
open Go.Proofs.Tryz Go.RowKit
structure Ent.Out (w:World) (B:Nat) (e:Ent):Prop where
 hcl:e.chart.length=e.cn
 hcn:e.cn<=maxLen
 hc:AccsAt w B e.cA e.chart
 hcw:∀ a∈e.chart,a.wf
 hll:e.links.length=e.ln
 hln:e.ln<=maxLen
 hl:LnksAt w B e.lA e.links
 hlw:∀ x∈e.links,x.wf
 hn:e.name.size<=maxLen
 hu:e.cur.size<=maxLen
structure Grp.Out (w:World) (B:Nat) (g:Grp):Prop where
 hcl:g.chart.length=g.cn
 hcn:g.cn<=maxLen
 hc:AccsAt w B g.cA g.chart
 hcw:∀ a∈g.chart,a.wf
 hel:g.ents.length=g.en
 hen:g.en<=maxLen
 he:RowsAt Ent.cells 5 w B g.eA g.ents
 hea:∀ e∈g.ents,e.Out w B
 hn:g.cur.size<=maxLen
 hr:∀ r∈Gr.roles g,(Lit.int .i64 r.code).wf=true
theorem Ent.Out.below {w w':World} {B C:Nat} {e:Ent} (h:e.Out w B) (hb:Below C w w') (hC:B<=C):e.Out w' B :=
 ⟨h.hcl,h.hcn,RowsAt.below h.hc hb hC,h.hcw,h.hll,h.hln,RowsAt.below h.hl hb hC,h.hlw,h.hn,h.hu⟩
theorem Ent.Out.more {w:World} {B C:Nat} {e:Ent} (h:e.Out w B) (hC:B<=C):e.Out w C :=
 ⟨h.hcl,h.hcn,RowsAt.more h.hc hC,h.hcw,h.hll,h.hln,RowsAt.more h.hl hC,h.hlw,h.hn,h.hu⟩
theorem Grp.Out.below {w w':World} {B C:Nat} {g:Grp} (h:g.Out w B) (hb:Below C w w') (hC:B<=C):g.Out w' B :=
 ⟨h.hcl,h.hcn,RowsAt.below h.hc hb hC,h.hcw,h.hel,h.hen,RowsAt.below h.he hb hC,fun e he=>(h.hea e he).below hb hC,h.hn,h.hr⟩
theorem Grp.Out.more {w:World} {B C:Nat} {g:Grp} (h:g.Out w B) (hC:B<=C):g.Out w C :=
 ⟨h.hcl,h.hcn,RowsAt.more h.hc hC,h.hcw,h.hel,h.hen,RowsAt.more h.he hC,fun e he=>(h.hea e he).more hC,h.hn,h.hr⟩
theorem Grp.Out.at_ {w w':World} {g:Grp} (h:g.Out w w) (hb:Below w w w'):g.Out w' w'.heap.size:=(h.below hb lR).more hb.size
def Gr.Short (g:Grp):Prop:=g.cn<=60/\g.en<=14/\∀ e∈g.ents,e.cn<=40/\e.ln<=60
theorem Grp.Out.at_short {w:World} {B:Nat} {g:Grp} (h:g.Out w B) (hs:Gr.Short g):g.At w B:=by
 obtain⟨h1,h2,h3⟩:=hs;refine⟨h.hcl,oM,h.hc,h.hcw,h.hel,oM,h.he,fun e he=>?_,h.hn,h.hr⟩;have o:=h.hea e he;have:=h3 e he;exact⟨o.hcl,oM,o.hc,o.hcw,o.hll,oM,o.hl,o.hlw,o.hn,o.hu⟩
def FewPost (g:Grp) (w:World) (e:Ending) (w':World):Prop:=(∃ b,e=.returned (.bool b)/\(b=true->Gr.Short g))/\Below w w w'
section
variable (w:World)
theorem b1E (g:Grp) (hg:g.Out w w) :
  Calls prog 86 #[g] w (FewPost g w):=by
 obtain⟨W1,hW1,hB0,hb0,hz⟩:=nw1 w g 29;obtain⟨HW,Hb0,hg1⟩:=Z3 hW1 hb0 (hg.at_ hB0);have s1:w.heap.size<W1.heap.size:=oM;have hel:=Z1 hg.hel;have hen:=hg.hen;have hcn:=hg.hcn;have hnn:=hg.hn;unfold maxLen at hen hcn hnn;clear hW1 hz hb0 hg;go_enter func86,ntmps86;go_upto_region 1 with(fail);rw [<- HW.out];go_wp2
 go_loopw [3] (fun i wr=>∃ k:Nat,k<=g.en/\i=.int .i64 k/\(∀ e∈g.ents.take k,e.cn<=40/\e.ln<=60)/\Below W1 W1 wr) (fun i _=>g.en-(intOf i).toNat)
 case atStart=>exact⟨0,Nat.zero_le _,rfl,sP,bR⟩
 case round =>
  obtain⟨k,hk,rfl,hall,hb⟩:=hrel;have Hall:=Z1 hall;have hbr:=gbox Hb0.out hb s1;have x20:=cr9 20 hbr;have x4:=cr9 4 hbr;have x0:=cr9 0 hbr;simp at x20 x4 x0;have sr:w.heap.size<wr.heap.size:=Vq hbr;have hB0r:=hB0.trans (hb.mono hB0.size);clear hall hbr
  by_cases hlt:k<g.en
  ·have hkl:k<g.ents.length:=by have:=hel.out;omega
   have hgr:=Z1 (hg1.out.below hb lR);obtain⟨b,o,hAe,hbB,hr⟩:=RowsAt.look hgr.out.he hkl;obtain⟨e,he⟩:∃ e,e=g.ents[k]:=⟨_,rfl⟩;rw [<- he] at hr;rw [hAe] at x20;have Hr:=Z1 hr;have heo:=hgr.out.hea e (by rw [he];exact List.getElem_mem _);have he1:=heo.hcn;have he2:=heo.hln;have he3:=heo.hn;have he4:=heo.hu;unfold maxLen at he1 he2 he3 he4;have HE:=Z1 he;have hbw:b<wr.heap.size:=by have:=hb.size;omega
   have hnx:e.cn<=40->e.ln<=60->Hid (∀ e∈g.ents.take (k+1),e.cn<=40/\e.ln<=60):=fun h1 h2 =>
    Z1 (a1H (P:=fun e:Ent=>e.cn<=40/\e.ln<=60) hkl Hall.out (by rw [<- HE.out];exact⟨h1,h2⟩))
   clear hr hAe heo he
   by_cases h1:e.cn<=40
   case neg =>
    clear hnx;go_wp2_with (refine wpList_load_mid rfl 102 (.tmp 15) rfl b (o+k*5) rfl e _ Hr.out underlying102 rfl a1Q ?_);go_ret;exact⟨⟨_,rfl,fun h=>by cases h⟩,hB0r.alloc hB0r.size _⟩
   by_cases h2:e.ln<=60
   case neg =>
    clear hnx;go_wp2_with (refine wpList_load_mid rfl 102 (.tmp 15) rfl b (o+k*5) rfl e _ Hr.out underlying102 rfl a1Q ?_);go_ret;exact⟨⟨_,rfl,fun h=>by cases h⟩,hB0r.alloc hB0r.size _⟩
   have Hnx:=hnx h1 h2;clear hnx
   by_cases h3:(60:Int)<wrap64 ((e.name.size:Int)+(e.cur.size:Int))
   ·go_wp2_with (refine wpList_load_mid rfl 102 (.tmp 15) rfl b (o+k*5) rfl e _ Hr.out underlying102 rfl a1Q ?_)
    go_ret;exact⟨⟨_,rfl,fun h=>by cases h⟩,hB0r.alloc hB0r.size _⟩
   ·go_wp2_with (refine wpList_load_mid rfl 102 (.tmp 15) rfl b (o+k*5) rfl e _ Hr.out underlying102 rfl a1Q ?_)
    go_roundw
    case rel=>exact⟨k+1,oM,by go_num,Hnx.out,hb.alloc hb.size _⟩
    case measure=>simp [intOf];omega
  ·obtain rfl:k=g.en:=oM
   have htk:g.ents.take g.en=g.ents:=List.take_of_length_le (by have:=hel.out;omega);have Hal:Hid (∀ e∈g.ents,e.cn<=40/\e.ln<=60):=by show ∀ e∈_,_;have:=Hall.out;rw [htk] at this;exact this
   clear htk
   by_cases h1:g.cn<=60
   case neg =>
    go_wp2;go_ret;exact⟨⟨_,rfl,fun h=>by cases h⟩,hB0r⟩
   by_cases h2:g.en<=14
   case neg =>
    go_wp2;go_ret;exact⟨⟨_,rfl,fun h=>by cases h⟩,hB0r⟩
   go_wp2;go_ret;exact⟨⟨_,rfl,fun _=>⟨h1,h2,Hal.out⟩⟩,hB0r⟩
end
open Go.ChangeShapes Go.WideShapes Go.ChangeAt Go.RowKit Go.Deep

section
variable {H:Type} {enc:TypeId × Value->H} {P:Program} {w:World} {base:Nat} {spare:Nat->Bool} {held:Bool}
theorem Vv {t:TypeId} {fs:Array Field} {fuel:Nat} {cs:List Value} {x:DataW H × List MemPlace} (ht:P.underlying t=some (.struct fs)) (h:DataW.trod enc P w base spare held fuel t cs=some x) (j:Nat) (T:TypeId) (o:Nat) (hf:(fs[j]?).map (fun f=>(f.type,f.offset))=some (T,o)) :
  ∃ n y,DataW.trod enc P w base spare held n T ((cs.drop o).take (P.cellsOf T))=some y:=by
 obtain⟨xs,n,_,_,_,hlen,hg⟩:=DataW.trod_struct ht h;rw [Option.map_eq_some_iff] at hf;obtain⟨f,hf,e⟩:=hf
 cases e
 have hj:j<fs.size:=(Array.getElem?_eq_some_iff.1 hf).1;exact⟨n,xs[j]' oM,(hg j f hf).trans (List.getElem?_eq_getElem oM)⟩
theorem Vz {t:TypeId} {k:IntKind} {fuel:Nat} {v:Value} {x:DataW H × List MemPlace} (ht:P.underlying t=some (.int k)) (h:DataW.trod enc P w base spare held fuel t [v]=some x):∃ n,v=.int k n/\(Lit.int k n).wf=true:=by
 obtain⟨n,e,_,hw⟩:=DataW.trod_int ht h;exact⟨n,by simpa using e,hw⟩
theorem a0A {t:TypeId} {fuel:Nat} {v:Value} {x:DataW H × List MemPlace} (ht:P.underlying t=some .string) (h:DataW.trod enc P w base spare held fuel t [v]=some x):∃ s:ByteArray,v=.string s/\s.size<=maxLen:=by
 obtain⟨s,e,_,hw⟩:=DataW.trod_string ht h;exact⟨s,by simpa using e,hw⟩
theorem a2M {t:TypeId} {fuel:Nat} {v:Value} {x:DataW H × List MemPlace} (ht:P.underlying t=some .bool) (h:DataW.trod enc P w base spare held fuel t [v]=some x):∃ b:Bool,v=.bool b:=by
 obtain⟨b,e,_⟩:=DataW.trod_bool ht h;exact⟨b,by simpa using e⟩
theorem a1l {α:Type} {f:α->List Value} {sz:Nat} {Wf:α->Prop} (zero:α) {tS tE:TypeId} (hu:P.underlying tS=some (.slice tE)) (hce:P.cellsOf tE=sz) (hsz:0<sz) (hfl:∀ a,(f a).length=sz)
  (hread:∀(n:Nat) (cs:List Value) (x:DataW H × List MemPlace),DataW.trod enc P w base spare held n tE cs=some x->cs.length=sz->∃ a,Wf a/\cs=f a)
  {fuel:Nat} {v:Value} {x:DataW H × List MemPlace} (h:DataW.trod enc P w base spare held fuel tS [v]=some x) :
  ∃(A:Option Addr) (n c:Nat) (l:List α),v=.slice A n c/\l.length=n/\n<=maxLen/\(∀ a∈l,Wf a)/\RowsAt f sz w w A l:=by
 rcases open_slice hu h with⟨hcs,_⟩ | ⟨a,len,cap,m,n,D,Pl,hcs,_,hl,hm,hmm,_,hi⟩
 ·exact⟨none,0,0,[],by simpa using hcs,rfl,by unfold maxLen;omega,sP,.inl rfl⟩
 ·have hlm:len<=m:=by rw [hmm];split <;> omega
  have hex:∀ i,i<len->∃ r:α,Wf r/\∀ j u,(f r)[j]?=some u->w.cell? (a.add (i*sz+j))=some u:=by
   intro i hil;obtain⟨cs',hc,ht⟩:=hi i oM;rw [hce] at hc;obtain⟨_,hcl,hat⟩:=World.cells?_some hc;obtain⟨r,hr,e⟩:=hread _ _ _ ht hcl;refine⟨r,hr,fun j u hj=>?_⟩;have hj4:j<sz:=by have:=(List.getElem?_eq_some_iff.1 hj).1;rw [hfl] at this;exact this
   have:=hat j hj4;rw [e,hj] at this;rw [<- Go.Deep.add_add];exact this
  have hch:∃ F:Nat->α,∀ i,i<len->Wf (F i)/\∀ j u,(f (F i))[j]?=some u->w.cell? (a.add (i*sz+j))=some u:=by
   refine⟨fun i=>if hil:i<len then Classical.choose (hex i hil) else zero,fun i hil=>?_⟩;simp only [hil,dite_true];exact Classical.choose_spec (hex i hil)
  obtain⟨F,hF⟩:=hch;refine⟨some a,len,cap,(List.range len).map F,by simpa using hcs,sP,oM,?_,?_⟩
  ·intro r hr
   simp only [List.mem_map,List.mem_range] at hr;obtain⟨i,hil,rfl⟩:=hr;exact(hF i hil).1
  ·rcases Nat.eq_zero_or_pos len with h0 | hpos
   ·left;rw [h0];rfl
   ·right
    obtain⟨b,off,spot⟩:=a;have hlen0:0<(f (F 0)).length:=by rw [hfl];exact hsz
    have h0:=(hF 0 hpos).2 0 _ (List.getElem?_eq_getElem hlen0);have hspot:spot=none:=by simpa [Addr.add] using World.cell?_spot h0
    subst hspot;refine⟨b,off,rfl,block_lt_of_cell (by simpa [Addr.add] using h0),fun k hk=>?_⟩;have hk':k<len:=by simpa using hk
    have e:((List.range len).map F)[k]=F k:=sP;rw [e];intro j u hj;have h1:=(hF k hk').2 j u hj;rw [Go.WideShapes.add_plain] at h1;rw [Nat.add_assoc];exact h1
end
theorem cStr:Tryz.prog.cellsOf 9=1:=kR
theorem cInt:Tryz.prog.cellsOf 3=1:=kR
theorem cBool:Tryz.prog.cellsOf 4=1:=kR
theorem cAcc:Tryz.prog.cellsOf 87=4:=kR
theorem cLnk:Tryz.prog.cellsOf 150=3:=kR
theorem cEnt:Tryz.prog.cellsOf 102=5:=kR
theorem cCal:Tryz.prog.cellsOf 23=3:=kR
theorem cRol:Tryz.prog.cellsOf 26=15:=kR
theorem cGrp:Tryz.prog.cellsOf 29=21:=kR
theorem cSA:Tryz.prog.cellsOf 24=1:=kR
theorem cSL:Tryz.prog.cellsOf 100=1:=kR
theorem cSE:Tryz.prog.cellsOf 27=1:=kR
theorem cLin:Tryz.prog.cellsOf 68=3:=kR
theorem cEtr:Tryz.prog.cellsOf 71=7:=kR
theorem cRt:Tryz.prog.cellsOf 172=4:=kR
theorem cHld:Tryz.prog.cellsOf 61=4:=kR
theorem cBks:Tryz.prog.cellsOf 36=27:=kR
theorem cSN:Tryz.prog.cellsOf 69=1:=kR
theorem cST:Tryz.prog.cellsOf 30=1:=kR
theorem cSR:Tryz.prog.cellsOf 31=1:=kR
theorem cSH:Tryz.prog.cellsOf 32=1:=kR
def Lin.wfO (x:Lin):Prop:=(Lit.int .i64 x.acct).wf=true/\(Lit.int .i64 x.amt).wf=true/\(Lit.int .i64 x.prt).wf=true
structure Etr.Out (w:World) (B:Nat) (x:Etr):Prop where
 hl:x.c.lines.length=x.ln
 hn:x.ln<=maxLen
 hA:RowsAt Lin.cells 3 w B x.lA x.c.lines
 hw:∀ l∈x.c.lines,l.wfO
 h1:(Lit.int .i64 x.c.id).wf=true
 h2:(Lit.int .i64 x.c.ent).wf=true
 h3:(Lit.int .i64 x.c.date).wf=true
 h4:(Lit.int .i64 x.c.kind).wf=true
 h5:(Lit.int .i64 x.c.of_).wf=true
 h6:x.c.text.size<=maxLen
structure Bks.Out (w:World) (B:Nat) (b:Bks):Prop where
 hg:b.g.Out w B
 hel:b.ents.length=b.en
 hen:b.en<=maxLen
 hec:b.en<=b.ec
 hE:RowsAt Etr.cells 7 w B b.eA b.ents
 hEx:∀ x∈b.ents,x.Out w B
 hrl:b.rates.length=b.rn
 hrn:b.rn<=maxLen
 hR:RatesAt w B b.rA b.rates
 hRw:∀ r∈b.rates,r.wf
 hhl:b.holds.length=b.hn
 hhn:b.hn<=maxLen
 hH:HldsAt w B b.hA b.holds
 hHw:∀ x∈b.holds,x.wf
theorem b0v {H:Type} {enc:TypeId × Value->H} {P:Program} {w:World} {base:Nat} {spare:Nat->Bool} {held:Bool} {tS tE:TypeId} {fuel n c:Nat} {A:Option Addr} {x:DataW H × List MemPlace} (hu:P.underlying tS=some (.slice tE)) (h:DataW.trod enc P w base spare held fuel tS [.slice A n c]=some x):n<=c:=by
 rcases open_slice hu h with⟨hcs,_⟩ | ⟨a,len,cap,m,n',D,Pl,hcs,_,hl,_⟩
 ·simp at hcs;omega
 ·simp at hcs;omega
theorem b0J {w:World} {B:Nat} {A:Option Addr} {l:List Rt} (h:RowsAt Rt.cells 4 w B A l):RatesAt w B A l:=by
 rcases h with h | ⟨b,o,e,hl,hc⟩
 ·exact .inl h
 ·exact .inr ⟨b,o,e,hl,fun k hk=>⟨hc k hk 0 _ rfl,hc k hk 1 _ rfl,hc k hk 2 _ rfl,hc k hk 3 _ rfl⟩⟩
section
variable {H:Type} {enc:TypeId × Value->H} {w:World} {spare:Nat->Bool} {held:Bool}
theorem b2g {fuel:Nat} {cs:List Value} {x:DataW H × List MemPlace} (h:DataW.trod enc Tryz.prog w 0 spare held fuel 87 cs=some x) (hl:cs.length=4) :
  ∃ a:Acc,a.wf/\cs=a.cells:=by
 match cs,hl with
 | [c0,c1,c2,c3],_ =>
  obtain⟨_,_,h0⟩:=Vv Tryz.underlying87 h 0 3 0 rfl;obtain⟨_,_,h1⟩:=Vv Tryz.underlying87 h 1 3 1 rfl;obtain⟨_,_,h2⟩:=Vv Tryz.underlying87 h 2 3 2 rfl;obtain⟨_,_,h3⟩:=Vv Tryz.underlying87 h 3 3 3 rfl;simp only [cInt,List.drop_zero,List.drop_succ_cons,List.take_succ_cons,List.take_zero] at h0 h1 h2 h3;obtain⟨a,rfl,ha⟩:=Vz Tryz.underlying3 h0;obtain⟨b,rfl,hb⟩:=Vz Tryz.underlying3 h1;obtain⟨c,rfl,hc⟩:=Vz Tryz.underlying3 h2;obtain⟨d,rfl,hd⟩:=Vz Tryz.underlying3 h3;exact⟨⟨a,b,c,d⟩,⟨ha,hb,hc,hd⟩,rfl⟩
theorem b1k {fuel:Nat} {cs:List Value} {x:DataW H × List MemPlace} (h:DataW.trod enc Tryz.prog w 0 spare held fuel 150 cs=some x) (hl:cs.length=3) :
  ∃ a:Lnk,a.wf/\cs=a.cells:=by
 match cs,hl with
 | [c0,c1,c2],_ =>
  obtain⟨_,_,h0⟩:=Vv Tryz.underlying150 h 0 3 0 rfl;obtain⟨_,_,h1⟩:=Vv Tryz.underlying150 h 1 3 1 rfl;obtain⟨_,_,h2⟩:=Vv Tryz.underlying150 h 2 3 2 rfl;simp only [cInt,List.drop_zero,List.drop_succ_cons,List.take_succ_cons,List.take_zero] at h0 h1 h2;obtain⟨a,rfl,ha⟩:=Vz Tryz.underlying3 h0;obtain⟨b,rfl,hb⟩:=Vz Tryz.underlying3 h1;obtain⟨c,rfl,hc⟩:=Vz Tryz.underlying3 h2;exact⟨⟨a,b,c⟩,⟨ha,hb,hc⟩,rfl⟩
theorem a6n {fuel:Nat} {v:Value} {x:DataW H × List MemPlace} (h:DataW.trod enc Tryz.prog w 0 spare held fuel 24 [v]=some x) :
  ∃(A:Option Addr) (n c:Nat) (l:List Acc),v=.slice A n c/\l.length=n/\n<=maxLen/\(∀ a∈l,a.wf)/\AccsAt w w A l :=
 a1l Acc.zero Tryz.underlying24 cAcc dC (fun _=>rfl) (fun _ _ _ h hl=>b2g h hl) h
theorem a9w {fuel:Nat} {v:Value} {x:DataW H × List MemPlace} (h:DataW.trod enc Tryz.prog w 0 spare held fuel 100 [v]=some x) :
  ∃(A:Option Addr) (n c:Nat) (l:List Lnk),v=.slice A n c/\l.length=n/\n<=maxLen/\(∀ a∈l,a.wf)/\LnksAt w w A l :=
 a1l Lnk.zero Tryz.underlying100 cLnk dC (fun _=>rfl) (fun _ _ _ h hl=>b1k h hl) h
theorem b1J {fuel:Nat} {cs:List Value} {x:DataW H × List MemPlace} (h:DataW.trod enc Tryz.prog w 0 spare held fuel 102 cs=some x) (hl:cs.length=5) :
  ∃ a:Ent,a.Out w w.heap.size/\cs=a.cells:=by
 match cs,hl with
 | [c0,c1,c2,c3,c4],_ =>
  obtain⟨_,_,h0⟩:=Vv Tryz.underlying102 h 0 9 0 rfl;obtain⟨_,_,h1⟩:=Vv Tryz.underlying102 h 1 9 1 rfl;obtain⟨_,_,h2⟩:=Vv Tryz.underlying102 h 2 24 2 rfl;obtain⟨_,_,h3⟩:=Vv Tryz.underlying102 h 3 100 3 rfl;obtain⟨_,_,h4⟩:=Vv Tryz.underlying102 h 4 4 4 rfl;simp only [cStr,cBool,cSA,cSL,List.drop_zero,List.drop_succ_cons,List.take_succ_cons,List.take_zero] at h0 h1 h2 h3 h4;obtain⟨s,rfl,hs⟩:=a0A Tryz.underlying9 h0;obtain⟨u,rfl,hu⟩:=a0A Tryz.underlying9 h1;obtain⟨A,n,c,l,rfl,k1,k2,k3,k4⟩:=a6n h2;obtain⟨B,m,d,q,rfl,j1,j2,j3,j4⟩:=a9w h3;obtain⟨b,rfl⟩:=a2M Tryz.underlying4 h4;exact⟨⟨s,u,A,n,c,l,B,m,d,q,b⟩,⟨k1,k2,k4,k3,j1,j2,j4,j3,hs,hu⟩,rfl⟩
theorem a9R {fuel:Nat} {v:Value} {x:DataW H × List MemPlace} (h:DataW.trod enc Tryz.prog w 0 spare held fuel 27 [v]=some x) :
  ∃(A:Option Addr) (n c:Nat) (l:List Ent),v=.slice A n c/\l.length=n/\n<=maxLen/\(∀ a∈l,a.Out w w)/\RowsAt Ent.cells 5 w w A l :=
 a1l Ent.zero Tryz.underlying27 cEnt dC (fun _=>rfl) (fun _ _ _ h hl=>b1J h hl) h
theorem b1A {fuel:Nat} {cs:List Value} {x:DataW H × List MemPlace} (h:DataW.trod enc Tryz.prog w 0 spare held fuel 29 cs=some x) (hl:cs.length=21) :
  ∃ g:Grp,g.Out w w.heap.size/\cs=g:=by
 match cs,hl with
 | [c0,c1,c2,c3,c4,c5,c6,c7,c8,c9,c10,c11,c12,c13,c14,c15,c16,c17,c18,c19,c20],_ =>
  obtain⟨_,_,hS⟩:=Vv Tryz.underlying29 h 0 9 0 rfl;obtain⟨_,_,hC⟩:=Vv Tryz.underlying29 h 1 23 1 rfl;obtain⟨_,_,hA⟩:=Vv Tryz.underlying29 h 2 24 4 rfl;obtain⟨_,_,hR⟩:=Vv Tryz.underlying29 h 3 26 5 rfl;obtain⟨_,_,hE⟩:=Vv Tryz.underlying29 h 4 27 20 rfl;simp only [cStr,cCal,cSA,cRol,cSE,List.drop_zero,List.drop_succ_cons,List.take_succ_cons,List.take_zero] at hS hC hA hR hE;obtain⟨_,_,h1⟩:=Vv Tryz.underlying23 hC 0 3 0 rfl;obtain⟨_,_,h2⟩:=Vv Tryz.underlying23 hC 1 3 1 rfl;obtain⟨_,_,h3⟩:=Vv Tryz.underlying23 hC 2 3 2 rfl;obtain⟨_,_,q0⟩:=Vv Tryz.underlying26 hR 0 3 0 rfl;obtain⟨_,_,q1⟩:=Vv Tryz.underlying26 hR 1 3 1 rfl;obtain⟨_,_,q2⟩:=Vv Tryz.underlying26 hR 2 3 2 rfl;obtain⟨_,_,q3⟩:=Vv Tryz.underlying26 hR 3 3 3 rfl;obtain⟨_,_,q4⟩:=Vv Tryz.underlying26 hR 4 3 4 rfl;obtain⟨_,_,q5⟩:=Vv Tryz.underlying26 hR 5 3 5 rfl;obtain⟨_,_,q6⟩:=Vv Tryz.underlying26 hR 6 3 6 rfl;obtain⟨_,_,q7⟩:=Vv Tryz.underlying26 hR 7 3 7 rfl;obtain⟨_,_,q8⟩:=Vv Tryz.underlying26 hR 8 3 8 rfl;obtain⟨_,_,q9⟩:=Vv Tryz.underlying26 hR 9 3 9 rfl;obtain⟨_,_,q10⟩:=Vv Tryz.underlying26 hR 10 3 10 rfl;obtain⟨_,_,q11⟩:=Vv Tryz.underlying26 hR 11 3 11 rfl;obtain⟨_,_,q12⟩:=Vv Tryz.underlying26 hR 12 3 12 rfl;obtain⟨_,_,q13⟩:=Vv Tryz.underlying26 hR 13 3 13 rfl;obtain⟨_,_,q14⟩:=Vv Tryz.underlying26 hR 14 3 14 rfl;simp only [cInt,List.drop_zero,List.drop_succ_cons,List.take_succ_cons,List.take_zero] at h1 h2 h3 q0 q1 q2 q3 q4 q5 q6 q7 q8 q9 q10 q11 q12 q13 q14;obtain⟨s,rfl,hs⟩:=a0A Tryz.underlying9 hS;obtain⟨Y,rfl,hY⟩:=Vz Tryz.underlying3 h1;obtain⟨M,rfl,hM⟩:=Vz Tryz.underlying3 h2;obtain⟨N,rfl,hN⟩:=Vz Tryz.underlying3 h3;obtain⟨A,n,c,l,rfl,k1,k2,k3,k4⟩:=a6n hA;obtain⟨r0,rfl,v0⟩:=Vz Tryz.underlying3 q0;obtain⟨r1,rfl,v1⟩:=Vz Tryz.underlying3 q1;obtain⟨r2,rfl,v2⟩:=Vz Tryz.underlying3 q2;obtain⟨r3,rfl,v3⟩:=Vz Tryz.underlying3 q3;obtain⟨r4,rfl,v4⟩:=Vz Tryz.underlying3 q4;obtain⟨r5,rfl,v5⟩:=Vz Tryz.underlying3 q5;obtain⟨r6,rfl,v6⟩:=Vz Tryz.underlying3 q6;obtain⟨r7,rfl,v7⟩:=Vz Tryz.underlying3 q7;obtain⟨r8,rfl,v8⟩:=Vz Tryz.underlying3 q8;obtain⟨r9,rfl,v9⟩:=Vz Tryz.underlying3 q9;obtain⟨r10,rfl,v10⟩:=Vz Tryz.underlying3 q10;obtain⟨r11,rfl,v11⟩:=Vz Tryz.underlying3 q11;obtain⟨r12,rfl,v12⟩:=Vz Tryz.underlying3 q12;obtain⟨r13,rfl,v13⟩:=Vz Tryz.underlying3 q13;obtain⟨r14,rfl,v14⟩:=Vz Tryz.underlying3 q14;obtain⟨B,m,d,q,rfl,j1,j2,j3,j4⟩:=a9R hE;refine⟨⟨s,Y,M,N,A,n,c,l,r0,r1,r2,r3,r4,r5,r6,r7,r8,r9,r10,r11,r12,r13,r14,B,m,d,q⟩,⟨k1,k2,k4,k3,j1,j2,j4,j3,hs,?_⟩,rfl⟩;simp only [Gr.roles,List.forall_mem_cons];exact⟨v0,v1,v2,v3,v4,v5,v6,v7,v8,v9,v10,v11,v12,v13,v14,fun _ h=>by cases h⟩
theorem b1l {fuel:Nat} {cs:List Value} {x:DataW H × List MemPlace} (h:DataW.trod enc Tryz.prog w 0 spare held fuel 68 cs=some x) (hl:cs.length=3) :
  ∃ a:Lin,a.wfO/\cs=a.cells:=by
 match cs,hl with
 | [c0,c1,c2],_ =>
  obtain⟨_,_,h0⟩:=Vv Tryz.underlying68 h 0 3 0 rfl;obtain⟨_,_,h1⟩:=Vv Tryz.underlying68 h 1 3 1 rfl;obtain⟨_,_,h2⟩:=Vv Tryz.underlying68 h 2 3 2 rfl;simp only [cInt,List.drop_zero,List.drop_succ_cons,List.take_succ_cons,List.take_zero] at h0 h1 h2;obtain⟨a,rfl,ha⟩:=Vz Tryz.underlying3 h0;obtain⟨b,rfl,hb⟩:=Vz Tryz.underlying3 h1;obtain⟨c,rfl,hc⟩:=Vz Tryz.underlying3 h2;exact⟨⟨a,b,c⟩,⟨ha,hb,hc⟩,rfl⟩
theorem a9x {fuel:Nat} {v:Value} {x:DataW H × List MemPlace} (h:DataW.trod enc Tryz.prog w 0 spare held fuel 69 [v]=some x) :
  ∃(A:Option Addr) (n c:Nat) (l:List Lin),v=.slice A n c/\l.length=n/\n<=maxLen/\(∀ a∈l,a.wfO)/\RowsAt Lin.cells 3 w w A l :=
 a1l Lin.zero Tryz.underlying69 cLin dC (fun _=>rfl) (fun _ _ _ h hl=>b1l h hl) h
theorem b1F {fuel:Nat} {cs:List Value} {x:DataW H × List MemPlace} (h:DataW.trod enc Tryz.prog w 0 spare held fuel 71 cs=some x) (hl:cs.length=7) :
  ∃ a:Etr,a.Out w w.heap.size/\cs=a.cells:=by
 match cs,hl with
 | [c0,c1,c2,c3,c4,c5,c6],_ =>
  obtain⟨_,_,h0⟩:=Vv Tryz.underlying71 h 0 3 0 rfl;obtain⟨_,_,h1⟩:=Vv Tryz.underlying71 h 1 3 1 rfl;obtain⟨_,_,h2⟩:=Vv Tryz.underlying71 h 2 3 2 rfl;obtain⟨_,_,h3⟩:=Vv Tryz.underlying71 h 3 3 3 rfl;obtain⟨_,_,h4⟩:=Vv Tryz.underlying71 h 4 3 4 rfl;obtain⟨_,_,h5⟩:=Vv Tryz.underlying71 h 5 9 5 rfl;obtain⟨_,_,h6⟩:=Vv Tryz.underlying71 h 6 69 6 rfl;simp only [cInt,cStr,cSN,List.drop_zero,List.drop_succ_cons,List.take_succ_cons,List.take_zero] at h0 h1 h2 h3 h4 h5 h6;obtain⟨a,rfl,ha⟩:=Vz Tryz.underlying3 h0;obtain⟨b,rfl,hb⟩:=Vz Tryz.underlying3 h1;obtain⟨c,rfl,hc⟩:=Vz Tryz.underlying3 h2;obtain⟨d,rfl,hd⟩:=Vz Tryz.underlying3 h3;obtain⟨e,rfl,he⟩:=Vz Tryz.underlying3 h4;obtain⟨s,rfl,hs⟩:=a0A Tryz.underlying9 h5;obtain⟨A,n,c',l,rfl,k1,k2,k3,k4⟩:=a9x h6;exact⟨⟨⟨a,b,c,d,e,s,l⟩,A,n,c'⟩,⟨k1,k2,k4,k3,ha,hb,hc,hd,he,hs⟩,rfl⟩
theorem a9P {fuel:Nat} {v:Value} {x:DataW H × List MemPlace} (h:DataW.trod enc Tryz.prog w 0 spare held fuel 30 [v]=some x) :
  ∃(A:Option Addr) (n c:Nat) (l:List Etr),v=.slice A n c/\l.length=n/\n<=maxLen/\(∀ a∈l,a.Out w w)/\RowsAt Etr.cells 7 w w A l :=
 a1l Etr.zero Tryz.underlying30 cEtr dC (fun _=>rfl) (fun _ _ _ h hl=>b1F h hl) h
theorem b1x {fuel:Nat} {cs:List Value} {x:DataW H × List MemPlace} (h:DataW.trod enc Tryz.prog w 0 spare held fuel 61 cs=some x) (hl:cs.length=4) :
  ∃ a:Hld,a.wf/\cs=a.cells:=by
 match cs,hl with
 | [c0,c1,c2,c3],_ =>
  obtain⟨_,_,h0⟩:=Vv Tryz.underlying61 h 0 3 0 rfl;obtain⟨_,_,h1⟩:=Vv Tryz.underlying61 h 1 3 1 rfl;obtain⟨_,_,h2⟩:=Vv Tryz.underlying61 h 2 3 2 rfl;obtain⟨_,_,h3⟩:=Vv Tryz.underlying61 h 3 3 3 rfl;simp only [cInt,List.drop_zero,List.drop_succ_cons,List.take_succ_cons,List.take_zero] at h0 h1 h2 h3;obtain⟨a,rfl,ha⟩:=Vz Tryz.underlying3 h0;obtain⟨b,rfl,hb⟩:=Vz Tryz.underlying3 h1;obtain⟨c,rfl,hc⟩:=Vz Tryz.underlying3 h2;obtain⟨d,rfl,hd⟩:=Vz Tryz.underlying3 h3;exact⟨⟨a,b,c,d⟩,⟨ha,hb,hc,hd⟩,rfl⟩
theorem a9D {fuel:Nat} {v:Value} {x:DataW H × List MemPlace} (h:DataW.trod enc Tryz.prog w 0 spare held fuel 32 [v]=some x) :
  ∃(A:Option Addr) (n c:Nat) (l:List Hld),v=.slice A n c/\l.length=n/\n<=maxLen/\(∀ a∈l,a.wf)/\HldsAt w w A l :=
 a1l Hld.zero Tryz.underlying32 cHld dC (fun _=>rfl) (fun _ _ _ h hl=>b1x h hl) h
theorem b2y {fuel:Nat} {cs:List Value} {x:DataW H × List MemPlace} (h:DataW.trod enc Tryz.prog w 0 spare held fuel 172 cs=some x) (hl:cs.length=4) :
  ∃ r:Rt,r.wf/\cs=r.cells:=by
 match cs,hl with
 | [c0,c1,c2,c3],_ =>
  obtain⟨_,_,h0⟩:=Vv Tryz.underlying172 h 0 9 0 rfl;obtain⟨_,_,h1⟩:=Vv Tryz.underlying172 h 1 3 1 rfl;obtain⟨_,_,h2⟩:=Vv Tryz.underlying172 h 2 3 2 rfl;obtain⟨_,_,h3⟩:=Vv Tryz.underlying172 h 3 3 3 rfl;simp only [cStr,cInt,List.drop_zero,List.drop_succ_cons,List.take_succ_cons,List.take_zero] at h0 h1 h2 h3;obtain⟨s,rfl,hs⟩:=a0A Tryz.underlying9 h0;obtain⟨a,rfl,ha⟩:=Vz Tryz.underlying3 h1;obtain⟨b,rfl,hb⟩:=Vz Tryz.underlying3 h2;obtain⟨c,rfl,hc⟩:=Vz Tryz.underlying3 h3;exact⟨⟨s,a,b,c⟩,⟨hs,ha,hb,hc⟩,rfl⟩
theorem b0G {fuel:Nat} {v:Value} {x:DataW H × List MemPlace} (h:DataW.trod enc Tryz.prog w 0 spare held fuel 31 [v]=some x) :
  ∃(A:Option Addr) (n c:Nat) (rs:List Rt),v=.slice A n c/\rs.length=n/\n<=maxLen/\(∀ r∈rs,r.wf)/\RatesAt w w A rs:=by
 obtain⟨A,n,c,l,e,h1,h2,h3,h4⟩:=a1l (f:=Rt.cells) (Wf:=Rt.wf) Rt.zero Tryz.underlying31 cRt dC (fun _=>rfl) (fun _ _ _ h hl=>b2y h hl) h;exact⟨A,n,c,l,e,h1,h2,h3,b0J h4⟩
theorem a6W {r:Reach} {b0:Nat} {v:Value} {d:DataW H} {p:List MemPlace} (hv:Value.okWide Tryz.prog w r b0 36 v) (h:DataW.Trod enc Tryz.prog w 0 spare held 36 v d p) :
  ∃ b:Bks,v=b/\b.Out w w.heap.size:=by
 obtain⟨cs,rfl,hsz⟩:=okWide_struct Tryz.underlying36 hv;rw [cBks] at hsz;obtain⟨fuel,hf⟩:=h;simp only [Value.cells] at hf;obtain⟨cs⟩:=cs
 match cs,hsz with
 | [x0,x1,x2,x3,x4,x5,x6,x7,x8,x9,x10,x11,x12,x13,x14,x15,x16,x17,x18,x19,x20,x21,x22,x23,x24,x25,x26],_ =>
  obtain⟨_,_,hG⟩:=Vv Tryz.underlying36 hf 0 29 0 rfl;obtain⟨_,_,hE⟩:=Vv Tryz.underlying36 hf 1 30 21 rfl;obtain⟨_,_,hR⟩:=Vv Tryz.underlying36 hf 2 31 22 rfl;obtain⟨_,_,hH⟩:=Vv Tryz.underlying36 hf 3 32 23 rfl;simp only [cGrp,cST,cSR,cSH,List.drop_zero,List.drop_succ_cons,List.take_succ_cons,List.take_zero] at hG hE hR hH;obtain⟨g,hg,e⟩:=b1A hG rfl;obtain⟨A1,n1,c1,l1,rfl,i1,i2,i3,i4⟩:=a9P hE;have i5:=b0v Tryz.underlying30 hE;obtain⟨A2,n2,c2,l2,rfl,j1,j2,j3,j4⟩:=b0G hR;obtain⟨A3,n3,c3,l3,rfl,k1,k2,k3,k4⟩:=a9D hH;simp only [List.cons.injEq] at e;obtain⟨rfl,rfl,rfl,rfl,rfl,rfl,rfl,rfl,rfl,rfl,rfl,rfl,rfl,rfl,rfl,rfl,rfl,rfl,rfl,rfl,rfl,_⟩:=e;exact⟨⟨g,A1,n1,c1,l1,A2,n2,c2,l2,A3,n3,c3,l3,x24,x25,x26⟩,rfl,⟨hg,i1,i2,i5,i4,i3,j1,j2,j4,j3,k1,k2,k4,k3⟩⟩
end
open Go.Proofs.Tryz Go.RowKit
def Etr.Few (x:Etr):Prop:=x.ln<=60/\∀ z∈x.c.lines,-1125899906842624<=z.amt/\z.amt<=1125899906842624
theorem Etr.Out.below {w w':World} {B C:Nat} {x:Etr} (h:x.Out w B) (hb:Below C w w') (hC:B<=C):x.Out w' B:=⟨h.hl,h.hn,RowsAt.below h.hA hb hC,h.hw,h.h1,h.h2,h.h3,h.h4,h.h5,h.h6⟩
theorem Etr.Out.more {w:World} {B C:Nat} {x:Etr} (h:x.Out w B) (hC:B<=C):x.Out w C:=⟨h.hl,h.hn,RowsAt.more h.hA hC,h.hw,h.h1,h.h2,h.h3,h.h4,h.h5,h.h6⟩
theorem Etr.Out.at_few {w:World} {B:Nat} {x:Etr} (h:x.Out w B) (hf:x.Few):x.At w B:=by
 refine⟨h.hl,h.hA,h.h1,h.h3,h.h5,h.h6,?_,fun z hz=>⟨(h.hw z hz).1,hf.2 z hz,(h.hw z hz).2.2⟩⟩;have:=hf.1;have:=h.hl;omega
theorem Bks.Out.below {w w':World} {B C:Nat} {b:Bks} (h:b.Out w B) (hb:Below C w w') (hC:B<=C):b.Out w' B :=
 ⟨h.hg.below hb hC,h.hel,h.hen,h.hec,RowsAt.below h.hE hb hC,fun x hx=>(h.hEx x hx).below hb hC,h.hrl,h.hrn,RatesAt.below h.hR hb hC,h.hRw,h.hhl,h.hhn,RowsAt.below h.hH hb hC,h.hHw⟩
theorem Bks.Out.more {w:World} {B C:Nat} {b:Bks} (h:b.Out w B) (hC:B<=C):b.Out w C :=
 ⟨h.hg.more hC,h.hel,h.hen,h.hec,RowsAt.more h.hE hC,fun x hx=>(h.hEx x hx).more hC,h.hrl,h.hrn,RatesAt.more h.hR hC,h.hRw,h.hhl,h.hhn,RowsAt.more h.hH hC,h.hHw⟩
theorem Bks.Out.at_ {w w':World} {b:Bks} (h:b.Out w w) (hb:Below w w w'):b.Out w' w'.heap.size:=(h.below hb lR).more hb.size
def Bks.Few18 (b:Bks):Prop:=Gr.Short b.g/\b.en<=61/\(∀ x∈b.ents,x.Few)/\b.rn<=300
def Bks.Few (b:Bks):Prop:=Bks.Few18 b/\b.hn<=30
theorem Bks.Out.at_few {w:World} {B:Nat} {b:Bks} (h:b.Out w B) (hf:b.Few):b.At w B:=by
 obtain⟨⟨h1,h2,h3,h4⟩,h5⟩:=hf;exact⟨h.hg.at_short h1,h.hel,h2,h.hE,fun x hx=>(h.hEx x hx).at_few (h3 x hx),h.hrl,h4,h.hR,h.hRw,h.hhl,h5,h.hH,h.hHw⟩
def FewBP (P:Prop) (w:World) (e:Ending) (w':World):Prop:=(∃ b,e=.returned (.bool b)/\(b=true->P))/\Below w w w'
section
variable (w:World)
theorem a9O (g:Grp) (B:Option Addr) (m d:Nat) (l:List Etr) (hg:g.Out w w) (hlm:l.length=m) (hm:m<=maxLen) (hB:RowsAt Etr.cells 7 w w B l) (hBx:∀ y∈l,y.Out w w) :
  Calls prog 46 #[g,.slice B m d] w (FewBP (Gr.Short g/\m<=61/\∀ x∈l,x.Few) w):=by
 obtain⟨W1,hW1,hB0,hb0,hz⟩:=nw1 w g 29;obtain⟨HW,HG1,HBr,HBx,Hlm,Hb0,HB0⟩:=Z7 hW1 (hg.at_ hB0) (RowsAt.at_ hB hB0) (fun y hy=>((hBx y hy).below hB0 lR).more hB0.size) hlm hb0 hB0;have s1:w.heap.size<W1.heap.size:=oM;unfold maxLen at hm;clear hW1 hz hb0 hg hlm hB hBx hB0;go_enter func46,ntmps46;go_upto_region 1 with(fail);rw [<- HW.out];go_wp2
 go_loopw [5] (fun i wr=>∃ k:Nat,k<=m/\i=.int .i64 k/\Hid (∀ x∈l.take k,x.Few)/\k<=61/\Below W1 W1 wr) (fun i _=>m-(intOf i).toNat)
 case atStart=>exact⟨0,Nat.zero_le _,rfl,Z1 sP,oM,bR⟩
 case round =>
  obtain⟨w5,rfl⟩:∃ w5,w5=wr:=⟨_,rfl⟩;obtain⟨k,hk,rfl,HK,hk61,hb⟩:=hrel;have hbF:=HB0.out.trans (hb.mono HB0.out.size);have hsz:=hb.size
  by_cases hlt:k<m
  case neg =>
   obtain rfl:k=m:=oM;have HK2:Hid (∀ x∈l,x.Few):=Z1 (by have:=HK.out;rw [List.take_of_length_le (by have:=Hlm.out;omega)] at this;exact this);have Hfew:=Z1 (b1E w5 g ((HG1.out.below hb lR).more hsz));have hload:w5.rangeAt w.heap.size 0 g:=Xx (gbox Hb0.out hb s1);go_wp2_with (refine Vk (by rfl) 29 (.tmp 2) rfl w.heap.size 0 rfl _ _ hload underlying29 rfl VJ ?_);refine Hfew.out.mono ?_;rintro ev W2 ⟨⟨r,rfl,hr⟩,hB2⟩;have Hr:=Z1 hr;clear hr hload;go_wp2;go_ret;exact⟨⟨r,rfl,fun q=>⟨Hr.out q,hk61,HK2.out⟩⟩,hbF.trans (hB2.mono hbF.size)⟩
  have hkl:k<l.length:=by have:=Hlm.out;omega
  have hBr5:=RowsAt.below HBr.out hb lR;obtain⟨b,o,rfl,hbB,c0⟩:=RowsAt.look hBr5 hkl;obtain⟨x,hx⟩:∃ x,x=l[k]:=⟨_,rfl⟩;rw [<- hx] at c0;have hxo:=(HBx.out x (by rw [hx];exact List.getElem_mem _)).below hb lR;have hxn:=hxo.hn;have hxt:=hxo.h6;unfold maxLen at hxn hxt;have HXo:=Z1 hxo;have HNx:Hid (x.Few->∀ y∈l.take (k+1),y.Few):=Z1 (fun h=>a1H (P:=Etr.Few) hkl HK.out (by rw [<- hx];exact h));have p5:=c0 5 _ rfl;have p6:=c0 6 _ rfl;have Hp5:=Z1 p5;have Hp6:=Z1 p6;have hbw:b<w5.heap.size:=oM;have hkm:(k:Int)<(m:Int):=oM;obtain⟨tx,htx⟩:∃ tx,tx=x.c.text:=⟨_,rfl⟩;obtain⟨ln,hln⟩:∃ ln,ln=x.ln:=⟨_,rfl⟩;obtain⟨lA,hlA⟩:∃ lA,lA=x.lA:=⟨_,rfl⟩;obtain⟨lc,hlc⟩:∃ lc,lc=x.lc:=⟨_,rfl⟩;rw [<- htx] at p5 hxt;rw [<- hlA,<- hln,<- hlc] at p6 Hp6;rw [<- hln] at hxn;have Hln:=Z1 hln;have HlA:=Z1 hlA;clear hx hxo c0 hBr5 htx hln hlA hlc
  by_cases h1:ln<=60
  case neg =>
   go_wp2;go_ret;exact⟨⟨_,rfl,fun h=>by cases h⟩,hbF⟩
  by_cases h2:tx.size<=200
  case neg =>
   go_wp2;go_ret;exact⟨⟨_,rfl,fun h=>by cases h⟩,hbF⟩
  by_cases h3:k<=60
  case neg =>
   go_wp2;go_ret;exact⟨⟨_,rfl,fun h=>by cases h⟩,hbF⟩
  go_wp2
  go_loopw [6] (fun i wr=>∃ u:Nat,u<=ln/\i=.int .i64 u/\Hid (∀ z∈x.c.lines.take u,-1125899906842624<=z.amt/\z.amt<=1125899906842624)/\wr=w5) (fun i _=>ln-(intOf i).toNat)
  case atStart=>exact⟨0,Nat.zero_le _,rfl,Z1 sP,rfl⟩
  case round =>
   obtain⟨u,hu,rfl,HU,rfl⟩:=hrel;have hun:(u:Int)<=(ln:Int):=oM
   by_cases hlt2:u<ln
   case neg =>
    obtain rfl:u=ln:=oM;have HN2:=Z1 (HNx.out ⟨by rw [<- Hln.out];exact h1,by have:=HU.out;rw [List.take_of_length_le (by have:=HXo.out.hl;have:=Hln.out;omega)] at this;exact this⟩);go_wp2;go_roundw
    case rel=>exact⟨k+1,oM,by go_num,HN2,oM,hb⟩
    case measure=>simp [intOf];omega
   have hul:u<x.c.lines.length:=by have:=HXo.out.hl;have:=Hln.out;omega
   obtain⟨b2,o2,hAe,hbB2,d0⟩:=LinsAt.three HXo.out.hA hul;rw [<- HlA.out] at hAe;obtain⟨a,ha⟩:∃ a,a=x.c.lines[u].amt:=⟨_,rfl⟩;have q1:=d0 1 _ rfl;rw [<- ha] at q1;have HUn:Hid (-1125899906842624<=a/\a<=1125899906842624->∀ z∈x.c.lines.take (u+1),-1125899906842624<=z.amt/\z.amt<=1125899906842624):=Z1 (fun h=>a1H (P:=fun z:Lin=>-1125899906842624<=z.amt/\z.amt<=1125899906842624) hul HU.out (by rw [<- ha];exact h));have hbw2:b2<wr.heap.size:=oM;rw [hAe] at p6;clear ha d0 hAe
   by_cases g1:a<=1125899906842624
   case neg =>
    go_wp2;go_ret;exact⟨⟨_,rfl,fun h=>by cases h⟩,hbF⟩
   by_cases g2:-1125899906842624<=a
   case neg =>
    have g3:a < -1125899906842624:=oM;clear g2;go_wp2;go_ret;exact⟨⟨_,rfl,fun h=>by cases h⟩,hbF⟩
   have g3:¬ a < -1125899906842624:=oM;have HUm:=Z1 (HUn.out ⟨g2,g1⟩);go_wp2;go_roundw
   case rel=>exact⟨u+1,oM,by go_num,HUm,trivial⟩
   case measure=>simp [intOf];omega
theorem a9N (b:Bks) (hb:b.Out w w):Calls prog 20 #[b] w (FewBP (Bks.Few18 b) w):=by
 obtain⟨W1,hW1,hB0,hb0,hz⟩:=nw1 w b 36;obtain⟨HW,HB1,HB0,Hb0⟩:=Z4 hW1 (hb.at_ hB0) hB0 hb0;have hrg:W1.rangeAt w.heap.size 0 b.g:=fun j v hj=>by have:=cr9 j hb0;rw [Nat.zero_add,this];exact a1C hj
 have x21:=cr9 21 hb0;simp at x21;have s0:=Vq hb0;have hrn:=hb.hrn;unfold maxLen at hrn;have Hf:=Z1 (a9O W1 b.g b.eA b.en b.ec b.ents HB1.out.hg HB1.out.hel HB1.out.hen HB1.out.hE HB1.out.hEx);clear hW1 hz hb0 hb hB0;go_enter func20,ntmps20;go_upto_region 1 with(fail);rw [<- HW.out];go_wp2_with (refine Vk (by rfl) 29 (.tmp 3) rfl w.heap.size 0 rfl _ _ hrg underlying29 rfl VJ ?_);refine Hf.out.mono ?_;rintro ev W2 ⟨⟨r,rfl,hr⟩,hB2⟩;have hb2:=gbox Hb0.out hB2 s0;have y22:=cr9 22 hb2;simp at y22;have s2:=Vq hb2;have HBF:=Z1 (HB0.out.trans (hB2.mono oM));have Hr:=Z1 hr;clear hrg x21 hB2 hb2 hr
 cases r with
 | false =>
  go_wp2;go_ret;exact⟨⟨_,rfl,fun h=>by cases h⟩,HBF.out⟩
 | true =>
  have Hr2:=Z1 (Hr.out rfl)
  by_cases h3:b.rn<=300
  ·have k1:(b.rn:Int)<=300:=oM
   go_wp2;go_ret;exact⟨⟨_,rfl,fun _=>⟨Hr2.out.1,Hr2.out.2.1,Hr2.out.2.2,h3⟩⟩,HBF.out⟩
  ·have k1:¬ (b.rn:Int)<=300:=oM
   go_wp2;go_ret;exact⟨⟨_,rfl,fun h=>by simp at h;omega⟩,HBF.out⟩
theorem a3L (b:Bks) (hb:b.Out w w):Calls prog 8 #[b] w (FewBP (Bks.Few b) w):=by
 obtain⟨W1,hW1,hB0,hb0,hz⟩:=nw1 w b 36;obtain⟨HW,HB0,Hb0⟩:=Z3 hW1 hB0 hb0;have hld:=hb0;have s0:=Vq hb0;have hhn:=hb.hhn;unfold maxLen at hhn;have Hf:=Z1 (a9N W1 b (hb.at_ hB0));clear hW1 hz hb0 hb hB0;go_enter func8,ntmps8;go_upto_region 1 with(fail);rw [<- HW.out];go_wp2_with (refine wpList_load_row rfl 36 _ rfl _ rfl _ _ _ _ hld underlying36 rfl a0B ?_);refine Hf.out.mono ?_;rintro ev W2 ⟨⟨r,rfl,hr⟩,hB2⟩;have hb2:=gbox Hb0.out hB2 s0;have y23:=cr9 23 hb2;simp at y23;have s2:=Vq hb2;have HBF:=Z1 (HB0.out.trans (hB2.mono oM));have Hr:=Z1 hr;clear hld hB2 hb2 hr
 cases r with
 | false =>
  go_wp2;go_ret;exact⟨⟨_,rfl,fun h=>by cases h⟩,HBF.out⟩
 | true =>
  have Hr2:=Z1 (Hr.out rfl)
  by_cases h3:b.hn<=30
  ·have k1:(b.hn:Int)<=30:=oM
   go_wp2;go_ret;exact⟨⟨_,rfl,fun _=>⟨Hr2.out,h3⟩⟩,HBF.out⟩
  ·have k1:¬ (b.hn:Int)<=30:=oM
   go_wp2;go_ret;exact⟨⟨_,rfl,fun h=>by simp at h;omega⟩,HBF.out⟩
end
end Go.Proofs.YtniaimjknmhapaaGreatDoor
