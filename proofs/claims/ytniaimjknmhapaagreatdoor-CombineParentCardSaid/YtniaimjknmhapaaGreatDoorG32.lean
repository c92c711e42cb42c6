/- My texts OpenB, FewB. -/
import Derived.Test.YtniaimjknmhapaaGreatDoorRows
import Derived.ProofKit
import Derived.OpenShut
import Derived.ShutString
import Derived.ChangeOld
import Derived.Deep.Slices
import Derived.Test.YtniaimjknmhapaaGreatDoorG19
import Derived.Test.YtniaimjknmhapaaGreatDoorG31
import Derived.Test.YtniaimjknmhapaaGreatDoorG33
set_option linter.unusedVariables false
set_option linter.unusedSimpArgs false
set_option maxRecDepth 100000
set_option maxHeartbeats 16000000
namespace Go.Proofs.YtniaimjknmhapaaGreatDoor
open Go.ChangeShapes Go.WideShapes Go.ChangeAt Go.RowKit Go.Deep

section
variable {H:Type} {enc:TypeId × Value->H} {P:Program} {w:World} {base:Nat} {spare:Nat->Bool} {held:Bool}
theorem field_read {t:TypeId} {fs:Array Field} {fuel:Nat} {cs:List Value} {x:DataW H × List MemPlace} (ht:P.underlying t=some (.struct fs)) (h:DataW.trod enc P w base spare held fuel t cs=some x) (j:Nat) (T:TypeId) (o:Nat) (hf:(fs[j]?).map (fun f=>(f.type,f.offset))=some (T,o)) :
  ∃ n y,DataW.trod enc P w base spare held n T ((cs.drop o).take (P.cellsOf T))=some y:=by
 obtain⟨xs,n,_,_,_,hlen,hg⟩:=DataW.trod_struct ht h
 rw [Option.map_eq_some_iff] at hf
 obtain⟨f,hf,e⟩:=hf
 cases e
 have hj:j<fs.size:=(Array.getElem?_eq_some_iff.1 hf).1
 exact⟨n,xs[j]'(by omega),(hg j f hf).trans (List.getElem?_eq_getElem (by omega))⟩
theorem cell_of_trod_int {t:TypeId} {k:IntKind} {fuel:Nat} {v:Value} {x:DataW H × List MemPlace} (ht:P.underlying t=some (.int k)) (h:DataW.trod enc P w base spare held fuel t [v]=some x):∃ n,v=.int k n/\(Lit.int k n).wf=true:=by
 obtain⟨n,e,_,hw⟩:=DataW.trod_int ht h
 exact⟨n,by simpa using e,hw⟩
theorem cell_of_trod_string {t:TypeId} {fuel:Nat} {v:Value} {x:DataW H × List MemPlace} (ht:P.underlying t=some .string) (h:DataW.trod enc P w base spare held fuel t [v]=some x):∃ s:ByteArray,v=.string s/\s.size<=maxLen:=by
 obtain⟨s,e,_,hw⟩:=DataW.trod_string ht h
 exact⟨s,by simpa using e,hw⟩
theorem cell_of_trod_bool {t:TypeId} {fuel:Nat} {v:Value} {x:DataW H × List MemPlace} (ht:P.underlying t=some .bool) (h:DataW.trod enc P w base spare held fuel t [v]=some x):∃ b:Bool,v=.bool b:=by
 obtain⟨b,e,_⟩:=DataW.trod_bool ht h
 exact⟨b,by simpa using e⟩
theorem rows_read {α:Type} {f:α->List Value} {sz:Nat} {Wf:α->Prop} (zero:α) {tS tE:TypeId} (hu:P.underlying tS=some (.slice tE)) (hce:P.cellsOf tE=sz) (hsz:0<sz) (hfl:∀ a,(f a).length=sz)
  (hread:∀(n:Nat) (cs:List Value) (x:DataW H × List MemPlace),DataW.trod enc P w base spare held n tE cs=some x->cs.length=sz->∃ a,Wf a/\cs=f a)
  {fuel:Nat} {v:Value} {x:DataW H × List MemPlace} (h:DataW.trod enc P w base spare held fuel tS [v]=some x) :
  ∃(A:Option Addr) (n c:Nat) (l:List α),v=.slice A n c/\l.length=n/\n<=maxLen/\(∀ a∈l,Wf a)/\RowsAt f sz w w.heap.size A l:=by
 rcases open_slice hu h with⟨hcs,_⟩ | ⟨a,len,cap,m,n,D,Pl,hcs,_,hl,hm,hmm,_,hi⟩
 ·exact⟨none,0,0,[],by simpa using hcs,rfl,by unfold maxLen;omega,by simp,.inl rfl⟩
 ·have hlm:len<=m:=by rw [hmm];split <;> omega
  have hex:∀ i,i<len->∃ r:α,Wf r/\∀ j u,(f r)[j]?=some u->w.cell? (a.add (i*sz+j))=some u:=by
   intro i hil
   obtain⟨cs',hc,ht⟩:=hi i (by omega)
   rw [hce] at hc
   obtain⟨_,hcl,hat⟩:=World.cells?_some hc
   obtain⟨r,hr,e⟩:=hread _ _ _ ht hcl
   refine⟨r,hr,fun j u hj=>?_⟩
   have hj4:j<sz:=by have:=(List.getElem?_eq_some_iff.1 hj).1;rw [hfl] at this;exact this
   have:=hat j hj4
   rw [e,hj] at this
   rw [<- Go.Deep.add_add];exact this
  have hch:∃ F:Nat->α,∀ i,i<len->Wf (F i)/\∀ j u,(f (F i))[j]?=some u->w.cell? (a.add (i*sz+j))=some u:=by
   refine⟨fun i=>if hil:i<len then Classical.choose (hex i hil) else zero,fun i hil=>?_⟩
   simp only [hil,dite_true]
   exact Classical.choose_spec (hex i hil)
  obtain⟨F,hF⟩:=hch
  refine⟨some a,len,cap,(List.range len).map F,by simpa using hcs,by simp,by omega,?_,?_⟩
  ·intro r hr
   simp only [List.mem_map,List.mem_range] at hr
   obtain⟨i,hil,rfl⟩:=hr
   exact(hF i hil).1
  ·rcases Nat.eq_zero_or_pos len with h0 | hpos
   ·left;rw [h0];rfl
   ·right
    obtain⟨b,off,spot⟩:=a
    have hlen0:0<(f (F 0)).length:=by rw [hfl];exact hsz
    have h0:=(hF 0 hpos).2 0 _ (List.getElem?_eq_getElem hlen0)
    have hspot:spot=none:=by simpa [Addr.add] using World.cell?_spot h0
    subst hspot
    refine⟨b,off,rfl,block_lt_of_cell (by simpa [Addr.add] using h0),fun k hk=>?_⟩
    have hk':k<len:=by simpa using hk
    have e:((List.range len).map F)[k]=F k:=by simp
    rw [e]
    intro j u hj
    have h1:=(hF k hk').2 j u hj
    rw [Go.WideShapes.add_plain] at h1
    rw [Nat.add_assoc]
    exact h1
end
theorem cStr:Tryz.prog.cellsOf 9=1:=by kernel_rfl
theorem cInt:Tryz.prog.cellsOf 3=1:=by kernel_rfl
theorem cBool:Tryz.prog.cellsOf 4=1:=by kernel_rfl
theorem cAcc:Tryz.prog.cellsOf 87=4:=by kernel_rfl
theorem cLnk:Tryz.prog.cellsOf 150=3:=by kernel_rfl
theorem cEnt:Tryz.prog.cellsOf 102=5:=by kernel_rfl
theorem cCal:Tryz.prog.cellsOf 23=3:=by kernel_rfl
theorem cRol:Tryz.prog.cellsOf 26=15:=by kernel_rfl
theorem cGrp:Tryz.prog.cellsOf 29=21:=by kernel_rfl
theorem cSA:Tryz.prog.cellsOf 24=1:=by kernel_rfl
theorem cSL:Tryz.prog.cellsOf 100=1:=by kernel_rfl
theorem cSE:Tryz.prog.cellsOf 27=1:=by kernel_rfl
theorem cLin:Tryz.prog.cellsOf 68=3:=by kernel_rfl
theorem cEtr:Tryz.prog.cellsOf 71=7:=by kernel_rfl
theorem cRt:Tryz.prog.cellsOf 172=4:=by kernel_rfl
theorem cHld:Tryz.prog.cellsOf 61=4:=by kernel_rfl
theorem cBks:Tryz.prog.cellsOf 36=27:=by kernel_rfl
theorem cSN:Tryz.prog.cellsOf 69=1:=by kernel_rfl
theorem cST:Tryz.prog.cellsOf 30=1:=by kernel_rfl
theorem cSR:Tryz.prog.cellsOf 31=1:=by kernel_rfl
theorem cSH:Tryz.prog.cellsOf 32=1:=by kernel_rfl
def Lin.wfO (x:Lin):Prop:=(Lit.int .i64 x.acct).wf=true/\(Lit.int .i64 x.amt).wf=true/\(Lit.int .i64 x.prt).wf=true
structure Etr.Out (w:World) (B:Nat) (x:Etr):Prop where
 hl:x.c.lines.length=x.ln
 hn:x.ln<=maxLen
 hA:RowsAt Lin.cells 3 w B x.lA x.c.lines
 hw:∀ l∈x.c.lines,l.wfO
 h1:(Lit.int .i64 x.c.id).wf=true
 h2:(Lit.int .i64 x.c.ent).wf=true
 h3:(Lit.int .i64 x.c.date).wf=true
 h4:(Lit.int .i64 x.c.kind).wf=true
 h5:(Lit.int .i64 x.c.of_).wf=true
 h6:x.c.text.size<=maxLen
structure Bks.Out (w:World) (B:Nat) (b:Bks):Prop where
 hg:b.g.Out w B
 hel:b.ents.length=b.en
 hen:b.en<=maxLen
 hec:b.en<=b.ec
 hE:RowsAt Etr.cells 7 w B b.eA b.ents
 hEx:∀ x∈b.ents,x.Out w B
 hrl:b.rates.length=b.rn
 hrn:b.rn<=maxLen
 hR:RatesAt w B b.rA b.rates
 hRw:∀ r∈b.rates,r.wf
 hhl:b.holds.length=b.hn
 hhn:b.hn<=maxLen
 hH:HldsAt w B b.hA b.holds
 hHw:∀ x∈b.holds,x.wf
theorem slice_le {H:Type} {enc:TypeId × Value->H} {P:Program} {w:World} {base:Nat} {spare:Nat->Bool} {held:Bool} {tS tE:TypeId} {fuel n c:Nat} {A:Option Addr} {x:DataW H × List MemPlace} (hu:P.underlying tS=some (.slice tE)) (h:DataW.trod enc P w base spare held fuel tS [.slice A n c]=some x):n<=c:=by
 rcases open_slice hu h with⟨hcs,_⟩ | ⟨a,len,cap,m,n',D,Pl,hcs,_,hl,_⟩
 ·simp at hcs;omega
 ·simp at hcs;omega
theorem rates_of {w:World} {B:Nat} {A:Option Addr} {l:List Rt} (h:RowsAt Rt.cells 4 w B A l):RatesAt w B A l:=by
 rcases h with h | ⟨b,o,e,hl,hc⟩
 ·exact .inl h
 ·exact .inr ⟨b,o,e,hl,fun k hk=>⟨hc k hk 0 _ rfl,hc k hk 1 _ rfl,hc k hk 2 _ rfl,hc k hk 3 _ rfl⟩⟩
section
variable {H:Type} {enc:TypeId × Value->H} {w:World} {spare:Nat->Bool} {held:Bool}
theorem acc_read {fuel:Nat} {cs:List Value} {x:DataW H × List MemPlace} (h:DataW.trod enc Tryz.prog w 0 spare held fuel 87 cs=some x) (hl:cs.length=4) :
  ∃ a:Acc,a.wf/\cs=a.cells:=by
 match cs,hl with
 | [c0,c1,c2,c3],_ =>
  obtain⟨_,_,h0⟩:=field_read Tryz.underlying87 h 0 3 0 rfl
  obtain⟨_,_,h1⟩:=field_read Tryz.underlying87 h 1 3 1 rfl
  obtain⟨_,_,h2⟩:=field_read Tryz.underlying87 h 2 3 2 rfl
  obtain⟨_,_,h3⟩:=field_read Tryz.underlying87 h 3 3 3 rfl
  simp only [cInt,List.drop_zero,List.drop_succ_cons,List.take_succ_cons,List.take_zero] at h0 h1 h2 h3
  obtain⟨a,rfl,ha⟩:=cell_of_trod_int Tryz.underlying3 h0
  obtain⟨b,rfl,hb⟩:=cell_of_trod_int Tryz.underlying3 h1
  obtain⟨c,rfl,hc⟩:=cell_of_trod_int Tryz.underlying3 h2
  obtain⟨d,rfl,hd⟩:=cell_of_trod_int Tryz.underlying3 h3
  exact⟨⟨a,b,c,d⟩,⟨ha,hb,hc,hd⟩,rfl⟩
theorem lnk_read {fuel:Nat} {cs:List Value} {x:DataW H × List MemPlace} (h:DataW.trod enc Tryz.prog w 0 spare held fuel 150 cs=some x) (hl:cs.length=3) :
  ∃ a:Lnk,a.wf/\cs=a.cells:=by
 match cs,hl with
 | [c0,c1,c2],_ =>
  obtain⟨_,_,h0⟩:=field_read Tryz.underlying150 h 0 3 0 rfl
  obtain⟨_,_,h1⟩:=field_read Tryz.underlying150 h 1 3 1 rfl
  obtain⟨_,_,h2⟩:=field_read Tryz.underlying150 h 2 3 2 rfl
  simp only [cInt,List.drop_zero,List.drop_succ_cons,List.take_succ_cons,List.take_zero] at h0 h1 h2
  obtain⟨a,rfl,ha⟩:=cell_of_trod_int Tryz.underlying3 h0
  obtain⟨b,rfl,hb⟩:=cell_of_trod_int Tryz.underlying3 h1
  obtain⟨c,rfl,hc⟩:=cell_of_trod_int Tryz.underlying3 h2
  exact⟨⟨a,b,c⟩,⟨ha,hb,hc⟩,rfl⟩
theorem accs_read {fuel:Nat} {v:Value} {x:DataW H × List MemPlace} (h:DataW.trod enc Tryz.prog w 0 spare held fuel 24 [v]=some x) :
  ∃(A:Option Addr) (n c:Nat) (l:List Acc),v=.slice A n c/\l.length=n/\n<=maxLen/\(∀ a∈l,a.wf)/\AccsAt w w.heap.size A l :=
 rows_read Acc.zero Tryz.underlying24 cAcc (by decide) (fun _=>rfl) (fun _ _ _ h hl=>acc_read h hl) h
theorem lnks_read {fuel:Nat} {v:Value} {x:DataW H × List MemPlace} (h:DataW.trod enc Tryz.prog w 0 spare held fuel 100 [v]=some x) :
  ∃(A:Option Addr) (n c:Nat) (l:List Lnk),v=.slice A n c/\l.length=n/\n<=maxLen/\(∀ a∈l,a.wf)/\LnksAt w w.heap.size A l :=
 rows_read Lnk.zero Tryz.underlying100 cLnk (by decide) (fun _=>rfl) (fun _ _ _ h hl=>lnk_read h hl) h
theorem ent_read {fuel:Nat} {cs:List Value} {x:DataW H × List MemPlace} (h:DataW.trod enc Tryz.prog w 0 spare held fuel 102 cs=some x) (hl:cs.length=5) :
  ∃ a:Ent,a.Out w w.heap.size/\cs=a.cells:=by
 match cs,hl with
 | [c0,c1,c2,c3,c4],_ =>
  obtain⟨_,_,h0⟩:=field_read Tryz.underlying102 h 0 9 0 rfl
  obtain⟨_,_,h1⟩:=field_read Tryz.underlying102 h 1 9 1 rfl
  obtain⟨_,_,h2⟩:=field_read Tryz.underlying102 h 2 24 2 rfl
  obtain⟨_,_,h3⟩:=field_read Tryz.underlying102 h 3 100 3 rfl
  obtain⟨_,_,h4⟩:=field_read Tryz.underlying102 h 4 4 4 rfl
  simp only [cStr,cBool,cSA,cSL,List.drop_zero,List.drop_succ_cons,List.take_succ_cons,List.take_zero] at h0 h1 h2 h3 h4
  obtain⟨s,rfl,hs⟩:=cell_of_trod_string Tryz.underlying9 h0
  obtain⟨u,rfl,hu⟩:=cell_of_trod_string Tryz.underlying9 h1
  obtain⟨A,n,c,l,rfl,k1,k2,k3,k4⟩:=accs_read h2
  obtain⟨B,m,d,q,rfl,j1,j2,j3,j4⟩:=lnks_read h3
  obtain⟨b,rfl⟩:=cell_of_trod_bool Tryz.underlying4 h4
  exact⟨⟨s,u,A,n,c,l,B,m,d,q,b⟩,⟨k1,k2,k4,k3,j1,j2,j4,j3,hs,hu⟩,rfl⟩
theorem ents_read {fuel:Nat} {v:Value} {x:DataW H × List MemPlace} (h:DataW.trod enc Tryz.prog w 0 spare held fuel 27 [v]=some x) :
  ∃(A:Option Addr) (n c:Nat) (l:List Ent),v=.slice A n c/\l.length=n/\n<=maxLen/\(∀ a∈l,a.Out w w.heap.size)/\RowsAt Ent.cells 5 w w.heap.size A l :=
 rows_read Ent.zero Tryz.underlying27 cEnt (by decide) (fun _=>rfl) (fun _ _ _ h hl=>ent_read h hl) h
theorem grp_read {fuel:Nat} {cs:List Value} {x:DataW H × List MemPlace} (h:DataW.trod enc Tryz.prog w 0 spare held fuel 29 cs=some x) (hl:cs.length=21) :
  ∃ g:Grp,g.Out w w.heap.size/\cs=[.string g.cur,.int .i64 g.Y,.int .i64 g.M,.int .i64 g.N,.slice g.cA g.cn g.cc,.int .i64 g.r0,.int .i64 g.r1,.int .i64 g.r2,.int .i64 g.r3,.int .i64 g.r4,.int .i64 g.r5,.int .i64 g.r6,.int .i64 g.r7,.int .i64 g.r8,.int .i64 g.r9,.int .i64 g.r10,.int .i64 g.r11,.int .i64 g.r12,.int .i64 g.r13,.int .i64 g.r14,.slice g.eA g.en g.ec]:=by
 match cs,hl with
 | [c0,c1,c2,c3,c4,c5,c6,c7,c8,c9,c10,c11,c12,c13,c14,c15,c16,c17,c18,c19,c20],_ =>
  obtain⟨_,_,hS⟩:=field_read Tryz.underlying29 h 0 9 0 rfl
  obtain⟨_,_,hC⟩:=field_read Tryz.underlying29 h 1 23 1 rfl
  obtain⟨_,_,hA⟩:=field_read Tryz.underlying29 h 2 24 4 rfl
  obtain⟨_,_,hR⟩:=field_read Tryz.underlying29 h 3 26 5 rfl
  obtain⟨_,_,hE⟩:=field_read Tryz.underlying29 h 4 27 20 rfl
  simp only [cStr,cCal,cSA,cRol,cSE,List.drop_zero,List.drop_succ_cons,List.take_succ_cons,List.take_zero] at hS hC hA hR hE
  obtain⟨_,_,h1⟩:=field_read Tryz.underlying23 hC 0 3 0 rfl
  obtain⟨_,_,h2⟩:=field_read Tryz.underlying23 hC 1 3 1 rfl
  obtain⟨_,_,h3⟩:=field_read Tryz.underlying23 hC 2 3 2 rfl
  obtain⟨_,_,q0⟩:=field_read Tryz.underlying26 hR 0 3 0 rfl
  obtain⟨_,_,q1⟩:=field_read Tryz.underlying26 hR 1 3 1 rfl
  obtain⟨_,_,q2⟩:=field_read Tryz.underlying26 hR 2 3 2 rfl
  obtain⟨_,_,q3⟩:=field_read Tryz.underlying26 hR 3 3 3 rfl
  obtain⟨_,_,q4⟩:=field_read Tryz.underlying26 hR 4 3 4 rfl
  obtain⟨_,_,q5⟩:=field_read Tryz.underlying26 hR 5 3 5 rfl
  obtain⟨_,_,q6⟩:=field_read Tryz.underlying26 hR 6 3 6 rfl
  obtain⟨_,_,q7⟩:=field_read Tryz.underlying26 hR 7 3 7 rfl
  obtain⟨_,_,q8⟩:=field_read Tryz.underlying26 hR 8 3 8 rfl
  obtain⟨_,_,q9⟩:=field_read Tryz.underlying26 hR 9 3 9 rfl
  obtain⟨_,_,q10⟩:=field_read Tryz.underlying26 hR 10 3 10 rfl
  obtain⟨_,_,q11⟩:=field_read Tryz.underlying26 hR 11 3 11 rfl
  obtain⟨_,_,q12⟩:=field_read Tryz.underlying26 hR 12 3 12 rfl
  obtain⟨_,_,q13⟩:=field_read Tryz.underlying26 hR 13 3 13 rfl
  obtain⟨_,_,q14⟩:=field_read Tryz.underlying26 hR 14 3 14 rfl
  simp only [cInt,List.drop_zero,List.drop_succ_cons,List.take_succ_cons,List.take_zero] at h1 h2 h3 q0 q1 q2 q3 q4 q5 q6 q7 q8 q9 q10 q11 q12 q13 q14
  obtain⟨s,rfl,hs⟩:=cell_of_trod_string Tryz.underlying9 hS
  obtain⟨Y,rfl,hY⟩:=cell_of_trod_int Tryz.underlying3 h1
  obtain⟨M,rfl,hM⟩:=cell_of_trod_int Tryz.underlying3 h2
  obtain⟨N,rfl,hN⟩:=cell_of_trod_int Tryz.underlying3 h3
  obtain⟨A,n,c,l,rfl,k1,k2,k3,k4⟩:=accs_read hA
  obtain⟨r0,rfl,v0⟩:=cell_of_trod_int Tryz.underlying3 q0
  obtain⟨r1,rfl,v1⟩:=cell_of_trod_int Tryz.underlying3 q1
  obtain⟨r2,rfl,v2⟩:=cell_of_trod_int Tryz.underlying3 q2
  obtain⟨r3,rfl,v3⟩:=cell_of_trod_int Tryz.underlying3 q3
  obtain⟨r4,rfl,v4⟩:=cell_of_trod_int Tryz.underlying3 q4
  obtain⟨r5,rfl,v5⟩:=cell_of_trod_int Tryz.underlying3 q5
  obtain⟨r6,rfl,v6⟩:=cell_of_trod_int Tryz.underlying3 q6
  obtain⟨r7,rfl,v7⟩:=cell_of_trod_int Tryz.underlying3 q7
  obtain⟨r8,rfl,v8⟩:=cell_of_trod_int Tryz.underlying3 q8
  obtain⟨r9,rfl,v9⟩:=cell_of_trod_int Tryz.underlying3 q9
  obtain⟨r10,rfl,v10⟩:=cell_of_trod_int Tryz.underlying3 q10
  obtain⟨r11,rfl,v11⟩:=cell_of_trod_int Tryz.underlying3 q11
  obtain⟨r12,rfl,v12⟩:=cell_of_trod_int Tryz.underlying3 q12
  obtain⟨r13,rfl,v13⟩:=cell_of_trod_int Tryz.underlying3 q13
  obtain⟨r14,rfl,v14⟩:=cell_of_trod_int Tryz.underlying3 q14
  obtain⟨B,m,d,q,rfl,j1,j2,j3,j4⟩:=ents_read hE
  refine⟨⟨s,Y,M,N,A,n,c,l,r0,r1,r2,r3,r4,r5,r6,r7,r8,r9,r10,r11,r12,r13,r14,B,m,d,q⟩,⟨k1,k2,k4,k3,j1,j2,j4,j3,hs,?_⟩,rfl⟩
  simp only [Gr.roles,List.forall_mem_cons]
  exact⟨v0,v1,v2,v3,v4,v5,v6,v7,v8,v9,v10,v11,v12,v13,v14,fun _ h=>by cases h⟩
theorem lin_read {fuel:Nat} {cs:List Value} {x:DataW H × List MemPlace} (h:DataW.trod enc Tryz.prog w 0 spare held fuel 68 cs=some x) (hl:cs.length=3) :
  ∃ a:Lin,a.wfO/\cs=a.cells:=by
 match cs,hl with
 | [c0,c1,c2],_ =>
  obtain⟨_,_,h0⟩:=field_read Tryz.underlying68 h 0 3 0 rfl
  obtain⟨_,_,h1⟩:=field_read Tryz.underlying68 h 1 3 1 rfl
  obtain⟨_,_,h2⟩:=field_read Tryz.underlying68 h 2 3 2 rfl
  simp only [cInt,List.drop_zero,List.drop_succ_cons,List.take_succ_cons,List.take_zero] at h0 h1 h2
  obtain⟨a,rfl,ha⟩:=cell_of_trod_int Tryz.underlying3 h0
  obtain⟨b,rfl,hb⟩:=cell_of_trod_int Tryz.underlying3 h1
  obtain⟨c,rfl,hc⟩:=cell_of_trod_int Tryz.underlying3 h2
  exact⟨⟨a,b,c⟩,⟨ha,hb,hc⟩,rfl⟩
theorem lins_read {fuel:Nat} {v:Value} {x:DataW H × List MemPlace} (h:DataW.trod enc Tryz.prog w 0 spare held fuel 69 [v]=some x) :
  ∃(A:Option Addr) (n c:Nat) (l:List Lin),v=.slice A n c/\l.length=n/\n<=maxLen/\(∀ a∈l,a.wfO)/\RowsAt Lin.cells 3 w w.heap.size A l :=
 rows_read Lin.zero Tryz.underlying69 cLin (by decide) (fun _=>rfl) (fun _ _ _ h hl=>lin_read h hl) h
theorem etr_read {fuel:Nat} {cs:List Value} {x:DataW H × List MemPlace} (h:DataW.trod enc Tryz.prog w 0 spare held fuel 71 cs=some x) (hl:cs.length=7) :
  ∃ a:Etr,a.Out w w.heap.size/\cs=a.cells:=by
 match cs,hl with
 | [c0,c1,c2,c3,c4,c5,c6],_ =>
  obtain⟨_,_,h0⟩:=field_read Tryz.underlying71 h 0 3 0 rfl
  obtain⟨_,_,h1⟩:=field_read Tryz.underlying71 h 1 3 1 rfl
  obtain⟨_,_,h2⟩:=field_read Tryz.underlying71 h 2 3 2 rfl
  obtain⟨_,_,h3⟩:=field_read Tryz.underlying71 h 3 3 3 rfl
  obtain⟨_,_,h4⟩:=field_read Tryz.underlying71 h 4 3 4 rfl
  obtain⟨_,_,h5⟩:=field_read Tryz.underlying71 h 5 9 5 rfl
  obtain⟨_,_,h6⟩:=field_read Tryz.underlying71 h 6 69 6 rfl
  simp only [cInt,cStr,cSN,List.drop_zero,List.drop_succ_cons,List.take_succ_cons,List.take_zero] at h0 h1 h2 h3 h4 h5 h6
  obtain⟨a,rfl,ha⟩:=cell_of_trod_int Tryz.underlying3 h0
  obtain⟨b,rfl,hb⟩:=cell_of_trod_int Tryz.underlying3 h1
  obtain⟨c,rfl,hc⟩:=cell_of_trod_int Tryz.underlying3 h2
  obtain⟨d,rfl,hd⟩:=cell_of_trod_int Tryz.underlying3 h3
  obtain⟨e,rfl,he⟩:=cell_of_trod_int Tryz.underlying3 h4
  obtain⟨s,rfl,hs⟩:=cell_of_trod_string Tryz.underlying9 h5
  obtain⟨A,n,c',l,rfl,k1,k2,k3,k4⟩:=lins_read h6
  exact⟨⟨⟨a,b,c,d,e,s,l⟩,A,n,c'⟩,⟨k1,k2,k4,k3,ha,hb,hc,hd,he,hs⟩,rfl⟩
theorem etrs_read {fuel:Nat} {v:Value} {x:DataW H × List MemPlace} (h:DataW.trod enc Tryz.prog w 0 spare held fuel 30 [v]=some x) :
  ∃(A:Option Addr) (n c:Nat) (l:List Etr),v=.slice A n c/\l.length=n/\n<=maxLen/\(∀ a∈l,a.Out w w.heap.size)/\RowsAt Etr.cells 7 w w.heap.size A l :=
 rows_read Etr.zero Tryz.underlying30 cEtr (by decide) (fun _=>rfl) (fun _ _ _ h hl=>etr_read h hl) h
theorem hld_read {fuel:Nat} {cs:List Value} {x:DataW H × List MemPlace} (h:DataW.trod enc Tryz.prog w 0 spare held fuel 61 cs=some x) (hl:cs.length=4) :
  ∃ a:Hld,a.wf/\cs=a.cells:=by
 match cs,hl with
 | [c0,c1,c2,c3],_ =>
  obtain⟨_,_,h0⟩:=field_read Tryz.underlying61 h 0 3 0 rfl
  obtain⟨_,_,h1⟩:=field_read Tryz.underlying61 h 1 3 1 rfl
  obtain⟨_,_,h2⟩:=field_read Tryz.underlying61 h 2 3 2 rfl
  obtain⟨_,_,h3⟩:=field_read Tryz.underlying61 h 3 3 3 rfl
  simp only [cInt,List.drop_zero,List.drop_succ_cons,List.take_succ_cons,List.take_zero] at h0 h1 h2 h3
  obtain⟨a,rfl,ha⟩:=cell_of_trod_int Tryz.underlying3 h0
  obtain⟨b,rfl,hb⟩:=cell_of_trod_int Tryz.underlying3 h1
  obtain⟨c,rfl,hc⟩:=cell_of_trod_int Tryz.underlying3 h2
  obtain⟨d,rfl,hd⟩:=cell_of_trod_int Tryz.underlying3 h3
  exact⟨⟨a,b,c,d⟩,⟨ha,hb,hc,hd⟩,rfl⟩
theorem hlds_read {fuel:Nat} {v:Value} {x:DataW H × List MemPlace} (h:DataW.trod enc Tryz.prog w 0 spare held fuel 32 [v]=some x) :
  ∃(A:Option Addr) (n c:Nat) (l:List Hld),v=.slice A n c/\l.length=n/\n<=maxLen/\(∀ a∈l,a.wf)/\HldsAt w w.heap.size A l :=
 rows_read Hld.zero Tryz.underlying32 cHld (by decide) (fun _=>rfl) (fun _ _ _ h hl=>hld_read h hl) h
theorem rt_read {fuel:Nat} {cs:List Value} {x:DataW H × List MemPlace} (h:DataW.trod enc Tryz.prog w 0 spare held fuel 172 cs=some x) (hl:cs.length=4) :
  ∃ r:Rt,r.wf/\cs=r.cells:=by
 match cs,hl with
 | [c0,c1,c2,c3],_ =>
  obtain⟨_,_,h0⟩:=field_read Tryz.underlying172 h 0 9 0 rfl
  obtain⟨_,_,h1⟩:=field_read Tryz.underlying172 h 1 3 1 rfl
  obtain⟨_,_,h2⟩:=field_read Tryz.underlying172 h 2 3 2 rfl
  obtain⟨_,_,h3⟩:=field_read Tryz.underlying172 h 3 3 3 rfl
  simp only [cStr,cInt,List.drop_zero,List.drop_succ_cons,List.take_succ_cons,List.take_zero] at h0 h1 h2 h3
  obtain⟨s,rfl,hs⟩:=cell_of_trod_string Tryz.underlying9 h0
  obtain⟨a,rfl,ha⟩:=cell_of_trod_int Tryz.underlying3 h1
  obtain⟨b,rfl,hb⟩:=cell_of_trod_int Tryz.underlying3 h2
  obtain⟨c,rfl,hc⟩:=cell_of_trod_int Tryz.underlying3 h3
  exact⟨⟨s,a,b,c⟩,⟨hs,ha,hb,hc⟩,rfl⟩
theorem rts_read {fuel:Nat} {v:Value} {x:DataW H × List MemPlace} (h:DataW.trod enc Tryz.prog w 0 spare held fuel 31 [v]=some x) :
  ∃(A:Option Addr) (n c:Nat) (rs:List Rt),v=.slice A n c/\rs.length=n/\n<=maxLen/\(∀ r∈rs,r.wf)/\RatesAt w w.heap.size A rs:=by
 obtain⟨A,n,c,l,e,h1,h2,h3,h4⟩:=rows_read (f:=Rt.cells) (Wf:=Rt.wf) Rt.zero Tryz.underlying31 cRt (by decide) (fun _=>rfl) (fun _ _ _ h hl=>rt_read h hl) h
 exact⟨A,n,c,l,e,h1,h2,h3,rates_of h4⟩
theorem bks_arg {r:Reach} {b0:Nat} {v:Value} {d:DataW H} {p:List MemPlace} (hv:Value.okWide Tryz.prog w r b0 36 v) (h:DataW.Trod enc Tryz.prog w 0 spare held 36 v d p) :
  ∃ b:Bks,v=.agg #[.string b.g.cur,.int .i64 b.g.Y,.int .i64 b.g.M,.int .i64 b.g.N,.slice b.g.cA b.g.cn b.g.cc,.int .i64 b.g.r0,.int .i64 b.g.r1,.int .i64 b.g.r2,.int .i64 b.g.r3,.int .i64 b.g.r4,.int .i64 b.g.r5,.int .i64 b.g.r6,.int .i64 b.g.r7,.int .i64 b.g.r8,.int .i64 b.g.r9,.int .i64 b.g.r10,.int .i64 b.g.r11,.int .i64 b.g.r12,.int .i64 b.g.r13,.int .i64 b.g.r14,.slice b.g.eA b.g.en b.g.ec,.slice b.eA b.en b.ec,.slice b.rA b.rn b.rc,.slice b.hA b.hn b.hc,b.m0,b.m1,b.m2]/\b.Out w w.heap.size:=by
 obtain⟨cs,rfl,hsz⟩:=okWide_struct Tryz.underlying36 hv
 rw [cBks] at hsz
 obtain⟨fuel,hf⟩:=h
 simp only [Value.cells] at hf
 obtain⟨cs⟩:=cs
 match cs,hsz with
 | [x0,x1,x2,x3,x4,x5,x6,x7,x8,x9,x10,x11,x12,x13,x14,x15,x16,x17,x18,x19,x20,x21,x22,x23,x24,x25,x26],_ =>
  obtain⟨_,_,hG⟩:=field_read Tryz.underlying36 hf 0 29 0 rfl
  obtain⟨_,_,hE⟩:=field_read Tryz.underlying36 hf 1 30 21 rfl
  obtain⟨_,_,hR⟩:=field_read Tryz.underlying36 hf 2 31 22 rfl
  obtain⟨_,_,hH⟩:=field_read Tryz.underlying36 hf 3 32 23 rfl
  simp only [cGrp,cST,cSR,cSH,List.drop_zero,List.drop_succ_cons,List.take_succ_cons,List.take_zero] at hG hE hR hH
  obtain⟨g,hg,e⟩:=grp_read hG rfl
  obtain⟨A1,n1,c1,l1,rfl,i1,i2,i3,i4⟩:=etrs_read hE
  have i5:=slice_le Tryz.underlying30 hE
  obtain⟨A2,n2,c2,l2,rfl,j1,j2,j3,j4⟩:=rts_read hR
  obtain⟨A3,n3,c3,l3,rfl,k1,k2,k3,k4⟩:=hlds_read hH
  simp only [List.cons.injEq] at e
  obtain⟨rfl,rfl,rfl,rfl,rfl,rfl,rfl,rfl,rfl,rfl,rfl,rfl,rfl,rfl,rfl,rfl,rfl,rfl,rfl,rfl,rfl,_⟩:=e
  exact⟨⟨g,A1,n1,c1,l1,A2,n2,c2,l2,A3,n3,c3,l3,x24,x25,x26⟩,rfl,⟨hg,i1,i2,i5,i4,i3,j1,j2,j4,j3,k1,k2,k4,k3⟩⟩
end
end Go.Proofs.YtniaimjknmhapaaGreatDoor
namespace Go.Proofs.YtniaimjknmhapaaGreatDoor
open Go.Proofs.Tryz Go.RowKit
def Etr.Few (x:Etr):Prop:=x.ln<=60/\∀ z∈x.c.lines,-1125899906842624<=z.amt/\z.amt<=1125899906842624
theorem Etr.Out.below {w w':World} {B C:Nat} {x:Etr} (h:x.Out w B) (hb:Below C w w') (hC:B<=C):x.Out w' B:=⟨h.hl,h.hn,RowsAt.below h.hA hb hC,h.hw,h.h1,h.h2,h.h3,h.h4,h.h5,h.h6⟩
theorem Etr.Out.more {w:World} {B C:Nat} {x:Etr} (h:x.Out w B) (hC:B<=C):x.Out w C:=⟨h.hl,h.hn,RowsAt.more h.hA hC,h.hw,h.h1,h.h2,h.h3,h.h4,h.h5,h.h6⟩
theorem Etr.Out.at_few {w:World} {B:Nat} {x:Etr} (h:x.Out w B) (hf:x.Few):x.At w B:=by
 refine⟨h.hl,h.hA,h.h1,h.h3,h.h5,h.h6,?_,fun z hz=>⟨(h.hw z hz).1,hf.2 z hz,(h.hw z hz).2.2⟩⟩
 have:=hf.1;have:=h.hl;omega
theorem Bks.Out.below {w w':World} {B C:Nat} {b:Bks} (h:b.Out w B) (hb:Below C w w') (hC:B<=C):b.Out w' B :=
 ⟨h.hg.below hb hC,h.hel,h.hen,h.hec,RowsAt.below h.hE hb hC,fun x hx=>(h.hEx x hx).below hb hC,h.hrl,h.hrn,RatesAt.below h.hR hb hC,h.hRw,h.hhl,h.hhn,RowsAt.below h.hH hb hC,h.hHw⟩
theorem Bks.Out.more {w:World} {B C:Nat} {b:Bks} (h:b.Out w B) (hC:B<=C):b.Out w C :=
 ⟨h.hg.more hC,h.hel,h.hen,h.hec,RowsAt.more h.hE hC,fun x hx=>(h.hEx x hx).more hC,h.hrl,h.hrn,RatesAt.more h.hR hC,h.hRw,h.hhl,h.hhn,RowsAt.more h.hH hC,h.hHw⟩
theorem Bks.Out.at_ {w w':World} {b:Bks} (h:b.Out w w.heap.size) (hb:Below w.heap.size w w'):b.Out w' w'.heap.size:=(h.below hb (Nat.le_refl _)).more hb.size
def Bks.Few18 (b:Bks):Prop:=Gr.Short b.g/\b.en<=61/\(∀ x∈b.ents,x.Few)/\b.rn<=300
def Bks.Few (b:Bks):Prop:=Bks.Few18 b/\b.hn<=30
theorem Bks.Out.at_few {w:World} {B:Nat} {b:Bks} (h:b.Out w B) (hf:b.Few):b.At w B:=by
 obtain⟨⟨h1,h2,h3,h4⟩,h5⟩:=hf
 exact⟨h.hg.at_short h1,h.hel,h2,h.hE,fun x hx=>(h.hEx x hx).at_few (h3 x hx),h.hrl,h4,h.hR,h.hRw,h.hhl,h5,h.hH,h.hHw⟩
def FewBP (P:Prop) (w:World) (e:Ending) (w':World):Prop:=(∃ b,e=.returned (.bool b)/\(b=true->P))/\Below w.heap.size w w'
section
variable (w:World)
theorem few12_any (g:Grp) (B:Option Addr) (m d:Nat) (l:List Etr) (hg:g.Out w w.heap.size) (hlm:l.length=m) (hm:m<=maxLen) (hB:RowsAt Etr.cells 7 w w.heap.size B l) (hBx:∀ y∈l,y.Out w w.heap.size) :
  Calls prog 46 #[.agg #[.string g.cur,.int .i64 g.Y,.int .i64 g.M,.int .i64 g.N,.slice g.cA g.cn g.cc,.int .i64 g.r0,.int .i64 g.r1,.int .i64 g.r2,.int .i64 g.r3,.int .i64 g.r4,.int .i64 g.r5,.int .i64 g.r6,.int .i64 g.r7,.int .i64 g.r8,.int .i64 g.r9,.int .i64 g.r10,.int .i64 g.r11,.int .i64 g.r12,.int .i64 g.r13,.int .i64 g.r14,.slice g.eA g.en g.ec],.slice B m d] w (FewBP (Gr.Short g/\m<=61/\∀ x∈l,x.Few) w):=by
 obtain⟨W1,hW1,hB0,hb0,hz⟩:=nw1 w #[.string g.cur,.int .i64 g.Y,.int .i64 g.M,.int .i64 g.N,.slice g.cA g.cn g.cc,.int .i64 g.r0,.int .i64 g.r1,.int .i64 g.r2,.int .i64 g.r3,.int .i64 g.r4,.int .i64 g.r5,.int .i64 g.r6,.int .i64 g.r7,.int .i64 g.r8,.int .i64 g.r9,.int .i64 g.r10,.int .i64 g.r11,.int .i64 g.r12,.int .i64 g.r13,.int .i64 g.r14,.slice g.eA g.en g.ec] 29
 have HW:=Z1 hW1
 have HG1:=Z1 (hg.at_ hB0)
 have HBr:=Z1 (RowsAt.at_ hB hB0)
 have HBx:=Z1 (fun y hy=>((hBx y hy).below hB0 (Nat.le_refl _)).more hB0.size)
 have Hlm:=Z1 hlm
 have Hb0:=Z1 hb0
 have HB0:=Z1 hB0
 have s1:w.heap.size<W1.heap.size:=by omega
 unfold maxLen at hm
 clear hW1 hz hb0 hg hlm hB hBx hB0
 go_enter func46,ntmps46
 go_upto_region 1 with(fail)
 rw [<- HW.out]
 go_wp2
 go_loopw [5] (fun i wr=>∃ k:Nat,k<=m/\i=.int .i64 k/\Hid (∀ x∈l.take k,x.Few)/\k<=61/\Below W1.heap.size W1 wr) (fun i _=>m-(intOf i).toNat)
 case atStart=>exact⟨0,Nat.zero_le _,rfl,Z1 (by simp),by omega,Below.refl _ _⟩
 case round =>
  obtain⟨w5,rfl⟩:∃ w5,w5=wr:=⟨_,rfl⟩
  obtain⟨k,hk,rfl,HK,hk61,hb⟩:=hrel
  have hbF:=HB0.out.trans (hb.mono HB0.out.size)
  have hsz:=hb.size
  by_cases hlt:k<m
  case neg =>
   obtain rfl:k=m:=by omega
   have HK2:Hid (∀ x∈l,x.Few):=Z1 (by have:=HK.out;rw [List.take_of_length_le (by have:=Hlm.out;omega)] at this;exact this)
   have Hfew:=Z1 (fewg_any w5 g ((HG1.out.below hb (Nat.le_refl _)).more hsz))
   have hload:w5.rangeAt w.heap.size 0 [.string g.cur,.int .i64 g.Y,.int .i64 g.M,.int .i64 g.N,.slice g.cA g.cn g.cc,.int .i64 g.r0,.int .i64 g.r1,.int .i64 g.r2,.int .i64 g.r3,.int .i64 g.r4,.int .i64 g.r5,.int .i64 g.r6,.int .i64 g.r7,.int .i64 g.r8,.int .i64 g.r9,.int .i64 g.r10,.int .i64 g.r11,.int .i64 g.r12,.int .i64 g.r13,.int .i64 g.r14,.slice g.eA g.en g.ec]:=range_of (gbox Hb0.out hb s1)
   go_wp2_with (refine wpList_load_want (by rfl) 29 (.tmp 2) rfl w.heap.size 0 rfl _ _ hload underlying29 rfl grpSize ?_)
   refine Hfew.out.mono ?_
   rintro ev W2 ⟨⟨r,rfl,hr⟩,hB2⟩
   have Hr:=Z1 hr
   clear hr hload
   go_wp2
   go_ret
   exact⟨⟨r,rfl,fun q=>⟨Hr.out q,hk61,HK2.out⟩⟩,hbF.trans (hB2.mono hbF.size)⟩
  have hkl:k<l.length:=by have:=Hlm.out;omega
  have hBr5:=RowsAt.below HBr.out hb (Nat.le_refl _)
  obtain⟨b,o,rfl,hbB,c0⟩:=RowsAt.look hBr5 hkl
  obtain⟨x,hx⟩:∃ x,x=l[k]:=⟨_,rfl⟩
  rw [<- hx] at c0
  have hxo:=(HBx.out x (by rw [hx];exact List.getElem_mem _)).below hb (Nat.le_refl _)
  have hxn:=hxo.hn
  have hxt:=hxo.h6
  unfold maxLen at hxn hxt
  have HXo:=Z1 hxo
  have HNx:Hid (x.Few->∀ y∈l.take (k+1),y.Few):=Z1 (fun h=>take_mem_all (P:=Etr.Few) hkl HK.out (by rw [<- hx];exact h))
  have p5:=c0 5 _ rfl
  have p6:=c0 6 _ rfl
  have Hp5:=Z1 p5
  have Hp6:=Z1 p6
  have hbw:b<w5.heap.size:=by omega
  have hkm:(k:Int)<(m:Int):=by omega
  obtain⟨tx,htx⟩:∃ tx,tx=x.c.text:=⟨_,rfl⟩
  obtain⟨ln,hln⟩:∃ ln,ln=x.ln:=⟨_,rfl⟩
  obtain⟨lA,hlA⟩:∃ lA,lA=x.lA:=⟨_,rfl⟩
  obtain⟨lc,hlc⟩:∃ lc,lc=x.lc:=⟨_,rfl⟩
  rw [<- htx] at p5 hxt
  rw [<- hlA,<- hln,<- hlc] at p6 Hp6
  rw [<- hln] at hxn
  have Hln:=Z1 hln
  have HlA:=Z1 hlA
  clear hx hxo c0 hBr5 htx hln hlA hlc
  by_cases h1:ln<=60
  case neg =>
   go_wp2
   go_ret
   exact⟨⟨_,rfl,fun h=>by cases h⟩,hbF⟩
  by_cases h2:tx.size<=200
  case neg =>
   go_wp2
   go_ret
   exact⟨⟨_,rfl,fun h=>by cases h⟩,hbF⟩
  by_cases h3:k<=60
  case neg =>
   go_wp2
   go_ret
   exact⟨⟨_,rfl,fun h=>by cases h⟩,hbF⟩
  go_wp2
  go_loopw [6] (fun i wr=>∃ u:Nat,u<=ln/\i=.int .i64 u/\Hid (∀ z∈x.c.lines.take u,-1125899906842624<=z.amt/\z.amt<=1125899906842624)/\wr=w5) (fun i _=>ln-(intOf i).toNat)
  case atStart=>exact⟨0,Nat.zero_le _,rfl,Z1 (by simp),rfl⟩
  case round =>
   obtain⟨u,hu,rfl,HU,rfl⟩:=hrel
   have hun:(u:Int)<=(ln:Int):=by omega
   by_cases hlt2:u<ln
   case neg =>
    obtain rfl:u=ln:=by omega
    have HN2:=Z1 (HNx.out ⟨by rw [<- Hln.out];exact h1,by have:=HU.out;rw [List.take_of_length_le (by have:=HXo.out.hl;have:=Hln.out;omega)] at this;exact this⟩)
    go_wp2
    go_roundw
    case rel=>exact⟨k+1,by omega,by go_num,HN2,by omega,hb⟩
    case measure=>simp [intOf];omega
   have hul:u<x.c.lines.length:=by have:=HXo.out.hl;have:=Hln.out;omega
   obtain⟨b2,o2,hAe,hbB2,d0⟩:=LinsAt.three HXo.out.hA hul
   rw [<- HlA.out] at hAe
   obtain⟨a,ha⟩:∃ a,a=x.c.lines[u].amt:=⟨_,rfl⟩
   have q1:=d0 1 _ rfl
   rw [<- ha] at q1
   have HUn:Hid (-1125899906842624<=a/\a<=1125899906842624->∀ z∈x.c.lines.take (u+1),-1125899906842624<=z.amt/\z.amt<=1125899906842624):=Z1 (fun h=>take_mem_all (P:=fun z:Lin=>-1125899906842624<=z.amt/\z.amt<=1125899906842624) hul HU.out (by rw [<- ha];exact h))
   have hbw2:b2<wr.heap.size:=by omega
   rw [hAe] at p6
   clear ha d0 hAe
   by_cases g1:a<=1125899906842624
   case neg =>
    go_wp2
    go_ret
    exact⟨⟨_,rfl,fun h=>by cases h⟩,hbF⟩
   by_cases g2:-1125899906842624<=a
   case neg =>
    have g3:a < -1125899906842624:=by omega
    clear g2
    go_wp2
    go_ret
    exact⟨⟨_,rfl,fun h=>by cases h⟩,hbF⟩
   have g3:¬ a < -1125899906842624:=by omega
   have HUm:=Z1 (HUn.out ⟨g2,g1⟩)
   go_wp2
   go_roundw
   case rel=>exact⟨u+1,by omega,by go_num,HUm,trivial⟩
   case measure=>simp [intOf];omega
theorem few18_any (b:Bks) (hb:b.Out w w.heap.size):Calls prog 20 #[.agg #[.string b.g.cur,.int .i64 b.g.Y,.int .i64 b.g.M,.int .i64 b.g.N,.slice b.g.cA b.g.cn b.g.cc,.int .i64 b.g.r0,.int .i64 b.g.r1,.int .i64 b.g.r2,.int .i64 b.g.r3,.int .i64 b.g.r4,.int .i64 b.g.r5,.int .i64 b.g.r6,.int .i64 b.g.r7,.int .i64 b.g.r8,.int .i64 b.g.r9,.int .i64 b.g.r10,.int .i64 b.g.r11,.int .i64 b.g.r12,.int .i64 b.g.r13,.int .i64 b.g.r14,.slice b.g.eA b.g.en b.g.ec,.slice b.eA b.en b.ec,.slice b.rA b.rn b.rc,.slice b.hA b.hn b.hc,b.m0,b.m1,b.m2]] w (FewBP (Bks.Few18 b) w):=by
 obtain⟨W1,hW1,hB0,hb0,hz⟩:=nw1 w #[.string b.g.cur,.int .i64 b.g.Y,.int .i64 b.g.M,.int .i64 b.g.N,.slice b.g.cA b.g.cn b.g.cc,.int .i64 b.g.r0,.int .i64 b.g.r1,.int .i64 b.g.r2,.int .i64 b.g.r3,.int .i64 b.g.r4,.int .i64 b.g.r5,.int .i64 b.g.r6,.int .i64 b.g.r7,.int .i64 b.g.r8,.int .i64 b.g.r9,.int .i64 b.g.r10,.int .i64 b.g.r11,.int .i64 b.g.r12,.int .i64 b.g.r13,.int .i64 b.g.r14,.slice b.g.eA b.g.en b.g.ec,.slice b.eA b.en b.ec,.slice b.rA b.rn b.rc,.slice b.hA b.hn b.hc,b.m0,b.m1,b.m2] 36
 have HW:=Z1 hW1
 have HB1:=Z1 (hb.at_ hB0)
 have HB0:=Z1 hB0
 have Hb0:=Z1 hb0
 have hrg:W1.rangeAt w.heap.size 0 [.string (b.g).cur,.int .i64 (b.g).Y,.int .i64 (b.g).M,.int .i64 (b.g).N,.slice (b.g).cA (b.g).cn (b.g).cc,.int .i64 (b.g).r0,.int .i64 (b.g).r1,.int .i64 (b.g).r2,.int .i64 (b.g).r3,.int .i64 (b.g).r4,.int .i64 (b.g).r5,.int .i64 (b.g).r6,.int .i64 (b.g).r7,.int .i64 (b.g).r8,.int .i64 (b.g).r9,.int .i64 (b.g).r10,.int .i64 (b.g).r11,.int .i64 (b.g).r12,.int .i64 (b.g).r13,.int .i64 (b.g).r14,.slice (b.g).eA (b.g).en (b.g).ec]:=fun j v hj=>by have:=cr9 j hb0;rw [Nat.zero_add,this];exact bks_get hj
 have x21:=cr9 21 hb0
 simp at x21
 have s0:=some_lt hb0
 have hrn:=hb.hrn
 unfold maxLen at hrn
 have Hf:=Z1 (few12_any W1 b.g b.eA b.en b.ec b.ents HB1.out.hg HB1.out.hel HB1.out.hen HB1.out.hE HB1.out.hEx)
 clear hW1 hz hb0 hb hB0
 go_enter func20,ntmps20
 go_upto_region 1 with(fail)
 rw [<- HW.out]
 go_wp2_with (refine wpList_load_want (by rfl) 29 (.tmp 3) rfl w.heap.size 0 rfl _ _ hrg underlying29 rfl grpSize ?_)
 refine Hf.out.mono ?_
 rintro ev W2 ⟨⟨r,rfl,hr⟩,hB2⟩
 have hb2:=gbox Hb0.out hB2 s0
 have y22:=cr9 22 hb2
 simp at y22
 have s2:=some_lt hb2
 have HBF:=Z1 (HB0.out.trans (hB2.mono (by omega)))
 have Hr:=Z1 hr
 clear hrg x21 hB2 hb2 hr
 cases r with
 | false =>
  go_wp2
  go_ret
  exact⟨⟨_,rfl,fun h=>by cases h⟩,HBF.out⟩
 | true =>
  have Hr2:=Z1 (Hr.out rfl)
  by_cases h3:b.rn<=300
  ·have k1:(b.rn:Int)<=300:=by omega
   go_wp2
   go_ret
   exact⟨⟨_,rfl,fun _=>⟨Hr2.out.1,Hr2.out.2.1,Hr2.out.2.2,h3⟩⟩,HBF.out⟩
  ·have k1:¬ (b.rn:Int)<=300:=by omega
   go_wp2
   go_ret
   exact⟨⟨_,rfl,fun h=>by simp at h;omega⟩,HBF.out⟩
theorem few37_any (b:Bks) (hb:b.Out w w.heap.size):Calls prog 8 #[.agg #[.string b.g.cur,.int .i64 b.g.Y,.int .i64 b.g.M,.int .i64 b.g.N,.slice b.g.cA b.g.cn b.g.cc,.int .i64 b.g.r0,.int .i64 b.g.r1,.int .i64 b.g.r2,.int .i64 b.g.r3,.int .i64 b.g.r4,.int .i64 b.g.r5,.int .i64 b.g.r6,.int .i64 b.g.r7,.int .i64 b.g.r8,.int .i64 b.g.r9,.int .i64 b.g.r10,.int .i64 b.g.r11,.int .i64 b.g.r12,.int .i64 b.g.r13,.int .i64 b.g.r14,.slice b.g.eA b.g.en b.g.ec,.slice b.eA b.en b.ec,.slice b.rA b.rn b.rc,.slice b.hA b.hn b.hc,b.m0,b.m1,b.m2]] w (FewBP (Bks.Few b) w):=by
 obtain⟨W1,hW1,hB0,hb0,hz⟩:=nw1 w #[.string b.g.cur,.int .i64 b.g.Y,.int .i64 b.g.M,.int .i64 b.g.N,.slice b.g.cA b.g.cn b.g.cc,.int .i64 b.g.r0,.int .i64 b.g.r1,.int .i64 b.g.r2,.int .i64 b.g.r3,.int .i64 b.g.r4,.int .i64 b.g.r5,.int .i64 b.g.r6,.int .i64 b.g.r7,.int .i64 b.g.r8,.int .i64 b.g.r9,.int .i64 b.g.r10,.int .i64 b.g.r11,.int .i64 b.g.r12,.int .i64 b.g.r13,.int .i64 b.g.r14,.slice b.g.eA b.g.en b.g.ec,.slice b.eA b.en b.ec,.slice b.rA b.rn b.rc,.slice b.hA b.hn b.hc,b.m0,b.m1,b.m2] 36
 have HW:=Z1 hW1
 have HB0:=Z1 hB0
 have Hb0:=Z1 hb0
 have hld:=hb0
 have s0:=some_lt hb0
 have hhn:=hb.hhn
 unfold maxLen at hhn
 have Hf:=Z1 (few18_any W1 b (hb.at_ hB0))
 clear hW1 hz hb0 hb hB0
 go_enter func8,ntmps8
 go_upto_region 1 with(fail)
 rw [<- HW.out]
 go_wp2_with (refine wpList_load_row rfl 36 _ rfl _ rfl _ _ _ _ hld underlying36 rfl bksSize ?_)
 refine Hf.out.mono ?_
 rintro ev W2 ⟨⟨r,rfl,hr⟩,hB2⟩
 have hb2:=gbox Hb0.out hB2 s0
 have y23:=cr9 23 hb2
 simp at y23
 have s2:=some_lt hb2
 have HBF:=Z1 (HB0.out.trans (hB2.mono (by omega)))
 have Hr:=Z1 hr
 clear hld hB2 hb2 hr
 cases r with
 | false =>
  go_wp2
  go_ret
  exact⟨⟨_,rfl,fun h=>by cases h⟩,HBF.out⟩
 | true =>
  have Hr2:=Z1 (Hr.out rfl)
  by_cases h3:b.hn<=30
  ·have k1:(b.hn:Int)<=30:=by omega
   go_wp2
   go_ret
   exact⟨⟨_,rfl,fun _=>⟨Hr2.out,h3⟩⟩,HBF.out⟩
  ·have k1:¬ (b.hn:Int)<=30:=by omega
   go_wp2
   go_ret
   exact⟨⟨_,rfl,fun h=>by simp at h;omega⟩,HBF.out⟩
end
end Go.Proofs.YtniaimjknmhapaaGreatDoor
