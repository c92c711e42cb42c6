/- My texts LinkW, MapV, RoleW, OwnG, Push, LinM, RowN. -/
import Derived.Laws.OwnMore
import Derived.Laws.CopyRow
import Derived.Test.YtniaimjknmhapaaGreatDoorG12
import Derived.Test.YtniaimjknmhapaaGreatDoorG16
set_option linter.unusedVariables false
set_option linter.unusedSimpArgs false
set_option maxRecDepth 100000
set_option maxHeartbeats 16000000
namespace Go.Proofs.YtniaimjknmhapaaGreatDoor
open Go.Proofs.Tryz Go.RowKit

def Lnk.wf (x:Lnk):Prop:=(Lit.int .i64 x.frm).wf=true/\(Lit.int .i64 x.to).wf=true/\(Lit.int .i64 x.since).wf=true
abbrev LnksAt:=RowsAt Lnk.cells 3
structure Ent.At (w:World) (B:Nat) (e:Ent):Prop where
 hcl:e.chart.length=e.cn
 hcn:e.cn<=100000
 hc:AccsAt w B e.cA e.chart
 hcw:∀ a∈e.chart,a.wf
 hll:e.links.length=e.ln
 hln:e.ln<=100000
 hl:LnksAt w B e.lA e.links
 hlw:∀ x∈e.links,x.wf
 hn:e.name.size<=maxLen
 hu:e.cur.size<=maxLen
theorem Ent.At.below {w w':World} {B C:Nat} {e:Ent} (h:e.At w B) (hb:Below C w w') (hC:B<=C):e.At w' B :=
 ⟨h.hcl,h.hcn,RowsAt.below h.hc hb hC,h.hcw,h.hll,h.hln,RowsAt.below h.hl hb hC,h.hlw,h.hn,h.hu⟩
theorem Ent.At.more {w:World} {B C:Nat} {e:Ent} (h:e.At w B) (hC:B<=C):e.At w C :=
 ⟨h.hcl,h.hcn,RowsAt.more h.hc hC,h.hcw,h.hll,h.hln,RowsAt.more h.hl hC,h.hlw,h.hn,h.hu⟩
theorem Ent.At.at_ {w w':World} {e:Ent} (h:e.At w w) (hb:Below w w w'):e.At w' w'.heap.size:=(h.below hb lR).more hb.size
theorem LnksAt.three {w:World} {B:Nat} {A:Option Addr} {l:List Lnk} (h:LnksAt w B A l) {k:Nat} (hk:k<l.length):∃ b o,A=some ⟨b,o,none⟩/\b<B/\w.cell? ⟨b,o+k*3,none⟩=some (.int .i64 l[k].frm)/\w.cell? ⟨b,o+k*3+1,none⟩=some (.int .i64 l[k].to)/\w.cell? ⟨b,o+k*3+2,none⟩=some (.int .i64 l[k].since):=by
 obtain⟨b,o,e,hb,hr⟩:=RowsAt.look h hk;exact⟨b,o,e,hb,hr 0 _ rfl,hr 1 _ rfl,hr 2 _ rfl⟩
section
variable (w:World)
theorem a9y (e:Ent) (A:Option Addr) (n c:Nat) (gch:List Acc) (x:Lnk) (hl:gch.length=n) (hn:n<=100000) (he:e.At w w) (hg:AccsAt w w A gch) :
  CL 281 #[e,.slice A n c,x] w (Gr.linkOk e.chart gch x):=by
 obtain⟨W1,hW1,hB0,hb0,hb1,hz⟩:=nw2 w e x 102 150;have HW:=Z1 hW1;have he1:=he.at_ hB0;have hg1:=RowsAt.at_ hg hB0;have hl1:=RowsAt.at_ he.hc hB0;have x2:=cr9 2 hb0;have y0:=cr9 0 hb1;simp at x2 y0;have s1:w.heap.size<W1.heap.size:=oM;have s1':w.heap.size+1<W1.heap.size:=oM;obtain⟨Hb1,Hcl,Hcn⟩:=Z3 hb1 he.hcl he.hcn;clear hW1 hz hb0 hb1 he he1 hg;go_enter func281,ntmps281;go_upto_region 1 with(fail);rw [<- HW.out];go_wp2_with (fail);refine(a0M W1 e.cA e.cn e.cc e.chart x.frm Hcl.out Hcn.out hl1).mono ?_;rintro r W2 ⟨rfl,hB2⟩;have hb12:=gbox Hb1.out hB2 s1';obtain⟨q,hq⟩:∃ q,q=Ch.found e.chart x.frm:=⟨_,rfl⟩;rw [<- hq];have Hq:=Z1 hq;obtain⟨hBa,hra,hza⟩:=a0T W2 q 87;have hb13:=gbox hb12 hBa (Vq hb12);obtain⟨W3,hW3⟩:∃ W3,W3=(W2.alloc (.cells q 87)):=⟨_,rfl⟩;rw [<- hW3] at hBa hra hza hb13;have HW3:=Z1 hW3;have hB02:=hB0.trans (hB2.mono hB0.size);have hB03:=hB02.trans (hBa.mono hB02.size);have hg3:=RowsAt.at_ (RowsAt.at_ hg1 hB2) hBa;clear x2 y0 hW3 hq hb12;have y1:=cr9 1 hb13;simp at y1;have s3:w.heap.size+1<W3.heap.size:=Vq hb13;have Hb13:=Z1 hb13;have Hra:=Z1 hra;clear hb13 hra;go_upto_region 2 with(fail);rw [<- HW3.out];go_wp2_with (fail);refine(a0M W3 A n c gch x.to hl hn hg3).mono ?_;rintro r W4 ⟨rfl,hB4⟩;obtain⟨p,hp⟩:∃ p,p=Ch.found gch x.to:=⟨_,rfl⟩;rw [<- hp];have Hp:=Z1 hp;have hb14:=gbox Hb13.out hB4 s3;have hr4:=gbox Hra.out hB4 (Vq Hra.out);have hB04:=hB03.trans (hB4.mono hB03.size);obtain⟨hBc,hrc,hzc⟩:=a0T W4 p 87;have hb15:=gbox hb14 hBc (Vq hb14);have hr5:=gbox hr4 hBc (Vq hr4);obtain⟨W5,hW5⟩:∃ W5,W5=(W4.alloc (.cells p 87)):=⟨_,rfl⟩;rw [<- hW5] at hBc hrc hzc hb15 hr5;have HW5:=Z1 hW5;have hBF:=hB04.trans (hBc.mono hB04.size);clear y1 hW5 hp hb14 hr4;have y2:=cr9 2 hb15;have q1:=cr9 1 hr5;have p1:=cr9 1 hrc;simp at y2 q1 p1;have s5:w.heap.size+1<W5.heap.size:=Vq hb15;have s5':W2.heap.size<W5.heap.size:=Vq hr5;have s5'':W4.heap.size<W5.heap.size:=Vq hrc;clear hb15 hr5 hrc hg3 hg1 hl1;go_upto_region 3 with(fail);rw [<- HW5.out]
 by_cases h1:Ch.has e.chart x.frm=true
 ·by_cases h2:Ch.has gch x.to=true
  ·by_cases h3:q.kind=p.kind
   ·have h3b:(q.kind==p.kind)=true:=by simp [h3]
    have HV:Hid (Gr.linkOk e.chart gch x=Gr.date x.since):=by show _=_;rw [Gr.linkOk,h1,h2,<- Hq.out,<- Hp.out,decide_eq_true h3];rfl
    rw [h1,h2];clear h1 h2 h3;go_wp2_with (fail);refine(a0P x.since W5).mono ?_;rintro r W6 ⟨rfl,rfl⟩;go_wp2;go_ret;exact⟨by rw [HV.out];unfold Gr.date;rw [Bool.decide_and];rfl,hBF⟩
   ·have h3b:(q.kind==p.kind)=false:=by simp [h3]
    have HV:Hid (Gr.linkOk e.chart gch x=false):=by show _=_;rw [Gr.linkOk,h1,h2,<- Hq.out,<- Hp.out,decide_eq_false h3];rfl
    rw [h1,h2];clear h1 h2 h3;go_wp2;go_ret;exact⟨by rw [HV.out];rfl,hBF⟩
  ·have h2':Ch.has gch x.to=false:=by simpa using h2
   have HV:Hid (Gr.linkOk e.chart gch x=false):=by show _=_;rw [Gr.linkOk,h1,h2'];rfl
   rw [h1,h2'];clear h1 h2 h2';go_wp2;go_ret;exact⟨by rw [HV.out];rfl,hBF⟩
 ·have h1':Ch.has e.chart x.frm=false:=by simpa using h1
  have HV:Hid (Gr.linkOk e.chart gch x=false):=by show _=_;rw [Gr.linkOk,h1'];rfl
  rw [h1'];clear h1 h1';go_wp2;go_ret;exact⟨by rw [HV.out];rfl,hBF⟩
end
open Go.Proofs.Tryz Go.RowKit

theorem linkLaw:Maps.Keyed prog 150:=Maps.Keyed.of_law (deep_law_laid laidOut (m:=2) oM (of_decide_eq_true kR) kR kR)
theorem linkKey (a b c:Int) (ha:(Lit.int .i64 a).wf=true) (hb:(Lit.int .i64 b).wf=true) (hc:(Lit.int .i64 c).wf=true):∃ kl,keyOf prog 150 (.agg #[a,b,c])=some kl:=by
 unfold keyOf;rw [underlying150];have h1:prog.keyType 150=true:=kR;have c3:prog.cellsOf 150=3:=kR
 have h2:(Value.agg #[a,b,c]).formed prog 150=true:=by
  simp [Value.formed,underlying150,c3]
 simp only [h1,h2,Bool.and_self,if_true];have h3:∃ n,prog.types.size=n+1:=⟨prog.types.size-1,by have:0<prog.types.size:=of_decide_eq_true kR;omega⟩;obtain⟨n,hn⟩:=h3;rw [hn];have c1:prog.cellsOf 3=1:=kR;simp [Program.keyLits,underlying150,underlying3,Value.cells,c1,c3,ha,hb,hc]
def SeenL (w:World) (b:Nat) (l:List Lnk) (k:Nat):Prop :=
 ∃ f,MapAt w prog 150 b k f/\∀ x y,f (.agg #[.int .i64 x,(),.int .i64 y])=if (l.take k).any (fun r=>decide (r.frm=x)&&decide (r.since=y))=true then some (.bool true) else none
section
variable {w w':World} {b B:Nat} {l:List Lnk} {k:Nat}
theorem SeenL.lt (h:SeenL w b l k):b<w.heap.size:=by obtain⟨f,h,_⟩:=h;exact h.lt
theorem SeenL.below (h:SeenL w b l k) (hb:Below B w w') (hB:b<B):SeenL w' b l k:=by obtain⟨f,h,r⟩:=h;exact⟨f,h.below hb hB,r⟩
theorem SeenL.alloc (h:SeenL w b l k) (o:Obj):SeenL (w.alloc o) b l k:=by obtain⟨f,h,r⟩:=h;exact⟨f,h.alloc o,r⟩
theorem SeenL.made (w:World) (l:List Lnk):SeenL (w.alloc (.map #[] 0)) w l 0:=⟨_,MapAt.made w _ _,fun x y=>sP⟩
theorem SeenL.look (h:SeenL w b l k) (x y:Int) (hx:(Lit.int .i64 x).wf=true) (hy:(Lit.int .i64 y).wf=true) :
  (Instr.lookup 349 (.map (some b)) (.agg #[x,(),y]) false).run prog w=.ok (.bool ((l.take k).any (fun r=>decide (r.frm=x)&&decide (r.since=y)))) w:=by
 obtain⟨f,hm,hf⟩:=h;obtain⟨kl,hk⟩:=linkKey x 0 y hx rfl hy;have hz:(zeroValue 4).run prog w=.ok (.bool false) w:=kR;rw [hm.lookup linkLaw underlying349 hz hk,hf]
 cases (l.take k).any (fun r=>decide (r.frm=x)&&decide (r.since=y)) <;> rfl
open Classical in
theorem a7F (hk:k<l.length) (f:Value->Option Value) (hf:∀ x y,f (.agg #[.int .i64 x,(),.int .i64 y])=if (l.take k).any (fun r=>decide (r.frm=x)&&decide (r.since=y))=true then some (.bool true) else none) :
  ∀ x y,(fun v=>if v=.agg #[.int .i64 l[k].frm,(),.int .i64 l[k].since] then some (Value.bool true) else f v) (.agg #[.int .i64 x,(),.int .i64 y])=if (l.take (k+1)).any (fun r=>decide (r.frm=x)&&decide (r.since=y))=true then some (.bool true) else none:=by
 intro x y;show(if _ then _ else f _)=_;rw [tse hk,List.any_append]
 by_cases h:l[k].frm=x/\l[k].since=y
 ·obtain⟨h1,h2⟩:=h
  rw [if_pos (by rw [h1,h2]),if_pos (by simp [h1,h2])]
 ·rw [if_neg (by
   intro e;simp only [Value.agg.injEq,Array.mk.injEq,List.cons.injEq,Value.int.injEq,true_and,and_true] at e;exact h ⟨e.1.symm,e.2.symm⟩),hf]
  have h':(decide (l[k].frm=x)&&decide (l[k].since=y))=false:=by simpa using h
  simp [h']
end
theorem b3k {l:List Lnk} {i:Nat} (h:i<l.length):Gr.lat l i=l[i]:=by simp [Gr.lat,h]
theorem b1D {l:List Lnk} {i:Nat} (h:i<l.length):Gr.fresh l i l[i]=!(l.take i).any (fun r=>decide (r.frm=l[i].frm)&&decide (r.since=l[i].since)):=rfl
theorem a3z {chart gch:List Acc} {l:List Lnk} {i:Nat} (h:i<l.length) (hb:Gr.linkAt chart gch l i=false):Gr.mapping chart gch l=false:=by
 unfold Gr.mapping;rw [Ch.all_not h hb,Bool.and_false]
section
variable (w:World)
theorem b1h (e:Ent) (A:Option Addr) (n c:Nat) (gch:List Acc) (hl:gch.length=n) (hn:n<=100000) (hgw:∀ a∈gch,a.wf) (he:e.At w w) (hg:AccsAt w w A gch) :
  CL 240 #[e,.slice A n c] w (Gr.mapping e.chart gch e.links):=by
 obtain⟨W1,hW1,hB0,hb0,hz⟩:=nw1 w e 102;have HW:=Z1 hW1;have he1:=he.at_ hB0;have hg1:=RowsAt.at_ hg hB0;have x2:=cr9 2 hb0;have x3:=cr9 3 hb0;simp at x2 x3;have s1:w.heap.size<W1.heap.size:=oM;obtain⟨Hb0,Hgw,Hcl,Hcn,Hcw,Hll⟩:=Z6 hb0 hgw he.hcl he.hcn he.hcw he.hll;have hln:=he.hln;have Hlw:=Z1 he.hlw;have hmm:=@run_makeMap prog;clear hW1 hz hb0 hgw;go_enter func240,ntmps240;go_upto_region 1 with(fail);rw [<- HW.out];go_wp2_with (fail);refine(a2F W1 A n c gch true hl hn Hgw.out hg1).mono ?_;rintro r W2 ⟨rfl,hB2⟩;have hB02:=hB0.trans (hB2.mono hB0.size);have hb2:=gbox Hb0.out hB2 s1;have he2:=he1.at_ hB2;clear x2 x3
 by_cases h1:Ch.valid true gch=true
 ·have x2:=cr9 2 hb2
  have x3:=cr9 3 hb2;simp at x2 x3;have s2:w.heap.size<W2.heap.size:=Vq hb2;have Hb2:=Z1 hb2;have H1:=Z1 h1;have hc2:=he2.hc;rw [h1];clear hb2 h1 he he1 hg;go_wp2_with (fail);refine(a2F W2 e.cA e.cn e.cc e.chart false Hcl.out Hcn.out Hcw.out hc2).mono ?_;rintro r W3 ⟨rfl,hB3⟩;have hB03:=hB02.trans (hB3.mono hB02.size);have hb3:=gbox Hb2.out hB3 s2;have he3:=he2.at_ hB3;have hg3:=RowsAt.at_ (RowsAt.at_ hg1 hB2) hB3;clear x2 x3 hc2 he2 hg1
  by_cases h2:Ch.valid false e.chart=true
  ·have x3:=cr9 3 hb3
   simp at x3;have s3:w.heap.size<W3.heap.size:=Vq hb3;have Hb3:=Z1 hb3;have H2:=Z1 h2;rw [h2];clear hb3 h2
   by_cases h4:400<e.ln
   ·have h4':(400:Int)<(e.ln:Int):=oM
    have HV:Hid (Gr.mapping e.chart gch e.links=false):=by show _=_;rw [Gr.mapping,decide_eq_false (by have:=Hll.out;omega)];simp
    clear h4;go_wp2;go_ret;exact⟨by rw [HV.out];rfl,hB03⟩
   ·have h4':¬ (400:Int)<(e.ln:Int):=oM
    have HV:Hid (Gr.mapping e.chart gch e.links=(List.range e.links.length).all (Gr.linkAt e.chart gch e.links)):=by
     show _=_;rw [Gr.mapping,H1.out,H2.out,decide_eq_true (by have:=Hll.out;omega)];rfl
    have hB04:=hB03.alloc hB03.size (.map #[] 0);have hb4:=(Below.heap_alloc W3 (.map #[] 0) _ s3).trans Hb3.out;have x34:=cr9 3 hb4;simp at x34;obtain⟨he4,Hg3,Hb4,hset0⟩:=Z4 he3 hg3 hb4 (SeenL.made W3 e.links);clear hb4 he3 hg3;go_wp2
    go_loopw [28] (fun i wr=>∃ k:Nat,k<=e.ln/\i=.int .i64 k/\(List.range k).all (Gr.linkAt e.chart gch e.links)=true/\SeenL wr W3 e.links k/\Below W3 W3 wr) (fun i _=>e.ln-(intOf i).toNat)
    case atStart=>exact⟨0,Nat.zero_le _,rfl,rfl,hset0.out,bR.alloc lR _⟩
    case round =>
     obtain⟨k,hk,rfl,hall,hseen,hbr⟩:=hrel;have Hall:=Z1 hall;have hlt3:=hseen.lt;have hq3:=hbr.size;have hbw:=hB03.trans (hbr.mono hB03.size);clear hall x3 x34 hmm
     by_cases hlt:k<e.ln
     ·have hkl:k<e.links.length:=by have:=Hll.out;omega
      obtain⟨b,o,hAe,hbB,c0,c1,c2⟩:=LnksAt.three (RowsAt.below he4.out.hl hbr lR) hkl;have hbwr:b<wr.heap.size:=oM;obtain⟨hBa,hra,hra2,hza⟩:=a1g wr (e.links[k]) #[.int .i64 e.links[k].frm,(),.int .i64 e.links[k].since] 150 150;have hbx:=gbox Hb3.out hbr s3;have hbx2:=gbox hbx hBa (Vq hbx);have hseen2:=(hseen.alloc (.cells (e.links[k]) 150)).alloc (.cells #[.int .i64 e.links[k].frm,(),.int .i64 e.links[k].since] 150);obtain⟨Wa,hWa⟩:∃ Wa,Wa=((wr.alloc (.cells (e.links[k]) 150)).alloc (.cells #[.int .i64 e.links[k].frm,(),.int .i64 e.links[k].since] 150)):=⟨_,rfl⟩;rw [<- hWa] at hBa hra hra2 hza hbx2 hseen2;have HWa:=Z1 hWa;have hw:=Hlw.out _ (List.getElem_mem hkl);have hlk:=hseen2.look _ _ hw.1 hw.2.2;have hbx3:=hbx;have x3:=cr9 3 hbx3;simp at x3;have sw:w.heap.size<wr.heap.size:=Vq hbx3;have hba:=hbr.trans (hBa.mono hq3);have Hlat:=Z1 (b3k hkl);have Hfr:=Z1 (b1D hkl);clear hbx hbx3 hWa hw;go_upto_region 8 with(fail);rw [<- HWa.out];have HAe:=Z1 hAe;clear hAe;have z0:=cr9 0 hra2;have z1:=cr9 1 hra2;have z2:=cr9 2 hra2;have y0:=cr9 0 hra;have y1:=cr9 1 hra;have y2:=cr9 2 hra;have w0:=cr9 0 hbx2;have w1:=cr9 1 hbx2;have w2:=cr9 2 hbx2;have w3:=cr9 3 hbx2;have w4:=cr9 4 hbx2;simp at z0 z1 z2 y0 y1 y2 w0 w1 w2 w3 w4;have t1:wr.heap.size<Wa.heap.size:=Vq hra;have t2:wr.heap.size+1<Wa.heap.size:=Vq hra2;have t3:w.heap.size<Wa.heap.size:=Vq hbx2;have Hra2:=Z1 hra2;have hbF:=hB03.trans (hba.mono hB03.size);clear hra hra2 hbx2 c0 c1 c2 x3 hseen
      by_cases hs:(e.links.take k).any (fun r=>decide (r.frm=e.links[k].frm)&&decide (r.since=e.links[k].since))=true
      ·rw [hs] at hlk
       have HV2:=Z1 (a3z (chart:=e.chart) (gch:=gch) hkl (by rw [Gr.linkAt,Hlat.out,Hfr.out,hs];simp));clear hs;go_wp2;go_ret;exact⟨by rw [HV2.out];rfl,hbF⟩
      ·have hs':(e.links.take k).any (fun r=>decide (r.frm=e.links[k].frm)&&decide (r.since=e.links[k].since))=false:=by simpa using hs
       rw [hs'] at hlk;have Hs:=Z1 hs';have heA:=(he4.out.below hba lR).more hba.size;have hgA:=(RowsAt.below Hg3.out hba lR).more hba.size;clear hs hs';go_wp2_with (fail);refine(a9y Wa e A n c gch e.links[k] hl hn heA hgA).mono ?_;rintro r W5 ⟨rfl,hB5⟩;have hba5:=hba.trans (hB5.mono hba.size);have hbF5:=hbF.trans (hB5.mono hbF.size);have hseen5:=hseen2.below hB5 hseen2.lt;have hr5:=gbox Hra2.out hB5 t2;clear z0 z1 z2 y0 y1 y2 w0 w1 w2 w3 w4 hlk heA hgA
       by_cases ho:Gr.linkOk e.chart gch e.links[k]=true
       ·rw [ho]
        have z0:=cr9 0 hr5;have z1:=cr9 1 hr5;have z2:=cr9 2 hr5;simp at z0 z1 z2;have t5:wr.heap.size+1<W5.heap.size:=Vq hr5;have Hall2:=Z1 (Gr.range_all Hall.out (show Gr.linkAt e.chart gch e.links k=true by rw [Gr.linkAt,Hlat.out,Hfr.out,Hs.out,ho];rfl));obtain⟨f,hm,hf⟩:=hseen5;obtain⟨kl,hkl5⟩:=linkKey e.links[k].frm 0 e.links[k].since (Hlw.out _ (List.getElem_mem hkl)).1 rfl (Hlw.out _ (List.getElem_mem hkl)).2.2;have Hstep:=Z1 (a7F hkl f hf);have hq5:=hba5.size;clear ho hr5 hf;go_wp2_with (at_mapUpdate;refine Xk rfl _ _ _ rfl hm linkLaw underlying349 rfl (by unfold maxLen;omega) _ _ _ rfl rfl hkl5 ?_;intro w7 hm7 hg7);have hb7:=hba5.grown hg7 hba5.size (fun j e=>by cases e;exact lR);go_roundw
        case rel=>exact⟨k+1,oM,by go_num,Hall2.out,⟨_,hm7,Hstep.out⟩,hb7⟩
        case measure=>simp [intOf];omega
       ·have ho':Gr.linkOk e.chart gch e.links[k]=false:=by simpa using ho
        rw [ho'];have HV2:=Z1 (a3z (chart:=e.chart) (gch:=gch) hkl (by rw [Gr.linkAt,Hlat.out,ho'];rfl));clear ho ho' hr5 hseen5;go_wp2;go_ret;exact⟨by rw [HV2.out];rfl,hbF5⟩
     ·obtain rfl:k=e.ln:=oM
      have HV2:Hid (Gr.mapping e.chart gch e.links=true):=by show _=_;rw [HV.out,Hll.out];exact Hall.out
      clear hseen;go_wp2;go_ret;exact⟨by rw [HV2.out];rfl,hbw⟩
  ·have h2':Ch.valid false e.chart=false:=by simpa using h2
   have HV:Hid (Gr.mapping e.chart gch e.links=false):=by show _=_;rw [Gr.mapping,h2'];simp
   rw [h2'];clear h2 h2' hb3 he3 hg3;go_wp2;go_ret;exact⟨by rw [HV.out];rfl,hB03⟩
 ·have h1':Ch.valid true gch=false:=by simpa using h1
  have HV:Hid (Gr.mapping e.chart gch e.links=false):=by show _=_;rw [Gr.mapping,h1'];simp
  rw [h1'];clear h1 h1' hb2 he2 he he1;go_wp2;go_ret;exact⟨by rw [HV.out];rfl,hB02⟩
end
open Go.Proofs.Tryz Go.RowKit

structure Grp.At (w:World) (B:Nat) (g:Grp):Prop where
 hcl:g.chart.length=g.cn
 hcn:g.cn<=100000
 hc:AccsAt w B g.cA g.chart
 hcw:∀ a∈g.chart,a.wf
 hel:g.ents.length=g.en
 hen:g.en<=100000
 he:RowsAt Ent.cells 5 w B g.eA g.ents
 hea:∀ e∈g.ents,e.At w B
 hn:g.cur.size<=maxLen
 hr:∀ r∈Gr.roles g,(Lit.int .i64 r.code).wf=true
theorem Grp.At.below {w w':World} {B C:Nat} {g:Grp} (h:g.At w B) (hb:Below C w w') (hC:B<=C):g.At w' B :=
 ⟨h.hcl,h.hcn,RowsAt.below h.hc hb hC,h.hcw,h.hel,h.hen,RowsAt.below h.he hb hC,fun e he=>(h.hea e he).below hb hC,h.hn,h.hr⟩
theorem Grp.At.more {w:World} {B C:Nat} {g:Grp} (h:g.At w B) (hC:B<=C):g.At w C :=
 ⟨h.hcl,h.hcn,RowsAt.more h.hc hC,h.hcw,h.hel,h.hen,RowsAt.more h.he hC,fun e he=>(h.hea e he).more hC,h.hn,h.hr⟩
theorem Grp.At.at_ {w w':World} {g:Grp} (h:g.At w w) (hb:Below w w w'):g.At w' w'.heap.size:=(h.below hb lR).more hb.size
theorem VJ:(prog.info? 29).map (·.size)=some 21:=kR
theorem a2q:(prog.info? 26).map (·.size)=some 15:=kR
theorem a1Q:(prog.info? 102).map (·.size)=some 5:=kR
def RolesPost (g:Grp) (w:World) (e:Ending) (w':World):Prop :=
 Below w w w'/\∃ b,e=.returned (.slice (some ⟨b,0,none⟩) 15 15)/\w.heap.size<=b/\RowsAt Role.cells 5 w' w' (some ⟨b,0,none⟩) (Gr.roles g)
theorem a1s {α:Type} (f:α->List Value) (sz:Nat):∀(l:List α),(∀ a∈l,(f a).length=sz)->∀(k:Nat) (hk:k<l.length) (j:Nat),j<sz->(l.flatMap f)[k*sz+j]?=(f l[k])[j]?
 | a::l,h,0,_,j,hj=>by
  rw [List.flatMap_cons,List.getElem?_append_left (by rw [h a (List.mem_cons_self)];omega)];simp
 | a::l,h,k+1,hk,j,hj=>by
  have ha:=h a (List.mem_cons_self);rw [List.flatMap_cons,List.getElem?_append_right (by rw [ha,Nat.add_mul];omega),ha];rw [show(k+1)*sz+j-sz=k*sz+j by rw [Nat.add_mul];omega];exact a1s f sz l (fun b hb=>h b (List.mem_cons_of_mem _ hb)) k (by simpa using hk) j hj
theorem a0z {α:Type} {f:α->List Value} {sz:Nat} {w:World} {B b:Nat} {l:List α} {t:TypeId} {fr:Nat × Nat} (hb:w.heap[b]?=some (.cells (l.flatMap f).toArray t fr)) (hB:b<B) (hl:∀ a∈l,(f a).length=sz):RowsAt f sz w B (some ⟨b,0,none⟩) l:=by
 refine .inr ⟨b,0,rfl,hB,fun k hk j v hj=>?_⟩;have hjl:j<sz:=by have:=(List.getElem?_eq_some_iff.1 hj).1;rw [hl _ (List.getElem_mem hk)] at this;exact this
 rw [Nat.zero_add,cr9 _ hb];have:=a1s f sz l hl k hk j hjl;rw [hj] at this;simpa using this
section
variable (w:World)
theorem a4k (g:Grp):Calls prog 238 #[.agg #[g.r0,g.r1,g.r2,g.r3,g.r4,g.r5,g.r6,g.r7,g.r8,g.r9,g.r10,g.r11,g.r12,g.r13,g.r14]] w (RolesPost g w):=by
 go_enter func238,ntmps238;go_wp2;go_ret
 exact⟨(bR.alloc lR _).alloc sP _,w.heap.size+1,rfl,oM,a0z (by
  have:=heap_alloc_new (w.alloc (.cells #[g.r0,g.r1,g.r2,g.r3,g.r4,g.r5,g.r6,g.r7,g.r8,g.r9,g.r10,g.r11,g.r12,g.r13,g.r14] 26)) (.cells ((Gr.roles g).flatMap Role.cells).toArray 310)
  rwa [show(w.alloc (.cells #[g.r0,g.r1,g.r2,g.r3,g.r4,g.r5,g.r6,g.r7,g.r8,g.r9,g.r10,g.r11,g.r12,g.r13,g.r14] 26)).heap.size=w.heap.size+1 by simp] at this) sP (by simp [Gr.roles,Role.cells])⟩
end
open Go.Proofs.Tryz Go.RowKit
theorem a0v (W:World) (cs:List Value) (t:TypeId):∀ j u,cs[j]?=some u->(W.alloc (.cells cs.toArray t)).cell? ((⟨W,0,none⟩:Addr).add j)=some u:=by
 intro j u hj;rw [Addr.add_mid,Nat.zero_add,cr9 _ (heap_alloc_new W _)];simpa using hj
theorem Xz {α:Type} {f:α->List Value} {sz:Nat} (hsz:0<sz) (hf:∀ a,(f a).length=sz) {W:World} {base n:Nat} {v:Value} {e:TypeId} {l:List α} (h:W.ownsRow base e sz v n (l.flatMap f)) (hn:n=l.length):∃ A c,v=.slice A n c/\RowsAt f sz W W A l:=by
 subst hn
 rcases h.2 with⟨e,h0⟩ | ⟨g,cap,cur,e,_,hg,hle,_,hs,htk⟩
 ·exact⟨none,0,by rw [e,h0],.inl (List.length_eq_zero_iff.1 h0)⟩
 ·refine⟨_,cap,e,.inr ⟨g,0,rfl,(Array.getElem?_eq_some_iff.1 hg).1,fun k hk j v hj=>?_⟩⟩
  have hjl:j<sz:=by have:=(List.getElem?_eq_some_iff.1 hj).1;rw [hf] at this;exact this
  rw [Nat.zero_add,cr9 _ hg]
  have hfl:(l.flatMap f)[k*sz+j]?=(f l[k])[j]?:=by
   clear hj htk hs hle hg e h
   induction l generalizing k with
   | nil=>simp at hk
   | cons a l ih =>
    match k,hk with
    | 0,_=>rw [List.flatMap_cons,List.getElem?_append_left (by rw [hf];omega)];simp
    | k+1,hk =>
     rw [List.flatMap_cons,List.getElem?_append_right (by rw [hf,Nat.add_mul];omega),hf,show(k+1)*sz+j-sz=k*sz+j by rw [Nat.add_mul];omega];exact ih k (by simpa using hk)
  rw [hj] at hfl
  have hlt:k*sz+j<l.length*sz:=by
   have:(k+1)*sz<=l.length*sz:=Nat.mul_le_mul_right _ oM;rw [Nat.add_mul] at this;omega
  have:(cur.toList.take (l.length*sz))[k*sz+j]?=some v:=by rw [htk];exact hfl
  rw [List.getElem?_take,if_pos hlt] at this;simpa using this
def Fresh (n:Nat) (A:Option Addr):Prop:=∀ ad,A=some ad->n<=ad.block
theorem a0S {W:World} {base n sz:Nat} {A:Option Addr} {m c:Nat} {e:TypeId} {xs:List Value} (h:W.ownsRow base e sz (.slice A m c) n xs):Fresh base A:=by
 intro ad hA;subst hA
 rcases h.2 with⟨h1,_⟩ | ⟨g,cap,cur,h1,hb,_⟩
 ·cases h1
 ·cases h1;exact hb
theorem RowsAt.other_row {α:Type} {f:α->List Value} {sz:Nat} {w:World} {A:Option Addr} {l:List α} (h:RowsAt f sz w w A l) {b n:Nat} (hf:Fresh n A) (hb:b<n) (cs:Array Value):RowsAt f sz (w.setRow b cs) (w.setRow b cs).heap.size A l:=by
 rcases h with h | ⟨b',o,e,hl,hc⟩
 ·exact .inl h
 ·have hne:b'≠b:=by have:=hf _ e;simp at this;omega
  exact .inr ⟨b',o,e,by simpa using hl,fun k hk j v hv=>(World.cell?_of_block (w:=w) (setRow_other w b b' cs hne)).trans (hc k hk j v hv)⟩
theorem Vj {a b:World} {base:Nat} {e:TypeId} {size n:Nat} {v:Value} {xs:List Value} (h:a.ownsRow base e size v n xs) (hb:Below a.heap.size a b):b.ownsRow base e size v n xs :=
 h.kept (row:=none) ⟨hb.os,hb.tape,hb.output,hb.size,fun i hi _=>hb.block i hi⟩ (by cases v.ownBlock <;> simp)

theorem a0x {α:Type} {f:α->List Value} {sz:Nat} (hf:∀ a,(f a).length=sz):∀(l:List α),(l.flatMap f).length=l.length*sz
 | []=>sP
 | a::l=>by rw [List.flatMap_cons,List.length_append,a0x hf l,hf,List.length_cons,Nat.add_mul];omega
theorem a0Q {α:Type} {f:α->List Value} {sz:Nat} (hsz:0<sz) (hf:∀ a,(f a).length=sz) {w:World} {B:Nat} {ad:Addr} {l:List α} (h:RowsAt f sz w B (some ad) l):∀ j u,(l.flatMap f)[j]?=some u->w.cell? (ad.add j)=some u:=by
 intro j u hj
 rcases h with h | ⟨b,o,e,hb,hr⟩
 ·subst h;simp at hj
 ·cases e
  have hjl:j<l.length*sz:=by have:=(List.getElem?_eq_some_iff.1 hj).1;rwa [a0x hf] at this
  have hk:j / sz<l.length:=Nat.div_lt_of_lt_mul (by rwa [Nat.mul_comm]);have hm:=Nat.mod_lt j hsz;have hd:j / sz*sz+j % sz=j:=Nat.div_add_mod' j sz;have e:=a1s f sz l (fun a _=>hf a) (j / sz) hk (j % sz) hm;rw [hd,hj] at e;have:=hr (j / sz) hk (j % sz) u e.symm;rw [Addr.add_mid];rw [show o+j / sz*sz+j % sz=o+j by omega] at this;exact this
def RowsTy {α:Type} (t:TypeId) (w:World) (A:Option Addr) (l:List α):Prop:=l=[]∨∃ b o cur fr,A=some ⟨b,o,none⟩/\w.heap[b]?=some (.cells cur t fr)
theorem RowsTy.below {α:Type} {t:TypeId} {w w':World} {A:Option Addr} {l:List α} (h:RowsTy t w A l) (hb:Below w w w'):RowsTy t w' A l:=by
 rcases h with h | ⟨b,o,cur,fr,e,hg⟩
 ·exact .inl h
 ·exact .inr ⟨b,o,cur,fr,e,(hb.block b (Vq hg)).trans hg⟩
theorem RowsTy.kept {α:Type} {f:α->List Value} {sz:Nat} {t:TypeId} {w w':World} {A:Option Addr} {l:List α} {v:Value} (h:RowsTy t w A l) (hi:RowsAt f sz w w A l) {base s n:Nat} {e':TypeId} {xs:List Value} (ho:w.ownsRow base e' s v n xs) (hne:e'≠t) (hg:w.grownBy w' v.ownBlock) :
  RowsTy t w' A l/\RowsAt f sz w' w' A l:=by
 rcases h with h | ⟨b,o,cur,fr,e,hb⟩
 ·exact⟨.inl h,.inl h⟩
 ·have hne:some b≠v.ownBlock:=fun q=>by
   rcases ho.2 with⟨rfl,_⟩ | ⟨g,cap,cur',rfl,_,hg',_⟩
   ·simp [Value.ownBlock] at q
   ·simp [Value.ownBlock] at q
    subst q;rw [hb] at hg'
    cases hg'
    exact hne rfl
  refine⟨.inr ⟨b,o,cur,fr,e,(hg.block b (Vq hb) hne).trans hb⟩,RowsAt.kept hi hg fun b' o' q=>?_⟩;rw [e] at q
  cases q
  exact hne
theorem a2P {α:Type} {f:α->List Value} {sz:Nat} {t:TypeId} {W:World} {base n:Nat} {A:Option Addr} {c:Nat} {l:List α} (h:W.ownsRow base t sz (.slice A n c) n (l.flatMap f)) (hn:n=l.length):RowsTy t W A l:=by
 subst hn
 rcases h.2 with⟨e,h0⟩ | ⟨g,cap,cur,e,_,hg,_⟩
 ·exact .inl (List.length_eq_zero_iff.1 h0)
 ·cases e;exact .inr ⟨g,0,cur,_,rfl,hg⟩
def ClonePost {α:Type} (f:α->List Value) (sz:Nat) (t:TypeId) (n:Nat) (l:List α) (w:World) (e:Ending) (w':World):Prop :=
 Below w w w'/\∃ A c,e=.returned (.slice A n c)/\w'.ownsRow w t sz (.slice A n c) n (l.flatMap f)
theorem ClonePost.nil {α:Type} {f:α->List Value} {sz:Nat} {t:TypeId} {w:World}:ClonePost f sz t 0 ([]:List α) w (.returned (.slice none 0 0)) w :=
 ⟨bR,none,0,rfl,sP,.inl ⟨rfl,rfl⟩⟩
section
variable (w:World)
theorem linInfo:(prog.info? 68).map (fun i=>(i.zero,i.size,i.bytes))=some (some (.agg #[(),(),()]),3,24):=kR
theorem b0c (A:Option Addr) (n c:Nat) (l:List Lin) (hl:l.length=n) (hn:n<=100000) (h:RowsAt Lin.cells 3 w w A l) :
  Calls prog 206 #[.slice A n c] w (ClonePost Lin.cells 3 68 n l w):=by
 have qn:=fun(w:World) (a:Option Addr) (n c n' c':Nat)=>Lib.run_eql_slice_nil (P:=prog) w _ _ a n c n' c' underlying69
 cases A with
 | none =>
  have h0:l=[]:=by rcases h with h | ⟨b,o,e,_⟩;exact h;cases e
  subst h0;obtain rfl:n=0:=by simpa using hl.symm
  clear hl h hn;go_enter func206,ntmps206;go_wp2;go_ret;exact ClonePost.nil
 | some ad =>
  obtain⟨i0,hi,hz0,hz1,hz2⟩:=info_parts linInfo;have Hnews:Hid (∀ j u,(l.flatMap Lin.cells)[j]?=some u->(w.alloc (.cells #[] 68)).cell? (ad.add j)=some u):=Z1 fun j u hj=>Lib.cell?_alloc_some _ (a0Q (f:=Lin.cells) (sz:=3) dC (fun _=>rfl) h j u hj);have Hlen:Hid ((l.flatMap Lin.cells).length=n*3):=by show _=_;rw [a0x (f:=Lin.cells) (sz:=3) (fun _=>rfl),hl]
  have Hone:Hid (∀ u∈l.flatMap Lin.cells,u.oneCell'=true):=Z1 fun u hu=>by
   rw [List.mem_flatMap] at hu;obtain⟨x,_,hx⟩:=hu;revert u;simp [Lin.cells,Value.oneCell']
  have h63:0+n<=maxLen:=by unfold maxLen;omega
  have h64:(0+n)*24<=140737488355328:=oM;have h65:w.heap.size<=(w.alloc (.cells #[] 68)).heap.size:=sP;have hmade:=World.ownsRow_made (e:=68) (size:=3) w #[] 0 lR (Nat.zero_le _) rfl;clear hl h;go_enter func206,ntmps206;go_wp2_with (at_builtin;refine Hid.out ?_);show wpList _ _ _ _ _ _;refine wpList_append_own _ rfl _ _ 69 rfl w.heap.size 68 i0 (.agg #[(),(),()]) 3 24 underlying69 hi hz0 hz1 hz2 rfl dC _ _ _ rfl hmade ad n c (l.flatMap Lin.cells) rfl Hlen.out Hnews.out Hone.out h63 h64 h65 ?_;intro v' w1 hown hgrow _;have hb:Below w w w1:=((Below.refl _ w).alloc lR _).grown hgrow sP (fun k hk=>(hmade.lt k hk).1);rw [Nat.zero_add,List.nil_append] at hown
  obtain⟨A',c',rfl⟩:∃ A' c',v'=.slice A' n c':=by
   rcases hown.2 with⟨e,h0⟩ | ⟨g,cap,cur,e,_⟩
   ·exact⟨none,0,by rw [e,h0]⟩
   ·exact⟨_,_,e⟩
  have Hown:=Z1 hown;have Hb:=Z1 hb;clear hown hb;go_wp2;go_ret;exact⟨Hb.out,A',c',rfl,Hown.out⟩
theorem accInfo:(prog.info? 87).map (fun i=>(i.zero,i.size,i.bytes))=some (some (.agg #[(),(),(),()]),4,32):=kR
theorem a2A (A:Option Addr) (n c:Nat) (l:List Acc) (hl:l.length=n) (hn:n<=100000) (h:RowsAt Acc.cells 4 w w A l) :
  Calls prog 198 #[.slice A n c] w (ClonePost Acc.cells 4 87 n l w):=by
 have qn:=fun(w:World) (a:Option Addr) (n c n' c':Nat)=>Lib.run_eql_slice_nil (P:=prog) w _ _ a n c n' c' underlying24
 cases A with
 | none =>
  have h0:l=[]:=by rcases h with h | ⟨b,o,e,_⟩;exact h;cases e
  subst h0;obtain rfl:n=0:=by simpa using hl.symm
  clear hl h hn;go_enter func198,ntmps198;go_wp2;go_ret;exact ClonePost.nil
 | some ad =>
  obtain⟨i0,hi,hz0,hz1,hz2⟩:=info_parts accInfo;have Hnews:Hid (∀ j u,(l.flatMap Acc.cells)[j]?=some u->(w.alloc (.cells #[] 87)).cell? (ad.add j)=some u):=Z1 fun j u hj=>Lib.cell?_alloc_some _ (a0Q (f:=Acc.cells) (sz:=4) dC (fun _=>rfl) h j u hj);have Hlen:Hid ((l.flatMap Acc.cells).length=n*4):=by show _=_;rw [a0x (f:=Acc.cells) (sz:=4) (fun _=>rfl),hl]
  have Hone:Hid (∀ u∈l.flatMap Acc.cells,u.oneCell'=true):=Z1 fun u hu=>by
   rw [List.mem_flatMap] at hu;obtain⟨x,_,hx⟩:=hu;revert u;simp [Acc.cells,Value.oneCell']
  have h63:0+n<=maxLen:=by unfold maxLen;omega
  have h64:(0+n)*32<=140737488355328:=oM;have h65:w.heap.size<=(w.alloc (.cells #[] 87)).heap.size:=sP;have hmade:=World.ownsRow_made (e:=87) (size:=4) w #[] 0 lR (Nat.zero_le _) rfl;clear hl h;go_enter func198,ntmps198;go_wp2_with (at_builtin;refine Hid.out ?_);show wpList _ _ _ _ _ _;refine wpList_append_own _ rfl _ _ 24 rfl w.heap.size 87 i0 (.agg #[(),(),(),()]) 4 32 underlying24 hi hz0 hz1 hz2 rfl dC _ _ _ rfl hmade ad n c (l.flatMap Acc.cells) rfl Hlen.out Hnews.out Hone.out h63 h64 h65 ?_;intro v' w1 hown hgrow _;have hb:Below w w w1:=((Below.refl _ w).alloc lR _).grown hgrow sP (fun k hk=>(hmade.lt k hk).1);rw [Nat.zero_add,List.nil_append] at hown
  obtain⟨A',c',rfl⟩:∃ A' c',v'=.slice A' n c':=by
   rcases hown.2 with⟨e,h0⟩ | ⟨g,cap,cur,e,_⟩
   ·exact⟨none,0,by rw [e,h0]⟩
   ·exact⟨_,_,e⟩
  have Hown:=Z1 hown;have Hb:=Z1 hb;clear hown hb;go_wp2;go_ret;exact⟨Hb.out,A',c',rfl,Hown.out⟩
theorem lnkInfo:(prog.info? 150).map (fun i=>(i.zero,i.size,i.bytes))=some (some (.agg #[(),(),()]),3,24):=kR
theorem a3T (A:Option Addr) (n c:Nat) (l:List Lnk) (hl:l.length=n) (hn:n<=100000) (h:RowsAt Lnk.cells 3 w w A l) :
  Calls prog 200 #[.slice A n c] w (ClonePost Lnk.cells 3 150 n l w):=by
 have qn:=fun(w:World) (a:Option Addr) (n c n' c':Nat)=>Lib.run_eql_slice_nil (P:=prog) w _ _ a n c n' c' underlying100
 cases A with
 | none =>
  have h0:l=[]:=by rcases h with h | ⟨b,o,e,_⟩;exact h;cases e
  subst h0;obtain rfl:n=0:=by simpa using hl.symm
  clear hl h hn;go_enter func200,ntmps200;go_wp2;go_ret;exact ClonePost.nil
 | some ad =>
  obtain⟨i0,hi,hz0,hz1,hz2⟩:=info_parts lnkInfo;have Hnews:Hid (∀ j u,(l.flatMap Lnk.cells)[j]?=some u->(w.alloc (.cells #[] 150)).cell? (ad.add j)=some u):=Z1 fun j u hj=>Lib.cell?_alloc_some _ (a0Q (f:=Lnk.cells) (sz:=3) dC (fun _=>rfl) h j u hj);have Hlen:Hid ((l.flatMap Lnk.cells).length=n*3):=by show _=_;rw [a0x (f:=Lnk.cells) (sz:=3) (fun _=>rfl),hl]
  have Hone:Hid (∀ u∈l.flatMap Lnk.cells,u.oneCell'=true):=Z1 fun u hu=>by
   rw [List.mem_flatMap] at hu;obtain⟨x,_,hx⟩:=hu;revert u;simp [Lnk.cells,Value.oneCell']
  have h63:0+n<=maxLen:=by unfold maxLen;omega
  have h64:(0+n)*24<=140737488355328:=oM;have h65:w.heap.size<=(w.alloc (.cells #[] 150)).heap.size:=sP;have hmade:=World.ownsRow_made (e:=150) (size:=3) w #[] 0 lR (Nat.zero_le _) rfl;clear hl h;go_enter func200,ntmps200;go_wp2_with (at_builtin;refine Hid.out ?_);show wpList _ _ _ _ _ _;refine wpList_append_own _ rfl _ _ 100 rfl w.heap.size 150 i0 (.agg #[(),(),()]) 3 24 underlying100 hi hz0 hz1 hz2 rfl dC _ _ _ rfl hmade ad n c (l.flatMap Lnk.cells) rfl Hlen.out Hnews.out Hone.out h63 h64 h65 ?_;intro v' w1 hown hgrow _;have hb:Below w w w1:=((Below.refl _ w).alloc lR _).grown hgrow sP (fun k hk=>(hmade.lt k hk).1);rw [Nat.zero_add,List.nil_append] at hown
  obtain⟨A',c',rfl⟩:∃ A' c',v'=.slice A' n c':=by
   rcases hown.2 with⟨e,h0⟩ | ⟨g,cap,cur,e,_⟩
   ·exact⟨none,0,by rw [e,h0]⟩
   ·exact⟨_,_,e⟩
  have Hown:=Z1 hown;have Hb:=Z1 hb;clear hown hb;go_wp2;go_ret;exact⟨Hb.out,A',c',rfl,Hown.out⟩
theorem entInfo:(prog.info? 102).map (fun i=>(i.zero,i.size,i.bytes))=some (some (.agg #[.string ByteArray.empty,.string ByteArray.empty,.slice none 0 0,.slice none 0 0,false]),5,88):=kR
theorem b0f (A:Option Addr) (n c:Nat) (l:List Ent) (hl:l.length=n) (hn:n<=100000) (h:RowsAt Ent.cells 5 w w A l) :
  Calls prog 199 #[.slice A n c] w (ClonePost Ent.cells 5 102 n l w):=by
 have qn:=fun(w:World) (a:Option Addr) (n c n' c':Nat)=>Lib.run_eql_slice_nil (P:=prog) w _ _ a n c n' c' underlying27
 cases A with
 | none =>
  have h0:l=[]:=by rcases h with h | ⟨b,o,e,_⟩;exact h;cases e
  subst h0;obtain rfl:n=0:=by simpa using hl.symm
  clear hl h hn;go_enter func199,ntmps199;go_wp2;go_ret;exact ClonePost.nil
 | some ad =>
  obtain⟨i0,hi,hz0,hz1,hz2⟩:=info_parts entInfo;have Hnews:Hid (∀ j u,(l.flatMap Ent.cells)[j]?=some u->(w.alloc (.cells #[] 102)).cell? (ad.add j)=some u):=Z1 fun j u hj=>Lib.cell?_alloc_some _ (a0Q (f:=Ent.cells) (sz:=5) dC (fun _=>rfl) h j u hj);have Hlen:Hid ((l.flatMap Ent.cells).length=n*5):=by show _=_;rw [a0x (f:=Ent.cells) (sz:=5) (fun _=>rfl),hl]
  have Hone:Hid (∀ u∈l.flatMap Ent.cells,u.oneCell'=true):=Z1 fun u hu=>by
   rw [List.mem_flatMap] at hu;obtain⟨x,_,hx⟩:=hu;revert u;simp [Ent.cells,Value.oneCell']
  have h63:0+n<=maxLen:=by unfold maxLen;omega
  have h64:(0+n)*88<=140737488355328:=oM;have h65:w.heap.size<=(w.alloc (.cells #[] 102)).heap.size:=sP;have hmade:=World.ownsRow_made (e:=102) (size:=5) w #[] 0 lR (Nat.zero_le _) rfl;clear hl h;go_enter func199,ntmps199;go_wp2_with (at_builtin;refine Hid.out ?_);show wpList _ _ _ _ _ _;refine wpList_append_own _ rfl _ _ 27 rfl w.heap.size 102 i0 (.agg #[.string ByteArray.empty,.string ByteArray.empty,.slice none 0 0,.slice none 0 0,false]) 5 88 underlying27 hi hz0 hz1 hz2 rfl dC _ _ _ rfl hmade ad n c (l.flatMap Ent.cells) rfl Hlen.out Hnews.out Hone.out h63 h64 h65 ?_;intro v' w1 hown hgrow _;have hb:Below w w w1:=((Below.refl _ w).alloc lR _).grown hgrow sP (fun k hk=>(hmade.lt k hk).1);rw [Nat.zero_add,List.nil_append] at hown
  obtain⟨A',c',rfl⟩:∃ A' c',v'=.slice A' n c':=by
   rcases hown.2 with⟨e,h0⟩ | ⟨g,cap,cur,e,_⟩
   ·exact⟨none,0,by rw [e,h0]⟩
   ·exact⟨_,_,e⟩
  have Hown:=Z1 hown;have Hb:=Z1 hb;clear hown hb;go_wp2;go_ret;exact⟨Hb.out,A',c',rfl,Hown.out⟩
end
open Go.Proofs.Tryz Go.RowKit
def KeepT (t:TypeId) (W W':World):Prop:=∀(b:Nat) (cs:Array Value) (fr:Nat × Nat),W.heap[b]?=some (Obj.cells cs t fr)->W'.heap[b]?=some (Obj.cells cs t fr)
theorem KeepT.refl (t:TypeId) (W:World):KeepT t W W:=fun _ _ _ h=>h
theorem KeepT.trans {t:TypeId} {A B C:World} (h:KeepT t A B) (k:KeepT t B C):KeepT t A C:=fun b cs fr e=>k b cs fr (h b cs fr e)
theorem KeepT.below {t:TypeId} {W W':World} (h:Below W W W'):KeepT t W W':=fun b _ _ e=>(h.block b (Vq e)).trans e
theorem KeepT.putObj {t:TypeId} (W:World) (l:Nat) (o o':Obj) (h:W.heap[l]?=some o) (hc:o.isCells=false):KeepT t W (W.putObj l o'):=fun b cs fr e =>
 (World.putObj_heap_other (fun q=>by rw [q,h] at e;cases e;cases hc)).trans e
theorem KeepT.setCell {t s:TypeId} {W:World} {p:Addr} {cs:Array Value} {fr:Nat × Nat} (h:W.heap[p.block]?=some (.cells cs s fr)) (hne:s≠t) (v:Value):KeepT t W (W.setCell p v):=fun b cs' fr' e =>
 (Below.heap_setCell _ _ _ _ (fun q=>by rw [q,h] at e;cases e;exact hne rfl)).trans e
theorem KeepT.setRow {t s:TypeId} {W:World} {b:Nat} {cs:Array Value} {fr:Nat × Nat} (h:W.heap[b]?=some (.cells cs s fr)) (hne:s≠t) (new:Array Value):KeepT t W (W.setRow b new):=fun b' cs' fr' e =>
 (setRow_other _ _ _ _ (fun q=>by rw [q,h] at e;cases e;exact hne rfl)).trans e
theorem RowsTy.keepT {α:Type} {f:α->List Value} {sz:Nat} {t:TypeId} {W W':World} {A:Option Addr} {l:List α} (h:RowsTy t W A l) (hr:RowsAt f sz W W A l) (hk:KeepT t W W') (hs:W.heap.size<=W'.heap.size):RowsTy t W' A l/\RowsAt f sz W' W' A l:=by
 rcases h with h | ⟨b,o,cur,fr,e,hg⟩
 ·exact⟨.inl h,.inl h⟩
 ·refine⟨.inr ⟨b,o,cur,fr,e,hk _ _ _ hg⟩,?_⟩
  rcases hr with h | ⟨b',o',e',hl,hc⟩
  ·exact .inl h
  ·rw [e] at e'
   cases e'
   exact .inr ⟨b,o,e,oM,fun k hk2 j v hv=>(World.cell?_of_block (w:=W) ((hk _ _ _ hg).trans hg.symm)).trans (hc k hk2 j v hv)⟩
def Elt (P:Program) (t e:TypeId) (sz:Nat):Prop :=
 ∃(i:TypeInfo) (z:Value) (bts:Nat),P.underlying t=some (.slice e)/\P.info? e=some i/\i.zero=some z/\i.size=sz/\i.bytes=bts/\z.cells.size=sz/\0<sz/\bts<=1000
theorem a7o {P:Program} {t e:TypeId} {sz bts:Nat} {z:Value} (hu:P.underlying t=some (.slice e)) (h:(P.info? e).map (fun i=>(i.zero,i.size,i.bytes))=some (some z,sz,bts)) (hz:z.cells.size=sz) (h0:0<sz) (hb:bts<=1000):Elt P t e sz:=by
 obtain⟨i0,hi,h1,h2,h3⟩:=info_parts h;exact⟨i0,z,bts,hu,hi,h1,h2,h3,hz,h0,hb⟩
theorem b2n {w:World} {base base' size n:Nat} {e:TypeId} {v:Value} {xs:List Value} (h:w.ownsRow base e size v n xs) (hb:base'<=base):w.ownsRow base' e size v n xs :=
 ⟨h.1,h.2.imp id (fun⟨g,cap,cur,a,b,c⟩=>⟨g,cap,cur,a,Nat.le_trans hb b,c⟩)⟩
theorem a2v {W w':World} {base n sz:Nat} {e t':TypeId} {v:Value} {xs:List Value} (hown:W.ownsRow base e sz v n xs) (hg:W.grownBy w' v.ownBlock) (hne:t'≠e):KeepT t' W w':=by
 intro b cs fr hb;refine(hg.block b (Vq hb) (fun q=>?_)).trans hb
 rcases hown.2 with⟨rfl,_⟩ | ⟨g,cap,cur',rfl,_,hg',_⟩
 ·simp [Value.ownBlock] at q
 ·simp [Value.ownBlock] at q
  subst q;rw [hb] at hg'
  cases hg'
  exact hne rfl
theorem a1j {P:Program} {ops:Array Oper} {rest:List Oper} {o:Oper} {a:Act} {Q:Exit->Act->World->Prop} {W:World} {base:Nat} {e t:TypeId} {sz n:Nat} {v:Value} {xs:List Value} (E:Elt P t e sz) (hown:W.ownsRow base e sz v n xs) (cs:List Value)
  {s x:Operand} (hgd:o.guard=none) (ho:o.op=.call { callee:=.builtin .append,args:=#[s,x],argTypes:=#[t,t] }) (hs:a.eval s=v) (hx:a.eval x=.slice (some ⟨W,0,none⟩) 1 1) (hl:cs.length=sz) (h1:cs.all (·.oneCell')=true) (hn:n<=100000) (hb:base<=W.heap.size)
  (h:∀ v' w',w'.ownsRow base e sz v' (n+1) (xs++cs)->Below base W w'->(∀ t',t'≠e->KeepT t' W w')->wpList P ops Q rest (a.put o.dst v') w'):wpList P ops Q (o::rest) a (W.alloc (.cells cs.toArray e)):=by
 obtain⟨i,z,bts,hu,hi,hz,hsz,hby,hzs,h0,hbt⟩:=E;have ha:=hown.alloc (.cells cs.toArray e);have hw:W.heap.size<=(W.alloc (.cells cs.toArray e)).heap.size:=sP;have hbt2:(n+1)*bts<=100001*1000:=Nat.mul_le_mul oM hbt;refine wpList_append_own _ hgd s x t ho base e i z sz bts hu hi hz hsz hby hzs h0 v n xs hs ha ⟨W,0,none⟩ 1 1 cs hx oM (a0v W cs e) (fun u hu=>by simpa using List.all_eq_true.1 h1 u hu) (by unfold maxLen;omega) oM oM ?_;intro v' w' ho' hg _;exact h v' w' ho' (((Below.refl _ W).alloc hb _).grown hg oM (fun k hk=>(ha.lt k hk).1)) (fun t' hne=>(KeepT.below (bR.alloc lR _)).trans (a2v ha hg hne))
theorem a4i {P:Program} {o:Oper} {a:Act} {K:Act->World->Prop} {Q:Exit->Act->World->Prop} {W:World} {base:Nat} {e t:TypeId} {sz n:Nat} {v:Value} {xs:List Value} (E:Elt P t e sz) (hown:W.ownsRow base e sz v n xs) (ad:Addr) (m c:Nat) (news:List Value)
  {s x:Operand} (ho:o.op=.call { callee:=.builtin .append,args:=#[s,x],argTypes:=#[t,t] }) (hs:a.eval s=v) (hx:a.eval x=.slice (some ad) m c) (hl:news.length=m*sz) (hnews:∀ j u,news[j]?=some u->W.cell? (ad.add j)=some u) (h1:news.all (·.oneCell')=true) (hn:n+m<=100000) (hb:base<=W.heap.size)
  (h:∀ v' w',w'.ownsRow base e sz v' (n+m) (xs++news)->Below base W w'->(∀ t',t'≠e->KeepT t' W w')->(∀ b,b<W.heap.size->some b≠v.ownBlock->w'.heap[b]?=W.heap[b]?)->K (a.put o.dst v') w'):o.wp P a W K Q:=by
 obtain⟨i,z,bts,hu,hi,hz,hsz,hby,hzs,h0,hbt⟩:=E;have hbt2:(n+m)*bts<=100000*1000:=Nat.mul_le_mul hn hbt;refine wp_append_own W s x t ho base e i z sz bts hu hi hz hsz hby hzs h0 v n xs hs hown ad m c news hx hl hnews (fun u hu=>by simpa using List.all_eq_true.1 h1 u hu) (by unfold maxLen;omega) oM hb ?_;intro v' w' ho' hg _;exact h v' w' ho' ((Below.refl _ W).grown hg hb (fun k hk=>(hown.lt k hk).1)) (fun t' hne=>a2v hown hg hne) hg.block
theorem a2m {F:Fence} {m:Nat} {P:Program} {ops:Array Oper} {rest:List Oper} {o:Oper} {a:Act} {Q:Exit->Act->World->Prop} {W:World} {base:Nat} {e t:TypeId} {sz n:Nat} {v:Value} {xs:List Value} (E:Elt P t e sz) (hown:W.ownsRow base e sz v n xs) (cs:List Value)
  {s x:Operand} (hgd:o.guard=none) (ho:o.op=.call { callee:=.builtin .append,args:=#[s,x],argTypes:=#[t,t] }) (hs:a.eval s=v) (hx:a.eval x=.slice (some ⟨W,0,none⟩) 1 1) (hl:cs.length=sz) (h1:cs.all (·.oneCell')=true) (hn:n<=100000) (hb:base<=W.heap.size)
  (h:∀ v' w',w'.ownsRow base e sz v' (n+1) (xs++cs)->(W.alloc (.cells cs.toArray e)).grownBy w' v.ownBlock->wpListIn F m P ops Q rest (a.put o.dst v') w'):wpListIn F m P ops Q (o::rest) a (W.alloc (.cells cs.toArray e)):=by
 obtain⟨i,z,bts,hu,hi,hz,hsz,hby,hzs,h0,hbt⟩:=E;have ha:=hown.alloc (.cells cs.toArray e);have hw:W.heap.size<=(W.alloc (.cells cs.toArray e)).heap.size:=sP;have hbt2:(n+1)*bts<=100001*1000:=Nat.mul_le_mul oM hbt;refine wpListIn_append_own _ hgd s x t ho base e i z sz bts hu hi hz hsz hby hzs h0 v n xs hs ha ⟨W,0,none⟩ 1 1 cs hx oM (a0v W cs e) (fun u hu=>by simpa using List.all_eq_true.1 h1 u hu) (by unfold maxLen;omega) oM oM ?_;intro v' w' ho' hg _;exact h v' w' ho' hg
theorem eltInt:Elt prog 128 3 1:=a7o underlying128 (show _=some (some (.int .i64 0),1,8) by kernel_rfl) rfl dC dC
theorem eltRat:Elt prog 184 43 4:=a7o underlying184 (show _=some (some (.agg ZR),4,64) by kernel_rfl) rfl dC dC
theorem eltRow:Elt prog 286 184 1:=a7o underlying286 (show _=some (some (.slice none 0 0),1,24) by kernel_rfl) rfl dC dC
theorem eltItv:Elt prog 119 115 3:=a7o underlying119 (show _=some (some (.agg #[(),(),()]),3,24) by kernel_rfl) rfl dC dC
open Go.RowKit
structure MRow where
 b:Nat
 l:List Rn
def rcells (l:List Rn):Array Value:=(l.flatMap Rn.cells).toArray
def hcells (n k wd:Nat) (R:Nat->MRow):Array Value:=((List.range n).map (fun i=>if i<k then Value.slice (some ⟨(R i).b,0,none⟩) wd wd else .slice none 0 0)).toArray
structure Mx (w:World) (lo g n k wd:Nat) (R:Nat->MRow) (K:Nat->Nat):Prop where
 hg:Row w g 184 (hcells n k wd R)
 hr:∀ i,i<k->Row w (R i).b 43 (rcells (R i).l)/\(R i).l.length=wd/\lo<=(R i).b
 inj:∀ i,i<k->∀ j,j<k->(R i).b=(R j).b->i=j
 hx:∀ i,i<k->∀ x∈(R i).l,x.At w w (K i)
theorem a2u {α:Type} (f:Nat->α) (n i:Nat) (v:α):((List.range n).map f).set i v=(List.range n).map (fun j=>if j=i then v else f j):=by
 apply List.ext_getElem?;intro j;rw [List.getElem?_set]
 by_cases hj:j<n
 ·by_cases h:i=j
  ·subst h;simp [hj]
  ·simp [h,hj,Ne.symm h]
 ·have:¬ i=j∨¬ i<n:=oM
  by_cases h:i=j
  ·subst h;simp [hj]
  ·simp [h,hj]
theorem b2A (l:List Rn):∀ k (x:Rn),k<l.length->((((l.flatMap Rn.cells).set (k*4) (.bool x.g1)).set (k*4+1) (.slice x.A1 x.n1 x.c1)).set (k*4+2) (.bool x.g2)).set (k*4+3) (.slice x.A2 x.n2 x.c2)=(l.set k x).flatMap Rn.cells:=by
 induction l with
 | nil=>intro k x h;simp at h
 | cons y t ih =>
  intro k x h
  match k with
  | 0=>simp [Rn.cells]
  | k+1 =>
   have:=ih k x (by simpa using h);rw [List.set_cons_succ,List.flatMap_cons,List.flatMap_cons,<- this,show(k+1)*4=k*4+4 by omega];simp [Rn.cells]
theorem a4S {w:World} {b:Nat} {t:TypeId} {l:List Rn} {k:Nat} (x:Rn) (h:Row w b t (rcells l)) (hk:k<l.length):Row (w.setCells b (k*4) x.cells) b t (rcells (l.set k x)):=by
 have h4:=Row.set (Row.set (Row.set (Row.set h (k*4) (.bool x.g1)) (k*4+1) (.slice x.A1 x.n1 x.c1)) (k*4+2) (.bool x.g2)) (k*4+3) (.slice x.A2 x.n2 x.c2)
 have e:(((((rcells l).setIfInBounds (k*4) (.bool x.g1)).setIfInBounds (k*4+1) (.slice x.A1 x.n1 x.c1)).setIfInBounds (k*4+2) (.bool x.g2)).setIfInBounds (k*4+3) (.slice x.A2 x.n2 x.c2))=rcells (l.set k x):=by
  unfold rcells;rw [<- b2A l k x hk];simp
 rw [e] at h4;exact h4
theorem a0K (b:Nat):∀(vs:List Value) (o:Nat) (w:World) (c:Nat),c≠b->(w.setCells b o vs).heap[c]?=w.heap[c]?
 | [],_,_,_,_=>rfl
 | v::vs,o,w,c,h=>by
  show((w.setCell ⟨b,o,none⟩ v).setCells b (o+1) vs).heap[c]?=_;rw [a0K b vs (o+1) _ c h,Below.heap_setCell _ _ _ _ (by show c≠b;exact h)]
theorem a0O (b:Nat):∀(vs:List Value) (o:Nat) (w:World),(w.setCells b o vs).heap.size=w.heap.size
 | [],_,_=>rfl
 | v::vs,o,w=>by
  show((w.setCell ⟨b,o,none⟩ v).setCells b (o+1) vs).heap.size=_;rw [a0O b vs (o+1)];simp [World.setCell]
theorem a0L (l:List Rn) (j:Nat) (n:Int):(rcells l)[j]?≠some (.int .u32 n):=by
 intro h;have hm:=Array.mem_of_getElem? h;unfold rcells at hm;rw [List.mem_toArray,List.mem_flatMap] at hm;obtain⟨x,_,hx⟩:=hm;simp [Rn.cells] at hx
theorem a1B (n k wd:Nat) (R:Nat->MRow) (j:Nat) (z:Int):(hcells n k wd R)[j]?≠some (.int .u32 z):=by
 intro h;have hm:=Array.mem_of_getElem? h;unfold hcells at hm;rw [List.mem_toArray,List.mem_map] at hm;obtain⟨x,_,hx⟩:=hm
 split at hx <;> cases hx
theorem Rn.At.other {w w':World} {B K b:Nat} {x:Rn} {cs:Array Value} {t:TypeId} {fr:Nat × Nat} (h:x.At w B K) (hb:w.heap[b]?=some (.cells cs t fr)) (hcs:∀(j:Nat) (n:Int),cs[j]?≠some (.int .u32 n)) (hw:∀ c,c≠b->w'.heap[c]?=w.heap[c]?):x.At w' B K:=by
 obtain⟨N,D,h⟩:=h;exact⟨N,D,h.other hb hcs hw⟩
theorem rowHdr:(184:Nat)≠43:=dC
section
variable {w:World} {lo g n k wd:Nat} {R:Nat->MRow} {K:Nat->Nat}
theorem Mx.ne (h:Mx w lo g n k wd R K) {i:Nat} (hi:i<k):(R i).b≠g:=by
 intro e;have h1:=(h.hr i hi).1;have h2:=h.hg;unfold Row at h1 h2;rw [e,h2] at h1;injection h1 with h1;injection h1 with _ h1;exact rowHdr h1
theorem Mx.below {w':World} (h:Mx w lo g n k wd R K) (hb:Below w w w'):Mx w' lo g n k wd R K :=
 ⟨(hb.block g (Vq h.hg)).trans h.hg,fun i hi=>⟨(hb.block _ (Vq (h.hr i hi).1)).trans (h.hr i hi).1,(h.hr i hi).2⟩,h.inj,fun i hi x hx=>((h.hx i hi x hx).below hb lR).more hb.size lR⟩
theorem Mx.wider {K':Nat->Nat} (h:Mx w lo g n k wd R K) (hK:∀ i,i<k->K i<=K' i):Mx w lo g n k wd R K':=⟨h.hg,h.hr,h.inj,fun i hi x hx=>(h.hx i hi x hx).more lR (hK i hi)⟩
theorem Mx.head (h:Mx w lo g n k wd R K) {i:Nat} (hi:i<k) (hn:i<n):w.cell? ⟨g,i,none⟩=some (.slice (some ⟨(R i).b,0,none⟩) wd wd):=by
 rw [cr9 i h.hg];unfold hcells;simp [hn,hi]
theorem Mx.get (h:Mx w lo g n k wd R K) {i j:Nat} (hi:i<k) (hj:j<wd):∃ x:Rn,(R i).l[j]?=some x/\w.rangeAt (R i).b (j*4) x.cells/\x.At w w (K i):=by
 obtain⟨h1,h2,_⟩:=h.hr i hi;have hl:j<(R i).l.length:=oM;refine⟨(R i).l[j],List.getElem?_eq_getElem hl,?_,h.hx i hi _ (List.getElem_mem hl)⟩;intro q v hv;have hq:q<4:=(List.getElem?_eq_some_iff.1 hv).1;rw [cell_of_row _ _ (j*4+q) _ _ _ h1];unfold rcells;have e:=a1s Rn.cells 4 (R i).l (fun _ _=>rfl) j hl q hq;rw [hv] at e;simpa using e
theorem Mx.there (h:Mx w lo g n k wd R K) {i j:Nat} (hi:i<k) (hj:j<wd):w.there (R i).b (j*4) 4:=by
 obtain⟨x,_,hr,_⟩:=h.get hi hj;intro q hq;exact⟨hr.isSome q hq,fr0 _ (h.hr i hi).1⟩
theorem Mx.change (h:Mx w lo g n k wd R K) {i:Nat} (hi:i<k) {w':World} {l:List Rn} {K':Nat->Nat} (hK:∀ q,q<k->K q<=K' q) (hrow:Row w' (R i).b 43 (rcells l)) (hl:l.length=wd) (hw:∀ c,c≠(R i).b->w'.heap[c]?=w.heap[c]?) (hsz:w'.heap.size=w.heap.size)
  (hx:∀ x∈l,x.At w' w' (K' i)):Mx w' lo g n k wd (fun q=>if q=i then ⟨(R i).b,l⟩ else R q) K'/\∀(y:Rn) (L:Nat),y.At w w L->y.At w' w' L:=by
 obtain⟨h1,h2,h3⟩:=h.hr i hi;have hbq:∀ q,(if q=i then (⟨(R i).b,l⟩:MRow) else R q).b=(R q).b:=fun q=>by by_cases e:q=i <;> simp [e]
 have hoth:∀(y:Rn) (L:Nat),y.At w w L->y.At w' w' L:=fun y L hy=>by rw [hsz];exact hy.other h1 (a0L _) hw
 refine⟨⟨?_,fun q hq=>?_,fun q hq p hp e=>h.inj q hq p hp (by rw [hbq,hbq] at e;exact e),fun q hq y hy=>?_⟩,hoth⟩
 ·have e:hcells n k wd (fun q=>if q=i then (⟨(R i).b,l⟩:MRow) else R q)=hcells n k wd R:=by unfold hcells;simp only [hbq]
  rw [e];exact(hw _ (fun q=>h.ne hi q.symm)).trans h.hg
 ·by_cases e:q=i
  ·subst e;simp only [if_pos rfl];exact⟨hrow,hl,h3⟩
  ·simp only [if_neg e];exact⟨(hw _ (fun r=>e (h.inj q hq i hi r))).trans (h.hr q hq).1,(h.hr q hq).2⟩
 ·by_cases e:q=i
  ·subst e;simp only [if_pos rfl] at hy;exact hx y hy
  ·simp only [if_neg e] at hy;exact hoth _ _ ((h.hx q hq y hy).more lR (hK q hq))
theorem Mx.put (h:Mx w lo g n k wd R K) {i j:Nat} (hi:i<k) (hj:j<wd) (x:Rn) {K':Nat->Nat} (hK:∀ q,q<k->K q<=K' q) (hx:x.At w w (K' i)) :
  Mx (w.setCells (R i).b (j*4) x.cells) lo g n k wd (fun q=>if q=i then ⟨(R i).b,(R i).l.set j x⟩ else R q) K'/\∀(y:Rn) (L:Nat),y.At w w L->y.At (w.setCells (R i).b (j*4) x.cells) (w.setCells (R i).b (j*4) x.cells).heap.size L:=by
 obtain⟨h1,h2,_⟩:=h.hr i hi;have hot:=fun c (hc:c≠(R i).b)=>a0K (R i).b x.cells (j*4) w c hc;refine h.change hi hK (a4S x h1 oM) (by simpa using h2) hot (a0O _ _ _ _) fun y hy=>?_;rw [a0O]
 rcases List.mem_or_eq_of_mem_set hy with hm | rfl
 ·exact((h.hx i hi y hm).more lR (hK i hi)).other h1 (a0L _) hot
 ·exact hx.other h1 (a0L _) hot
theorem Mx.other {w':World} {b:Nat} {cs:Array Value} {t:TypeId} {fr:Nat × Nat} (h:Mx w lo g n k wd R K) (hb:w.heap[b]?=some (.cells cs t fr)) (hcs:∀(j:Nat) (z:Int),cs[j]?≠some (.int .u32 z)) (hg:b≠g) (hr:∀ i,i<k->(R i).b≠b) (hw:∀ c,c≠b->w'.heap[c]?=w.heap[c]?) (hsz:w'.heap.size=w.heap.size):Mx w' lo g n k wd R K :=
 ⟨(hw g hg.symm).trans h.hg,fun i hi=>⟨(hw _ (hr i hi)).trans (h.hr i hi).1,(h.hr i hi).2⟩,h.inj,fun i hi x hx=>by rw [hsz];exact(h.hx i hi x hx).other hb hcs hw⟩
theorem Mx.swap {K0:Nat} (h:Mx w lo g n n wd R (fun _=>K0)) {i j:Nat} (hi:i<n) (hj:j<n) :
  Mx ((w.setCell ⟨g,i,none⟩ (.slice (some ⟨(R j).b,0,none⟩) wd wd)).setCell ⟨g,j,none⟩ (.slice (some ⟨(R i).b,0,none⟩) wd wd)) lo g n n wd (fun q=>if q=j then R i else if q=i then R j else R q) (fun _=>K0):=by
 have h4:=Row.set (Row.set h.hg i (.slice (some ⟨(R j).b,0,none⟩) wd wd)) j (.slice (some ⟨(R i).b,0,none⟩) wd wd);have hsz:((w.setCell ⟨g,i,none⟩ (.slice (some ⟨(R j).b,0,none⟩) wd wd)).setCell ⟨g,j,none⟩ (.slice (some ⟨(R i).b,0,none⟩) wd wd)).heap.size=w.heap.size:=by simp [World.setCell]
 have hot:∀ c,c≠g->((w.setCell ⟨g,i,none⟩ (.slice (some ⟨(R j).b,0,none⟩) wd wd)).setCell ⟨g,j,none⟩ (.slice (some ⟨(R i).b,0,none⟩) wd wd)).heap[c]?=w.heap[c]?:=fun c hc=>by
  rw [Below.heap_setCell _ _ _ _ (by show c≠g;exact hc),Below.heap_setCell _ _ _ _ (by show c≠g;exact hc)]
 have hσ:∀ q,(if q=j then R i else if q=i then R j else R q)=R (if q=j then i else if q=i then j else q):=fun q=>by split;rfl;split <;> rfl
 have hσn:∀ q,q<n->(if q=j then i else if q=i then j else q)<n:=fun q hq=>by split;exact hi;split <;> omega
 refine⟨?_,fun q hq=>?_,fun q hq p hp e=>?_,fun q hq y hy=>?_⟩
 ·have e:hcells n n wd (fun q=>if q=j then R i else if q=i then R j else R q)=((hcells n n wd R).setIfInBounds i (.slice (some ⟨(R j).b,0,none⟩) wd wd)).setIfInBounds j (.slice (some ⟨(R i).b,0,none⟩) wd wd):=by
   unfold hcells;simp only [List.setIfInBounds_toArray,a2u]
   congr 1
   apply List.map_congr_left;intro q hq;have hq':q<n:=by simpa using hq
   by_cases e1:q=j
   ·simp [e1,hj]
   ·by_cases e2:q=i
    ·subst e2;simp [e1,hi]
    ·simp [e1,e2,hq']
  rw [e];exact h4
 ·rw [hσ]
  exact⟨(hot _ (h.ne (hσn q hq))).trans (h.hr _ (hσn q hq)).1,(h.hr _ (hσn q hq)).2⟩
 ·rw [hσ,hσ] at e
  have:=h.inj _ (hσn q hq) _ (hσn p hp) e
  revert this
  split <;> split <;> (try split) <;> (try split) <;> omega
 ·rw [hσ] at hy
  rw [hsz];exact(h.hx _ (hσn q hq) y hy).other h.hg (a1B _ _ _ _) hot
end
theorem a4R {P:Program} (w:World) (dT sT ty elem:TypeId) (sz g o dLen dCap:Nat) (a:Addr) (sLen sCap:Nat) (cur:Array Value) (t:TypeId) (cs:List Value)
  (hu:P.underlying dT=some (.slice elem)) (hs:(P.info? elem).map (·.size)=some sz)
  (hg:w.heap[g]?=some (.cells cur t (0,0))) (hn:cs.length=Nat.min sLen dLen*sz)
  (hsrc:∀ j v,cs[j]?=some v->w.cell? (a.add j)=some v) (hfit:o+cs.length<=cur.size) (h1:∀ v∈cs,v.oneCell'=true) :
  (Builtin.copy_ #[dT,sT] ty #[.slice (some ⟨g,o,none⟩) dLen dCap,.slice (some a) sLen sCap]).run P w =
   .ok (goInt (Nat.min sLen dLen)) (w.setRow g (cur.toList.take o++cs++cur.toList.drop (o+cs.length)).toArray):=by
 have hl:=run_loadCells_list (P:=P) w a cs hsrc;have hst:=run_storeCells_at P g o t cs 0 cur w hg (by simpa using hfit) h1
 cases hq:P.info? elem with
 | none=>simp [hq] at hs
 | some i =>
  have hi:i.size=sz:=by simpa [hq] using hs
  simp [Builtin.copy_,run_underlying hu,Builtin.lenOf,Builtin.firstCells,sizeOf,typeInfo,hq,hi,<- hn,hl,hst]
theorem a2V {P:Program} {ops:Array Oper} {rest:List Oper} {o:Oper} {a:Act} {Q:Exit->Act->World->Prop} (w:World) (hgd:o.guard=none) (d s:Operand) (dT sT elem:TypeId) (ho:o.op=.call { callee:=.builtin .copy,args:=#[d,s],argTypes:=#[dT,sT] })
  (sz g m dc sc:Nat) (ad:Addr) (cur:Array Value) (t:TypeId) (cs:List Value) (hd:a.eval d=.slice (some ⟨g,0,none⟩) m dc) (hs:a.eval s=.slice (some ad) m sc) (hu:P.underlying dT=some (.slice elem)) (hsz:(P.info? elem).map (·.size)=some sz)
  (hg:w.heap[g]?=some (.cells cur t (0,0))) (hn:cs.length=m*sz) (hsrc:∀ j v,cs[j]?=some v->w.cell? (ad.add j)=some v) (hfit:cs.length<=cur.size) (h1:∀ v∈cs,v.oneCell'=true)
  (h:∀ v,wpList P ops Q rest (a.put o.dst v) (w.setRow g (cur.toList.take 0++cs++cur.toList.drop (0+cs.length)).toArray)):wpList P ops Q (o::rest) a w:=by
 refine wpList_plain hgd fun K hK=>?_;have hrun:=a4R (P:=P) w dT sT o.type elem sz g 0 m dc ad m sc cur t cs hu hsz hg (by rw [show Nat.min m m=m from Nat.min_self m];exact hn) hsrc oM h1;unfold Oper.wp;simp [execOp,ho,resolve,invoke,builtin,hd,hs,hrun,Result.andThen];exact hK _ _ (by simpa using h _)
theorem a3i {P:Program} {ops:Array Oper} {w:World} {Q:Act->Prop} {a:Act} {op:Oper} {rest:List Oper} (hw:Region.wanted op (yielded ops a.tmps)=true) (ty:TypeId) (x:Operand) (ho:op.op=.load ty x) (b o:Nat) (hx:a.eval x=.pointer (some ⟨b,o,none⟩)) (v:Value)
  (hl:(loadVar ty ⟨b,o,none⟩).run P w=.ok v w) (h:wpStill P ops w Q rest (a.put op.dst v)):wpStill P ops w Q (op::rest) a:=by
 refine wpStill_step (fun K hK=>?_);rw [if_pos hw];unfold Oper.still execOp;simp only [ho,hx,Instr.loadAt,Instr.sureAddr,Sem.run_bind,Sem.run_pure,Result.andThen_ok,hl,Oper.stillUpon];exact⟨trivial,hK _ h⟩
open Go.RowKit
theorem a8Q {W:World} {base n sz b:Nat} {v:Value} {e t:TypeId} {xs:List Value} {cs:Array Value} {fr:Nat × Nat} (h:W.ownsRow base e sz v n xs) (hb:v.ownBlock=some b) (hc:W.heap[b]?=some (.cells cs t fr)) (ht:e≠t):False:=by
 rcases h.2 with⟨rfl,_⟩ | ⟨g,cap,cur,rfl,_,hg,_⟩
 ·simp [Value.ownBlock] at hb
 ·simp [Value.ownBlock] at hb
  subst hb;rw [hg] at hc
  cases hc
  exact ht rfl
end Go.Proofs.YtniaimjknmhapaaGreatDoor
