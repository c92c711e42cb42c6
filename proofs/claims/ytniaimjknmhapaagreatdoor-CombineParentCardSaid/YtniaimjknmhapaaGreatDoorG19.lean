/- My texts LinkW, MapV, RoleW, FewW, OwnG, RowN. -/
import Derived.DeepKeys4
import Derived.Deep.LoopGhost
import Derived.Laws.OwnMore
import Derived.OwnWalk
import Derived.Test.YtniaimjknmhapaaGreatDoorG00
import Derived.Test.YtniaimjknmhapaaGreatDoorG09
import Derived.Test.YtniaimjknmhapaaGreatDoorG02
import Derived.Test.YtniaimjknmhapaaGreatDoorG14
import Derived.Test.YtniaimjknmhapaaGreatDoorG16
set_option linter.unusedVariables false
set_option linter.unusedSimpArgs false
set_option maxRecDepth 100000
set_option maxHeartbeats 16000000
namespace Go.Proofs.YtniaimjknmhapaaGreatDoor
open Go.Proofs.Tryz Go.RowKit

def Lnk.wf (x:Lnk):Prop:=(Lit.int .i64 x.frm).wf=true/\(Lit.int .i64 x.to).wf=true/\(Lit.int .i64 x.since).wf=true
abbrev LnksAt:=RowsAt Lnk.cells 3
structure Ent.At (w:World) (B:Nat) (e:Ent):Prop where
 hcl:e.chart.length=e.cn
 hcn:e.cn<=100000
 hc:AccsAt w B e.cA e.chart
 hcw:∀ a∈e.chart,a.wf
 hll:e.links.length=e.ln
 hln:e.ln<=100000
 hl:LnksAt w B e.lA e.links
 hlw:∀ x∈e.links,x.wf
 hn:e.name.size<=maxLen
 hu:e.cur.size<=maxLen
theorem Ent.At.below {w w':World} {B C:Nat} {e:Ent} (h:e.At w B) (hb:Below C w w') (hC:B<=C):e.At w' B :=
 ⟨h.hcl,h.hcn,RowsAt.below h.hc hb hC,h.hcw,h.hll,h.hln,RowsAt.below h.hl hb hC,h.hlw,h.hn,h.hu⟩
theorem Ent.At.more {w:World} {B C:Nat} {e:Ent} (h:e.At w B) (hC:B<=C):e.At w C :=
 ⟨h.hcl,h.hcn,RowsAt.more h.hc hC,h.hcw,h.hll,h.hln,RowsAt.more h.hl hC,h.hlw,h.hn,h.hu⟩
theorem Ent.At.at_ {w w':World} {e:Ent} (h:e.At w w.heap.size) (hb:Below w.heap.size w w'):e.At w' w'.heap.size:=(h.below hb (Nat.le_refl _)).more hb.size
theorem LnksAt.three {w:World} {B:Nat} {A:Option Addr} {l:List Lnk} (h:LnksAt w B A l) {k:Nat} (hk:k<l.length):∃ b o,A=some ⟨b,o,none⟩/\b<B/\w.cell? ⟨b,o+k*3,none⟩=some (.int .i64 l[k].frm)/\w.cell? ⟨b,o+k*3+1,none⟩=some (.int .i64 l[k].to)/\w.cell? ⟨b,o+k*3+2,none⟩=some (.int .i64 l[k].since):=by
 obtain⟨b,o,e,hb,hr⟩:=RowsAt.look h hk
 exact⟨b,o,e,hb,hr 0 _ rfl,hr 1 _ rfl,hr 2 _ rfl⟩
section
variable (w:World)
theorem linkd_any (e:Ent) (A:Option Addr) (n c:Nat) (gch:List Acc) (x:Lnk) (hl:gch.length=n) (hn:n<=100000) (he:e.At w w.heap.size) (hg:AccsAt w w.heap.size A gch) :
  Calls prog 281 #[.agg #[.string e.name,.string e.cur,.slice e.cA e.cn e.cc,.slice e.lA e.ln e.lc,.bool e.joint],.slice A n c,.agg #[.int .i64 x.frm,.int .i64 x.to,.int .i64 x.since]] w fun r w'=>r=.returned (.bool (Gr.linkOk e.chart gch x))/\Below w.heap.size w w':=by
 obtain⟨W1,hW1,hB0,hb0,hb1,hz⟩:=nw2 w #[.string e.name,.string e.cur,.slice e.cA e.cn e.cc,.slice e.lA e.ln e.lc,.bool e.joint] #[.int .i64 x.frm,.int .i64 x.to,.int .i64 x.since] 102 150
 have HW:=Z1 hW1
 have he1:=he.at_ hB0
 have hg1:=RowsAt.at_ hg hB0
 have hl1:=RowsAt.at_ he.hc hB0
 have x2:=cr9 2 hb0
 have y0:=cr9 0 hb1
 simp at x2 y0
 have s1:w.heap.size<W1.heap.size:=by omega
 have s1':w.heap.size+1<W1.heap.size:=by omega
 have Hb1:=Z1 hb1
 have Hcl:=Z1 he.hcl
 have Hcn:=Z1 he.hcn
 clear hW1 hz hb0 hb1 he he1 hg
 go_enter func281,ntmps281
 go_upto_region 1 with(fail)
 rw [<- HW.out]
 go_wp2_with (fail)
 refine(findd_any W1 e.cA e.cn e.cc e.chart x.frm Hcl.out Hcn.out hl1).mono ?_
 rintro r W2 ⟨rfl,hB2⟩
 have hb12:=gbox Hb1.out hB2 s1'
 obtain⟨q,hq⟩:∃ q,q=Ch.found e.chart x.frm:=⟨_,rfl⟩
 rw [<- hq]
 have Hq:=Z1 hq
 obtain⟨hBa,hra,hza⟩:=row_new W2 #[.int .i64 (q).code,.int .i64 (q).kind,.int .i64 (q).basis,.int .i64 (q).parent] 87
 have hb13:=gbox hb12 hBa (some_lt hb12)
 obtain⟨W3,hW3⟩:∃ W3,W3=(W2.alloc (.cells #[.int .i64 (q).code,.int .i64 (q).kind,.int .i64 (q).basis,.int .i64 (q).parent] 87)):=⟨_,rfl⟩
 rw [<- hW3] at hBa hra hza hb13
 have HW3:=Z1 hW3
 have hB02:=hB0.trans (hB2.mono hB0.size)
 have hB03:=hB02.trans (hBa.mono hB02.size)
 have hg3:=RowsAt.at_ (RowsAt.at_ hg1 hB2) hBa
 clear x2 y0 hW3 hq hb12
 have y1:=cr9 1 hb13
 simp at y1
 have s3:w.heap.size+1<W3.heap.size:=some_lt hb13
 have Hb13:=Z1 hb13
 have Hra:=Z1 hra
 clear hb13 hra
 go_upto_region 2 with(fail)
 rw [<- HW3.out]
 go_wp2_with (fail)
 refine(findd_any W3 A n c gch x.to hl hn hg3).mono ?_
 rintro r W4 ⟨rfl,hB4⟩
 obtain⟨p,hp⟩:∃ p,p=Ch.found gch x.to:=⟨_,rfl⟩
 rw [<- hp]
 have Hp:=Z1 hp
 have hb14:=gbox Hb13.out hB4 s3
 have hr4:=gbox Hra.out hB4 (some_lt Hra.out)
 have hB04:=hB03.trans (hB4.mono hB03.size)
 obtain⟨hBc,hrc,hzc⟩:=row_new W4 #[.int .i64 (p).code,.int .i64 (p).kind,.int .i64 (p).basis,.int .i64 (p).parent] 87
 have hb15:=gbox hb14 hBc (some_lt hb14)
 have hr5:=gbox hr4 hBc (some_lt hr4)
 obtain⟨W5,hW5⟩:∃ W5,W5=(W4.alloc (.cells #[.int .i64 (p).code,.int .i64 (p).kind,.int .i64 (p).basis,.int .i64 (p).parent] 87)):=⟨_,rfl⟩
 rw [<- hW5] at hBc hrc hzc hb15 hr5
 have HW5:=Z1 hW5
 have hBF:=hB04.trans (hBc.mono hB04.size)
 clear y1 hW5 hp hb14 hr4
 have y2:=cr9 2 hb15
 have q1:=cr9 1 hr5
 have p1:=cr9 1 hrc
 simp at y2 q1 p1
 have s5:w.heap.size+1<W5.heap.size:=some_lt hb15
 have s5':W2.heap.size<W5.heap.size:=some_lt hr5
 have s5'':W4.heap.size<W5.heap.size:=some_lt hrc
 clear hb15 hr5 hrc hg3 hg1 hl1
 go_upto_region 3 with(fail)
 rw [<- HW5.out]
 by_cases h1:Ch.has e.chart x.frm=true
 ·by_cases h2:Ch.has gch x.to=true
  ·by_cases h3:q.kind=p.kind
   ·have h3b:(q.kind==p.kind)=true:=by simp [h3]
    have HV:Hid (Gr.linkOk e.chart gch x=Gr.date x.since):=by show _=_;rw [Gr.linkOk,h1,h2,<- Hq.out,<- Hp.out,decide_eq_true h3];rfl
    rw [h1,h2]
    clear h1 h2 h3
    go_wp2_with (fail)
    refine(dvalid_any x.since W5).mono ?_
    rintro r W6 ⟨rfl,rfl⟩
    go_wp2
    go_ret
    exact⟨by rw [HV.out];unfold Gr.date;rw [Bool.decide_and];rfl,hBF⟩
   ·have h3b:(q.kind==p.kind)=false:=by simp [h3]
    have HV:Hid (Gr.linkOk e.chart gch x=false):=by show _=_;rw [Gr.linkOk,h1,h2,<- Hq.out,<- Hp.out,decide_eq_false h3];rfl
    rw [h1,h2]
    clear h1 h2 h3
    go_wp2
    go_ret
    exact⟨by rw [HV.out];rfl,hBF⟩
  ·have h2':Ch.has gch x.to=false:=by simpa using h2
   have HV:Hid (Gr.linkOk e.chart gch x=false):=by show _=_;rw [Gr.linkOk,h1,h2'];rfl
   rw [h1,h2']
   clear h1 h2 h2'
   go_wp2
   go_ret
   exact⟨by rw [HV.out];rfl,hBF⟩
 ·have h1':Ch.has e.chart x.frm=false:=by simpa using h1
  have HV:Hid (Gr.linkOk e.chart gch x=false):=by show _=_;rw [Gr.linkOk,h1'];rfl
  rw [h1']
  clear h1 h1'
  go_wp2
  go_ret
  exact⟨by rw [HV.out];rfl,hBF⟩
end
end Go.Proofs.YtniaimjknmhapaaGreatDoor
namespace Go.Proofs.YtniaimjknmhapaaGreatDoor
open Go.Proofs.Tryz Go.RowKit

theorem linkLaw:Maps.Keyed prog 150:=Maps.Keyed.of_law (deep_law_laid laidOut (m:=2) (by omega) (of_decide_eq_true (by kernel_rfl)) (by kernel_rfl) (by kernel_rfl))
theorem linkKey (a b c:Int) (ha:(Lit.int .i64 a).wf=true) (hb:(Lit.int .i64 b).wf=true) (hc:(Lit.int .i64 c).wf=true):∃ kl,keyOf prog 150 (.agg #[.int .i64 a,.int .i64 b,.int .i64 c])=some kl:=by
 unfold keyOf
 rw [underlying150]
 have h1:prog.keyType 150=true:=by kernel_rfl
 have c3:prog.cellsOf 150=3:=by kernel_rfl
 have h2:(Value.agg #[.int .i64 a,.int .i64 b,.int .i64 c]).formed prog 150=true:=by
  simp [Value.formed,underlying150,c3]
 simp only [h1,h2,Bool.and_self,if_true]
 have h3:∃ n,prog.types.size=n+1:=⟨prog.types.size-1,by have:0<prog.types.size:=of_decide_eq_true (by kernel_rfl);omega⟩
 obtain⟨n,hn⟩:=h3
 rw [hn]
 have c1:prog.cellsOf 3=1:=by kernel_rfl
 simp [Program.keyLits,underlying150,underlying3,Value.cells,c1,c3,ha,hb,hc]
def SeenL (w:World) (b:Nat) (l:List Lnk) (k:Nat):Prop :=
 ∃ f,MapAt w prog 150 b k f/\∀ x y,f (.agg #[.int .i64 x,.int .i64 0,.int .i64 y])=if (l.take k).any (fun r=>decide (r.frm=x)&&decide (r.since=y))=true then some (.bool true) else none
section
variable {w w':World} {b B:Nat} {l:List Lnk} {k:Nat}
theorem SeenL.lt (h:SeenL w b l k):b<w.heap.size:=by obtain⟨f,h,_⟩:=h;exact h.lt
theorem SeenL.below (h:SeenL w b l k) (hb:Below B w w') (hB:b<B):SeenL w' b l k:=by obtain⟨f,h,r⟩:=h;exact⟨f,h.below hb hB,r⟩
theorem SeenL.alloc (h:SeenL w b l k) (o:Obj):SeenL (w.alloc o) b l k:=by obtain⟨f,h,r⟩:=h;exact⟨f,h.alloc o,r⟩
theorem SeenL.made (w:World) (l:List Lnk):SeenL (w.alloc (.map #[] 0)) w.heap.size l 0:=⟨_,MapAt.made w _ _,fun x y=>by simp⟩
theorem SeenL.look (h:SeenL w b l k) (x y:Int) (hx:(Lit.int .i64 x).wf=true) (hy:(Lit.int .i64 y).wf=true) :
  (Instr.lookup 349 (.map (some b)) (.agg #[.int .i64 x,.int .i64 0,.int .i64 y]) false).run prog w=.ok (.bool ((l.take k).any (fun r=>decide (r.frm=x)&&decide (r.since=y)))) w:=by
 obtain⟨f,hm,hf⟩:=h
 obtain⟨kl,hk⟩:=linkKey x 0 y hx rfl hy
 have hz:(zeroValue 4).run prog w=.ok (.bool false) w:=by kernel_rfl
 rw [hm.lookup linkLaw underlying349 hz hk,hf]
 cases (l.take k).any (fun r=>decide (r.frm=x)&&decide (r.since=y)) <;> rfl
open Classical in
theorem seenL_step (hk:k<l.length) (f:Value->Option Value) (hf:∀ x y,f (.agg #[.int .i64 x,.int .i64 0,.int .i64 y])=if (l.take k).any (fun r=>decide (r.frm=x)&&decide (r.since=y))=true then some (.bool true) else none) :
  ∀ x y,(fun v=>if v=.agg #[.int .i64 l[k].frm,.int .i64 0,.int .i64 l[k].since] then some (Value.bool true) else f v) (.agg #[.int .i64 x,.int .i64 0,.int .i64 y])=if (l.take (k+1)).any (fun r=>decide (r.frm=x)&&decide (r.since=y))=true then some (.bool true) else none:=by
 intro x y
 show(if _ then _ else f _)=_
 rw [List.take_succ_eq_append_getElem hk,List.any_append]
 by_cases h:l[k].frm=x/\l[k].since=y
 ·obtain⟨h1,h2⟩:=h
  rw [if_pos (by rw [h1,h2]),if_pos (by simp [h1,h2])]
 ·rw [if_neg (by
   intro e
   simp only [Value.agg.injEq,Array.mk.injEq,List.cons.injEq,Value.int.injEq,true_and,and_true] at e
   exact h ⟨e.1.symm,e.2.symm⟩),hf]
  have h':(decide (l[k].frm=x)&&decide (l[k].since=y))=false:=by simpa using h
  simp [h']
end
theorem lat_lt {l:List Lnk} {i:Nat} (h:i<l.length):Gr.lat l i=l[i]:=by simp [Gr.lat,h]
theorem fresh_eq {l:List Lnk} {i:Nat} (h:i<l.length):Gr.fresh l i l[i]=!(l.take i).any (fun r=>decide (r.frm=l[i].frm)&&decide (r.since=l[i].since)):=rfl
theorem mapping_bad {chart gch:List Acc} {l:List Lnk} {i:Nat} (h:i<l.length) (hb:Gr.linkAt chart gch l i=false):Gr.mapping chart gch l=false:=by
 unfold Gr.mapping;rw [Ch.all_not h hb,Bool.and_false]
section
variable (w:World)
theorem mapd_any (e:Ent) (A:Option Addr) (n c:Nat) (gch:List Acc) (hl:gch.length=n) (hn:n<=100000) (hgw:∀ a∈gch,a.wf) (he:e.At w w.heap.size) (hg:AccsAt w w.heap.size A gch) :
  Calls prog 240 #[.agg #[.string e.name,.string e.cur,.slice e.cA e.cn e.cc,.slice e.lA e.ln e.lc,.bool e.joint],.slice A n c] w fun r w'=>r=.returned (.bool (Gr.mapping e.chart gch e.links))/\Below w.heap.size w w':=by
 obtain⟨W1,hW1,hB0,hb0,hz⟩:=nw1 w #[.string e.name,.string e.cur,.slice e.cA e.cn e.cc,.slice e.lA e.ln e.lc,.bool e.joint] 102
 have HW:=Z1 hW1
 have he1:=he.at_ hB0
 have hg1:=RowsAt.at_ hg hB0
 have x2:=cr9 2 hb0
 have x3:=cr9 3 hb0
 simp at x2 x3
 have s1:w.heap.size<W1.heap.size:=by omega
 have Hb0:=Z1 hb0
 have Hgw:=Z1 hgw
 have Hcl:=Z1 he.hcl
 have Hcn:=Z1 he.hcn
 have Hcw:=Z1 he.hcw
 have Hll:=Z1 he.hll
 have hln:=he.hln
 have Hlw:=Z1 he.hlw
 have hmm:=@run_makeMap prog
 clear hW1 hz hb0 hgw
 go_enter func240,ntmps240
 go_upto_region 1 with(fail)
 rw [<- HW.out]
 go_wp2_with (fail)
 refine(validd_any W1 A n c gch true hl hn Hgw.out hg1).mono ?_
 rintro r W2 ⟨rfl,hB2⟩
 have hB02:=hB0.trans (hB2.mono hB0.size)
 have hb2:=gbox Hb0.out hB2 s1
 have he2:=he1.at_ hB2
 clear x2 x3
 by_cases h1:Ch.valid true gch=true
 ·have x2:=cr9 2 hb2
  have x3:=cr9 3 hb2
  simp at x2 x3
  have s2:w.heap.size<W2.heap.size:=some_lt hb2
  have Hb2:=Z1 hb2
  have H1:=Z1 h1
  have hc2:=he2.hc
  rw [h1]
  clear hb2 h1 he he1 hg
  go_wp2_with (fail)
  refine(validd_any W2 e.cA e.cn e.cc e.chart false Hcl.out Hcn.out Hcw.out hc2).mono ?_
  rintro r W3 ⟨rfl,hB3⟩
  have hB03:=hB02.trans (hB3.mono hB02.size)
  have hb3:=gbox Hb2.out hB3 s2
  have he3:=he2.at_ hB3
  have hg3:=RowsAt.at_ (RowsAt.at_ hg1 hB2) hB3
  clear x2 x3 hc2 he2 hg1
  by_cases h2:Ch.valid false e.chart=true
  ·have x3:=cr9 3 hb3
   simp at x3
   have s3:w.heap.size<W3.heap.size:=some_lt hb3
   have Hb3:=Z1 hb3
   have H2:=Z1 h2
   rw [h2]
   clear hb3 h2
   by_cases h4:400<e.ln
   ·have h4':(400:Int)<(e.ln:Int):=by omega
    have HV:Hid (Gr.mapping e.chart gch e.links=false):=by show _=_;rw [Gr.mapping,decide_eq_false (by have:=Hll.out;omega)];simp
    clear h4
    go_wp2
    go_ret
    exact⟨by rw [HV.out];rfl,hB03⟩
   ·have h4':¬ (400:Int)<(e.ln:Int):=by omega
    have HV:Hid (Gr.mapping e.chart gch e.links=(List.range e.links.length).all (Gr.linkAt e.chart gch e.links)):=by
     show _=_;rw [Gr.mapping,H1.out,H2.out,decide_eq_true (by have:=Hll.out;omega)];rfl
    have hB04:=hB03.alloc hB03.size (.map #[] 0)
    have hb4:=(Below.heap_alloc W3 (.map #[] 0) _ s3).trans Hb3.out
    have x34:=cr9 3 hb4
    simp at x34
    have he4:=Z1 he3
    have Hg3:=Z1 hg3
    have Hb4:=Z1 hb4
    have hset0:=Z1 (SeenL.made W3 e.links)
    clear hb4 he3 hg3
    go_wp2
    go_loopw [28] (fun i wr=>∃ k:Nat,k<=e.ln/\i=.int .i64 k/\(List.range k).all (Gr.linkAt e.chart gch e.links)=true/\SeenL wr W3.heap.size e.links k/\Below W3.heap.size W3 wr) (fun i _=>e.ln-(intOf i).toNat)
    case atStart=>exact⟨0,Nat.zero_le _,rfl,rfl,hset0.out,(Below.refl _ _).alloc (Nat.le_refl _) _⟩
    case round =>
     obtain⟨k,hk,rfl,hall,hseen,hbr⟩:=hrel
     have Hall:=Z1 hall
     have hlt3:=hseen.lt
     have hq3:=hbr.size
     have hbw:=hB03.trans (hbr.mono hB03.size)
     clear hall x3 x34 hmm
     by_cases hlt:k<e.ln
     ·have hkl:k<e.links.length:=by have:=Hll.out;omega
      obtain⟨b,o,hAe,hbB,c0,c1,c2⟩:=LnksAt.three (RowsAt.below he4.out.hl hbr (Nat.le_refl _)) hkl
      have hbwr:b<wr.heap.size:=by omega
      obtain⟨hBa,hra,hra2,hza⟩:=row_new2 wr #[.int .i64 (e.links[k]).frm,.int .i64 (e.links[k]).to,.int .i64 (e.links[k]).since] #[.int .i64 e.links[k].frm,.int .i64 0,.int .i64 e.links[k].since] 150 150
      have hbx:=gbox Hb3.out hbr s3
      have hbx2:=gbox hbx hBa (some_lt hbx)
      have hseen2:=(hseen.alloc (.cells #[.int .i64 (e.links[k]).frm,.int .i64 (e.links[k]).to,.int .i64 (e.links[k]).since] 150)).alloc (.cells #[.int .i64 e.links[k].frm,.int .i64 0,.int .i64 e.links[k].since] 150)
      obtain⟨Wa,hWa⟩:∃ Wa,Wa=((wr.alloc (.cells #[.int .i64 (e.links[k]).frm,.int .i64 (e.links[k]).to,.int .i64 (e.links[k]).since] 150)).alloc (.cells #[.int .i64 e.links[k].frm,.int .i64 0,.int .i64 e.links[k].since] 150)):=⟨_,rfl⟩
      rw [<- hWa] at hBa hra hra2 hza hbx2 hseen2
      have HWa:=Z1 hWa
      have hw:=Hlw.out _ (List.getElem_mem hkl)
      have hlk:=hseen2.look _ _ hw.1 hw.2.2
      have hbx3:=hbx
      have x3:=cr9 3 hbx3
      simp at x3
      have sw:w.heap.size<wr.heap.size:=some_lt hbx3
      have hba:=hbr.trans (hBa.mono hq3)
      have Hlat:=Z1 (lat_lt hkl)
      have Hfr:=Z1 (fresh_eq hkl)
      clear hbx hbx3 hWa hw
      go_upto_region 8 with(fail)
      rw [<- HWa.out]
      have HAe:=Z1 hAe
      clear hAe
      have z0:=cr9 0 hra2
      have z1:=cr9 1 hra2
      have z2:=cr9 2 hra2
      have y0:=cr9 0 hra
      have y1:=cr9 1 hra
      have y2:=cr9 2 hra
      have w0:=cr9 0 hbx2
      have w1:=cr9 1 hbx2
      have w2:=cr9 2 hbx2
      have w3:=cr9 3 hbx2
      have w4:=cr9 4 hbx2
      simp at z0 z1 z2 y0 y1 y2 w0 w1 w2 w3 w4
      have t1:wr.heap.size<Wa.heap.size:=some_lt hra
      have t2:wr.heap.size+1<Wa.heap.size:=some_lt hra2
      have t3:w.heap.size<Wa.heap.size:=some_lt hbx2
      have Hra2:=Z1 hra2
      have hbF:=hB03.trans (hba.mono hB03.size)
      clear hra hra2 hbx2 c0 c1 c2 x3 hseen
      by_cases hs:(e.links.take k).any (fun r=>decide (r.frm=e.links[k].frm)&&decide (r.since=e.links[k].since))=true
      ·rw [hs] at hlk
       have HV2:=Z1 (mapping_bad (chart:=e.chart) (gch:=gch) hkl (by rw [Gr.linkAt,Hlat.out,Hfr.out,hs];simp))
       clear hs
       go_wp2
       go_ret
       exact⟨by rw [HV2.out];rfl,hbF⟩
      ·have hs':(e.links.take k).any (fun r=>decide (r.frm=e.links[k].frm)&&decide (r.since=e.links[k].since))=false:=by simpa using hs
       rw [hs'] at hlk
       have Hs:=Z1 hs'
       have heA:=(he4.out.below hba (Nat.le_refl _)).more hba.size
       have hgA:=(RowsAt.below Hg3.out hba (Nat.le_refl _)).more hba.size
       clear hs hs'
       go_wp2_with (fail)
       refine(linkd_any Wa e A n c gch e.links[k] hl hn heA hgA).mono ?_
       rintro r W5 ⟨rfl,hB5⟩
       have hba5:=hba.trans (hB5.mono hba.size)
       have hbF5:=hbF.trans (hB5.mono hbF.size)
       have hseen5:=hseen2.below hB5 hseen2.lt
       have hr5:=gbox Hra2.out hB5 t2
       clear z0 z1 z2 y0 y1 y2 w0 w1 w2 w3 w4 hlk heA hgA
       by_cases ho:Gr.linkOk e.chart gch e.links[k]=true
       ·rw [ho]
        have z0:=cr9 0 hr5
        have z1:=cr9 1 hr5
        have z2:=cr9 2 hr5
        simp at z0 z1 z2
        have t5:wr.heap.size+1<W5.heap.size:=some_lt hr5
        have Hall2:=Z1 (Gr.range_all Hall.out (show Gr.linkAt e.chart gch e.links k=true by rw [Gr.linkAt,Hlat.out,Hfr.out,Hs.out,ho];rfl))
        obtain⟨f,hm,hf⟩:=hseen5
        obtain⟨kl,hkl5⟩:=linkKey e.links[k].frm 0 e.links[k].since (Hlw.out _ (List.getElem_mem hkl)).1 rfl (Hlw.out _ (List.getElem_mem hkl)).2.2
        have Hstep:=Z1 (seenL_step hkl f hf)
        have hq5:=hba5.size
        clear ho hr5 hf
        go_wp2_with (at_mapUpdate;refine wpList_mapUpdate_at rfl _ _ _ rfl hm linkLaw underlying349 rfl (by unfold maxLen;omega) _ _ _ rfl rfl hkl5 ?_;intro w7 hm7 hg7)
        have hb7:=hba5.grown hg7 hba5.size (fun j e=>by cases e;exact Nat.le_refl _)
        go_roundw
        case rel=>exact⟨k+1,by omega,by go_num,Hall2.out,⟨_,hm7,Hstep.out⟩,hb7⟩
        case measure=>simp [intOf];omega
       ·have ho':Gr.linkOk e.chart gch e.links[k]=false:=by simpa using ho
        rw [ho']
        have HV2:=Z1 (mapping_bad (chart:=e.chart) (gch:=gch) hkl (by rw [Gr.linkAt,Hlat.out,ho'];rfl))
        clear ho ho' hr5 hseen5
        go_wp2
        go_ret
        exact⟨by rw [HV2.out];rfl,hbF5⟩
     ·obtain rfl:k=e.ln:=by omega
      have HV2:Hid (Gr.mapping e.chart gch e.links=true):=by show _=_;rw [HV.out,Hll.out];exact Hall.out
      clear hseen
      go_wp2
      go_ret
      exact⟨by rw [HV2.out];rfl,hbw⟩
  ·have h2':Ch.valid false e.chart=false:=by simpa using h2
   have HV:Hid (Gr.mapping e.chart gch e.links=false):=by show _=_;rw [Gr.mapping,h2'];simp
   rw [h2']
   clear h2 h2' hb3 he3 hg3
   go_wp2
   go_ret
   exact⟨by rw [HV.out];rfl,hB03⟩
 ·have h1':Ch.valid true gch=false:=by simpa using h1
  have HV:Hid (Gr.mapping e.chart gch e.links=false):=by show _=_;rw [Gr.mapping,h1'];simp
  rw [h1']
  clear h1 h1' hb2 he2 he he1
  go_wp2
  go_ret
  exact⟨by rw [HV.out];rfl,hB02⟩
end
end Go.Proofs.YtniaimjknmhapaaGreatDoor
namespace Go.Proofs.YtniaimjknmhapaaGreatDoor
open Go.Proofs.Tryz Go.RowKit

structure Grp.At (w:World) (B:Nat) (g:Grp):Prop where
 hcl:g.chart.length=g.cn
 hcn:g.cn<=100000
 hc:AccsAt w B g.cA g.chart
 hcw:∀ a∈g.chart,a.wf
 hel:g.ents.length=g.en
 hen:g.en<=100000
 he:RowsAt Ent.cells 5 w B g.eA g.ents
 hea:∀ e∈g.ents,e.At w B
 hn:g.cur.size<=maxLen
 hr:∀ r∈Gr.roles g,(Lit.int .i64 r.code).wf=true
theorem Grp.At.below {w w':World} {B C:Nat} {g:Grp} (h:g.At w B) (hb:Below C w w') (hC:B<=C):g.At w' B :=
 ⟨h.hcl,h.hcn,RowsAt.below h.hc hb hC,h.hcw,h.hel,h.hen,RowsAt.below h.he hb hC,fun e he=>(h.hea e he).below hb hC,h.hn,h.hr⟩
theorem Grp.At.more {w:World} {B C:Nat} {g:Grp} (h:g.At w B) (hC:B<=C):g.At w C :=
 ⟨h.hcl,h.hcn,RowsAt.more h.hc hC,h.hcw,h.hel,h.hen,RowsAt.more h.he hC,fun e he=>(h.hea e he).more hC,h.hn,h.hr⟩
theorem Grp.At.at_ {w w':World} {g:Grp} (h:g.At w w.heap.size) (hb:Below w.heap.size w w'):g.At w' w'.heap.size:=(h.below hb (Nat.le_refl _)).more hb.size
theorem grpSize:(prog.info? 29).map (·.size)=some 21:=by kernel_rfl
theorem rolesSize:(prog.info? 26).map (·.size)=some 15:=by kernel_rfl
theorem entSize:(prog.info? 102).map (·.size)=some 5:=by kernel_rfl
def RolesPost (g:Grp) (w:World) (e:Ending) (w':World):Prop :=
 Below w.heap.size w w'/\∃ b,e=.returned (.slice (some ⟨b,0,none⟩) 15 15)/\w.heap.size<=b/\RowsAt Role.cells 5 w' w'.heap.size (some ⟨b,0,none⟩) (Gr.roles g)
theorem flat_get {α:Type} (f:α->List Value) (sz:Nat):∀(l:List α),(∀ a∈l,(f a).length=sz)->∀(k:Nat) (hk:k<l.length) (j:Nat),j<sz->(l.flatMap f)[k*sz+j]?=(f l[k])[j]?
 | a::l,h,0,_,j,hj=>by
  rw [List.flatMap_cons,List.getElem?_append_left (by rw [h a (List.mem_cons_self)];omega)]
  simp
 | a::l,h,k+1,hk,j,hj=>by
  have ha:=h a (List.mem_cons_self)
  rw [List.flatMap_cons,List.getElem?_append_right (by rw [ha,Nat.add_mul];omega),ha]
  rw [show(k+1)*sz+j-sz=k*sz+j by rw [Nat.add_mul];omega]
  exact flat_get f sz l (fun b hb=>h b (List.mem_cons_of_mem _ hb)) k (by simpa using hk) j hj
theorem rows_flat {α:Type} {f:α->List Value} {sz:Nat} {w:World} {B b:Nat} {l:List α} {t:TypeId} {fr:Nat × Nat} (hb:w.heap[b]?=some (.cells (l.flatMap f).toArray t fr)) (hB:b<B) (hl:∀ a∈l,(f a).length=sz):RowsAt f sz w B (some ⟨b,0,none⟩) l:=by
 refine .inr ⟨b,0,rfl,hB,fun k hk j v hj=>?_⟩
 have hjl:j<sz:=by have:=(List.getElem?_eq_some_iff.1 hj).1;rw [hl _ (List.getElem_mem hk)] at this;exact this
 rw [Nat.zero_add,cr9 _ hb]
 have:=flat_get f sz l hl k hk j hjl
 rw [hj] at this
 simpa using this
section
variable (w:World)
theorem rolesd_any (g:Grp):Calls prog 238 #[.agg #[.int .i64 g.r0,.int .i64 g.r1,.int .i64 g.r2,.int .i64 g.r3,.int .i64 g.r4,.int .i64 g.r5,.int .i64 g.r6,.int .i64 g.r7,.int .i64 g.r8,.int .i64 g.r9,.int .i64 g.r10,.int .i64 g.r11,.int .i64 g.r12,.int .i64 g.r13,.int .i64 g.r14]] w (RolesPost g w):=by
 go_enter func238,ntmps238
 go_wp2
 go_ret
 exact⟨((Below.refl _ _).alloc (Nat.le_refl _) _).alloc (by simp) _,w.heap.size+1,rfl,by omega,rows_flat (by
  have:=heap_alloc_new (w.alloc (.cells #[.int .i64 g.r0,.int .i64 g.r1,.int .i64 g.r2,.int .i64 g.r3,.int .i64 g.r4,.int .i64 g.r5,.int .i64 g.r6,.int .i64 g.r7,.int .i64 g.r8,.int .i64 g.r9,.int .i64 g.r10,.int .i64 g.r11,.int .i64 g.r12,.int .i64 g.r13,.int .i64 g.r14] 26)) (.cells ((Gr.roles g).flatMap Role.cells).toArray 310)
  rwa [show(w.alloc (.cells #[.int .i64 g.r0,.int .i64 g.r1,.int .i64 g.r2,.int .i64 g.r3,.int .i64 g.r4,.int .i64 g.r5,.int .i64 g.r6,.int .i64 g.r7,.int .i64 g.r8,.int .i64 g.r9,.int .i64 g.r10,.int .i64 g.r11,.int .i64 g.r12,.int .i64 g.r13,.int .i64 g.r14] 26)).heap.size=w.heap.size+1 by simp] at this) (by simp) (by simp [Gr.roles,Role.cells])⟩
theorem rolesr_any (g:Grp):Calls prog 267 #[.agg #[.int .i64 g.r0,.int .i64 g.r1,.int .i64 g.r2,.int .i64 g.r3,.int .i64 g.r4,.int .i64 g.r5,.int .i64 g.r6,.int .i64 g.r7,.int .i64 g.r8,.int .i64 g.r9,.int .i64 g.r10,.int .i64 g.r11,.int .i64 g.r12,.int .i64 g.r13,.int .i64 g.r14]] w (RolesPost g w):=by
 go_enter func267,ntmps267
 go_wp2
 go_ret
 exact⟨((Below.refl _ _).alloc (Nat.le_refl _) _).alloc (by simp) _,w.heap.size+1,rfl,by omega,rows_flat (by
  have:=heap_alloc_new (w.alloc (.cells #[.int .i64 g.r0,.int .i64 g.r1,.int .i64 g.r2,.int .i64 g.r3,.int .i64 g.r4,.int .i64 g.r5,.int .i64 g.r6,.int .i64 g.r7,.int .i64 g.r8,.int .i64 g.r9,.int .i64 g.r10,.int .i64 g.r11,.int .i64 g.r12,.int .i64 g.r13,.int .i64 g.r14] 26)) (.cells ((Gr.roles g).flatMap Role.cells).toArray 342)
  rwa [show(w.alloc (.cells #[.int .i64 g.r0,.int .i64 g.r1,.int .i64 g.r2,.int .i64 g.r3,.int .i64 g.r4,.int .i64 g.r5,.int .i64 g.r6,.int .i64 g.r7,.int .i64 g.r8,.int .i64 g.r9,.int .i64 g.r10,.int .i64 g.r11,.int .i64 g.r12,.int .i64 g.r13,.int .i64 g.r14] 26)).heap.size=w.heap.size+1 by simp] at this) (by simp) (by simp [Gr.roles,Role.cells])⟩
end
end Go.Proofs.YtniaimjknmhapaaGreatDoor
namespace Go.Proofs.YtniaimjknmhapaaGreatDoor
open Go.Proofs.Tryz Go.RowKit
structure Ent.Out (w:World) (B:Nat) (e:Ent):Prop where
 hcl:e.chart.length=e.cn
 hcn:e.cn<=maxLen
 hc:AccsAt w B e.cA e.chart
 hcw:∀ a∈e.chart,a.wf
 hll:e.links.length=e.ln
 hln:e.ln<=maxLen
 hl:LnksAt w B e.lA e.links
 hlw:∀ x∈e.links,x.wf
 hn:e.name.size<=maxLen
 hu:e.cur.size<=maxLen
structure Grp.Out (w:World) (B:Nat) (g:Grp):Prop where
 hcl:g.chart.length=g.cn
 hcn:g.cn<=maxLen
 hc:AccsAt w B g.cA g.chart
 hcw:∀ a∈g.chart,a.wf
 hel:g.ents.length=g.en
 hen:g.en<=maxLen
 he:RowsAt Ent.cells 5 w B g.eA g.ents
 hea:∀ e∈g.ents,e.Out w B
 hn:g.cur.size<=maxLen
 hr:∀ r∈Gr.roles g,(Lit.int .i64 r.code).wf=true
theorem Ent.Out.below {w w':World} {B C:Nat} {e:Ent} (h:e.Out w B) (hb:Below C w w') (hC:B<=C):e.Out w' B :=
 ⟨h.hcl,h.hcn,RowsAt.below h.hc hb hC,h.hcw,h.hll,h.hln,RowsAt.below h.hl hb hC,h.hlw,h.hn,h.hu⟩
theorem Ent.Out.more {w:World} {B C:Nat} {e:Ent} (h:e.Out w B) (hC:B<=C):e.Out w C :=
 ⟨h.hcl,h.hcn,RowsAt.more h.hc hC,h.hcw,h.hll,h.hln,RowsAt.more h.hl hC,h.hlw,h.hn,h.hu⟩
theorem Grp.Out.below {w w':World} {B C:Nat} {g:Grp} (h:g.Out w B) (hb:Below C w w') (hC:B<=C):g.Out w' B :=
 ⟨h.hcl,h.hcn,RowsAt.below h.hc hb hC,h.hcw,h.hel,h.hen,RowsAt.below h.he hb hC,fun e he=>(h.hea e he).below hb hC,h.hn,h.hr⟩
theorem Grp.Out.more {w:World} {B C:Nat} {g:Grp} (h:g.Out w B) (hC:B<=C):g.Out w C :=
 ⟨h.hcl,h.hcn,RowsAt.more h.hc hC,h.hcw,h.hel,h.hen,RowsAt.more h.he hC,fun e he=>(h.hea e he).more hC,h.hn,h.hr⟩
theorem Grp.Out.at_ {w w':World} {g:Grp} (h:g.Out w w.heap.size) (hb:Below w.heap.size w w'):g.Out w' w'.heap.size:=(h.below hb (Nat.le_refl _)).more hb.size
def Gr.Short (g:Grp):Prop:=g.cn<=60/\g.en<=14/\∀ e∈g.ents,e.cn<=40/\e.ln<=60
theorem Grp.Out.at_short {w:World} {B:Nat} {g:Grp} (h:g.Out w B) (hs:Gr.Short g):g.At w B:=by
 obtain⟨h1,h2,h3⟩:=hs
 refine⟨h.hcl,by omega,h.hc,h.hcw,h.hel,by omega,h.he,fun e he=>?_,h.hn,h.hr⟩
 have o:=h.hea e he
 have:=h3 e he
 exact⟨o.hcl,by omega,o.hc,o.hcw,o.hll,by omega,o.hl,o.hlw,o.hn,o.hu⟩
def FewPost (g:Grp) (w:World) (e:Ending) (w':World):Prop:=(∃ b,e=.returned (.bool b)/\(b=true->Gr.Short g))/\Below w.heap.size w w'
section
variable (w:World)
theorem fewg_any (g:Grp) (hg:g.Out w w.heap.size) :
  Calls prog 86 #[.agg #[.string g.cur,.int .i64 g.Y,.int .i64 g.M,.int .i64 g.N,.slice g.cA g.cn g.cc,.int .i64 g.r0,.int .i64 g.r1,.int .i64 g.r2,.int .i64 g.r3,.int .i64 g.r4,.int .i64 g.r5,.int .i64 g.r6,.int .i64 g.r7,.int .i64 g.r8,.int .i64 g.r9,.int .i64 g.r10,.int .i64 g.r11,.int .i64 g.r12,.int .i64 g.r13,.int .i64 g.r14,.slice g.eA g.en g.ec]] w (FewPost g w):=by
 obtain⟨W1,hW1,hB0,hb0,hz⟩:=nw1 w #[.string g.cur,.int .i64 g.Y,.int .i64 g.M,.int .i64 g.N,.slice g.cA g.cn g.cc,.int .i64 g.r0,.int .i64 g.r1,.int .i64 g.r2,.int .i64 g.r3,.int .i64 g.r4,.int .i64 g.r5,.int .i64 g.r6,.int .i64 g.r7,.int .i64 g.r8,.int .i64 g.r9,.int .i64 g.r10,.int .i64 g.r11,.int .i64 g.r12,.int .i64 g.r13,.int .i64 g.r14,.slice g.eA g.en g.ec] 29
 have HW:=Z1 hW1
 have Hb0:=Z1 hb0
 have hg1:=Z1 (hg.at_ hB0)
 have s1:w.heap.size<W1.heap.size:=by omega
 have hel:=Z1 hg.hel
 have hen:=hg.hen
 have hcn:=hg.hcn
 have hnn:=hg.hn
 unfold maxLen at hen hcn hnn
 clear hW1 hz hb0 hg
 go_enter func86,ntmps86
 go_upto_region 1 with(fail)
 rw [<- HW.out]
 go_wp2
 go_loopw [3] (fun i wr=>∃ k:Nat,k<=g.en/\i=.int .i64 k/\(∀ e∈g.ents.take k,e.cn<=40/\e.ln<=60)/\Below W1.heap.size W1 wr) (fun i _=>g.en-(intOf i).toNat)
 case atStart=>exact⟨0,Nat.zero_le _,rfl,by simp,Below.refl _ _⟩
 case round =>
  obtain⟨k,hk,rfl,hall,hb⟩:=hrel
  have Hall:=Z1 hall
  have hbr:=gbox Hb0.out hb s1
  have x20:=cr9 20 hbr
  have x4:=cr9 4 hbr
  have x0:=cr9 0 hbr
  simp at x20 x4 x0
  have sr:w.heap.size<wr.heap.size:=some_lt hbr
  have hB0r:=hB0.trans (hb.mono hB0.size)
  clear hall hbr
  by_cases hlt:k<g.en
  ·have hkl:k<g.ents.length:=by have:=hel.out;omega
   have hgr:=Z1 (hg1.out.below hb (Nat.le_refl _))
   obtain⟨b,o,hAe,hbB,hr⟩:=RowsAt.look hgr.out.he hkl
   obtain⟨e,he⟩:∃ e,e=g.ents[k]:=⟨_,rfl⟩
   rw [<- he] at hr
   rw [hAe] at x20
   have Hr:=Z1 hr
   have heo:=hgr.out.hea e (by rw [he];exact List.getElem_mem _)
   have he1:=heo.hcn
   have he2:=heo.hln
   have he3:=heo.hn
   have he4:=heo.hu
   unfold maxLen at he1 he2 he3 he4
   have HE:=Z1 he
   have hbw:b<wr.heap.size:=by have:=hb.size;omega
   have hnx:e.cn<=40->e.ln<=60->Hid (∀ e∈g.ents.take (k+1),e.cn<=40/\e.ln<=60):=fun h1 h2 =>
    Z1 (take_mem_all (P:=fun e:Ent=>e.cn<=40/\e.ln<=60) hkl Hall.out (by rw [<- HE.out];exact⟨h1,h2⟩))
   clear hr hAe heo he
   by_cases h1:e.cn<=40
   case neg =>
    clear hnx
    go_wp2_with (refine wpList_load_mid rfl 102 (.tmp 15) rfl b (o+k*5) rfl [.string e.name,.string e.cur,.slice e.cA e.cn e.cc,.slice e.lA e.ln e.lc,.bool e.joint] _ Hr.out underlying102 rfl entSize ?_)
    go_ret
    exact⟨⟨_,rfl,fun h=>by cases h⟩,hB0r.alloc hB0r.size _⟩
   by_cases h2:e.ln<=60
   case neg =>
    clear hnx
    go_wp2_with (refine wpList_load_mid rfl 102 (.tmp 15) rfl b (o+k*5) rfl [.string e.name,.string e.cur,.slice e.cA e.cn e.cc,.slice e.lA e.ln e.lc,.bool e.joint] _ Hr.out underlying102 rfl entSize ?_)
    go_ret
    exact⟨⟨_,rfl,fun h=>by cases h⟩,hB0r.alloc hB0r.size _⟩
   have Hnx:=hnx h1 h2
   clear hnx
   by_cases h3:(60:Int)<wrap64 ((e.name.size:Int)+(e.cur.size:Int))
   ·go_wp2_with (refine wpList_load_mid rfl 102 (.tmp 15) rfl b (o+k*5) rfl [.string e.name,.string e.cur,.slice e.cA e.cn e.cc,.slice e.lA e.ln e.lc,.bool e.joint] _ Hr.out underlying102 rfl entSize ?_)
    go_ret
    exact⟨⟨_,rfl,fun h=>by cases h⟩,hB0r.alloc hB0r.size _⟩
   ·go_wp2_with (refine wpList_load_mid rfl 102 (.tmp 15) rfl b (o+k*5) rfl [.string e.name,.string e.cur,.slice e.cA e.cn e.cc,.slice e.lA e.ln e.lc,.bool e.joint] _ Hr.out underlying102 rfl entSize ?_)
    go_roundw
    case rel=>exact⟨k+1,by omega,by go_num,Hnx.out,hb.alloc hb.size _⟩
    case measure=>simp [intOf];omega
  ·obtain rfl:k=g.en:=by omega
   have htk:g.ents.take g.en=g.ents:=List.take_of_length_le (by have:=hel.out;omega)
   have Hal:Hid (∀ e∈g.ents,e.cn<=40/\e.ln<=60):=by show ∀ e∈_,_;have:=Hall.out;rw [htk] at this;exact this
   clear htk
   by_cases h1:g.cn<=60
   case neg =>
    go_wp2
    go_ret
    exact⟨⟨_,rfl,fun h=>by cases h⟩,hB0r⟩
   by_cases h2:g.en<=14
   case neg =>
    go_wp2
    go_ret
    exact⟨⟨_,rfl,fun h=>by cases h⟩,hB0r⟩
   go_wp2
   go_ret
   exact⟨⟨_,rfl,fun _=>⟨h1,h2,Hal.out⟩⟩,hB0r⟩
end
end Go.Proofs.YtniaimjknmhapaaGreatDoor
namespace Go.Proofs.YtniaimjknmhapaaGreatDoor
open Go.Proofs.Tryz Go.RowKit
theorem cells_new (W:World) (cs:List Value) (t:TypeId):∀ j u,cs[j]?=some u->(W.alloc (.cells cs.toArray t)).cell? ((⟨W.heap.size,0,none⟩:Addr).add j)=some u:=by
 intro j u hj
 rw [Addr.add_mid,Nat.zero_add,cr9 _ (heap_alloc_new W _)]
 simpa using hj
theorem own_flat {α:Type} {f:α->List Value} {sz:Nat} (hsz:0<sz) (hf:∀ a,(f a).length=sz) {W:World} {base n:Nat} {v:Value} {e:TypeId} {l:List α} (h:W.ownsRow base e sz v n (l.flatMap f)) (hn:n=l.length):∃ A c,v=.slice A n c/\RowsAt f sz W W.heap.size A l:=by
 subst hn
 rcases h.2 with⟨e,h0⟩ | ⟨g,cap,cur,e,_,hg,hle,_,hs,htk⟩
 ·exact⟨none,0,by rw [e,h0],.inl (List.length_eq_zero_iff.1 h0)⟩
 ·refine⟨_,cap,e,.inr ⟨g,0,rfl,(Array.getElem?_eq_some_iff.1 hg).1,fun k hk j v hj=>?_⟩⟩
  have hjl:j<sz:=by have:=(List.getElem?_eq_some_iff.1 hj).1;rw [hf] at this;exact this
  rw [Nat.zero_add,cr9 _ hg]
  have hfl:(l.flatMap f)[k*sz+j]?=(f l[k])[j]?:=by
   clear hj htk hs hle hg e h
   induction l generalizing k with
   | nil=>simp at hk
   | cons a l ih =>
    match k,hk with
    | 0,_=>rw [List.flatMap_cons,List.getElem?_append_left (by rw [hf];omega)];simp
    | k+1,hk =>
     rw [List.flatMap_cons,List.getElem?_append_right (by rw [hf,Nat.add_mul];omega),hf,show(k+1)*sz+j-sz=k*sz+j by rw [Nat.add_mul];omega]
     exact ih k (by simpa using hk)
  rw [hj] at hfl
  have hlt:k*sz+j<l.length*sz:=by
   have:(k+1)*sz<=l.length*sz:=Nat.mul_le_mul_right _ (by omega)
   rw [Nat.add_mul] at this;omega
  have:(cur.toList.take (l.length*sz))[k*sz+j]?=some v:=by rw [htk];exact hfl
  rw [List.getElem?_take,if_pos hlt] at this
  simpa using this
def Fresh (n:Nat) (A:Option Addr):Prop:=∀ ad,A=some ad->n<=ad.block
theorem own_fresh {W:World} {base n sz:Nat} {A:Option Addr} {m c:Nat} {e:TypeId} {xs:List Value} (h:W.ownsRow base e sz (.slice A m c) n xs):Fresh base A:=by
 intro ad hA
 subst hA
 rcases h.2 with⟨h1,_⟩ | ⟨g,cap,cur,h1,hb,_⟩
 ·cases h1
 ·cases h1;exact hb
theorem RowsAt.other_row {α:Type} {f:α->List Value} {sz:Nat} {w:World} {A:Option Addr} {l:List α} (h:RowsAt f sz w w.heap.size A l) {b n:Nat} (hf:Fresh n A) (hb:b<n) (cs:Array Value):RowsAt f sz (w.setRow b cs) (w.setRow b cs).heap.size A l:=by
 rcases h with h | ⟨b',o,e,hl,hc⟩
 ·exact .inl h
 ·have hne:b'≠b:=by have:=hf _ e;simp at this;omega
  exact .inr ⟨b',o,e,by simpa using hl,fun k hk j v hv=>(World.cell?_of_block (w:=w) (setRow_other w b b' cs hne)).trans (hc k hk j v hv)⟩
theorem pOwns_below {a b:World} {base:Nat} {e:TypeId} {size n:Nat} {v:Value} {xs:List Value} (h:a.ownsRow base e size v n xs) (hb:Below a.heap.size a b):b.ownsRow base e size v n xs :=
 h.kept (row:=none) ⟨hb.os,hb.tape,hb.output,hb.size,fun i hi _=>hb.block i hi⟩ (by cases v.ownBlock <;> simp)

theorem flat_len {α:Type} {f:α->List Value} {sz:Nat} (hf:∀ a,(f a).length=sz):∀(l:List α),(l.flatMap f).length=l.length*sz
 | []=>by simp
 | a::l=>by rw [List.flatMap_cons,List.length_append,flat_len hf l,hf,List.length_cons,Nat.add_mul];omega
theorem rows_news {α:Type} {f:α->List Value} {sz:Nat} (hsz:0<sz) (hf:∀ a,(f a).length=sz) {w:World} {B:Nat} {ad:Addr} {l:List α} (h:RowsAt f sz w B (some ad) l):∀ j u,(l.flatMap f)[j]?=some u->w.cell? (ad.add j)=some u:=by
 intro j u hj
 rcases h with h | ⟨b,o,e,hb,hr⟩
 ·subst h;simp at hj
 ·cases e
  have hjl:j<l.length*sz:=by have:=(List.getElem?_eq_some_iff.1 hj).1;rwa [flat_len hf] at this
  have hk:j / sz<l.length:=Nat.div_lt_of_lt_mul (by rwa [Nat.mul_comm])
  have hm:=Nat.mod_lt j hsz
  have hd:j / sz*sz+j % sz=j:=Nat.div_add_mod' j sz
  have e:=flat_get f sz l (fun a _=>hf a) (j / sz) hk (j % sz) hm
  rw [hd,hj] at e
  have:=hr (j / sz) hk (j % sz) u e.symm
  rw [Addr.add_mid]
  rw [show o+j / sz*sz+j % sz=o+j by omega] at this
  exact this
def RowsTy {α:Type} (t:TypeId) (w:World) (A:Option Addr) (l:List α):Prop:=l=[]∨∃ b o cur fr,A=some ⟨b,o,none⟩/\w.heap[b]?=some (.cells cur t fr)
theorem RowsTy.below {α:Type} {t:TypeId} {w w':World} {A:Option Addr} {l:List α} (h:RowsTy t w A l) (hb:Below w.heap.size w w'):RowsTy t w' A l:=by
 rcases h with h | ⟨b,o,cur,fr,e,hg⟩
 ·exact .inl h
 ·exact .inr ⟨b,o,cur,fr,e,(hb.block b (some_lt hg)).trans hg⟩
theorem RowsTy.kept {α:Type} {f:α->List Value} {sz:Nat} {t:TypeId} {w w':World} {A:Option Addr} {l:List α} {v:Value} (h:RowsTy t w A l) (hi:RowsAt f sz w w.heap.size A l) {base s n:Nat} {e':TypeId} {xs:List Value} (ho:w.ownsRow base e' s v n xs) (hne:e'≠t) (hg:w.grownBy w' v.ownBlock) :
  RowsTy t w' A l/\RowsAt f sz w' w'.heap.size A l:=by
 rcases h with h | ⟨b,o,cur,fr,e,hb⟩
 ·exact⟨.inl h,.inl h⟩
 ·have hne:some b≠v.ownBlock:=fun q=>by
   rcases ho.2 with⟨rfl,_⟩ | ⟨g,cap,cur',rfl,_,hg',_⟩
   ·simp [Value.ownBlock] at q
   ·simp [Value.ownBlock] at q
    subst q
    rw [hb] at hg'
    cases hg'
    exact hne rfl
  refine⟨.inr ⟨b,o,cur,fr,e,(hg.block b (some_lt hb) hne).trans hb⟩,RowsAt.kept hi hg fun b' o' q=>?_⟩
  rw [e] at q
  cases q
  exact hne
theorem own_ty {α:Type} {f:α->List Value} {sz:Nat} {t:TypeId} {W:World} {base n:Nat} {A:Option Addr} {c:Nat} {l:List α} (h:W.ownsRow base t sz (.slice A n c) n (l.flatMap f)) (hn:n=l.length):RowsTy t W A l:=by
 subst hn
 rcases h.2 with⟨e,h0⟩ | ⟨g,cap,cur,e,_,hg,_⟩
 ·exact .inl (List.length_eq_zero_iff.1 h0)
 ·cases e;exact .inr ⟨g,0,cur,_,rfl,hg⟩
def ClonePost {α:Type} (f:α->List Value) (sz:Nat) (t:TypeId) (n:Nat) (l:List α) (w:World) (e:Ending) (w':World):Prop :=
 Below w.heap.size w w'/\∃ A c,e=.returned (.slice A n c)/\w'.ownsRow w.heap.size t sz (.slice A n c) n (l.flatMap f)
theorem ClonePost.nil {α:Type} {f:α->List Value} {sz:Nat} {t:TypeId} {w:World}:ClonePost f sz t 0 ([]:List α) w (.returned (.slice none 0 0)) w :=
 ⟨Below.refl _ _,none,0,rfl,by simp,.inl ⟨rfl,rfl⟩⟩
section
variable (w:World)
theorem linInfo:(prog.info? 68).map (fun i=>(i.zero,i.size,i.bytes))=some (some (.agg #[.int .i64 0,.int .i64 0,.int .i64 0]),3,24):=by kernel_rfl
theorem clone_lin (A:Option Addr) (n c:Nat) (l:List Lin) (hl:l.length=n) (hn:n<=100000) (h:RowsAt Lin.cells 3 w w.heap.size A l) :
  Calls prog 206 #[.slice A n c] w (ClonePost Lin.cells 3 68 n l w):=by
 have qn:=fun(w:World) (a:Option Addr) (n c n' c':Nat)=>Lib.run_eql_slice_nil (P:=prog) w _ _ a n c n' c' underlying69
 cases A with
 | none =>
  have h0:l=[]:=by rcases h with h | ⟨b,o,e,_⟩;exact h;cases e
  subst h0
  obtain rfl:n=0:=by simpa using hl.symm
  clear hl h hn
  go_enter func206,ntmps206
  go_wp2
  go_ret
  exact ClonePost.nil
 | some ad =>
  obtain⟨i0,hi,hz0,hz1,hz2⟩:=info_parts linInfo
  have Hnews:Hid (∀ j u,(l.flatMap Lin.cells)[j]?=some u->(w.alloc (.cells #[] 68)).cell? (ad.add j)=some u):=Z1 fun j u hj=>Lib.cell?_alloc_some _ (rows_news (f:=Lin.cells) (sz:=3) (by decide) (fun _=>rfl) h j u hj)
  have Hlen:Hid ((l.flatMap Lin.cells).length=n*3):=by show _=_;rw [flat_len (f:=Lin.cells) (sz:=3) (fun _=>rfl),hl]
  have Hone:Hid (∀ u∈l.flatMap Lin.cells,u.oneCell'=true):=Z1 fun u hu=>by
   rw [List.mem_flatMap] at hu;obtain⟨x,_,hx⟩:=hu;revert u;simp [Lin.cells,Value.oneCell']
  have h63:0+n<=maxLen:=by unfold maxLen;omega
  have h64:(0+n)*24<=140737488355328:=by omega
  have h65:w.heap.size<=(w.alloc (.cells #[] 68)).heap.size:=by simp
  have hmade:=World.ownsRow_made (e:=68) (size:=3) w #[] 0 (Nat.le_refl _) (Nat.zero_le _) rfl
  clear hl h
  go_enter func206,ntmps206
  go_wp2_with (at_builtin;refine Hid.out ?_)
  show wpList _ _ _ _ _ _
  refine wpList_append_own _ rfl _ _ 69 rfl w.heap.size 68 i0 (.agg #[.int .i64 0,.int .i64 0,.int .i64 0]) 3 24 underlying69 hi hz0 hz1 hz2 rfl (by decide) _ _ _ rfl hmade ad n c (l.flatMap Lin.cells) rfl Hlen.out Hnews.out Hone.out h63 h64 h65 ?_
  intro v' w1 hown hgrow _
  have hb:Below w.heap.size w w1:=((Below.refl _ w).alloc (Nat.le_refl _) _).grown hgrow (by simp) (fun k hk=>(hmade.lt k hk).1)
  rw [Nat.zero_add,List.nil_append] at hown
  obtain⟨A',c',rfl⟩:∃ A' c',v'=.slice A' n c':=by
   rcases hown.2 with⟨e,h0⟩ | ⟨g,cap,cur,e,_⟩
   ·exact⟨none,0,by rw [e,h0]⟩
   ·exact⟨_,_,e⟩
  have Hown:=Z1 hown
  have Hb:=Z1 hb
  clear hown hb
  go_wp2
  go_ret
  exact⟨Hb.out,A',c',rfl,Hown.out⟩
theorem accInfo:(prog.info? 87).map (fun i=>(i.zero,i.size,i.bytes))=some (some (.agg #[.int .i64 0,.int .i64 0,.int .i64 0,.int .i64 0]),4,32):=by kernel_rfl
theorem clone_acc (A:Option Addr) (n c:Nat) (l:List Acc) (hl:l.length=n) (hn:n<=100000) (h:RowsAt Acc.cells 4 w w.heap.size A l) :
  Calls prog 198 #[.slice A n c] w (ClonePost Acc.cells 4 87 n l w):=by
 have qn:=fun(w:World) (a:Option Addr) (n c n' c':Nat)=>Lib.run_eql_slice_nil (P:=prog) w _ _ a n c n' c' underlying24
 cases A with
 | none =>
  have h0:l=[]:=by rcases h with h | ⟨b,o,e,_⟩;exact h;cases e
  subst h0
  obtain rfl:n=0:=by simpa using hl.symm
  clear hl h hn
  go_enter func198,ntmps198
  go_wp2
  go_ret
  exact ClonePost.nil
 | some ad =>
  obtain⟨i0,hi,hz0,hz1,hz2⟩:=info_parts accInfo
  have Hnews:Hid (∀ j u,(l.flatMap Acc.cells)[j]?=some u->(w.alloc (.cells #[] 87)).cell? (ad.add j)=some u):=Z1 fun j u hj=>Lib.cell?_alloc_some _ (rows_news (f:=Acc.cells) (sz:=4) (by decide) (fun _=>rfl) h j u hj)
  have Hlen:Hid ((l.flatMap Acc.cells).length=n*4):=by show _=_;rw [flat_len (f:=Acc.cells) (sz:=4) (fun _=>rfl),hl]
  have Hone:Hid (∀ u∈l.flatMap Acc.cells,u.oneCell'=true):=Z1 fun u hu=>by
   rw [List.mem_flatMap] at hu;obtain⟨x,_,hx⟩:=hu;revert u;simp [Acc.cells,Value.oneCell']
  have h63:0+n<=maxLen:=by unfold maxLen;omega
  have h64:(0+n)*32<=140737488355328:=by omega
  have h65:w.heap.size<=(w.alloc (.cells #[] 87)).heap.size:=by simp
  have hmade:=World.ownsRow_made (e:=87) (size:=4) w #[] 0 (Nat.le_refl _) (Nat.zero_le _) rfl
  clear hl h
  go_enter func198,ntmps198
  go_wp2_with (at_builtin;refine Hid.out ?_)
  show wpList _ _ _ _ _ _
  refine wpList_append_own _ rfl _ _ 24 rfl w.heap.size 87 i0 (.agg #[.int .i64 0,.int .i64 0,.int .i64 0,.int .i64 0]) 4 32 underlying24 hi hz0 hz1 hz2 rfl (by decide) _ _ _ rfl hmade ad n c (l.flatMap Acc.cells) rfl Hlen.out Hnews.out Hone.out h63 h64 h65 ?_
  intro v' w1 hown hgrow _
  have hb:Below w.heap.size w w1:=((Below.refl _ w).alloc (Nat.le_refl _) _).grown hgrow (by simp) (fun k hk=>(hmade.lt k hk).1)
  rw [Nat.zero_add,List.nil_append] at hown
  obtain⟨A',c',rfl⟩:∃ A' c',v'=.slice A' n c':=by
   rcases hown.2 with⟨e,h0⟩ | ⟨g,cap,cur,e,_⟩
   ·exact⟨none,0,by rw [e,h0]⟩
   ·exact⟨_,_,e⟩
  have Hown:=Z1 hown
  have Hb:=Z1 hb
  clear hown hb
  go_wp2
  go_ret
  exact⟨Hb.out,A',c',rfl,Hown.out⟩
theorem lnkInfo:(prog.info? 150).map (fun i=>(i.zero,i.size,i.bytes))=some (some (.agg #[.int .i64 0,.int .i64 0,.int .i64 0]),3,24):=by kernel_rfl
theorem clone_lnk (A:Option Addr) (n c:Nat) (l:List Lnk) (hl:l.length=n) (hn:n<=100000) (h:RowsAt Lnk.cells 3 w w.heap.size A l) :
  Calls prog 200 #[.slice A n c] w (ClonePost Lnk.cells 3 150 n l w):=by
 have qn:=fun(w:World) (a:Option Addr) (n c n' c':Nat)=>Lib.run_eql_slice_nil (P:=prog) w _ _ a n c n' c' underlying100
 cases A with
 | none =>
  have h0:l=[]:=by rcases h with h | ⟨b,o,e,_⟩;exact h;cases e
  subst h0
  obtain rfl:n=0:=by simpa using hl.symm
  clear hl h hn
  go_enter func200,ntmps200
  go_wp2
  go_ret
  exact ClonePost.nil
 | some ad =>
  obtain⟨i0,hi,hz0,hz1,hz2⟩:=info_parts lnkInfo
  have Hnews:Hid (∀ j u,(l.flatMap Lnk.cells)[j]?=some u->(w.alloc (.cells #[] 150)).cell? (ad.add j)=some u):=Z1 fun j u hj=>Lib.cell?_alloc_some _ (rows_news (f:=Lnk.cells) (sz:=3) (by decide) (fun _=>rfl) h j u hj)
  have Hlen:Hid ((l.flatMap Lnk.cells).length=n*3):=by show _=_;rw [flat_len (f:=Lnk.cells) (sz:=3) (fun _=>rfl),hl]
  have Hone:Hid (∀ u∈l.flatMap Lnk.cells,u.oneCell'=true):=Z1 fun u hu=>by
   rw [List.mem_flatMap] at hu;obtain⟨x,_,hx⟩:=hu;revert u;simp [Lnk.cells,Value.oneCell']
  have h63:0+n<=maxLen:=by unfold maxLen;omega
  have h64:(0+n)*24<=140737488355328:=by omega
  have h65:w.heap.size<=(w.alloc (.cells #[] 150)).heap.size:=by simp
  have hmade:=World.ownsRow_made (e:=150) (size:=3) w #[] 0 (Nat.le_refl _) (Nat.zero_le _) rfl
  clear hl h
  go_enter func200,ntmps200
  go_wp2_with (at_builtin;refine Hid.out ?_)
  show wpList _ _ _ _ _ _
  refine wpList_append_own _ rfl _ _ 100 rfl w.heap.size 150 i0 (.agg #[.int .i64 0,.int .i64 0,.int .i64 0]) 3 24 underlying100 hi hz0 hz1 hz2 rfl (by decide) _ _ _ rfl hmade ad n c (l.flatMap Lnk.cells) rfl Hlen.out Hnews.out Hone.out h63 h64 h65 ?_
  intro v' w1 hown hgrow _
  have hb:Below w.heap.size w w1:=((Below.refl _ w).alloc (Nat.le_refl _) _).grown hgrow (by simp) (fun k hk=>(hmade.lt k hk).1)
  rw [Nat.zero_add,List.nil_append] at hown
  obtain⟨A',c',rfl⟩:∃ A' c',v'=.slice A' n c':=by
   rcases hown.2 with⟨e,h0⟩ | ⟨g,cap,cur,e,_⟩
   ·exact⟨none,0,by rw [e,h0]⟩
   ·exact⟨_,_,e⟩
  have Hown:=Z1 hown
  have Hb:=Z1 hb
  clear hown hb
  go_wp2
  go_ret
  exact⟨Hb.out,A',c',rfl,Hown.out⟩
theorem entInfo:(prog.info? 102).map (fun i=>(i.zero,i.size,i.bytes))=some (some (.agg #[.string ByteArray.empty,.string ByteArray.empty,.slice none 0 0,.slice none 0 0,.bool false]),5,88):=by kernel_rfl
theorem clone_ent (A:Option Addr) (n c:Nat) (l:List Ent) (hl:l.length=n) (hn:n<=100000) (h:RowsAt Ent.cells 5 w w.heap.size A l) :
  Calls prog 199 #[.slice A n c] w (ClonePost Ent.cells 5 102 n l w):=by
 have qn:=fun(w:World) (a:Option Addr) (n c n' c':Nat)=>Lib.run_eql_slice_nil (P:=prog) w _ _ a n c n' c' underlying27
 cases A with
 | none =>
  have h0:l=[]:=by rcases h with h | ⟨b,o,e,_⟩;exact h;cases e
  subst h0
  obtain rfl:n=0:=by simpa using hl.symm
  clear hl h hn
  go_enter func199,ntmps199
  go_wp2
  go_ret
  exact ClonePost.nil
 | some ad =>
  obtain⟨i0,hi,hz0,hz1,hz2⟩:=info_parts entInfo
  have Hnews:Hid (∀ j u,(l.flatMap Ent.cells)[j]?=some u->(w.alloc (.cells #[] 102)).cell? (ad.add j)=some u):=Z1 fun j u hj=>Lib.cell?_alloc_some _ (rows_news (f:=Ent.cells) (sz:=5) (by decide) (fun _=>rfl) h j u hj)
  have Hlen:Hid ((l.flatMap Ent.cells).length=n*5):=by show _=_;rw [flat_len (f:=Ent.cells) (sz:=5) (fun _=>rfl),hl]
  have Hone:Hid (∀ u∈l.flatMap Ent.cells,u.oneCell'=true):=Z1 fun u hu=>by
   rw [List.mem_flatMap] at hu;obtain⟨x,_,hx⟩:=hu;revert u;simp [Ent.cells,Value.oneCell']
  have h63:0+n<=maxLen:=by unfold maxLen;omega
  have h64:(0+n)*88<=140737488355328:=by omega
  have h65:w.heap.size<=(w.alloc (.cells #[] 102)).heap.size:=by simp
  have hmade:=World.ownsRow_made (e:=102) (size:=5) w #[] 0 (Nat.le_refl _) (Nat.zero_le _) rfl
  clear hl h
  go_enter func199,ntmps199
  go_wp2_with (at_builtin;refine Hid.out ?_)
  show wpList _ _ _ _ _ _
  refine wpList_append_own _ rfl _ _ 27 rfl w.heap.size 102 i0 (.agg #[.string ByteArray.empty,.string ByteArray.empty,.slice none 0 0,.slice none 0 0,.bool false]) 5 88 underlying27 hi hz0 hz1 hz2 rfl (by decide) _ _ _ rfl hmade ad n c (l.flatMap Ent.cells) rfl Hlen.out Hnews.out Hone.out h63 h64 h65 ?_
  intro v' w1 hown hgrow _
  have hb:Below w.heap.size w w1:=((Below.refl _ w).alloc (Nat.le_refl _) _).grown hgrow (by simp) (fun k hk=>(hmade.lt k hk).1)
  rw [Nat.zero_add,List.nil_append] at hown
  obtain⟨A',c',rfl⟩:∃ A' c',v'=.slice A' n c':=by
   rcases hown.2 with⟨e,h0⟩ | ⟨g,cap,cur,e,_⟩
   ·exact⟨none,0,by rw [e,h0]⟩
   ·exact⟨_,_,e⟩
  have Hown:=Z1 hown
  have Hb:=Z1 hb
  clear hown hb
  go_wp2
  go_ret
  exact⟨Hb.out,A',c',rfl,Hown.out⟩
end
end Go.Proofs.YtniaimjknmhapaaGreatDoor
namespace Go.Proofs.YtniaimjknmhapaaGreatDoor
open Go.RowKit
theorem row_not {W:World} {base n sz b:Nat} {v:Value} {e t:TypeId} {xs:List Value} {cs:Array Value} {fr:Nat × Nat} (h:W.ownsRow base e sz v n xs) (hb:v.ownBlock=some b) (hc:W.heap[b]?=some (.cells cs t fr)) (ht:e≠t):False:=by
 rcases h.2 with⟨rfl,_⟩ | ⟨g,cap,cur,rfl,_,hg,_⟩
 ·simp [Value.ownBlock] at hb
 ·simp [Value.ownBlock] at hb
  subst hb
  rw [hg] at hc
  cases hc
  exact ht rfl
end Go.Proofs.YtniaimjknmhapaaGreatDoor
