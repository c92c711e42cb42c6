/- My texts JrnC, DeskW. -/
import Derived.Test.YtniaimjknmhapaaGreatDoorG27
import Derived.Test.YtniaimjknmhapaaGreatDoorG30
set_option linter.unusedVariables false
set_option linter.unusedSimpArgs false
set_option maxRecDepth 100000
set_option maxHeartbeats 16000000
namespace Go.Proofs.YtniaimjknmhapaaGreatDoor
open Go.Proofs.Tryz Go.RowKit Go.Maps
def JNewPost (g:Grp) (w:World) (e:Ending) (w':World):Prop :=
 Below w.heap.size w w'/\((Gr.valid g=false/\∃ n,n≠0/\e=.returned (.tuple #[.pointer none,.int .i64 n])) ∨
  (Gr.valid g=true/\∃ B b,w.heap.size<=B/\B<=w'.heap.size/\e=.returned (.tuple #[.pointer (some ⟨b,0,none⟩),.int .i64 0])/\Jrns B w' b g []))
def JPost (b:Bool) (w:World) (e:Ending) (w':World):Prop:=(∃ i n,e=.returned (.tuple #[.int .i64 i,.int .i64 n])/\(n=0 ↔ b=true))/\Below w.heap.size w w'
theorem Jr.ok_bad {g:Grp} {l:List EtC} {k:Nat} (hk:k<l.length) (h:Jr.postOk g (l.take k) l[k]=false):Jr.ok g l=false:=by
 have:(List.range l.length).all (fun i=>Jr.postOk g (l.take i) (l.getD i EtC.zero))=false:=by
  rw [List.all_eq_false];exact⟨k,by simpa using hk,by simp [hk,h]⟩
 unfold Jr.ok;rw [this,Bool.and_false]
section
variable (w:World)
theorem jnew_any (g:Grp) (hg:g.At w w.heap.size):Calls prog 87 #[.agg #[.string g.cur,.int .i64 g.Y,.int .i64 g.M,.int .i64 g.N,.slice g.cA g.cn g.cc,.int .i64 g.r0,.int .i64 g.r1,.int .i64 g.r2,.int .i64 g.r3,.int .i64 g.r4,.int .i64 g.r5,.int .i64 g.r6,.int .i64 g.r7,.int .i64 g.r8,.int .i64 g.r9,.int .i64 g.r10,.int .i64 g.r11,.int .i64 g.r12,.int .i64 g.r13,.int .i64 g.r14,.slice g.eA g.en g.ec]] w (JNewPost g w):=by
 obtain⟨W1,hW1,hB0,hb0,hz⟩:=nw1 w #[.string g.cur,.int .i64 g.Y,.int .i64 g.M,.int .i64 g.N,.slice g.cA g.cn g.cc,.int .i64 g.r0,.int .i64 g.r1,.int .i64 g.r2,.int .i64 g.r3,.int .i64 g.r4,.int .i64 g.r5,.int .i64 g.r6,.int .i64 g.r7,.int .i64 g.r8,.int .i64 g.r9,.int .i64 g.r10,.int .i64 g.r11,.int .i64 g.r12,.int .i64 g.r13,.int .i64 g.r14,.slice g.eA g.en g.ec] 29
 have HW:=Z1 hW1
 have hg1:=Z1 (hg.at_ hB0)
 have s1:w.heap.size<W1.heap.size:=by omega
 have Hb0:=Z1 hb0
 have Hel:=Z1 hg.hel
 have hmm:=@run_makeMap prog
 clear hW1 hz hb0 hg
 go_enter func87,ntmps87
 go_upto_region 1 with(fail)
 rw [<- HW.out]
 go_wp2_with (refine wpList_load_row rfl 29 _ rfl _ rfl _ _ _ _ Hb0.out underlying29 rfl grpSize ?_)
 refine(grpd_any W1 g hg1.out).mono ?_
 rintro e W2 ⟨rfl,hB2⟩
 have hB02:=hB0.trans (hB2.mono hB0.size)
 have Hb2:=Z1 (gbox Hb0.out hB2 s1)
 have s2:w.heap.size<W2.heap.size:=some_lt Hb2.out
 have hg2:=Z1 (hg1.out.at_ hB2)
 by_cases h1:Gr.valid g=true
 case neg =>
  have h1':Gr.valid g=false:=by simpa using h1
  have HV:=Z1 h1'
  rw [h1']
  clear h1 h1'
  go_wp2
  go_ret2
  exact⟨hB02,.inl ⟨HV.out,1,by decide,rfl⟩⟩
 have HV:=Z1 h1
 have h1e:1<=g.en:=by
  have:=HV.out;unfold Gr.valid at this;simp only [Bool.and_eq_true,decide_eq_true_eq] at this;have:=Hel.out;omega
 rw [h1]
 clear h1
 have hc:=Z1 (gcopy_any W2 g hg2.out h1e)
 go_wp2_with (refine wpList_load_row rfl 29 _ rfl _ rfl _ _ _ _ Hb2.out underlying29 rfl grpSize ?_)
 refine hc.out.mono ?_
 rintro e W3 ⟨hB3,g',rfl,he,hg3⟩
 have hB03:=hB02.trans (hB3.mono hB02.size)
 have He:=Z1 he
 have Hg3:=Z1 hg3
 have hl3:=hB03.size
 clear he hg3
 go_wp2
 go_ret2
 have a1:Below w.heap.size w (W3.alloc (.map #[] 0)):=hB03.alloc hl3 _
 have a2:=a1.alloc a1.size (.map #[] 0)
 have a3:=a2.alloc a2.size (.cells #[.string g'.cur,.int .i64 g'.Y,.int .i64 g'.M,.int .i64 g'.N,.slice g'.cA g'.cn g'.cc,.int .i64 g'.r0,.int .i64 g'.r1,.int .i64 g'.r2,.int .i64 g'.r3,.int .i64 g'.r4,.int .i64 g'.r5,.int .i64 g'.r6,.int .i64 g'.r7,.int .i64 g'.r8,.int .i64 g'.r9,.int .i64 g'.r10,.int .i64 g'.r11,.int .i64 g'.r12,.int .i64 g'.r13,.int .i64 g'.r14,.slice g'.eA g'.en g'.ec,.slice none 0 0,.map (some W3.heap.size),.map (some (W3.heap.size+1))] 219)
 have hsz1:(W3.alloc (.map #[] 0)).heap.size=W3.heap.size+1:=by simp
 have hsz2:((W3.alloc (.map #[] 0)).alloc (.map #[] 0)).heap.size=W3.heap.size+2:=by simp
 have m2:=MapAt.made (W3.alloc (.map #[] 0)) prog 3
 rw [hsz1] at m2
 have m1:=(MapAt.made W3 prog 3).alloc (.map #[] 0)
 have r3:=heap_alloc_new ((W3.alloc (.map #[] 0)).alloc (.map #[] 0)) (.cells #[.string g'.cur,.int .i64 g'.Y,.int .i64 g'.M,.int .i64 g'.N,.slice g'.cA g'.cn g'.cc,.int .i64 g'.r0,.int .i64 g'.r1,.int .i64 g'.r2,.int .i64 g'.r3,.int .i64 g'.r4,.int .i64 g'.r5,.int .i64 g'.r6,.int .i64 g'.r7,.int .i64 g'.r8,.int .i64 g'.r9,.int .i64 g'.r10,.int .i64 g'.r11,.int .i64 g'.r12,.int .i64 g'.r13,.int .i64 g'.r14,.slice g'.eA g'.en g'.ec,.slice none 0 0,.map (some W3.heap.size),.map (some (W3.heap.size+1))] 219)
 rw [hsz2] at r3
 have b3:Below W3.heap.size W3 (((W3.alloc (.map #[] 0)).alloc (.map #[] 0)).alloc (.cells #[.string g'.cur,.int .i64 g'.Y,.int .i64 g'.M,.int .i64 g'.N,.slice g'.cA g'.cn g'.cc,.int .i64 g'.r0,.int .i64 g'.r1,.int .i64 g'.r2,.int .i64 g'.r3,.int .i64 g'.r4,.int .i64 g'.r5,.int .i64 g'.r6,.int .i64 g'.r7,.int .i64 g'.r8,.int .i64 g'.r9,.int .i64 g'.r10,.int .i64 g'.r11,.int .i64 g'.r12,.int .i64 g'.r13,.int .i64 g'.r14,.slice g'.eA g'.en g'.ec,.slice none 0 0,.map (some W3.heap.size),.map (some (W3.heap.size+1))] 219)) :=
  (((Below.refl _ _).alloc (Nat.le_refl _) _).alloc (by simp) _).alloc (by simp;omega) _
 have hJ:Jrns W3.heap.size (((W3.alloc (.map #[] 0)).alloc (.map #[] 0)).alloc (.cells #[.string g'.cur,.int .i64 g'.Y,.int .i64 g'.M,.int .i64 g'.N,.slice g'.cA g'.cn g'.cc,.int .i64 g'.r0,.int .i64 g'.r1,.int .i64 g'.r2,.int .i64 g'.r3,.int .i64 g'.r4,.int .i64 g'.r5,.int .i64 g'.r6,.int .i64 g'.r7,.int .i64 g'.r8,.int .i64 g'.r9,.int .i64 g'.r10,.int .i64 g'.r11,.int .i64 g'.r12,.int .i64 g'.r13,.int .i64 g'.r14,.slice g'.eA g'.en g'.ec,.slice none 0 0,.map (some W3.heap.size),.map (some (W3.heap.size+1))] 219)) (W3.heap.size+2) g [] :=
  ⟨g',[],none,0,W3.heap.size,W3.heap.size+1,_,_,{ hb:=r3,he:=He.out,hg:=Hg3.out.below b3 (Nat.le_refl _),hBb:=by omega,hB1:=Nat.le_refl _,hB2:=by omega,hne:=by omega,hq:=rfl,ho:=World.ownsRow_nil _ _ _ _,hx:=fun x hx=>(nomatch hx),h1:=m1.alloc _,h2:=m2.alloc _,hf1:=fun x=>rfl,hf2:=fun x=>rfl,hw:=fun x hx=>(nomatch hx) }⟩
 exact⟨a3,.inr ⟨HV.out,W3.heap.size,W3.heap.size+2,by omega,b3.size,rfl,hJ⟩⟩
theorem jcheck_any (g:Grp) (A:Option Addr) (n c:Nat) (l:List Etr) (hg:g.At w w.heap.size) (hl:l.length=n) (hn:n<=61) (hA:RowsAt Etr.cells 7 w w.heap.size A l) (hx:∀ x∈l,x.At w w.heap.size) :
  Calls prog 47 #[.agg #[.string g.cur,.int .i64 g.Y,.int .i64 g.M,.int .i64 g.N,.slice g.cA g.cn g.cc,.int .i64 g.r0,.int .i64 g.r1,.int .i64 g.r2,.int .i64 g.r3,.int .i64 g.r4,.int .i64 g.r5,.int .i64 g.r6,.int .i64 g.r7,.int .i64 g.r8,.int .i64 g.r9,.int .i64 g.r10,.int .i64 g.r11,.int .i64 g.r12,.int .i64 g.r13,.int .i64 g.r14,.slice g.eA g.en g.ec],.slice A n c] w (JPost (Jr.ok g (l.map (·.c))) w):=by
 obtain⟨W1,hW1,hB0,hb0,hz⟩:=nw1 w #[.string g.cur,.int .i64 g.Y,.int .i64 g.M,.int .i64 g.N,.slice g.cA g.cn g.cc,.int .i64 g.r0,.int .i64 g.r1,.int .i64 g.r2,.int .i64 g.r3,.int .i64 g.r4,.int .i64 g.r5,.int .i64 g.r6,.int .i64 g.r7,.int .i64 g.r8,.int .i64 g.r9,.int .i64 g.r10,.int .i64 g.r11,.int .i64 g.r12,.int .i64 g.r13,.int .i64 g.r14,.slice g.eA g.en g.ec] 29
 have HW:=Z1 hW1
 have hg1:=Z1 (hg.at_ hB0)
 have s1:w.heap.size<W1.heap.size:=by omega
 have Hb0:=Z1 hb0
 have HA:=Z1 hA
 have HX:=Z1 hx
 have Hl:=Z1 hl
 clear hW1 hz hb0 hg hA hx hl
 go_enter func47,ntmps47
 go_upto_region 1 with(fail)
 rw [<- HW.out]
 go_wp2_with (refine wpList_load_row rfl 29 _ rfl _ rfl _ _ _ _ Hb0.out underlying29 rfl grpSize ?_)
 refine(jnew_any W1 g hg1.out).mono ?_
 rintro e W2 ⟨hB2,h⟩
 have hB02:=hB0.trans (hB2.mono hB0.size)
 rcases h with⟨hv,m,hm,rfl⟩ | ⟨hv,B,b,hB1,hBs,rfl,hj⟩
 ·have k1:(m != 0)=true:=by simp [hm]
  have Hm:=Z1 hm
  have HV:Hid (Jr.ok g (l.map (·.c))=false):=by show _=_;unfold Jr.ok;rw [hv];rfl
  clear hv hm
  go_wp2
  go_ret2
  exact⟨⟨0,m,rfl,by simp [Hm.out,HV.out]⟩,hB02⟩
 have HV:Hid (Jr.ok g (l.map (·.c))=(List.range (l.map (·.c)).length).all (fun i=>Jr.postOk g ((l.map (·.c)).take i) ((l.map (·.c)).getD i EtC.zero))):=by show _=_;unfold Jr.ok;rw [hv];rfl
 have HJ:=Z1 hj
 have HB02:=Z1 hB02
 have hBw:w.heap.size<=B:=by omega
 clear hv hj
 go_upto_region 4 with(fail)
 go_wp2
 go_loopw [21] (fun i wr=>∃ k:Nat,k<=n/\i=.int .i64 k/\Jrns B wr b g ((l.map (·.c)).take k)/\(List.range k).all (fun i=>Jr.postOk g ((l.map (·.c)).take i) ((l.map (·.c)).getD i EtC.zero))=true/\Below w.heap.size w wr/\B<=wr.heap.size) (fun i _=>n-(intOf i).toNat)
 case atStart=>exact⟨0,Nat.zero_le _,rfl,HJ.out,rfl,HB02.out,hBs⟩
 case round =>
  obtain⟨k,hk,rfl,hj,hall,hb,hBr⟩:=hrel
  have HJr:=Z1 hj
  have Hall:=Z1 hall
  clear hj hall hBs hB2 hB02
  by_cases hlt:k<n
  case neg =>
   obtain rfl:k=n:=by omega
   have hall:=Hall.out
   rw [show k=(l.map (·.c)).length by rw [List.length_map];exact Hl.out.symm] at hall
   have HF:Hid (Jr.ok g (l.map (·.c))=true):=by show _=_;rw [HV.out];exact hall
   clear hall
   go_wp2
   go_ret2
   exact⟨⟨0,0,rfl,by simp [HF.out]⟩,hb⟩
  have hkl:k<l.length:=by have:=Hl.out;omega
  have hkm:k<(l.map (·.c)).length:=by rw [List.length_map];exact hkl
  obtain⟨bq,oq,rfl,hbq,hr⟩:=RowsAt.look (RowsAt.below HA.out hb (Nat.le_refl _)) hkl
  have hxk:=HX.out l[k] (List.getElem_mem hkl)
  obtain⟨x,hxe⟩:∃ x,x=l[k]:=⟨_,rfl⟩
  have hxm:(l.map (·.c))[k]=x.c:=by rw [hxe];simp
  have Hbad:=Z1 (fun h=>Jr.ok_bad (g:=g) hkm h)
  have Hst:Hid ((l.map (·.c)).take (k+1)=(l.map (·.c)).take k++[x.c]):=by show _=_;rw [List.take_succ_eq_append_getElem hkm,hxm]
  have Hnext:Hid (Jr.postOk g ((l.map (·.c)).take k) x.c=true->(List.range (k+1)).all (fun i=>Jr.postOk g ((l.map (·.c)).take i) ((l.map (·.c)).getD i EtC.zero))=true):=Z1 fun h =>
   Gr.range_all Hall.out (by rw [List.getD_eq_getElem?_getD,List.getElem?_eq_getElem hkm,hxm];exact h)
  rw [<- hxe] at hr hxk
  rw [hxm] at Hbad
  have Hr:=Z1 hr
  have hbw:bq<wr.heap.size:=by have:=hb.size;omega
  have hpl:((l.map (·.c)).take k).length<=100:=by rw [List.length_take];omega
  obtain⟨xc,xA,xn,xk⟩:=x
  obtain⟨Wa,hWa,hBa,hra,hza⟩:=nw1 wr #[.int .i64 xc.id,.int .i64 xc.ent,.int .i64 xc.date,.int .i64 xc.kind,.int .i64 xc.of_,.string xc.text,.slice xA xn xk] 71
  have HWa:=Z1 hWa
  have hba:=hb.trans (hBa.mono hb.size)
  have hpost:=Z1 (post_any Wa B b g ((l.map (·.c)).take k) xc xA xn xk (HJr.out.below hBa hBr) (by have:=hBa.size;omega) ((hxk.below hba (Nat.le_refl _)).more hBw) hpl)
  have Hra:=Z1 hra
  have sa:wr.heap.size<Wa.heap.size:=some_lt hra
  have Hr':Hid (wr.rangeAt bq (oq+k*7) [.int .i64 xc.id,.int .i64 xc.ent,.int .i64 xc.date,.int .i64 xc.kind,.int .i64 xc.of_,.string xc.text,.slice xA xn xk]):=Hr
  clear hr hxe hxm hxk hWa hra hza
  go_upto_region 7 with(refine wpList_load_mid rfl 71 (.tmp 24) rfl bq (oq+k*7) rfl [.int .i64 xc.id,.int .i64 xc.ent,.int .i64 xc.date,.int .i64 xc.kind,.int .i64 xc.of_,.string xc.text,.slice xA xn xk] _ Hr'.out underlying71 rfl etrSize ?_)
  rw [<- HWa.out]
  go_wp2_with (refine wpList_load_row rfl 71 _ rfl _ rfl _ _ _ _ Hra.out underlying71 rfl etrSize ?_)
  refine hpost.out.mono ?_
  rintro e W5 ⟨hB5,m,rfl,hm,hj5⟩
  have hb5:=hba.trans (hB5.mono hBw)
  have hB5':B<=W5.heap.size:=by have:=hB5.size;have:=hBa.size;omega
  by_cases h0:m=0
  ·have k1:(m != 0)=false:=by simp [h0]
   have hj5':=hj5 h0
   rw [<- Hst.out] at hj5'
   have HJ5:=Z1 hj5'
   have HN:=Z1 (Hnext.out (hm.1 h0))
   clear hj5 hj5' h0 hm
   go_wp2
   go_roundw
   case rel=>exact⟨k+1,by omega,by go_num,HJ5.out,HN.out,hb5,hB5'⟩
   case measure=>simp [intOf];omega
  ·have k1:(m != 0)=true:=by simp [h0]
   have HF:=Z1 (Hbad.out (by cases hq:Jr.postOk g ((l.map (·.c)).take k) xc;rfl;exact absurd (hm.2 hq) h0))
   have Hm:=Z1 h0
   clear hj5 h0 hm
   go_wp2
   go_ret2
   exact⟨⟨k,m,rfl,by simp [Hm.out,HF.out]⟩,hb5⟩
end
end Go.Proofs.YtniaimjknmhapaaGreatDoor
namespace Go.Proofs.YtniaimjknmhapaaGreatDoor
open Go.Proofs.Tryz Go.RowKit Go.Maps
abbrev HldsAt:=RowsAt Hld.cells 4
def Hld.wf (x:Hld):Prop:=(Lit.int .i64 x.hdr).wf=true/\(Lit.int .i64 x.ent).wf=true/\(Lit.int .i64 x.date).wf=true/\(Lit.int .i64 x.shr).wf=true
structure Bks.At (w:World) (B:Nat) (b:Bks):Prop where
 hg:b.g.At w B
 hel:b.ents.length=b.en
 hen:b.en<=61
 hE:RowsAt Etr.cells 7 w B b.eA b.ents
 hEx:∀ x∈b.ents,x.At w B
 hrl:b.rates.length=b.rn
 hrn:b.rn<=300
 hR:RatesAt w B b.rA b.rates
 hRw:∀ r∈b.rates,r.wf
 hhl:b.holds.length=b.hn
 hhn:b.hn<=30
 hH:HldsAt w B b.hA b.holds
 hHw:∀ x∈b.holds,x.wf
theorem Bks.At.below {w w':World} {B C:Nat} {b:Bks} (h:b.At w B) (hb:Below C w w') (hC:B<=C):b.At w' B :=
 ⟨h.hg.below hb hC,h.hel,h.hen,RowsAt.below h.hE hb hC,fun x hx=>(h.hEx x hx).below hb hC,h.hrl,h.hrn,h.hR.below hb hC,h.hRw,h.hhl,h.hhn,RowsAt.below h.hH hb hC,h.hHw⟩
theorem Bks.At.more {w:World} {B C:Nat} {b:Bks} (h:b.At w B) (hC:B<=C):b.At w C :=
 ⟨h.hg.more hC,h.hel,h.hen,RowsAt.more h.hE hC,fun x hx=>(h.hEx x hx).more hC,h.hrl,h.hrn,h.hR.more hC,h.hRw,h.hhl,h.hhn,RowsAt.more h.hH hC,h.hHw⟩
theorem Bks.At.at_ {w w':World} {b:Bks} (h:b.At w w.heap.size) (hb:Below w.heap.size w w'):b.At w' w'.heap.size:=(h.below hb (Nat.le_refl _)).more hb.size
theorem momLaw:Maps.Keyed prog 247:=Maps.Keyed.of_law (deep_law_laid laidOut (m:=2) (by omega) (of_decide_eq_true (by kernel_rfl)) (by kernel_rfl) (by kernel_rfl))
theorem momKey (a b:Int) (ha:(Lit.int .i64 a).wf=true) (hb:(Lit.int .i64 b).wf=true):∃ kl,keyOf prog 247 (.agg #[.int .i64 a,.int .i64 b])=some kl:=by
 unfold keyOf
 rw [underlying247]
 have h1:prog.keyType 247=true:=by kernel_rfl
 have c3:prog.cellsOf 247=2:=by kernel_rfl
 have h2:(Value.agg #[.int .i64 a,.int .i64 b]).formed prog 247=true:=by
  simp [Value.formed,underlying247,c3]
 simp only [h1,h2,Bool.and_self,if_true]
 have h3:∃ n,prog.types.size=n+1:=⟨prog.types.size-1,by have:0<prog.types.size:=of_decide_eq_true (by kernel_rfl);omega⟩
 obtain⟨n,hn⟩:=h3
 rw [hn]
 have c1:prog.cellsOf 3=1:=by kernel_rfl
 simp [Program.keyLits,underlying247,underlying3,Value.cells,c1,c3,ha,hb]
theorem momSize:(prog.info? 247).map (·.size)=some 2:=by kernel_rfl
theorem fouSize:(prog.info? 249).map (·.size)=some 2:=by kernel_rfl
theorem Cal.perV_wf {Y M N d:Int} (h:Cal.ok Y M N=true):(Lit.int .i64 (Cal.perV Y M N d)).wf=true:=by
 have h1:=Cal.per_range Y M N d
 have h2:=(Cal.ok_iff Y M N).1 h
 unfold Cal.perV
 split <;> simp [Lit.wf,IntKind.min,IntKind.max,IntKind.signed,IntKind.bits] <;> omega
def Tr.keyed (b:Bks) (cur:ByteArray) (bs d:Int):Int × Int:=if bs=2 then Rates.avgG b.g b.rates cur d else Rates.spotG b.g b.rates cur d
def Tr.kdate (b:Bks) (la bs d:Int):Int:=if bs=1 then la else if bs=2 then Cal.perV b.g.Y b.g.M b.g.N d else d
theorem Tr.look_keyed {b:Bks} {cur:ByteArray} {la bs d:Int} (h:cur≠b.g.cur):Tr.look b cur la bs d=Tr.keyed b cur bs (Tr.kdate b la bs d):=by
 unfold Tr.look Tr.keyed Tr.kdate
 rw [if_neg h]
 by_cases h2:bs=2
 ·subst h2;simp
 ·rw [if_neg h2,if_neg h2,if_neg h2]
structure Desk (B:Nat) (w:World) (bd mk nk:Nat) (b:Bks) (e:Nat) (p la:Int) (cur:ByteArray) (cv:Bool) (f:Value->Option Value):Prop where
 hb:w.heap[bd]?=some (.cells #[.string b.g.cur,.int .i64 b.g.Y,.int .i64 b.g.M,.int .i64 b.g.N,.slice b.g.cA b.g.cn b.g.cc,.int .i64 b.g.r0,.int .i64 b.g.r1,.int .i64 b.g.r2,.int .i64 b.g.r3,.int .i64 b.g.r4,.int .i64 b.g.r5,.int .i64 b.g.r6,.int .i64 b.g.r7,.int .i64 b.g.r8,.int .i64 b.g.r9,.int .i64 b.g.r10,.int .i64 b.g.r11,.int .i64 b.g.r12,.int .i64 b.g.r13,.int .i64 b.g.r14,.slice b.g.eA b.g.en b.g.ec,.slice b.eA b.en b.ec,.slice b.rA b.rn b.rc,.slice b.hA b.hn b.hc,b.m0,b.m1,b.m2,.int .i64 e,.int .i64 p,.int .i64 la,.map (some mk),.string cur,.bool cv] 78 (0,0))
 hB1:B<=bd
 hB2:B<=mk
 hm:MapAt w prog 247 mk nk f
 hf:∀ bs d v,f (.agg #[.int .i64 bs,.int .i64 d])=some v->v=.agg #[.int .i64 (Tr.keyed b cur bs d).1,.int .i64 (Tr.keyed b cur bs d).2]
def Desks (B:Nat) (w:World) (bd mk nk:Nat) (b:Bks) (e:Nat) (p la:Int) (cur:ByteArray) (cv:Bool):Prop:=∃ f,Desk B w bd mk nk b e p la cur cv f
structure Kp (B mk:Nat) (w w':World):Prop where
 b:Below B w w'
 k:KeepBut w.heap.size (some mk) w w'
theorem Kp.of {B mk:Nat} {w w':World} (h:Below w.heap.size w w') (hB:B<=w.heap.size):Kp B mk w w':=⟨h.mono hB,KeepBut.of_below h (Nat.le_refl _)⟩
theorem Kp.trans {B mk:Nat} {w w' w'':World} (h:Kp B mk w w') (k:Kp B mk w' w''):Kp B mk w w'' :=
 ⟨h.b.trans k.b,fun i hi hn=>(k.k i (Nat.lt_of_lt_of_le hi h.b.size) hn).trans (h.k i hi hn)⟩
theorem Kp.grown {B mk:Nat} {w w':World} (h:w.grownBy w' (some mk)) (hB:B<=w.heap.size) (hm:B<=mk):Kp B mk w w' :=
 ⟨(Below.refl _ _).grown h hB (fun j q=>by cases q;exact hm),fun i hi hn=>h.block i hi hn⟩
theorem Kp.box {B mk i:Nat} {w w':World} {o:Obj} (h:Kp B mk w w') (hi:w.heap[i]?=some o) (hn:i≠mk):w'.heap[i]?=some o:=(h.k i (Array.getElem?_eq_some_iff.1 hi).1 (by simpa using hn)).trans hi
section
variable {B bd mk nk e:Nat} {w w':World} {b:Bks} {p la:Int} {cur:ByteArray} {cv:Bool}
theorem Desk.below {f:Value->Option Value} (h:Desk B w bd mk nk b e p la cur cv f) (hb:Below w.heap.size w w'):Desk B w' bd mk nk b e p la cur cv f :=
 ⟨gbox h.hb hb (some_lt h.hb),h.hB1,h.hB2,h.hm.below hb h.hm.lt,h.hf⟩
theorem Desks.below (h:Desks B w bd mk nk b e p la cur cv) (hb:Below w.heap.size w w'):Desks B w' bd mk nk b e p la cur cv:=by
 obtain⟨f,h⟩:=h
 exact⟨f,gbox h.hb hb (some_lt h.hb),h.hB1,h.hB2,h.hm.below hb h.hm.lt,h.hf⟩
theorem Desks.mono (h:Desks B w bd mk nk b e p la cur cv) {n':Nat} (hn:nk<=n'):Desks B w bd mk n' b e p la cur cv:=by
 obtain⟨f,h⟩:=h
 exact⟨f,h.hb,h.hB1,h.hB2,h.hm.mono hn,h.hf⟩
end
open Classical in
theorem desk_put {B bd mk nk e:Nat} {w w':World} {b:Bks} {p la:Int} {cur:ByteArray} {cv:Bool} {f:Value->Option Value} (h:Desk B w bd mk nk b e p la cur cv f) {bs d:Int}
  (hm:MapAt w' prog 247 mk (nk+1) (fun v=>if v=.agg #[.int .i64 bs,.int .i64 d] then some (.agg #[.int .i64 (Tr.keyed b cur bs d).1,.int .i64 (Tr.keyed b cur bs d).2]) else f v)) (hg:w.grownBy w' (some mk)):Desks B w' bd mk (nk+1) b e p la cur cv:=by
 refine⟨_,(hg.block bd (some_lt h.hb) (fun q=>map_ne_cells h.hm h.hb (Option.some.inj q).symm)).trans h.hb,h.hB1,h.hB2,hm,fun x y v hv=>?_⟩
 revert hv
 show(if _ then _ else _:Option Value)=_->_
 by_cases hk:(Value.agg #[.int .i64 x,.int .i64 y])=.agg #[.int .i64 bs,.int .i64 d]
 ·rw [if_pos hk]
  simp only [Value.agg.injEq,Array.mk.injEq,List.cons.injEq,Value.int.injEq,true_and,and_true] at hk
  obtain⟨rfl,rfl⟩:=hk
  intro hv;cases hv;rfl
 ·rw [if_neg hk];exact h.hf x y v
def LookPost (B bd mk nk:Nat) (b:Bks) (e:Nat) (p la:Int) (cur:ByteArray) (cv:Bool) (r:Int × Int) (w:World) (ev:Ending) (w':World):Prop :=
 Kp B mk w w'/\ev=.returned (.tuple #[.int .i64 r.1,.int .i64 r.2])/\Desks B w' bd mk nk b e p la cur cv
theorem dsk_get {b:Bks} {x0 x1 x2 x3 x4 x5:Value} {j:Nat} {v:Value} (hj:([.string (b.g).cur,.int .i64 (b.g).Y,.int .i64 (b.g).M,.int .i64 (b.g).N,.slice (b.g).cA (b.g).cn (b.g).cc,.int .i64 (b.g).r0,.int .i64 (b.g).r1,.int .i64 (b.g).r2,.int .i64 (b.g).r3,.int .i64 (b.g).r4,.int .i64 (b.g).r5,.int .i64 (b.g).r6,.int .i64 (b.g).r7,.int .i64 (b.g).r8,.int .i64 (b.g).r9,.int .i64 (b.g).r10,.int .i64 (b.g).r11,.int .i64 (b.g).r12,.int .i64 (b.g).r13,.int .i64 (b.g).r14,.slice (b.g).eA (b.g).en (b.g).ec]:List Value)[j]?=some v):(#[.string b.g.cur,.int .i64 b.g.Y,.int .i64 b.g.M,.int .i64 b.g.N,.slice b.g.cA b.g.cn b.g.cc,.int .i64 b.g.r0,.int .i64 b.g.r1,.int .i64 b.g.r2,.int .i64 b.g.r3,.int .i64 b.g.r4,.int .i64 b.g.r5,.int .i64 b.g.r6,.int .i64 b.g.r7,.int .i64 b.g.r8,.int .i64 b.g.r9,.int .i64 b.g.r10,.int .i64 b.g.r11,.int .i64 b.g.r12,.int .i64 b.g.r13,.int .i64 b.g.r14,.slice b.g.eA b.g.en b.g.ec,.slice b.eA b.en b.ec,.slice b.rA b.rn b.rc,.slice b.hA b.hn b.hc,b.m0,b.m1,b.m2,x0,x1,x2,x3,x4,x5]:Array Value)[j]?=some v:=by
 have hl:j<21:=by have:=(List.getElem?_eq_some_iff.1 hj).1;simpa using this
 have:(#[.string b.g.cur,.int .i64 b.g.Y,.int .i64 b.g.M,.int .i64 b.g.N,.slice b.g.cA b.g.cn b.g.cc,.int .i64 b.g.r0,.int .i64 b.g.r1,.int .i64 b.g.r2,.int .i64 b.g.r3,.int .i64 b.g.r4,.int .i64 b.g.r5,.int .i64 b.g.r6,.int .i64 b.g.r7,.int .i64 b.g.r8,.int .i64 b.g.r9,.int .i64 b.g.r10,.int .i64 b.g.r11,.int .i64 b.g.r12,.int .i64 b.g.r13,.int .i64 b.g.r14,.slice b.g.eA b.g.en b.g.ec,.slice b.eA b.en b.ec,.slice b.rA b.rn b.rc,.slice b.hA b.hn b.hc,b.m0,b.m1,b.m2,x0,x1,x2,x3,x4,x5]:Array Value)=(#[.string (b.g).cur,.int .i64 (b.g).Y,.int .i64 (b.g).M,.int .i64 (b.g).N,.slice (b.g).cA (b.g).cn (b.g).cc,.int .i64 (b.g).r0,.int .i64 (b.g).r1,.int .i64 (b.g).r2,.int .i64 (b.g).r3,.int .i64 (b.g).r4,.int .i64 (b.g).r5,.int .i64 (b.g).r6,.int .i64 (b.g).r7,.int .i64 (b.g).r8,.int .i64 (b.g).r9,.int .i64 (b.g).r10,.int .i64 (b.g).r11,.int .i64 (b.g).r12,.int .i64 (b.g).r13,.int .i64 (b.g).r14,.slice (b.g).eA (b.g).en (b.g).ec]++#[.slice b.eA b.en b.ec,.slice b.rA b.rn b.rc,.slice b.hA b.hn b.hc,b.m0,b.m1,b.m2,x0,x1,x2,x3,x4,x5]:Array Value):=rfl
 rw [this,Array.getElem?_append_left (by simpa using hl)]
 simpa using hj
section
variable (w:World)
theorem look_any (B bd mk nk:Nat) (b:Bks) (e:Nat) (p la:Int) (cur:ByteArray) (cv:Bool) (bs d:Int) (hd:Desks B w bd mk nk b e p la cur cv) (hcv:cv=decide (cur≠b.g.cur)) (hB:B<=w.heap.size) (hb:b.At w B) (hok:Cal.ok b.g.Y b.g.M b.g.N=true)
  (hcu:cur.size<=maxLen) (hbs:(Lit.int .i64 bs).wf=true) (hdd:(Lit.int .i64 d).wf=true) (hla:(Lit.int .i64 la).wf=true) (hn:nk<=100000) :
  Calls prog 122 #[.pointer (some ⟨bd,0,none⟩),.int .i64 bs,.int .i64 d] w (LookPost B bd mk (nk+1) b e p la cur cv (Tr.look b cur la bs d) w):=by
 obtain⟨f,hd⟩:=hd
 have Hd:=Z1 hd
 have z32:=cr9 32 hd.hb
 simp at z32
 have sd:bd<w.heap.size:=some_lt hd.hb
 clear hd
 go_enter func122,ntmps122
 by_cases hc:cur=b.g.cur
 ·have hcv':cv=false:=by rw [hcv];simp [hc]
  have HV:Hid (Tr.look b cur la bs d=(1000000,0)):=by show _=_;unfold Tr.look;rw [if_pos hc]
  have HD:=Z1 (Desks.mono ⟨f,Hd.out⟩ (Nat.le_succ _))
  subst hcv'
  clear hcv hc
  go_wp2
  go_ret2
  exact⟨Kp.of (Below.refl _ _) hB,by rw [HV.out];rfl,HD.out⟩
 have hcv':cv=true:=by rw [hcv];simp [hc]
 have HV:Hid (Tr.look b cur la bs d=Tr.keyed b cur bs (Tr.kdate b la bs d)):=Tr.look_keyed hc
 have HK:Hid (Tr.kdate b la bs d=if bs=1 then la else if bs=2 then Cal.perV b.g.Y b.g.M b.g.N d else d):=rfl
 subst hcv'
 clear hcv hc
 obtain⟨W1,hW1,hB1,hk1,hz1⟩:=nw1 w #[.int .i64 bs,.int .i64 d] 247
 have HW1:=Z1 hW1
 have Hk1:=Z1 hk1
 have s1:w.heap.size<W1.heap.size:=by omega
 have hd1:=gbox Hd.out.hb hB1 sd
 have z29:=cr9 29 hd1
 have z1:=cr9 1 hd1
 have z2:=cr9 2 hd1
 have z3:=cr9 3 hd1
 simp at z29 z1 z2 z3
 have sd1:bd<W1.heap.size:=by omega
 have k1:=cr9 1 hk1
 have kf:=fun j=>fr0 j hk1
 simp at k1
 clear hW1 hd1 hk1 hz1
 go_upto_region 4 with(fail)
 rw [<- HW1.out]
 by_cases h1:bs=1
 focus
  have b1:(bs==1)=true:=by simp [h1]
  have b2:(bs==2)=false:=by simp [h1]
  obtain⟨kd,hkd⟩:∃ kd,kd=la:=⟨_,rfl⟩
  have HKd:Hid (Tr.kdate b la bs d=kd):=by show _=_;rw [HK.out,hkd];rw [if_pos h1]
  have hkw:Hid ((Lit.int .i64 kd).wf=true):=by show _=_;rw [hkd];exact hla
  have hB2:Below w.heap.size w (W1.setCell ⟨w.heap.size,1,none⟩ (.int .i64 la)):=hB1.setCell (p:=⟨w.heap.size,1,none⟩) (Nat.le_refl _) _
  have hk2:(W1.setCell ⟨w.heap.size,1,none⟩ (.int .i64 la)).heap[w.heap.size]?=some (.cells #[.int .i64 bs,.int .i64 kd] 247 (0,0)):=by rw [hkd];exact heap_setCell_same W1 w.heap.size 1 _ _ (.int .i64 la) Hk1.out
  obtain⟨W2,hW2⟩:∃ W2,W2=(W1.setCell ⟨w.heap.size,1,none⟩ (.int .i64 la)):=⟨_,rfl⟩
  rw [<- hW2] at hB2 hk2
  have HW2:=Z1 hW2
  clear hW2 hkd
  clear h1
  go_upto_region 9 with(fail)
  rw [<- HW2.out]
 rotate_left
 have B1:(bs==1)=false:=by simp [h1]
 by_cases h2:bs=2
 focus
  have b2:(bs==2)=true:=by simp [h2]
  go_upto_region 8 with(fail)
  go_wp2_with (fail)
  refine(dPeriod_any b.g.Y b.g.M b.g.N d W1 hok).mono ?_
  rintro ev W1' ⟨rfl,hBp⟩
  obtain⟨pe,hpe⟩:∃ pe,pe=Cal.perE b.g.Y b.g.M b.g.N d:=⟨_,rfl⟩
  obtain⟨pv,hpv⟩:∃ pv,pv=Cal.perV b.g.Y b.g.M b.g.N d:=⟨_,rfl⟩
  rw [<- hpe,<- hpv]
  clear hpe
  have hk1':=gbox Hk1.out hBp s1
  have s1':w.heap.size<W1'.heap.size:=some_lt hk1'
  have k1':=cr9 1 hk1'
  have kf':=fun j=>fr0 j hk1'
  simp at k1'
  obtain⟨kd,hkd⟩:∃ kd,kd=pv:=⟨_,rfl⟩
  have HKd:Hid (Tr.kdate b la bs d=kd):=by show _=_;rw [HK.out,hkd];rw [if_neg h1,if_pos h2,hpv]
  have hkw:Hid ((Lit.int .i64 kd).wf=true):=by show _=_;rw [hkd];rw [hpv];exact Cal.perV_wf hok
  have hB2:Below w.heap.size w (W1'.setCell ⟨w.heap.size,1,none⟩ (.int .i64 pv)):=(hB1.trans (hBp.mono hB1.size)).setCell (p:=⟨w.heap.size,1,none⟩) (Nat.le_refl _) _
  have hk2:(W1'.setCell ⟨w.heap.size,1,none⟩ (.int .i64 pv)).heap[w.heap.size]?=some (.cells #[.int .i64 bs,.int .i64 kd] 247 (0,0)):=by rw [hkd];exact heap_setCell_same W1' w.heap.size 1 _ _ (.int .i64 pv) hk1'
  obtain⟨W2,hW2⟩:∃ W2,W2=(W1'.setCell ⟨w.heap.size,1,none⟩ (.int .i64 pv)):=⟨_,rfl⟩
  rw [<- hW2] at hB2 hk2
  have HW2:=Z1 hW2
  clear hW2 hkd
  clear h1 h2 hBp hk1' hpv
  go_upto_region 9 with(fail)
  rw [<- HW2.out]
  clear k1' kf'
 rotate_left
 focus
  have b1:(bs==1)=false:=by simp [h1]
  have b2:(bs==2)=false:=by simp [h2]
  obtain⟨kd,hkd⟩:∃ kd,kd=d:=⟨_,rfl⟩
  have HKd:Hid (Tr.kdate b la bs d=kd):=by show _=_;rw [HK.out,hkd];rw [if_neg h1,if_neg h2]
  have hkw:Hid ((Lit.int .i64 kd).wf=true):=by show _=_;rw [hkd];exact hdd
  have hB2:Below w.heap.size w W1:=hB1
  have hk2:W1.heap[w.heap.size]?=some (.cells #[.int .i64 bs,.int .i64 kd] 247 (0,0)):=by rw [hkd];exact Hk1.out
  obtain⟨W2,hW2⟩:∃ W2,W2=W1:=⟨_,rfl⟩
  rw [<- hW2] at hB2 hk2
  have HW2:=Z1 hW2
  clear hW2 hkd
  clear h1 h2
  go_upto_region 9 with(fail)
  rw [<- HW2.out]
 all_goals
  have Hk2:=Z1 hk2
  have Hd2:=Z1 (Hd.out.below hB2)
  have HB2:=Z1 hB2
  have s2:w.heap.size<W2.heap.size:=some_lt hk2
  have sd2:bd<W2.heap.size:=some_lt Hd2.out.hb
  have hB2':B<=W2.heap.size:=by omega
  clear k1 kf z29 z1 z2 z3 hk2 z32
  obtain⟨kl,hkl⟩:=momKey bs kd hbs hkw.out
  have hz:∀ W,(zeroValue 249).run prog W=.ok (.agg #[.int .i64 0,.int .i64 0]) W:=fun W=>by kernel_rfl
  obtain⟨fv,hfv⟩:∃ fv,fv=f (.agg #[.int .i64 bs,.int .i64 kd]):=⟨_,rfl⟩
  have Hfv:=Z1 hfv
  clear hfv
  have hsh:Hid (∃ a1 a2:Int,(fv.getD (.agg #[.int .i64 0,.int .i64 0]))=.agg #[.int .i64 a1,.int .i64 a2]):=by
   show ∃ _ _,_
   cases hq:fv with
   | none=>exact⟨0,0,rfl⟩
   | some v=>exact⟨_,_,Hd2.out.hf bs kd v (by rw [<- Hfv.out,hq])⟩
  obtain⟨a1,a2,ha⟩:=hsh.out
  have hlk:∀ W',Below W2.heap.size W2 W'->(Instr.lookup 76 (.map (some mk)) (.agg #[.int .i64 bs,.int .i64 kd]) true).run prog W'=.ok (.tuple #[.agg #[.int .i64 a1,.int .i64 a2],.bool fv.isSome]) W':=fun W' hW'=>by
   rw [MapAt.lookOk (Hd2.out.below hW').hm momLaw underlying76 (hz W') hkl,<- Hfv.out,ha]
  have Hlk:=Z1 hlk
  clear hlk hz hsh
  have hS:Below W2.heap.size W2 W2.drew:=below_drawn (Below.refl _ _) 1
  refine wp_region_held (S:=Below W2.heap.size W2) (by kernel_rfl) ?_
  change wpAnyH _ _ _ _ _ _ _ _ (World.drew W2)
  obtain⟨W_0,hWd⟩:∃ W0,W0=W2.drew:=⟨_,rfl⟩
  rw [<- hWd] at hS ⊢
  clear hWd
  refine tk (i:=0) (v:=.pointer (some ⟨bd,0,none⟩)) rfl (.inl ⟨by rfl,fun W' hS'=>by go_simp⟩) hS ?_
  try simp only [z]
  refine tk (i:=1) (v:=.pointer (some ⟨bd,0,none⟩)) rfl (.inl ⟨by rfl,fun W' hS'=>by go_simp⟩) hS ?_
  try simp only [z]
  refine tk (i:=2) (v:=.pointer (some ⟨bd,30,none⟩)) rfl (.inl ⟨by rfl,fun W' hS'=>by go_simp⟩) hS ?_
  try simp only [z]
  refine tk (i:=3) (v:=.map (some mk)) rfl (.inl ⟨by rfl,fun W' hS'=>by have c0:=cr9 30 (gbox Hd2.out.hb hS' sd2);simp at c0;have c9:=some_lt (gbox Hd2.out.hb hS' sd2);go_simp⟩) hS ?_
  try simp only [z]
  refine tk (i:=4) (v:=.agg #[.int .i64 bs,.int .i64 kd]) rfl (yieldsIf_load_mid (by rfl) 247 _ rfl w.heap.size 0 rfl [.int .i64 bs,.int .i64 kd] _ (fun W' hS'=>range_of (gbox Hk2.out hS' s2)) underlying247 rfl momSize) hS ?_
  try simp only [z]
  refine tk (i:=5) (v:=.tuple #[.agg #[.int .i64 a1,.int .i64 a2],.bool fv.isSome]) rfl (.inl ⟨by rfl,fun W' hS'=>by have hl:=Hlk.out W' hS';go_simp⟩) hS ?_
  try simp only [z]
  refine tk (i:=6) (v:=.tuple #[.agg #[.int .i64 a1,.int .i64 a2],.bool fv.isSome]) rfl (.inl ⟨by rfl,fun W' hS'=>by go_simp⟩) hS ?_
  try simp only [z]
  refine tk (i:=7) (v:=.agg #[.int .i64 a1,.int .i64 a2]) rfl (.inl ⟨by rfl,fun W' hS'=>by go_simp⟩) hS ?_
  try simp only [z]
  refine tk (i:=8) (v:=.bool fv.isSome) rfl (.inl ⟨by rfl,fun W' hS'=>by go_simp⟩) hS ?_
  try simp only [z]
  refine rd9 9 (by kernel_rfl) rfl (fun K hK=>?_)
  obtain⟨W3,hW3,hB3,hr3,hz3⟩:=nw1 W_0 #[.int .i64 0,.int .i64 0] 249
  go_simp
  rw [<- hW3]
  clear hW3
  have hS3:=hS.trans (hB3.mono hS.size)
  refine hK.out _ _ hS3 (fun _=>?_)
  clear hK K
  try simp only [z]
  refine rd9 10 (by kernel_rfl) rfl (fun K hK=>?_)
  rw [if_pos (by rfl)]
  refine wp_store_row 249 _ _ none rfl rfl W_0.heap.size 249 _ #[.int .i64 a1,.int .i64 a2] rfl rfl hr3 rfl fouSize (by simp [Value.oneCell']) ?_
  have hS4:=below_setRow hS3 (show W2.heap.size<=W_0.heap.size from hS.size) #[.int .i64 a1,.int .i64 a2]
  have hr4:=setRow_heap W3 W_0.heap.size _ #[.int .i64 a1,.int .i64 a2] _ _ hr3
  refine hK.out _ _ hS4 (fun _=>?_)
  clear hK K
  try simp only [z]
  refine rd9 11 (by kernel_rfl) rfl (fun K hK=>?_)
  go_simp
  refine hK.out _ _ hS4 (fun _=>?_)
  clear hK K
  try simp only [z]
  refine wpAnyH_done (by kernel_rfl) ?_ _
  try simp only [z]
  obtain⟨W4,hW4⟩:∃ W4,W4=W3.setRow W_0.heap.size #[.int .i64 a1,.int .i64 a2]:=⟨_,rfl⟩
  have hq2:W2.heap.size<=W_0.heap.size:=hS.size
  rw [<- hW4] at hS4 hr4 ⊢
  clear hW4 hS hS3 hB3 hr3 hz3
  obtain⟨q9,hq9⟩:∃ q9,q9=W_0.heap.size:=⟨_,rfl⟩
  rw [<- hq9] at hr4 hq2 ⊢
  clear hq9
  have HS4:=Z1 hS4
  have Hr4:=Z1 hr4
  have s9:q9<W4.heap.size:=some_lt hr4
  have HBw4:=Z1 (HB2.out.trans (hS4.mono HB2.out.size))
  clear hr4 hS4
  cases hfs:fv.isSome with
  | true =>
   obtain⟨v,hv⟩:=Option.isSome_iff_exists.1 hfs
   have hvv:=Hd2.out.hf bs kd v (by rw [<- Hfv.out,hv])
   have HR:Hid (Tr.look b cur la bs d=(a1,a2)):=by
    show _=_
    rw [HV.out,HKd.out]
    rw [hv,Option.getD_some] at ha
    rw [hvv] at ha
    simp only [Value.agg.injEq,Array.mk.injEq,List.cons.injEq,Value.int.injEq,true_and,and_true] at ha
    exact Prod.ext ha.1 ha.2
   have HD:=Z1 (Desks.mono ⟨f,Hd2.out.below HS4.out⟩ (Nat.le_succ nk))
   have c0:=cr9 0 Hr4.out
   have c1:=cr9 1 Hr4.out
   simp at c0 c1
   clear hv hvv ha hfs
   go_upto_region 15 with(fail)
   go_quiet (fail)
   go_wp2
   go_ret2
   exact⟨Kp.of (below_drawn HBw4.out _) hB,by rw [HR.out];rfl,HD.out.below (below_drawn (Below.refl _ _) _)⟩
  | false =>
  have HFN:Hid (fv=none):=by show _=_;cases fv with
   | none=>rfl
   | some v=>cases hfs
  clear hfs ha
  by_cases h2:bs=2
  try any_goals (exfalso;simp [h2] at b2;done)
  all_goals
   first
   |guard_hyp h2:bs=2
    have b3:(bs==2)=true:=by simp [h2]
    go_upto_region 12 with(fail)
    have hS:Below W2.heap.size W2 W4.drew:=below_drawn HS4.out 1
    refine wp_region_held (S:=Below W2.heap.size W2) (by kernel_rfl) ?_
    change wpAnyH _ _ _ _ _ _ _ _ (World.drew W4)
    obtain⟨W_1,hWd⟩:∃ W0,W0=W4.drew:=⟨_,rfl⟩
    have hB41:Below W4.heap.size W4 W_1:=by rw [hWd];exact below_drawn (Below.refl _ _) 1
    rw [<- hWd] at hS ⊢
    clear hWd
    refine tk (i:=0) (v:=.pointer (some ⟨bd,0,none⟩)) rfl (.inl ⟨by rfl,fun W' hS'=>by go_simp⟩) hS ?_
    try simp only [z]
    refine tk (i:=1) (v:=.pointer (some ⟨bd,0,none⟩)) rfl (.inl ⟨by rfl,fun W' hS'=>by go_simp⟩) hS ?_
    try simp only [z]
    refine tk (i:=2) (v:=.pointer (some ⟨bd,0,none⟩)) rfl (.inl ⟨by rfl,fun W' hS'=>by go_simp⟩) hS ?_
    try simp only [z]
    refine tk (i:=3) (v:=.pointer (some ⟨bd,0,none⟩)) rfl (.inl ⟨by rfl,fun W' hS'=>by go_simp⟩) hS ?_
    try simp only [z]
    refine tk (i:=4) (v:=.agg #[.string (b.g).cur,.int .i64 (b.g).Y,.int .i64 (b.g).M,.int .i64 (b.g).N,.slice (b.g).cA (b.g).cn (b.g).cc,.int .i64 (b.g).r0,.int .i64 (b.g).r1,.int .i64 (b.g).r2,.int .i64 (b.g).r3,.int .i64 (b.g).r4,.int .i64 (b.g).r5,.int .i64 (b.g).r6,.int .i64 (b.g).r7,.int .i64 (b.g).r8,.int .i64 (b.g).r9,.int .i64 (b.g).r10,.int .i64 (b.g).r11,.int .i64 (b.g).r12,.int .i64 (b.g).r13,.int .i64 (b.g).r14,.slice (b.g).eA (b.g).en (b.g).ec]) rfl (yieldsIf_load_mid (by rfl) 29 _ rfl bd 0 rfl [.string (b.g).cur,.int .i64 (b.g).Y,.int .i64 (b.g).M,.int .i64 (b.g).N,.slice (b.g).cA (b.g).cn (b.g).cc,.int .i64 (b.g).r0,.int .i64 (b.g).r1,.int .i64 (b.g).r2,.int .i64 (b.g).r3,.int .i64 (b.g).r4,.int .i64 (b.g).r5,.int .i64 (b.g).r6,.int .i64 (b.g).r7,.int .i64 (b.g).r8,.int .i64 (b.g).r9,.int .i64 (b.g).r10,.int .i64 (b.g).r11,.int .i64 (b.g).r12,.int .i64 (b.g).r13,.int .i64 (b.g).r14,.slice (b.g).eA (b.g).en (b.g).ec] _ (fun W' hS'=>fun j v hj=>by have:=cr9 j (gbox Hd2.out.hb hS' sd2);rw [Nat.zero_add,this];exact dsk_get hj) underlying29 rfl grpSize) hS ?_
    try simp only [z]
    refine tk (i:=5) (v:=.pointer (some ⟨bd,0,none⟩)) rfl (.inl ⟨by rfl,fun W' hS'=>by go_simp⟩) hS ?_
    try simp only [z]
    refine tk (i:=6) (v:=.pointer (some ⟨bd,0,none⟩)) rfl (.inl ⟨by rfl,fun W' hS'=>by go_simp⟩) hS ?_
    try simp only [z]
    refine tk (i:=7) (v:=.pointer (some ⟨bd,0,none⟩)) rfl (.inl ⟨by rfl,fun W' hS'=>by go_simp⟩) hS ?_
    try simp only [z]
    refine tk (i:=8) (v:=.pointer (some ⟨bd,22,none⟩)) rfl (.inl ⟨by rfl,fun W' hS'=>by go_simp⟩) hS ?_
    try simp only [z]
    refine tk (i:=9) (v:=.slice b.rA b.rn b.rc) rfl (.inl ⟨by rfl,fun W' hS'=>by have c0:=cr9 22 (gbox Hd2.out.hb hS' sd2);simp at c0;have c9:=some_lt (gbox Hd2.out.hb hS' sd2);go_simp⟩) hS ?_
    try simp only [z]
    refine tk (i:=10) (v:=.pointer (some ⟨bd,0,none⟩)) rfl (.inl ⟨by rfl,fun W' hS'=>by go_simp⟩) hS ?_
    try simp only [z]
    refine tk (i:=11) (v:=.pointer (some ⟨bd,0,none⟩)) rfl (.inl ⟨by rfl,fun W' hS'=>by go_simp⟩) hS ?_
    try simp only [z]
    refine tk (i:=12) (v:=.pointer (some ⟨bd,31,none⟩)) rfl (.inl ⟨by rfl,fun W' hS'=>by go_simp⟩) hS ?_
    try simp only [z]
    refine tk (i:=13) (v:=.string cur) rfl (.inl ⟨by rfl,fun W' hS'=>by have c0:=cr9 31 (gbox Hd2.out.hb hS' sd2);simp at c0;have c9:=some_lt (gbox Hd2.out.hb hS' sd2);go_simp⟩) hS ?_
    try simp only [z]
    refine tk (i:=14) (v:=.pointer (some ⟨w.heap.size,1,none⟩)) rfl (.inl ⟨by rfl,fun W' hS'=>by go_simp⟩) hS ?_
    try simp only [z]
    refine tk (i:=15) (v:=.int .i64 kd) rfl (.inl ⟨by rfl,fun W' hS'=>by have c0:=cr9 1 (gbox Hk2.out hS' s2);simp at c0;have c9:=some_lt (gbox Hk2.out hS' s2);go_simp⟩) hS ?_
    try simp only [z]
    refine rd9 16 (by kernel_rfl) rfl (fun K hK=>?_)
    have hb1:=(hb.below ((HB2.out.mono hB).trans (hS.mono hB2')) (Nat.le_refl _)).more (show B<=W_1.heap.size by have:=hS.size;omega)
    have HC:=Z1 (avgg_any W_1 b.g b.rA b.rn b.rc b.rates cur kd hb1.hrl (by have:=hb1.hrn;omega) hb1.hg.hn hcu hb1.hRw hb1.hR)
    go_simp
    refine HC.out.mono ?_
    rintro ev W5 ⟨rfl,hB5⟩
    obtain⟨r,hr⟩:∃ r,r=Rates.avgG b.g b.rates cur kd:=⟨_,rfl⟩
    rw [<- hr]
    have Hr:=Z1 hr
    clear hr
    have hS5:=hS.trans (hB5.mono hS.size)
    have hr5:=gbox (gbox Hr4.out hB41 s9) hB5 (some_lt (gbox Hr4.out hB41 s9))
    refine hK.out _ _ hS5 (fun _=>?_)
    clear hK K
    try simp only [z]
    refine tk (i:=17) (v:=.tuple #[.int .i64 r.1,.int .i64 r.2]) rfl (.inl ⟨by rfl,fun W' hS'=>by go_simp⟩) hS5 ?_
    try simp only [z]
    refine tk (i:=18) (v:=.int .i64 r.1) rfl (.inl ⟨by rfl,fun W' hS'=>by go_simp⟩) hS5 ?_
    try simp only [z]
    refine tk (i:=19) (v:=.int .i64 r.2) rfl (.inl ⟨by rfl,fun W' hS'=>by go_simp⟩) hS5 ?_
    try simp only [z]
    refine tk (i:=20) (v:=.pointer (some ⟨q9,0,none⟩)) rfl (.inl ⟨by rfl,fun W' hS'=>by go_simp⟩) hS5 ?_
    try simp only [z]
    refine rd9 21 (by kernel_rfl) rfl (fun K hK=>?_)
    have c0:=cr9 0 hr5
    simp at c0
    have cf:=fun j=>fr0 j hr5
    have s5:=some_lt hr5
    go_simp
    have hS6:=hS5.setCell (p:=⟨q9,0,none⟩) hq2 (.int .i64 r.1)
    have hr6:=heap_setCell_same W5 q9 0 _ _ (.int .i64 r.1) hr5
    simp at hr6
    refine hK.out _ _ hS6 (fun _=>?_)
    clear hK K
    try simp only [z]
    obtain⟨W6,hW6⟩:∃ W6,W6=W5.setCell ⟨q9,0,none⟩ (.int .i64 r.1):=⟨_,rfl⟩
    rw [<- hW6] at hS6 hr6 ⊢
    clear hW6 c0 cf s5
    refine tk (i:=22) (v:=.pointer (some ⟨q9,1,none⟩)) rfl (.inl ⟨by rfl,fun W' hS'=>by go_simp⟩) hS6 ?_
    try simp only [z]
    refine rd9 23 (by kernel_rfl) rfl (fun K hK=>?_)
    have c1:=cr9 1 hr6
    simp at c1
    have cf:=fun j=>fr0 j hr6
    have s6:=some_lt hr6
    go_simp
    have hS7:=hS6.setCell (p:=⟨q9,1,none⟩) hq2 (.int .i64 r.2)
    have hr7:=heap_setCell_same W6 q9 1 _ _ (.int .i64 r.2) hr6
    simp at hr7
    refine hK.out _ _ hS7 (fun _=>?_)
    clear hK K
    try simp only [z]
    refine wpAnyH_done (by kernel_rfl) ?_ _
    try simp only [z]
    obtain⟨W7,hW7⟩:∃ W7,W7=W6.setCell ⟨q9,1,none⟩ (.int .i64 r.2):=⟨_,rfl⟩
    rw [<- hW7] at hS7 hr7 ⊢
    have HRK:Hid (Tr.keyed b cur bs kd=r):=by show _=_;unfold Tr.keyed;rw [if_pos h2];exact Hr.out.symm
    have HS7:=Z1 hS7
    have Hr7:=Z1 hr7
    clear hW7 hS hS5 hS6 hS7 hr5 hr6 hr7 c1 cf s6 hB5 hB41 h2
    go_upto_region 14 with(fail)
   |have b3:(bs==2)=false:=by simp [h2]
    go_upto_region 13 with(fail)
    have hS:Below W2.heap.size W2 W4.drew:=below_drawn HS4.out 1
    refine wp_region_held (S:=Below W2.heap.size W2) (by kernel_rfl) ?_
    change wpAnyH _ _ _ _ _ _ _ _ (World.drew W4)
    obtain⟨W_1,hWd⟩:∃ W0,W0=W4.drew:=⟨_,rfl⟩
    have hB41:Below W4.heap.size W4 W_1:=by rw [hWd];exact below_drawn (Below.refl _ _) 1
    rw [<- hWd] at hS ⊢
    clear hWd
    refine tk (i:=0) (v:=.pointer (some ⟨bd,0,none⟩)) rfl (.inl ⟨by rfl,fun W' hS'=>by go_simp⟩) hS ?_
    try simp only [z]
    refine tk (i:=1) (v:=.pointer (some ⟨bd,0,none⟩)) rfl (.inl ⟨by rfl,fun W' hS'=>by go_simp⟩) hS ?_
    try simp only [z]
    refine tk (i:=2) (v:=.pointer (some ⟨bd,0,none⟩)) rfl (.inl ⟨by rfl,fun W' hS'=>by go_simp⟩) hS ?_
    try simp only [z]
    refine tk (i:=3) (v:=.pointer (some ⟨bd,0,none⟩)) rfl (.inl ⟨by rfl,fun W' hS'=>by go_simp⟩) hS ?_
    try simp only [z]
    refine tk (i:=4) (v:=.agg #[.string (b.g).cur,.int .i64 (b.g).Y,.int .i64 (b.g).M,.int .i64 (b.g).N,.slice (b.g).cA (b.g).cn (b.g).cc,.int .i64 (b.g).r0,.int .i64 (b.g).r1,.int .i64 (b.g).r2,.int .i64 (b.g).r3,.int .i64 (b.g).r4,.int .i64 (b.g).r5,.int .i64 (b.g).r6,.int .i64 (b.g).r7,.int .i64 (b.g).r8,.int .i64 (b.g).r9,.int .i64 (b.g).r10,.int .i64 (b.g).r11,.int .i64 (b.g).r12,.int .i64 (b.g).r13,.int .i64 (b.g).r14,.slice (b.g).eA (b.g).en (b.g).ec]) rfl (yieldsIf_load_mid (by rfl) 29 _ rfl bd 0 rfl [.string (b.g).cur,.int .i64 (b.g).Y,.int .i64 (b.g).M,.int .i64 (b.g).N,.slice (b.g).cA (b.g).cn (b.g).cc,.int .i64 (b.g).r0,.int .i64 (b.g).r1,.int .i64 (b.g).r2,.int .i64 (b.g).r3,.int .i64 (b.g).r4,.int .i64 (b.g).r5,.int .i64 (b.g).r6,.int .i64 (b.g).r7,.int .i64 (b.g).r8,.int .i64 (b.g).r9,.int .i64 (b.g).r10,.int .i64 (b.g).r11,.int .i64 (b.g).r12,.int .i64 (b.g).r13,.int .i64 (b.g).r14,.slice (b.g).eA (b.g).en (b.g).ec] _ (fun W' hS'=>fun j v hj=>by have:=cr9 j (gbox Hd2.out.hb hS' sd2);rw [Nat.zero_add,this];exact dsk_get hj) underlying29 rfl grpSize) hS ?_
    try simp only [z]
    refine tk (i:=5) (v:=.pointer (some ⟨bd,0,none⟩)) rfl (.inl ⟨by rfl,fun W' hS'=>by go_simp⟩) hS ?_
    try simp only [z]
    refine tk (i:=6) (v:=.pointer (some ⟨bd,0,none⟩)) rfl (.inl ⟨by rfl,fun W' hS'=>by go_simp⟩) hS ?_
    try simp only [z]
    refine tk (i:=7) (v:=.pointer (some ⟨bd,0,none⟩)) rfl (.inl ⟨by rfl,fun W' hS'=>by go_simp⟩) hS ?_
    try simp only [z]
    refine tk (i:=8) (v:=.pointer (some ⟨bd,22,none⟩)) rfl (.inl ⟨by rfl,fun W' hS'=>by go_simp⟩) hS ?_
    try simp only [z]
    refine tk (i:=9) (v:=.slice b.rA b.rn b.rc) rfl (.inl ⟨by rfl,fun W' hS'=>by have c0:=cr9 22 (gbox Hd2.out.hb hS' sd2);simp at c0;have c9:=some_lt (gbox Hd2.out.hb hS' sd2);go_simp⟩) hS ?_
    try simp only [z]
    refine tk (i:=10) (v:=.pointer (some ⟨bd,0,none⟩)) rfl (.inl ⟨by rfl,fun W' hS'=>by go_simp⟩) hS ?_
    try simp only [z]
    refine tk (i:=11) (v:=.pointer (some ⟨bd,0,none⟩)) rfl (.inl ⟨by rfl,fun W' hS'=>by go_simp⟩) hS ?_
    try simp only [z]
    refine tk (i:=12) (v:=.pointer (some ⟨bd,31,none⟩)) rfl (.inl ⟨by rfl,fun W' hS'=>by go_simp⟩) hS ?_
    try simp only [z]
    refine tk (i:=13) (v:=.string cur) rfl (.inl ⟨by rfl,fun W' hS'=>by have c0:=cr9 31 (gbox Hd2.out.hb hS' sd2);simp at c0;have c9:=some_lt (gbox Hd2.out.hb hS' sd2);go_simp⟩) hS ?_
    try simp only [z]
    refine tk (i:=14) (v:=.pointer (some ⟨w.heap.size,1,none⟩)) rfl (.inl ⟨by rfl,fun W' hS'=>by go_simp⟩) hS ?_
    try simp only [z]
    refine tk (i:=15) (v:=.int .i64 kd) rfl (.inl ⟨by rfl,fun W' hS'=>by have c0:=cr9 1 (gbox Hk2.out hS' s2);simp at c0;have c9:=some_lt (gbox Hk2.out hS' s2);go_simp⟩) hS ?_
    try simp only [z]
    refine rd9 16 (by kernel_rfl) rfl (fun K hK=>?_)
    have hb1:=(hb.below ((HB2.out.mono hB).trans (hS.mono hB2')) (Nat.le_refl _)).more (show B<=W_1.heap.size by have:=hS.size;omega)
    have HC:=Z1 (spotg_any W_1 b.g b.rA b.rn b.rc b.rates cur kd hb1.hrl (by have:=hb1.hrn;omega) hb1.hg.hn hcu hb1.hRw hb1.hR)
    go_simp
    refine HC.out.mono ?_
    rintro ev W5 ⟨rfl,hB5⟩
    obtain⟨r,hr⟩:∃ r,r=Rates.spotG b.g b.rates cur kd:=⟨_,rfl⟩
    rw [<- hr]
    have Hr:=Z1 hr
    clear hr
    have hS5:=hS.trans (hB5.mono hS.size)
    have hr5:=gbox (gbox Hr4.out hB41 s9) hB5 (some_lt (gbox Hr4.out hB41 s9))
    refine hK.out _ _ hS5 (fun _=>?_)
    clear hK K
    try simp only [z]
    refine tk (i:=17) (v:=.tuple #[.int .i64 r.1,.int .i64 r.2]) rfl (.inl ⟨by rfl,fun W' hS'=>by go_simp⟩) hS5 ?_
    try simp only [z]
    refine tk (i:=18) (v:=.int .i64 r.1) rfl (.inl ⟨by rfl,fun W' hS'=>by go_simp⟩) hS5 ?_
    try simp only [z]
    refine tk (i:=19) (v:=.int .i64 r.2) rfl (.inl ⟨by rfl,fun W' hS'=>by go_simp⟩) hS5 ?_
    try simp only [z]
    refine tk (i:=20) (v:=.pointer (some ⟨q9,0,none⟩)) rfl (.inl ⟨by rfl,fun W' hS'=>by go_simp⟩) hS5 ?_
    try simp only [z]
    refine rd9 21 (by kernel_rfl) rfl (fun K hK=>?_)
    have c0:=cr9 0 hr5
    simp at c0
    have cf:=fun j=>fr0 j hr5
    have s5:=some_lt hr5
    go_simp
    have hS6:=hS5.setCell (p:=⟨q9,0,none⟩) hq2 (.int .i64 r.1)
    have hr6:=heap_setCell_same W5 q9 0 _ _ (.int .i64 r.1) hr5
    simp at hr6
    refine hK.out _ _ hS6 (fun _=>?_)
    clear hK K
    try simp only [z]
    obtain⟨W6,hW6⟩:∃ W6,W6=W5.setCell ⟨q9,0,none⟩ (.int .i64 r.1):=⟨_,rfl⟩
    rw [<- hW6] at hS6 hr6 ⊢
    clear hW6 c0 cf s5
    refine tk (i:=22) (v:=.pointer (some ⟨q9,1,none⟩)) rfl (.inl ⟨by rfl,fun W' hS'=>by go_simp⟩) hS6 ?_
    try simp only [z]
    refine rd9 23 (by kernel_rfl) rfl (fun K hK=>?_)
    have c1:=cr9 1 hr6
    simp at c1
    have cf:=fun j=>fr0 j hr6
    have s6:=some_lt hr6
    go_simp
    have hS7:=hS6.setCell (p:=⟨q9,1,none⟩) hq2 (.int .i64 r.2)
    have hr7:=heap_setCell_same W6 q9 1 _ _ (.int .i64 r.2) hr6
    simp at hr7
    refine hK.out _ _ hS7 (fun _=>?_)
    clear hK K
    try simp only [z]
    refine wpAnyH_done (by kernel_rfl) ?_ _
    try simp only [z]
    obtain⟨W7,hW7⟩:∃ W7,W7=W6.setCell ⟨q9,1,none⟩ (.int .i64 r.2):=⟨_,rfl⟩
    rw [<- hW7] at hS7 hr7 ⊢
    have HRK:Hid (Tr.keyed b cur bs kd=r):=by show _=_;unfold Tr.keyed;rw [if_neg h2];exact Hr.out.symm
    have HS7:=Z1 hS7
    have Hr7:=Z1 hr7
    clear hW7 hS hS5 hS6 hS7 hr5 hr6 hr7 c1 cf s6 hB5 hB41 h2
    go_upto_region 14 with(fail)
  all_goals
   have hd7:=Hd2.out.below HS7.out
   have hk7:=gbox Hk2.out HS7.out s2
   have s97:=some_lt Hr7.out
   have hS:(fun W':World=>W'.heap[bd]?=some (.cells #[.string b.g.cur,.int .i64 b.g.Y,.int .i64 b.g.M,.int .i64 b.g.N,.slice b.g.cA b.g.cn b.g.cc,.int .i64 b.g.r0,.int .i64 b.g.r1,.int .i64 b.g.r2,.int .i64 b.g.r3,.int .i64 b.g.r4,.int .i64 b.g.r5,.int .i64 b.g.r6,.int .i64 b.g.r7,.int .i64 b.g.r8,.int .i64 b.g.r9,.int .i64 b.g.r10,.int .i64 b.g.r11,.int .i64 b.g.r12,.int .i64 b.g.r13,.int .i64 b.g.r14,.slice b.g.eA b.g.en b.g.ec,.slice b.eA b.en b.ec,.slice b.rA b.rn b.rc,.slice b.hA b.hn b.hc,b.m0,b.m1,b.m2,.int .i64 e,.int .i64 p,.int .i64 la,.map (some mk),.string cur,.bool true] 78 (0,0))/\W'.heap[w.heap.size]?=some (.cells #[.int .i64 bs,.int .i64 kd] 247 (0,0))/\W'.heap[q9]?=some (.cells #[.int .i64 r.1,.int .i64 r.2] 249 (0,0))) W7.drew:=⟨hd7.hb,hk7,Hr7.out⟩
   refine wp_region_held (S:=fun W':World=>W'.heap[bd]?=some (.cells #[.string b.g.cur,.int .i64 b.g.Y,.int .i64 b.g.M,.int .i64 b.g.N,.slice b.g.cA b.g.cn b.g.cc,.int .i64 b.g.r0,.int .i64 b.g.r1,.int .i64 b.g.r2,.int .i64 b.g.r3,.int .i64 b.g.r4,.int .i64 b.g.r5,.int .i64 b.g.r6,.int .i64 b.g.r7,.int .i64 b.g.r8,.int .i64 b.g.r9,.int .i64 b.g.r10,.int .i64 b.g.r11,.int .i64 b.g.r12,.int .i64 b.g.r13,.int .i64 b.g.r14,.slice b.g.eA b.g.en b.g.ec,.slice b.eA b.en b.ec,.slice b.rA b.rn b.rc,.slice b.hA b.hn b.hc,b.m0,b.m1,b.m2,.int .i64 e,.int .i64 p,.int .i64 la,.map (some mk),.string cur,.bool true] 78 (0,0))/\W'.heap[w.heap.size]?=some (.cells #[.int .i64 bs,.int .i64 kd] 247 (0,0))/\W'.heap[q9]?=some (.cells #[.int .i64 r.1,.int .i64 r.2] 249 (0,0))) (by kernel_rfl) ?_
   change wpAnyH _ _ _ _ _ _ _ _ (World.drew W7)
   obtain⟨W_1,hWd⟩:∃ W0,W0=W7.drew:=⟨_,rfl⟩
   have hB71:Below W7.heap.size W7 W_1:=by rw [hWd];exact below_drawn (Below.refl _ _) 1
   rw [<- hWd] at hS ⊢
   clear hWd
   refine tk (i:=0) (v:=.pointer (some ⟨bd,0,none⟩)) rfl (.inl ⟨by rfl,fun W' hS'=>by go_simp⟩) hS ?_
   try simp only [z]
   refine tk (i:=1) (v:=.pointer (some ⟨bd,0,none⟩)) rfl (.inl ⟨by rfl,fun W' hS'=>by go_simp⟩) hS ?_
   try simp only [z]
   refine tk (i:=2) (v:=.pointer (some ⟨bd,30,none⟩)) rfl (.inl ⟨by rfl,fun W' hS'=>by go_simp⟩) hS ?_
   try simp only [z]
   refine tk (i:=3) (v:=.map (some mk)) rfl (.inl ⟨by rfl,fun W' hS'=>by have c0:=cr9 30 hS'.1;simp at c0;have c9:=some_lt hS'.1;go_simp⟩) hS ?_
   try simp only [z]
   refine tk (i:=4) (v:=.agg #[.int .i64 bs,.int .i64 kd]) rfl (yieldsIf_load_mid (by rfl) 247 _ rfl w.heap.size 0 rfl [.int .i64 bs,.int .i64 kd] _ (fun W' hS'=>range_of hS'.2.1) underlying247 rfl momSize) hS ?_
   try simp only [z]
   refine tk (i:=5) (v:=.agg #[.int .i64 r.1,.int .i64 r.2]) rfl (yieldsIf_load_mid (by rfl) 249 _ rfl q9 0 rfl [.int .i64 r.1,.int .i64 r.2] _ (fun W' hS'=>range_of hS'.2.2) underlying249 rfl fouSize) hS ?_
   try simp only [z]
   refine rd9 6 (by kernel_rfl) rfl (fun K hK=>?_)
   have hm7:=(hd7.below hB71).hm
   have hmx:nk<maxLen:=by unfold maxLen;omega
   refine wp_mapUpdate_at _ _ _ rfl hm7 momLaw underlying76 rfl hmx _ _ _ rfl rfl hkl ?_
   intro W8 hm8 hg8
   have e1:=(hg8.block bd (some_lt hS.1) (fun q=>map_ne_cells hm7 hS.1 (Option.some.inj q).symm)).trans hS.1
   have e2:=(hg8.block w.heap.size (some_lt hS.2.1) (fun q=>map_ne_cells hm7 hS.2.1 (Option.some.inj q).symm)).trans hS.2.1
   have e3:=(hg8.block q9 (some_lt hS.2.2) (fun q=>map_ne_cells hm7 hS.2.2 (Option.some.inj q).symm)).trans hS.2.2
   refine hK.out _ _ ⟨e1,e2,e3⟩ (fun _=>?_)
   clear hK K
   try simp only [z]
   refine wpAnyH_done (by kernel_rfl) ?_ _
   try simp only [z]
   have HD8:=Z1 (desk_put (hd7.below hB71) (bs:=bs) (d:=kd) (by rw [HRK.out];exact hm8) hg8)
   have hB7:B<=W_1.heap.size:=by have:=HS7.out.size;have:=hB71.size;omega
   have HB8:=Z1 ((Kp.of (mk:=mk) ((HB2.out.trans (HS7.out.mono HB2.out.size)).trans (hB71.mono (by have:=HS7.out.size;omega))) hB).trans (Kp.grown hg8 hB7 Hd2.out.hB2))
   have HR:Hid (Tr.look b cur la bs d=(r.1,r.2)):=by show _=_;rw [HV.out,HKd.out,HRK.out]
   have c0:=cr9 0 e3
   have c1:=cr9 1 e3
   simp at c0 c1
   have s98:=some_lt e3
   have hB8:B<=W8.heap.size:=by have:=hg8.size;omega
   clear hS hd7 hk7 hm7 hm8 hg8 e1 e2 e3 hB71
   go_upto_region 15 with(fail)
   go_quiet (fail)
   go_wp2
   go_ret2
   exact⟨HB8.out.trans (Kp.of (below_drawn (Below.refl _ _) _) hB8),by rw [HR.out];rfl,HD8.out.below (below_drawn (Below.refl _ _) _)⟩
end
end Go.Proofs.YtniaimjknmhapaaGreatDoor
