/- My texts RefH2, HVal, OfA, OfB, CurW, MatW. -/
import Derived.Test.YtniaimjknmhapaaGreatDoorG31
set_option linter.unusedVariables false
set_option linter.unusedSimpArgs false
set_option maxRecDepth 100000
set_option maxHeartbeats 16000000
namespace Go.Proofs.YtniaimjknmhapaaGreatDoor
open Go.RowKit
section
variable (w:World)
theorem Hd.validR_key {n:Nat} {l:List Hld} {i:Nat} (hi:i<l.length) (h:Hd.keyAt n l i=false):Hd.validR n l=false:=by
 unfold Hd.validR Hd.okAll;have:(List.range l.length).all (Hd.keyAt n l)=false:=List.all_eq_false.2 ⟨i,List.mem_range.2 hi,by simp [h]⟩;rw [this];simp
theorem Hd.okAll_shr {n:Nat} {l:List Hld} (h:Hd.okAll n l=true):∀ x∈l,0<=x.shr/\x.shr<=10000:=by
 intro x hx;obtain⟨i,hi,rfl⟩:=List.getElem_of_mem hx;unfold Hd.okAll at h;rw [List.all_eq_true] at h;have h1:=h i (List.mem_range.2 hi);unfold Hd.keyAt at h1;rw [Hd.hat_lt hi] at h1;simp only [Bool.and_eq_true] at h1;exact Hd.proper_shr h1.1
theorem Hd.range_all_succ {f:Nat->Bool} {k:Nat} (h:(List.range k).all f=true) (hk:f k=true):(List.range (k+1)).all f=true:=by
 rw [List.range_succ,List.all_append,h];simp [hk]
end
open Go.Proofs.Tryz Go.RowKit
theorem hldLaw:Maps.Keyed prog 61:=Maps.Keyed.of_law (deep_law_laid laidOut (m:=2) oM (of_decide_eq_true kR) kR kR)
theorem hldKey (a b c d:Int) (ha:(Lit.int .i64 a).wf=true) (hb:(Lit.int .i64 b).wf=true) (hc:(Lit.int .i64 c).wf=true) (hd:(Lit.int .i64 d).wf=true):∃ kl,keyOf prog 61 (.agg #[a,b,c,d])=some kl:=by
 unfold keyOf;rw [underlying61];have h1:prog.keyType 61=true:=kR;have c3:prog.cellsOf 61=4:=kR
 have h2:(Value.agg #[a,b,c,d]).formed prog 61=true:=by
  simp [Value.formed,underlying61,c3]
 simp only [h1,h2,Bool.and_self,if_true];have h3:∃ n,prog.types.size=n+1:=⟨prog.types.size-1,by have:0<prog.types.size:=of_decide_eq_true kR;omega⟩;obtain⟨n,hn⟩:=h3;rw [hn];have c1:prog.cellsOf 3=1:=kR;simp [Program.keyLits,underlying61,underlying3,Value.cells,c1,c3,ha,hb,hc,hd]
def SeenH (w:World) (b:Nat) (l:List Hld) (k:Nat):Prop :=
 ∃ f,MapAt w prog 61 b k f/\∀ y:Hld,f (.agg #[y.hdr,y.ent,y.date,()])=if (l.take k).any (fun r=>Hd.same r y)=true then some (.bool true) else none
theorem SeenH.lt {w:World} {b k:Nat} {l:List Hld} (h:SeenH w b l k):b<w.heap.size:=by obtain⟨f,h,_⟩:=h;exact h.lt
theorem SeenH.below {w w':World} {b B k:Nat} {l:List Hld} (h:SeenH w b l k) (hb:Below B w w') (hB:b<B):SeenH w' b l k:=by obtain⟨f,h,r⟩:=h;exact⟨f,h.below hb hB,r⟩
theorem SeenH.made (w:World) (l:List Hld):SeenH (w.alloc (.map #[] 0)) w l 0:=⟨_,MapAt.made w _ _,fun y=>sP⟩
theorem SeenH.look {w:World} {b k:Nat} {l:List Hld} (h:SeenH w b l k) (y:Hld) (hx:(Lit.int .i64 y.hdr).wf=true) (hy:(Lit.int .i64 y.ent).wf=true) (hz:(Lit.int .i64 y.date).wf=true) :
  (Instr.lookup 178 (.map (some b)) (.agg #[y.hdr,y.ent,y.date,()]) false).run prog w=.ok (.bool ((l.take k).any (fun r=>Hd.same r y))) w:=by
 obtain⟨f,hm,hf⟩:=h;obtain⟨kl,hk⟩:=hldKey y.hdr y.ent y.date 0 hx hy hz rfl;have hzz:(zeroValue 4).run prog w=.ok (.bool false) w:=kR;rw [hm.lookup hldLaw underlying178 hzz hk,hf]
 cases (l.take k).any (fun r=>Hd.same r y) <;> rfl
open Classical in
theorem a7G {l:List Hld} {k:Nat} (hk:k<l.length) (f:Value->Option Value) (hf:∀ y:Hld,f (.agg #[y.hdr,y.ent,y.date,()])=if (l.take k).any (fun r=>Hd.same r y)=true then some (.bool true) else none) (x:Hld) (hx:x=l[k]) :
  ∀ y:Hld,(fun v=>if v=.agg #[x.hdr,x.ent,x.date,()] then some (Value.bool true) else f v) (.agg #[y.hdr,y.ent,y.date,()])=if (l.take (k+1)).any (fun r=>Hd.same r y)=true then some (.bool true) else none:=by
 intro y;show(if _ then _ else f _)=_;rw [tse hk,List.any_append,<- hx]
 by_cases h:x.hdr=y.hdr/\x.ent=y.ent/\x.date=y.date
 ·obtain⟨h1,h2,h3⟩:=h
  have hs:Hd.same x y=true:=by unfold Hd.same;simp [h1,h2,h3]
  rw [if_pos (by rw [h1,h2,h3]),if_pos (by simp [hs])]
 ·rw [if_neg (by
   intro e;simp only [Value.agg.injEq,Array.mk.injEq,List.cons.injEq,Value.int.injEq,true_and,and_true] at e;exact h ⟨e.1.symm,e.2.1.symm,e.2.2.symm⟩),hf]
  have h':Hd.same x y=false:=by
   cases hs:Hd.same x y with
   | false=>rfl
   | true=>exfalso;apply h;unfold Hd.same at hs;simp at hs;exact⟨hs.1.1,hs.1.2,hs.2⟩
  simp [h']
theorem Hd.valid_key {n:Nat} {l:List Hld} {i:Nat} (hi:i<l.length) (h:Hd.keyAt n l i=false):Hd.valid n l=false:=by
 rw [Hd.valid_eq];exact Hd.validR_key hi h
theorem Hd.keyAt_eq {n:Nat} {l:List Hld} {i:Nat} (hi:i<l.length) (x:Hld) (hx:x=l[i]):Hd.keyAt n l i=(Hd.proper n x&&!(l.take i).any (fun r=>Hd.same r x)):=by
 unfold Hd.keyAt;rw [Hd.hat_lt hi,<- hx]
section
variable (w:World)
theorem a1Z (m:Nat) (A:Option Addr) (n c:Nat) (l:List Hld) (hm:m<=100000) (hl:l.length=n) (hn:n<=200) (hw:∀ x∈l,x.wf) (hA:RowsAt Hld.cells 4 w w A l) :
  CL 49 #[m,.slice A n c] w (Hd.valid m l):=by
 obtain⟨HA,Hl,HWf,HM0,HB0⟩:=Z5 hA hl hw (SeenH.made w l) ((Below.refl w w).alloc lR (.map #[] 0));have hmm:=@run_makeMap prog;obtain⟨v,hv⟩:∃ v,v=Hd.valid m l:=⟨_,rfl⟩;rw [<- hv];have HV:=Z1 hv;clear hA hl hv hw;have n9:¬ (n:Int) > 200:=oM
 by_cases h1:1<=m
 case neg =>
  have k1:(m:Int)<1:=oM;have HV2:Hid (v=false):=by show _=_;rw [HV.out];unfold Hd.valid;rw [decide_eq_false oM];simp
  go_enter func49,ntmps49;go_wp2;go_ret;exact⟨by rw [HV2.out];rfl,bR⟩
 have k1:¬ (m:Int)<1:=oM
 by_cases h2:m<=12
 case neg =>
  have k2:(m:Int) > 12:=oM;have HV2:Hid (v=false):=by show _=_;rw [HV.out];unfold Hd.valid;rw [decide_eq_false oM];simp
  go_enter func49,ntmps49;go_wp2;go_ret;exact⟨by rw [HV2.out];rfl,bR⟩
 have k2:¬ (m:Int) > 12:=oM
 have HV3:Hid (v=((List.range l.length).all (Hd.keyAt m l)&&(Hd.dates l).all (Hd.most l m))):=by
  show _=_;rw [HV.out];unfold Hd.valid;rw [decide_eq_true oM,decide_eq_true (by have:=Hl.out;omega)];simp
 go_enter func49,ntmps49;go_wp2
 go_loopw [26] (fun i wr=>∃ k:Nat,k<=n/\i=.int .i64 k/\Hid ((List.range k).all (Hd.keyAt m l)=true)/\SeenH wr w l k/\Below w w wr) (fun i _=>n-(intOf i).toNat)
 case atStart=>exact⟨0,Nat.zero_le _,rfl,Z1 rfl,HM0.out,HB0.out⟩
 case round =>
  obtain⟨k,hk,rfl,HK,hm0,hb⟩:=hrel;have Hm:=Z1 hm0;have hgr:=hm0.lt;have hq:=hb.size;clear hm0 hmm
  by_cases hlt:k<n
  case neg =>
   obtain rfl:k=n:=oM;have hok:Hd.okAll m l=true:=by unfold Hd.okAll;rw [Hl.out];exact HK.out
   have HSh:=Z1 (Hd.okAll_shr hok)
   have HV4:Hid (v=(Hd.dates l).all (Hd.most l m)):=by
    show _=_;rw [HV3.out];unfold Hd.okAll at hok;rw [hok];rfl
   have HAr:=Z1 (RowsAt.more (RowsAt.below HA.out hb lR) hq);have Hdt:=Z1 (a9X wr A k c l Hl.out oM (fun x hx=>(HWf.out x hx).2.2.1) HAr.out)
   have hdn:(Hd.dates l).length<=200:=by
    unfold Hd.dates;rw [List.length_mergeSort];have:=Hd.keys_len (l.map (·.date));rw [List.length_map,Hl.out] at this;omega
   obtain⟨ds,hds⟩:∃ ds,ds=Hd.dates l:=⟨_,rfl⟩;rw [<- hds] at HV4 Hdt hdn;clear hok hds HM0 HB0 Hm;go_wp2_with (fail);refine Hdt.out.mono ?_;rintro e W2 ⟨hB2,A2,c2,_,rfl,hA2⟩;have HA2:=Z1 hA2;have hb2:=hb.trans (hB2.mono hq);have hq2:=hb2.size;clear hA2;go_wp2
   go_loopw [47] (fun i ws=>∃ q:Nat,q<=ds.length/\i=.int .i64 q/\Hid ((ds.take q).all (Hd.most l m)=true)/\Below W2 W2 ws) (fun i _=>ds.length-(intOf i).toNat)
   case atStart=>exact⟨0,Nat.zero_le _,rfl,Z1 rfl,bR⟩
   case round =>
    obtain⟨ws,rfl⟩:∃ ws,ws=wr:=⟨_,rfl⟩;obtain⟨q,hq3,rfl,HQ,hbs⟩:=hrel;have hbF:=hb2.trans (hbs.mono hq2);have hsz:=hbs.size
    by_cases hlt2:q<ds.length
    case neg =>
     obtain rfl:q=ds.length:=oM;have HV5:Hid (v=true):=by show _=_;rw [HV4.out];have:=HQ.out;rw [List.take_length] at this;exact this
     go_wp2;go_ret;exact⟨by rw [HV5.out];rfl,hbF⟩
    obtain⟨bb,o,rfl,hbB,hr⟩:=RowsAt.look (RowsAt.below HA2.out hbs lR) hlt2;obtain⟨d,hd⟩:∃ d,d=ds[q]:=⟨_,rfl⟩;have d0:=hr 0 _ rfl;rw [<- hd] at d0;simp at d0;have hbw:bb<ws.heap.size:=oM;have Hst:Hid ((ds.take (q+1)).all (Hd.most l m)=Hd.most l m d):=by show _=_;rw [tse hlt2,List.all_append,HQ.out,<- hd];simp
    have Hbd:Hid (Hd.most l m d=false->v=false):=Z1 (fun h=>by rw [HV4.out,List.all_eq_false];exact⟨d,by rw [hd];exact List.getElem_mem hlt2,by simp [h]⟩);clear hr hd;go_wp2
    go_loopw [52] (fun j wt=>∃ u:Nat,u<=m/\j=.int .i64 u/\Hid ((List.range u).all (fun(e:Nat)=>decide (Hd.total l e d<=10000))=true)/\Below ws ws wt) (fun j _=>m-(intOf j).toNat)
    case atStart=>exact⟨0,Nat.zero_le _,rfl,Z1 rfl,bR⟩
    case round =>
     obtain⟨wt,rfl⟩:∃ wt,wt=wr:=⟨_,rfl⟩;obtain⟨u,hu,rfl,HU,hbt⟩:=hrel;have hbT:=hbs.trans (hbt.mono hsz);have hbG:=hbF.trans (hbt.mono hbF.size)
     by_cases hlt3:u<m
     case neg =>
      obtain rfl:u=m:=oM;have HQ2:Hid ((ds.take (q+1)).all (Hd.most l u)=true):=by show _=_;rw [Hst.out];exact HU.out
      go_wp2;go_roundw
      case rel=>exact⟨q+1,oM,by go_num,HQ2,hbT⟩
      case measure=>simp [intOf];omega
     have HAt:=Z1 (RowsAt.more (RowsAt.below HA.out hbG lR) hbG.size);have Ht:=Z1 (a8y wt A k c l u d Hl.out oM (fun x hx=>(HWf.out x hx).1) HSh.out HAt.out);have HU2:Hid (Hd.total l u d<=10000->(List.range (u+1)).all (fun(e:Nat)=>decide (Hd.total l e d<=10000))=true):=Z1 (fun h=>Hd.range_all_succ HU.out (by simpa using h));have HU3:Hid (¬ Hd.total l u d<=10000->v=false):=Z1 (fun h=>Hbd.out (by unfold Hd.most;rw [List.all_eq_false];exact⟨u,List.mem_range.2 hlt3,by simpa using h⟩));obtain⟨t,ht⟩:∃ t,t=Hd.total l u d:=⟨_,rfl⟩;rw [<- ht] at Ht HU2 HU3;have hq4:=hbG.size;clear ht
     by_cases ht:t<=10000
     ·have q9:¬ t > 10000:=oM
      have HU4:=Z1 (HU2.out ht);clear ht;go_wp2_with (fail);refine Ht.out.mono ?_;rintro e W5 ⟨rfl,hB5⟩;go_wp2;go_roundw
      case rel=>exact⟨u+1,oM,by go_num,HU4,hbt.trans (hB5.mono hbt.size)⟩
      case measure=>simp [intOf];omega
     ·have q9:t > 10000:=oM
      have HV5:=Z1 (HU3.out ht);clear ht;go_wp2_with (fail);refine Ht.out.mono ?_;rintro e W5 ⟨rfl,hB5⟩;go_wp2;go_ret;exact⟨by rw [HV5.out];rfl,hbG.trans (hB5.mono hq4)⟩
  have hkl:k<l.length:=by have:=Hl.out;omega
  obtain⟨b,o,rfl,hbB,hr⟩:=RowsAt.look (RowsAt.below HA.out hb lR) hkl;obtain⟨x,hx⟩:∃ x,x=l[k]:=⟨_,rfl⟩;rw [<- hx] at hr;have hwx:=HWf.out x (by rw [hx];exact List.getElem_mem _);have hbw:b<wr.heap.size:=oM;obtain⟨Hr,Hkey,Hbad,Hstep⟩:=Z4 hr (Hd.keyAt_eq (n:=m) hkl x hx) (Hd.valid_key (n:=m) hkl) (fun f hf=>a7G hkl f hf x hx);obtain⟨Wa,hWa,hBs,hrs,hrk,hza⟩:=nw2 wr x #[x.hdr,x.ent,x.date,()] 61 61;have HWa:=Z1 hWa;have hbA:=hb.trans (hBs.mono hq);have hsA:=hbA.size;have t1:wr.heap.size<Wa.heap.size:=Vq hrs;have t2:wr.heap.size+1<Wa.heap.size:=Vq hrk;obtain⟨HmA,Hpr,Hrs,Hrk⟩:=Z4 (Hm.out.below hBs hgr) (a7V Wa m x) hrs hrk;clear hr hx hWa hza hrs hrk HM0 HB0;go_upto_region 9 with(refine wpList_load_mid rfl 61 (.tmp 28) rfl b (o+k*4) rfl x _ Hr.out underlying61 rfl a2I ?_);rw [<- HWa.out];have hload:=Hrs.out;go_wp2_with (refine wpList_load_row rfl 61 _ rfl _ rfl _ _ _ _ hload underlying61 rfl a2I ?_);refine Hpr.out.mono ?_;rintro e W3 ⟨rfl,hB3⟩;have hb3:=hbA.trans (hB3.mono hsA);have hk3:=gbox Hrk.out hB3 t2;have hm3:=HmA.out.below hB3 oM;have hlk:=hm3.look x hwx.1 hwx.2.1 hwx.2.2.1;have Hm3:=Z1 hm3;have t3:=Vq hk3;have hq3:=hb3.size;have hk3r:W3.rangeAt (wr.heap.size+1) 0 [x.hdr,x.ent,x.date,()]:=Xx hk3;clear hload hm3;obtain⟨pr,hpr⟩:∃ pr,pr=Hd.proper m x:=⟨_,rfl⟩;obtain⟨sm,hsm⟩:∃ sm,sm=(l.take k).any (fun r=>Hd.same r x):=⟨_,rfl⟩;rw [<- hpr,<- hsm] at Hkey;rw [<- hsm] at hlk;rw [<- hpr];clear hpr hsm;have Hlk:=Z1 hlk
  cases pr with
  | false =>
   have HV5:Hid (v=false):=by show _=_;rw [HV.out];exact Hbad.out (by rw [Hkey.out];rfl)
   clear hlk hk3;go_wp2;go_ret;exact⟨by rw [HV5.out];rfl,hb3⟩
  | true =>
  cases sm with
  | true =>
   have HV5:Hid (v=false):=by show _=_;rw [HV.out];exact Hbad.out (by rw [Hkey.out];rfl)
   go_wp2_with (refine Vk (by rfl) 61 (.tmp 8) rfl (wr.heap.size+1) 0 rfl [x.hdr,x.ent,x.date,()] _ hk3r underlying61 rfl a2I ?_);go_ret;exact⟨by rw [HV5.out];rfl,hb3⟩
  | false =>
   have HK2:Hid ((List.range (k+1)).all (Hd.keyAt m l)=true):=Z1 (Hd.range_all_succ HK.out (by rw [Hkey.out];rfl));obtain⟨f,hm,hf⟩:=Hm3.out;have Hstep2:=Z1 (Hstep.out f hf);obtain⟨kl,hkl5⟩:=hldKey x.hdr x.ent x.date 0 hwx.1 hwx.2.1 hwx.2.2.1 rfl;clear hf;go_wp2_with (first | (refine Vk (by rfl) 61 (.tmp 8) rfl (wr.heap.size+1) 0 rfl [x.hdr,x.ent,x.date,()] _ hk3r underlying61 rfl a2I ?_) | (at_mapUpdate;refine Xk rfl _ _ _ rfl hm hldLaw underlying178 rfl (by unfold maxLen;omega) _ _ _ rfl rfl hkl5 ?_;intro w7 hm7 hg7));have hb7:=hb3.grown hg7 hq3 (fun j e=>by cases e;exact lR);go_wp2;go_roundw
   case rel=>exact⟨k+1,oM,by go_num,HK2,⟨_,hm7,Hstep2.out⟩,hb7⟩
   case measure=>simp [intOf];omega
end
open Go.Proofs.Tryz Go.RowKit
def IvsPost (l:List Itv) (w:World) (e:Ending) (w':World):Prop :=
 Below w w w'/\∃ A c,e=.returned (.tuple #[.slice A l.length c,()])/\ItvsAt w' w' A l
theorem b2p {w:World} {a:Addr} {v:Value} (h:w.cell? a=some v):(loadVar 119 a).run prog w=.ok v w:=by
 unfold loadVar;simp [Sem.run_bind,Tryz.isAgg119,h,Result.andThen]
theorem b2q {w:World} {a:Addr} {v:Value} (h:w.cell? a=some v):(loadVar 47 a).run prog w=.ok v w:=by
 unfold loadVar;simp [Sem.run_bind,Tryz.isAgg47,h,Result.andThen]
section
variable (w:World)
theorem b1s (g:Grp) (A:Option Addr) (n c:Nat) (l:List Hld) (hg:g.At w w) (hl:l.length=n) (hn:n<=200) (hw:∀ x∈l,x.wf) (hA:HldsAt w w A l) (hv:Hd.valid g.ents.length l=true) :
  Calls prog 100 #[g,.slice A n c,()] w (IvsPost [⟨-25568,84006,3⟩] w):=by
 obtain⟨W0,hW0,hB0,hb0,hb1,hz0⟩:=nw2 w g #[.slice A n c] 29 32;obtain⟨W1,hW1,hB1,hb2,hb3,hz1⟩:=nw2 W0 #[()] #[.slice none 0 0] 3 119;obtain⟨W2,hW2,hB2,hb4,hz2⟩:=nw1 W1 #[()] 47;have hWW:W2=((((w.alloc (.cells g 29)).alloc (.cells #[.slice A n c] 32)).alloc (.cells #[()] 3)).alloc (.cells #[.slice none 0 0] 119)).alloc (.cells #[()] 47):=by rw [hW2,hW1,hW0]
 have HW:=Z1 hWW;have hB02:Below w w W2:=(hB0.trans (hB1.mono hB0.size)).trans (hB2.mono oM);have g0:W2.heap[w.heap.size]?=some (.cells g 29 (0,0)):=gbox (gbox hb0 hB1 oM) hB2 oM;have g1:W2.heap[w.heap.size+1]?=some (.cells #[.slice A n c] 32 (0,0)):=gbox (gbox hb1 hB1 oM) hB2 oM;have g2:W2.heap[w.heap.size+2]?=some (.cells #[()] 3 (0,0)):=by have:=gbox hb2 hB2 oM;rw [hz0] at this;exact this
 have g3:W2.heap[w.heap.size+3]?=some (.cells #[.slice none 0 0] 119 (0,0)):=by have:=gbox hb3 hB2 oM;rw [hz0] at this;exact this
 have g4:W2.heap[w.heap.size+4]?=some (.cells #[()] 47 (0,0)):=by have:=hb4;rw [hz1,hz0] at this;exact this
 have x20:=cr9 20 g0;have y0:=cr9 0 g1;simp at x20 y0;have s0:=Vq g0;have s1:=Vq g1;have hA2:=Z1 (RowsAt.at_ hA hB02);have Hel:=Z1 hg.hel;have hen:=hg.hen;have Hv:=Z1 hv
 have Hcall:Hid (∀ W,RowsAt Hld.cells 4 W W A l->CL 49 #[g.en,.slice A n c] W true):=Z1 (fun W h=>by
  have:=a1Z W g.ents.length A n c l (by have:=hg.hel;omega) hl hn hw h;rw [hv,hg.hel] at this;exact this)
 have hel1:1<=g.en:=by have:=hg.hel;unfold Hd.valid at hv;simp at hv;omega
 obtain⟨G2,G3,G4⟩:=Z3 g2 g3 g4;clear hW0 hW1 hW2 hWW hb0 hb1 hb2 hb3 hb4 hz0 hz1 hz2 hB0 hB1 hB2 g0 g1 g2 g3 g4 hg hA hv hw hl;go_enter func100,ntmps100;go_upto_region 1 with(fail);rw [<- HW.out];go_wp2_with (fail);refine(Hcall.out _ hA2.out).mono ?_;rintro e W3 ⟨rfl,hB3⟩;have hB03:=hB02.trans (hB3.mono hB02.size);have q2:=gbox G2.out hB3 (Vq G2.out);have q3:=gbox G3.out hB3 (Vq G3.out);have q4:=gbox G4.out hB3 (Vq G4.out);have z2:=cr9 0 q2;have z3:=cr9 0 q3;have z4:=cr9 0 q4;simp at z2 z3 z4;have t2:=Vq q2;have t3:=Vq q3;have t4:=Vq q4;have f3:=fun j=>fr0 j q3;have f4:=fun j=>fr0 j q4;have hne:¬ (0:Int) ≥ (g.en:Int):=oM;clear x20 y0;obtain⟨H3,H4,Hq,HB03⟩:=Z4 q3 q4 hB3.size hB03;clear q2 q3 q4;go_wp2;obtain⟨V1,hV1⟩:∃ V1,V1=(W3.setCell ⟨w.heap.size+1+1+1,0,none⟩ (.slice (some ⟨W3,0,none⟩) 1 1)).setCell ⟨w.heap.size+1+1+1+1,0,none⟩ (.int .i64 0):=⟨_,rfl⟩
 have v3:V1.heap[w.heap.size+3]?=some (.cells #[.slice (some ⟨W3,0,none⟩) 1 1] 119 (0,0)):=by
  rw [hV1];exact Row.other (Row.set H3.out 0 _) ⟨w.heap.size+1+1+1+1,0,none⟩ (by show w.heap.size+3≠w.heap.size+1+1+1+1;omega) _
 have v4:V1.heap[w.heap.size+4]?=some (.cells #[()] 47 (0,0)):=by
  rw [hV1];exact Row.set (Row.other H4.out ⟨w.heap.size+1+1+1,0,none⟩ (by show w.heap.size+4≠w.heap.size+1+1+1;omega) _) 0 _
 have hz1:V1.heap.size=W3.heap.size:=by rw [hV1];simp [World.setCell]
 have hBV:Below w w V1:=by rw [hV1];exact(HB03.out.setCell (p:=⟨w.heap.size+1+1+1,0,none⟩) (by show w.heap.size<=w.heap.size+1+1+1;omega) _).setCell (p:=⟨w.heap.size+1+1+1+1,0,none⟩) (by show w.heap.size<=w.heap.size+1+1+1+1;omega) _
 rw [<- hV1];obtain⟨V2,hV2,hB2,hr2,hz2⟩:=nw1 V1 #[(-25568:Int),(84006:Int),(3:Int)] 115;rw [<- hV2];have u3:=gbox v3 hB2 (Vq v3);have u4:=gbox v4 hB2 (Vq v4);have c3:=cr9 0 u3;have c4:=cr9 0 u4;simp at c3 c4;have l3:=Vq u3;have l4:=Vq u4
 have HP:Hid (Below w w V2/\ItvsAt V2 V2.heap.size (some ⟨W3,0,none⟩) [⟨-25568,84006,3⟩]):=by
  refine⟨hBV.trans (hB2.mono hBV.size),?_⟩;rw [<- hz1];exact a0z (f:=Itv.cells) (l:=[⟨-25568,84006,3⟩]) hr2 (Vq hr2) (fun _ _=>rfl)
 clear hV1 v3 v4 hBV hV2 hB2 hr2 u3 u4;have r3:=b2p c3;have r4:=b2q c4;exact bodyPost_ret (v:=.tuple #[.slice (some ⟨W3,0,none⟩) 1 1,()]) (by simp [results,results100,asAddr,r3,r4]) rfl ⟨HP.out.1,_,_,rfl,HP.out.2⟩
end
open Go.Proofs.Tryz Go.RowKit
section
variable (w:World)
theorem b1C (b:Bks) (e:Nat) (f lst:Int) (L:List Itv) (hL:L.length<=1000) (hb:b.At w w)
  (hI:∀ W:World,b.At W W.heap.size->Calls prog 100 #[b.g,.slice b.hA b.hn b.hc,e] W (IvsPost L W)) :
  Calls prog 54 #[.agg #[f,lst],b,e] w (DelPost w (L.filter (fun x=>!Iv.off f lst x)) w):=by
 obtain⟨W1,hW1,hB0,hs0,hb0,hz⟩:=nw2 w #[f,lst] b 113 36;obtain⟨HW,HB1,HB0,Hs0⟩:=Z4 hW1 (hb.at_ hB0) hB0 hs0;have hrg:Hid (∀ j v,(b.g:List Value)[j]?=some v->W1.cell? ⟨w.heap.size+1,0+j,none⟩=some v):=fun j v hj=>by have:=cr9 j hb0;rw [Nat.zero_add,this];exact a1C hj
 have x23:=cr9 23 hb0;simp at x23;have s1:=Vq hb0;have s0:=Vq hs0;have Hi:=Z1 (hI W1 HB1.out);clear hW1 hz hb0 hs0 hb hB0 hI;go_enter func54,ntmps54;go_upto_region 1 with(fail);rw [<- HW.out];go_wp2_with (refine Vk (by rfl) 29 (.tmp 10) rfl (w.heap.size+1) 0 rfl _ _ hrg.out underlying29 rfl VJ ?_);refine Hi.out.mono ?_;rintro ev W2 ⟨hB2,A,c,rfl,hA⟩;have HB2:=Z1 hB2;have hq2:=hB2.size;have Hcl:=Z1 (b0d W2 A L.length c L rfl oM hA);clear x23 hA hB2;go_wp2_with (fail);refine Hcl.out.mono ?_;rintro ev W3 ⟨hB3,A3,c3,rfl,hown⟩;have hq3:=hB3.size;have hs3:=gbox (gbox Hs0.out HB2.out s0) hB3 oM;have Hdl:=Z1 (a6P W3 W2 A3 L.length c3 L f lst w hs3 oM hq3 rfl hL hown);have HBF:=Z1 ((HB0.out.trans (HB2.out.mono oM)).trans (hB3.mono oM));clear hs3 hown hB3;go_wp2_with (fail);refine Hdl.out.mono ?_;rintro ev W4 ⟨hB4,A4,c4,rfl,hA4⟩;have HA4:=Z1 hA4;have HBZ:=Z1 (HBF.out.trans (hB4.mono oM));clear hA4 hB4;go_wp2;go_ret;exact⟨HBZ.out,A4,c4,rfl,HA4.out⟩
end
open Go.Proofs.Tryz Go.RowKit
def CurPost (x:Itv) (w:World) (ev:Ending) (w':World):Prop :=
 Below w w w'/\ev=.returned (.tuple #[.agg #[x.frm,x.to,x.meth],()])
theorem a5d {α:Type} {p:α->Bool} {l:List α} {k:Nat} (hk:k<l.length) (hn:(l.take k).find? p=none) (hp:p l[k]=true):l.find? p=some l[k]:=by
 have e:l=l.take k++l[k]::l.drop (k+1):=by rw [List.getElem_cons_drop,List.take_append_drop]
 generalize hx:l[k]=x at *
 rw [e,List.find?_append,hn];simp [hp]
theorem a4f {α:Type} {p:α->Bool} {l:List α} {k:Nat} (hk:k<l.length) (hn:(l.take k).find? p=none) (hp:p l[k]=false):(l.take (k+1)).find? p=none:=by
 rw [tse hk,List.find?_append,hn];simp [hp]
section
variable (w:World)
theorem a6Q (b:Bks) (E d:Int) (L:List Itv) (now:Itv) (hd:-25567<=d/\d<=84005) (hf:L.find? (fun x=>decide (x.frm<=d/\d<x.to))=some now) (hL:L.length<=1000) (hb:b.At w w)
  (hI:∀ W:World,b.At W W.heap.size->Calls prog 100 #[b.g,.slice b.hA b.hn b.hc,E] W (IvsPost L W)) :
  Calls prog 52 #[b.g,.slice b.hA b.hn b.hc,E,d] w (CurPost now w):=by
 obtain⟨W1,hW1,hB0,hb0,hr0,hz⟩:=nw2 w b.g #[(),(),()] 29 115;obtain⟨HW,HB1,HB0,Hr0⟩:=Z4 hW1 (hb.at_ hB0) hB0 hr0;have hload:W1.rangeAt w.heap.size 0 b.g:=Xx hb0;have s0:=Vq hb0;have s1:=Vq hr0;have Hi:=Z1 (hI W1 HB1.out);have HF:=Z1 hf
 have Hdv:Hid (∀ W:World,Calls prog 101 #[d] W fun e w'=>e=.returned (.bool true)/\W=w'):=Z1 (fun W=>by
  have:=a0P d W;rw [decide_eq_true hd] at this;exact this)
 clear hW1 hz hb0 hr0 hb hB0 hI hf hd;go_enter func52,ntmps52;go_upto_region 1 with(fail);rw [<- HW.out];go_wp2_with (refine Vk (by rfl) 29 (.tmp 4) rfl w.heap.size 0 rfl _ _ hload underlying29 rfl VJ ?_);refine Hi.out.mono ?_;rintro ev W2 ⟨hB2,A,c,rfl,hA⟩;have HB2:=Z1 (HB0.out.trans (hB2.mono oM));have hq2:=hB2.size;have HA:=Z1 hA;have Hr2:=gB Hr0 hB2 s1;have s2:w.heap.size+1<W2.heap.size:=oM;clear hA hB2 hload;go_wp2
 go_loopw [27] (fun i wr=>∃ k:Nat,k<=L.length/\i=.int .i64 k/\Hid ((L.take k).find? (fun x=>decide (x.frm<=d/\d<x.to))=none)/\Below W2 W2 wr) (fun i _=>L.length-(intOf i).toNat)
 case atStart=>exact⟨0,Nat.zero_le _,rfl,Z1 rfl,bR⟩
 case round =>
  obtain⟨k,hk,rfl,HN,hbr⟩:=hrel;have hsz:=hbr.size;have hbF:=HB2.out.trans (hbr.mono oM)
  by_cases hlt:k<L.length
  case neg =>
   obtain rfl:k=L.length:=oM;have h1:=HN.out;rw [List.take_length,HF.out] at h1
   cases h1
  obtain⟨bb,o,rfl,hbB,hr⟩:=RowsAt.look (RowsAt.below HA.out hbr lR) hlt;obtain⟨x,hx⟩:∃ x,x=L[k]:=⟨_,rfl⟩;rw [<- hx] at hr;have Hr:=Z1 hr;have hbw:bb<wr.heap.size:=oM
  have Hhit:Hid (decide (x.frm<=d/\d<x.to)=true->x=now):=Z1 (fun hp=>by
   have:=a5d (p:=fun x:Itv=>decide (x.frm<=d/\d<x.to)) hlt HN.out (by rw [<- hx];exact hp);rw [HF.out,<- hx] at this;exact(Option.some.inj this).symm)
  have Hmiss:Hid (decide (x.frm<=d/\d<x.to)=false->(L.take (k+1)).find? (fun x=>decide (x.frm<=d/\d<x.to))=none):=Z1 (fun hp=>a4f hlt HN.out (by rw [<- hx];exact hp));obtain⟨V,hV,hBV,hrV,hzV⟩:=nw1 wr #[x.frm,x.to,x.meth] 115;have HV:=Z1 hV;have z0:=cr9 0 hrV;have z1:=cr9 1 hrV;simp at z0 z1;have sV:=Vq hrV;have hbV:=hbr.trans (hBV.mono hsz);have Hz:=gB Hr2 hbV s2;have HrV:=Z1 hrV;have hB0V:=HB2.out.trans (hbV.mono oM);clear hr hx hV hrV hzV hBV;go_upto_region 7 with(refine wpList_load_mid rfl 115 (.tmp 29) rfl bb (o+k*3) rfl [x.frm,x.to,x.meth] _ Hr.out underlying115 rfl a1c ?_);rw [<- HV.out]
  by_cases h1:x.frm<=d
  case neg =>
   have Hn:=Z1 (Hmiss.out (by simp [h1]));clear Hhit Hmiss HN;go_wp2_with (fail);refine(Hdv.out _).mono ?_;rintro ev W5 ⟨rfl,rfl⟩;go_wp2;go_roundw
   case rel=>exact⟨k+1,oM,by go_num,Hn,hbV⟩
   case measure=>simp [intOf];omega
  by_cases h2:d<x.to
  case neg =>
   have Hn:=Z1 (Hmiss.out (by simp [h2]));clear Hhit Hmiss HN;go_wp2_with (fail);refine(Hdv.out _).mono ?_;rintro ev W5 ⟨rfl,rfl⟩;go_wp2;go_roundw
   case rel=>exact⟨k+1,oM,by go_num,Hn,hbV⟩
   case measure=>simp [intOf];omega
  have hxn:=Hhit.out (by simp [h1,h2]);have Ho:Hid ((#[x.frm,x.to,x.meth]:Array Value).all (·.oneCell')=true):=Z1 oC;have hR:=setRow_heap V (w.heap.size+1) _ #[x.frm,x.to,x.meth] _ _ Hz.out;have hload:=Z1 (run_loadVar_row (P:=prog) _ _ _ 115 _ _ _ hR underlying115 rfl a1c);have hBF:=Z1 (below_setRow hB0V (show w.heap.size<=w.heap.size+1 by omega) #[x.frm,x.to,x.meth]);have Hxn:=Z1 hxn;have hld:=HrV.out;clear hR hxn Hhit Hmiss HN;go_wp2_with (fail);refine(Hdv.out _).mono ?_;rintro ev W5 ⟨rfl,rfl⟩;go_wp2_with (first | (refine wpList_load_row rfl 115 _ rfl _ rfl _ _ _ _ hld underlying115 rfl a1c ?_) | (refine Vx rfl 115 (.tmp 8) (.tmp 45) none rfl rfl (w.heap.size+1) 115 _ #[x.frm,x.to,x.meth] rfl rfl Hz.out rfl a1c Ho.out ?_));exact bodyPost_ret (v:=.tuple #[.agg #[x.frm,x.to,x.meth],()]) (by simp [results,results52,asAddr,Act.put,hload.out]) rfl ⟨hBF.out,by rw [Hxn.out]⟩
end
open Go.Proofs.Tryz Go.RowKit
def MatPost (n:Nat) (L:List (List Int)) (w:World) (e:Ending) (w':World):Prop :=
 Below w w w'/\∃ A c m,e=.returned (.tuple #[.slice A n c,()])/\MatI w' w' A n n m/\matL m=L
def rowTo (f:Nat->Int) (q:Nat):List Int:=(List.range q).map f++List.replicate (12-q) 0
theorem a5C (f:Nat->Int) {q:Nat} (h:q<=12):(rowTo f q).length=12:=by simp [rowTo];omega
theorem a8R (f:Nat->Int) {q:Nat} (h:q<12):(rowTo f q).set q (f q)=rowTo f (q+1):=by
 unfold rowTo;rw [List.set_append_right _ _ sP,List.range_succ,List.map_append];obtain⟨k,hk⟩:∃ k,12-q=k+1:=⟨11-q,oM⟩;rw [hk,show 12-(q+1)=k by omega];simp [List.replicate_succ]
theorem a7L (f:Nat->Int) {q:Nat}:(rowTo f q).take q=(List.range q).map f:=by
 unfold rowTo;rw [List.take_left' sP]
def RowOk (w:World) (n:Nat) (r:IRow):Prop:=(r.At w w.heap.size/\r.n=n)/\RowsTy 3 w r.A r.l
theorem RowOk.below {w w':World} {n:Nat} {r:IRow} (h:RowOk w n r) (hb:Below w w w'):RowOk w' n r:=⟨⟨(h.1.1.below hb lR).more hb.size,h.1.2⟩,h.2.below hb⟩
theorem RowOk.kept {w w':World} {n:Nat} {r:IRow} (h:RowOk w n r) {v:Value} {base s k:Nat} {e':TypeId} {xs:List Value} (ho:w.ownsRow base e' s v k xs) (hne:e'≠3) (hg:w.grownBy w' v.ownBlock):RowOk w' n r:=by
 obtain⟨a,b⟩:=RowsTy.kept h.2 h.1.1.hA ho hne hg;exact⟨⟨⟨h.1.1.hl,b⟩,h.1.2⟩,a⟩
section
variable (w:World)
theorem intInfo:(prog.info? 3).map (fun i=>(i.zero,i.size,i.bytes))=some (some (.int .i64 0),1,8):=kR
theorem rowInfo:(prog.info? 128).map (fun i=>(i.zero,i.size,i.bytes))=some (some (.slice none 0 0),1,24):=kR
theorem b0e (A:Option Addr) (n c:Nat) (l:List Int) (hl:l.length=n) (hn:n<=100000) (h:RowsAt icell 1 w w A l) :
  Calls prog 252 #[.slice A n c] w (ClonePost icell 1 3 n l w):=by
 have qn:=fun(w:World) (a:Option Addr) (n c n' c':Nat)=>Lib.run_eql_slice_nil (P:=prog) w _ _ a n c n' c' underlying128
 cases A with
 | none =>
  have h0:l=[]:=by rcases h with h | ⟨b,o,e,_⟩;exact h;cases e
  subst h0;obtain rfl:n=0:=by simpa using hl.symm
  clear hl h hn;go_enter func252,ntmps252;go_wp2;go_ret;exact ClonePost.nil
 | some ad =>
  obtain⟨i0,hi,hz0,hz1,hz2⟩:=info_parts intInfo;have Hnews:Hid (∀ j u,(l.flatMap icell)[j]?=some u->(w.alloc (.cells #[] 3)).cell? (ad.add j)=some u):=Z1 fun j u hj=>Lib.cell?_alloc_some _ (a0Q (f:=icell) (sz:=1) dC (fun _=>rfl) h j u hj);have Hlen:Hid ((l.flatMap icell).length=n*1):=by show _=_;rw [a0x (f:=icell) (sz:=1) (fun _=>rfl),hl]
  have Hone:Hid (∀ u∈l.flatMap icell,u.oneCell'=true):=Z1 fun u hu=>by
   rw [List.mem_flatMap] at hu;obtain⟨x,_,hx⟩:=hu;revert u;simp [icell,Value.oneCell']
  have h63:0+n<=maxLen:=by unfold maxLen;omega
  have h64:(0+n)*8<=140737488355328:=oM;have h65:w.heap.size<=(w.alloc (.cells #[] 3)).heap.size:=sP;have hmade:=World.ownsRow_made (e:=3) (size:=1) w #[] 0 lR (Nat.zero_le _) rfl;clear hl h;go_enter func252,ntmps252;go_wp2_with (at_builtin;refine Hid.out ?_);show wpList _ _ _ _ _ _;refine wpList_append_own _ rfl _ _ 128 rfl w.heap.size 3 i0 (.int .i64 0) 1 8 underlying128 hi hz0 hz1 hz2 rfl dC _ _ _ rfl hmade ad n c (l.flatMap icell) rfl Hlen.out Hnews.out Hone.out h63 h64 h65 ?_;intro v' w1 hown hgrow _;have hb:Below w w w1:=((Below.refl _ w).alloc lR _).grown hgrow sP (fun k hk=>(hmade.lt k hk).1);rw [Nat.zero_add,List.nil_append] at hown
  obtain⟨A',c',rfl⟩:∃ A' c',v'=.slice A' n c':=by
   rcases hown.2 with⟨e,h0⟩ | ⟨g,cap,cur,e,_⟩
   ·exact⟨none,0,by rw [e,h0]⟩
   ·exact⟨_,_,e⟩
  have Hown:=Z1 hown;have Hb:=Z1 hb;clear hown hb;go_wp2;go_ret;exact⟨Hb.out,A',c',rfl,Hown.out⟩
theorem a2H (A:Option Addr) (n c m:Nat) (l:List Hld) (d:Int) (hl:l.length=n) (hn:n<=200) (hw:∀ x∈l,x.wf) (hA:RowsAt Hld.cells 4 w w A l) (hv:Hd.valid m l=true) (hd:-25567<=d/\d<=84005) :
  Calls prog 214 #[m,.slice A n c,d] w (MatPost m (Hd.matrix m l d) w):=by
 have hm:1<=m/\m<=12:=by have:=hv;unfold Hd.valid at this;simp at this;omega
 have Hv:=Z1 (a1Z w m A n c l oM hl hn hw hA);rw [hv] at Hv;have HA:=Z1 hA;have Hl:=Z1 hl;have hd1:=hd.1;have hd2:=hd.2;have hm1:=hm.1;have hm2:=hm.2;obtain⟨i0,hi,hz0,hz1,hz2⟩:=info_parts rowInfo;clear hv hA hl hw hd hm;go_enter func214,ntmps214;go_wp2_with (fail);refine Hv.out.mono ?_;rintro e W1 ⟨rfl,hB1⟩;have HB1:=Z1 hB1;clear hB1;go_wp2_with (fail);refine(a0P _ _).mono ?_;rw [decide_eq_true (show -25567<=d/\d<=84005 from⟨hd1,hd2⟩)];rintro e W2 ⟨rfl,rfl⟩;go_wp2
 go_loopw [8,20] (fun v i wr=>∃ k:Nat,k<=m/\i=.int .i64 k/\∃ rows:List IRow,rows.length=k/\matL rows=(List.range k).map (fun(h:Nat)=>(List.range m).map (fun(e:Nat)=>Hd.at_ l h e d))/\(∀ r∈rows,RowOk wr m r)/\wr.ownsRow w.heap.size 128 1 v rows.length (rows.flatMap IRow.cells)/\Below w w wr) (fun _ i _=>m-(intOf i).toNat)
 case atStart=>exact⟨0,Nat.zero_le _,rfl,[],rfl,rfl,sP,World.ownsRow_nil _ _ _ _,HB1.out⟩
 case round =>
  obtain⟨k,hk,rfl,rows,hrl,hmat,hrow,hown,hb⟩:=hrel;have hq:=hb.size
  by_cases hlt:k<m
  case neg =>
   obtain rfl:k=m:=oM;obtain⟨A2,c2,rfl,hA2⟩:=Xz (f:=IRow.cells) (sz:=1) dC (fun _=>rfl) hown rfl;have HP:Hid (MatPost k (Hd.matrix k l d) w (.returned (.tuple #[.slice A2 rows.length c2,()])) wr):=Z1 ⟨hb,A2,c2,rows,by rw [hrl],⟨hrl,hA2,fun r hr=>(hrow r hr).1⟩,hmat⟩;clear hrl hmat hrow hown hA2 hb;go_wp2
   go_ret2
   exact HP.out
  obtain⟨wo,rfl⟩:∃ wo,wo=wr:=⟨_,rfl⟩;obtain⟨f,hf⟩:∃ f:Nat->Int,f=fun(e:Nat)=>Hd.at_ l k e d:=⟨_,rfl⟩;have Hf:=Z1 hf;have hst:(List.range (k+1)).map (fun(h:Nat)=>(List.range m).map (fun(e:Nat)=>Hd.at_ l h e d))=(List.range k).map (fun(h:Nat)=>(List.range m).map (fun(e:Nat)=>Hd.at_ l h e d))++[(List.range m).map f]:=by rw [List.range_succ,List.map_append,hf];rfl
  have Hst:=Z1 hst;obtain⟨W3,hW3,hB3,hg3,hz3⟩:=nw1 wo #[(),(),(),(),(),(),(),(),(),(),(),()] 230;have HW3:=Z1 hW3;obtain⟨gb,hgb⟩:∃ gb,gb=wo.heap.size:=⟨_,rfl⟩;rw [<- hgb] at hg3;have Hgb:=Z1 hgb;have Harr:Hid (Arr .i64 230 W3 gb (rowTo f 0)):=Z1 (by unfold Arr;rw [hg3];rfl);obtain⟨HBr,HB3,Hown,Hrow⟩:=Z4 hb (hb.trans (hB3.mono hq)) hown hrow;have Hwo:Hid (Below gb wo W3):=Z1 (by rw [Hgb.out];exact hB3);have Hrl:=Z1 hrl;have Hmat:=Z1 hmat;have hq3:w.heap.size<=W3.heap.size:=oM;have hgq:w.heap.size<=gb:=oM;have hgl:gb<W3.heap.size:=oM;clear hf hst hW3 hg3 hgb hb hB3 hown hrow hrl hmat;go_upto_region 10 with(fail);rw [<- HW3.out,<- Hgb.out];go_wp2
  go_loopw [24] (fun i wi=>∃ q:Nat,q<=m/\i=.int .i64 q/\Arr .i64 230 wi gb (rowTo f q)/\Below gb W3 wi) (fun i _=>m-(intOf i).toNat)
  case atStart=>exact⟨0,Nat.zero_le _,rfl,Harr.out,bR⟩
  case round =>
   obtain⟨wi,rfl⟩:∃ wi,wi=wr:=⟨_,rfl⟩;obtain⟨q,hqm,rfl,harr,hbi⟩:=hrel;have hsi:=hbi.size;have HBi:=Z1 (HB3.out.trans (hbi.mono hgq))
   by_cases hlt2:q<m
   case neg =>
    obtain rfl:q=m:=oM
    have hrA:RowsAt icell 1 wi wi (some ⟨gb,0,none⟩) ((List.range q).map f):=.inr ⟨gb,0,rfl,oM,fun k hk j v hj=>by
     have hk2:k<q:=by simpa using hk
     have hj1:j<1:=(List.getElem?_eq_some_iff.1 hj).1;obtain rfl:j=0:=oM;have hlen:=a5C f (show q<=12 by omega);have e1:(rowTo f q)[k]?=((List.range q).map f)[k]?:=by rw [<- a7L f,List.getElem?_take,if_pos hk2]
     rw [List.getElem?_eq_getElem hk] at e1;have hc:=harr.cell (k:=k) oM;rw [List.getElem?_eq_getElem oM] at e1;simp only [Option.some.injEq] at e1;rw [e1] at hc;simp [icell] at hj;rw [<- hj];simpa using hc⟩
    have Hcl:=Z1 (b0e wi (some ⟨gb,0,none⟩) q 12 ((List.range q).map f) sP oM hrA);have hbo:=Hwo.out.trans hbi;have hbo2:Below wo wo wi:=by rw [<- Hgb.out];exact hbo
    have Ho2:=Z1 (Vj Hown.out hbo2);have Hr2:Hid (∀ r∈rows,RowOk wi q r):=Z1 (fun r hr=>(Hrow.out r hr).below hbo2);have hq12:q<=12:=oM;have hqq:(q:Int)<=12:=oM;have hq0:(0:Int)<=(q:Int):=oM;clear harr hbi hrA hbo hbo2;go_wp2_with (fail);refine Hcl.out.mono ?_;rintro e w4 ⟨hB4,A4,c4,rfl,ho4⟩;have Ho4:=Z1 (Vj Ho2.out hB4);have Hr4:Hid (∀ r∈rows,RowOk w4 q r):=Z1 (fun r hr=>(Hr2.out r hr).below hB4);have HB4:=bT HBi hB4;have hT4:=a2P (l:=(List.range q).map f) ho4 sP;obtain⟨A5,c5,e5,hA5⟩:=Xz (l:=(List.range q).map f) (f:=icell) (sz:=1) dC (fun _=>rfl) ho4 sP
    cases e5
    have Hnew:Hid (RowOk w4 q ⟨A4,q,c4,(List.range q).map f⟩):=Z1 ⟨⟨⟨sP,hA5⟩,rfl⟩,hT4⟩;clear hB4 ho4 hT4 hA5;have hownN2:=Ho4.out.alloc (.cells #[.slice A4 q c4] 128);have hnew:=a0v w4 [.slice A4 q c4] 128;have hone:∀ u∈([.slice A4 q c4]:List Value),u.oneCell'=true:=oC;have h63:rows.length+1<=maxLen:=by have:=Hrl.out;unfold maxLen;omega
    have h64:(rows.length+1)*24<=140737488355328:=by have:=Hrl.out;omega
    have h65:w.heap.size<=(w4.alloc (.cells #[.slice A4 q c4] 128)).heap.size:=by have:=HB4.out.size;simp;omega
    have hbN2:=HB4.out.alloc HB4.out.size (.cells #[.slice A4 q c4] 128);go_wp2_with (at_builtin;refine Hid.out ?_);show wpList _ _ _ _ _ _;refine wpList_append_own _ rfl _ _ 235 rfl w.heap.size 128 i0 (.slice none 0 0) 1 24 underlying235 hi hz0 hz1 hz2 rfl dC _ _ _ rfl hownN2 ⟨w4,0,none⟩ 1 1 [.slice A4 q c4] rfl rfl hnew hone h63 h64 h65 ?_;intro v' w1 hown' hgrow _;have hb1:=hbN2.grown hgrow h65 (fun j hj=>(hownN2.lt j hj).1);have ha:Below w4 w4 (w4.alloc (.cells #[.slice A4 q c4] 128)):=bR.alloc lR _
    have hrw:∀ r∈rows++[(⟨A4,q,c4,(List.range q).map f⟩:IRow)],RowOk w1 q r:=by
     intro r hr
     rcases List.mem_append.1 hr with h | h
     ·exact((Hr4.out r h).below ha).kept hownN2 dC hgrow
     ·rw [List.mem_singleton.1 h];exact(Hnew.out.below ha).kept hownN2 dC hgrow
    have Hrw:=Z1 hrw
    have Hon:Hid (w1.ownsRow w.heap.size 128 1 v' (rows++[(⟨A4,q,c4,(List.range q).map f⟩:IRow)]).length ((rows++[(⟨A4,q,c4,(List.range q).map f⟩:IRow)]).flatMap IRow.cells)):=by
     show World.ownsRow _ _ _ _ _ _ _;rw [List.length_append,List.flatMap_append];simpa [IRow.cells] using hown'
    clear hown' hgrow hownN2 hnew ha hbN2 hrw;go_wp2;go_roundw
    case rel=>exact⟨k+1,oM,by go_num,_,by rw [List.length_append,Hrl.out];rfl,by rw [Hst.out,<- Hmat.out];simp [matL],Hrw.out,Hon.out,hb1⟩
    case measure=>simp [intOf];omega
   have HA2:=Z1 ((RowsAt.below HA.out HBi.out lR).more HBi.out.size);have Hcall:=Z1 (a4w wi A n c l k q d Hl.out oM HA2.out);have hfq:f q=Hd.at_ l k q d:=by rw [Hf.out]
   rw [<- hfq] at Hcall;have Harr2:=Z1 harr;have hset:=Z1 (a8R f (show q<12 by omega));have hlen:=a5C f (show q<=12 by omega);have h0:(0:Int)<=(q:Int):=oM;have h12:(q:Int)<12:=oM;have Hbi:=Z1 hbi;clear hfq harr hbi;go_wp2_with (fail);refine Hcall.out.mono ?_;rintro e w4 ⟨rfl,hB4⟩;have ha4:=Harr2.out.below hB4 oM;have c0:=ha4.cell (k:=q) oM;have f0:=ha4.free q;have ha5:=ha4.set q (f q);rw [hset.out] at ha5;have Ha5:=Z1 ha5;have HB5:=Z1 ((Hbi.out.trans (hB4.mono oM)).setCell (p:=⟨gb,q,none⟩) lR (.int .i64 (f q)));clear ha4 ha5 hB4;go_wp2;go_roundw
   case rel=>exact⟨q+1,oM,by go_num,Ha5.out,HB5.out⟩
   case measure=>simp [intOf];omega
end
end Go.Proofs.YtniaimjknmhapaaGreatDoor
