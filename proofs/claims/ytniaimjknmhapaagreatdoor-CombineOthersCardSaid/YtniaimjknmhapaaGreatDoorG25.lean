/- My texts LinkAt, LinkF, EntK, JrnP, JrnW, JrnM, JrnQ. -/
import Derived.Maps.OwnSet
import Derived.Test.YtniaimjknmhapaaGreatDoorG20
set_option linter.unusedVariables false
set_option linter.unusedSimpArgs false
set_option maxRecDepth 100000
set_option maxHeartbeats 16000000
namespace Go.Proofs.YtniaimjknmhapaaGreatDoor
open Go.Proofs.Tryz Go.RowKit
namespace Tr
theorem best_take {l:List Lnk} {k:Nat} {m:Lnk} (hk:k<l.length) (h:best (l.take k)=some m):best (l.take (k+1))=some (if m.since<l[k].since then l[k] else m):=by
 rw [tse hk]
 cases hl:l.take k with
 | nil=>rw [hl] at h;cases h
 | cons a q =>
  rw [hl] at h;simp only [best,Option.some.injEq] at h;simp only [List.cons_append,best,List.foldl_append,List.foldl_cons,List.foldl_nil,h]
end Tr
theorem a1f:(prog.info? 150).map (·.size)=some 3:=kR
section
variable (w:World)
theorem a8e (x y:Lnk):Calls prog 177 #[x,y] w fun e w'=>(∃ v,e=.returned (.int .i64 v)/\(0<v ↔ y.since<x.since))/\Below w w w':=by
 obtain⟨hB0,_,_,_⟩:=a1g w x y 150 150;have HB:=Z1 hB0;clear hB0
 rcases(show x.since<y.since∨(¬ x.since<y.since/\y.since<x.since)∨(¬ x.since<y.since/\¬ y.since<x.since) by omega) with h | ⟨h,h2⟩ | ⟨h,h2⟩
 all_goals
  go_enter func177,ntmps177;go_wp2;go_ret
 ·exact⟨⟨-1,rfl,oM⟩,HB.out⟩
 ·exact⟨⟨1,rfl,oM⟩,HB.out⟩
 ·exact⟨⟨0,rfl,oM⟩,HB.out⟩
theorem b1g (A:Option Addr) (n c:Nat) (l:List Lnk) (hl:l.length=n) (hn:n<=100000) (h1:1<=n) (h:LnksAt w w A l) :
  Calls prog 176 #[.slice A n c,.func (.func 177) #[] #[]] w fun e w'=>(∃ m,Tr.best l=some m/\e=.returned (m))/\Below w w w':=by
 have h0l:0<l.length:=oM;obtain⟨b,o,rfl,hb,hr0⟩:=RowsAt.look h h0l;obtain⟨x0,hx0⟩:∃ x0,x0=l[0]:=⟨_,rfl⟩
 have H0:Hid (Tr.best (l.take 1)=some x0):=by
  show _=_;rw [hx0];cases l with
  | nil=>simp at h0l
  | cons a q=>rfl
 rw [<- hx0,Nat.zero_mul,Nat.add_zero] at hr0;obtain⟨W1,hW1,hB0,hb0,hb1,hz⟩:=nw2 w #[(),(),()] x0 150 150;have HW:=Z1 hW1;have Hr0:Hid ((w.alloc (.cells #[(),(),()] 150)).rangeAt b o x0):=Z1 fun j v hv=>(((Below.refl w w).alloc lR (.cells #[(),(),()] 150)).cell (p:=⟨b,o+j,none⟩) hb).trans (hr0 j v hv);obtain⟨H,Hl,Hb0,Hb1⟩:=Z4 h hl hb0 hb1;have s1:w.heap.size<W1.heap.size:=oM;have s1':w.heap.size+1<W1.heap.size:=oM;have hbW:b<W1.heap.size:=oM;have hn0:¬ (n:Int)<1:=oM;have hn1:(0:Int)<n:=oM;clear hx0 hr0 hW1 hz hb0 hb1 h hl;go_enter func176,ntmps176;go_upto_region 4 with(refine wpList_load_mid rfl 150 (.tmp 12) rfl b o rfl x0 _ Hr0.out underlying150 rfl a1f ?_);rw [<- HW.out];go_wp2
 go_loopw [6] (fun i wr=>∃(k:Nat) (m:Lnk),1<=k/\k<=n/\i=.int .i64 k/\Tr.best (l.take k)=some m/\Below w w wr/\wr.heap[w.heap.size]?=some (.cells #[(),(),()] 150 (0,0))/\wr.heap[w.heap.size+1]?=some (.cells m 150 (0,0))) (fun i _=>n-(intOf i).toNat)
 case atStart=>exact⟨1,x0,lR,h1,rfl,H0.out,hB0,Hb0.out,Hb1.out⟩
 case round =>
  obtain⟨k,m,hk1,hk,rfl,hm,hbr,hz0,hz1⟩:=hrel;obtain⟨Hm,Hz0,Hz1⟩:=Z3 hm hz0 hz1;have t0:=Vq hz0;have t1:=Vq hz1;clear hm hz0 hz1
  by_cases hlt:k<n
  case neg =>
   obtain rfl:k=n:=oM;have hm:=Hm.out;rw [List.take_of_length_le (by have:=Hl.out;omega)] at hm;have HM:=Z1 hm;have Ho:Hid ((m:Array Value).all (·.oneCell')=true):=by show _=_;simp [Value.oneCell']
   have hR:=setRow_heap wr w _ m _ _ Hz0.out;have hload:=Z1 (run_loadVar_row (P:=prog) _ _ _ 150 _ _ _ hR underlying150 rfl a1f);have hBF:=Z1 (below_setRow hbr lR m);clear hm hR;go_wp2_with (first | (refine wpList_load_row rfl 150 _ rfl _ rfl _ _ _ _ Hz1.out underlying150 rfl a1f ?_) | (refine Vx rfl 150 (.tmp 4) (.tmp 32) none rfl rfl w.heap.size 150 _ m rfl rfl Hz0.out rfl a1f Ho.out ?_));exact bodyPost_ret (v:=m) (by simp [results,results176,asAddr,Act.put,hload.out]) rfl ⟨⟨m,HM.out,rfl⟩,hBF.out⟩
  have hkl:k<l.length:=by have:=Hl.out;omega
  obtain⟨b',o',e,hb',hr⟩:=RowsAt.look (RowsAt.below H.out hbr lR) hkl
  cases e
  obtain⟨x,hx⟩:∃ x,x=l[k]:=⟨_,rfl⟩;have Hst:=Z1 (Tr.best_take hkl Hm.out);rw [<- hx] at hr Hst;have Hr:=Z1 hr;have hk0:(0:Int)<=(k:Int):=oM;have hkn:(k:Int)<(n:Int):=oM;have hbw:b<wr.heap.size:=oM;clear hr hx;go_upto_region 7 with(fail);have hS:Below wr wr wr.drew:=Vw bR 1;refine wp_region_held (S:=Below wr wr) kR ?_;change wpAnyH _ _ _ _ _ _ _ _ (World.drew wr);obtain⟨W_0,hWd⟩:∃ W0,W0=wr.drew:=⟨_,rfl⟩;rw [<- hWd] at hS ⊢;clear hWd;refine jT 0 hS ?_;refine jT 1 hS ?_;refine jT 2 hS ?_;refine jT 3 hS ?_;refine jT 4 hS ?_ (v:=x) (hy:=(yieldsIf_load_mid (by rfl) 150 _ rfl b (o+k*3) rfl x _ (fun W' hS'=>VV Hr.out hS' hbw) underlying150 rfl a1f));refine jT 5 hS ?_ (v:=m) (hy:=(yieldsIf_load_mid (by rfl) 150 _ rfl (w.heap.size+1) 0 rfl m _ (fun W' hS'=>Xx (gbox Hz1.out hS' t1)) underlying150 rfl a1f));refine rZ 6 fun K hK=>?_;have HC:=Z1 (a8e W_0 x m);go_simp;refine HC.out.mono ?_;rintro e W2 ⟨⟨v,rfl,hv⟩,hB2⟩;have hS2:=hS.trans (hB2.mono hS.size);refine jK hK hS2 ?_;clear hK K;refine rZ 7 fun K hK=>?_;go_simp;refine jK hK hS2 ?_;clear hK K;refine wpAnyH_done kR ?_ _
  try simp only [z]
  have hB2w:=hbr.trans (hS2.mono hbr.size);have Hz0':=gB Hz0 hS2 t0;have hz1':=gbox Hz1.out hS2 t1;have t0':=Vq Hz0'.out;have t1':=Vq hz1';have Hr2:=Z1 (VV Hr.out hS2 hbw);have hbw2:b<W2.heap.size:=by have:=hS2.size;omega
  by_cases hlt2:m.since<x.since
  ·have hv':0<v:=hv.2 hlt2
   have HN:Hid (Tr.best (l.take (k+1))=some x):=by show _=_;rw [Hst.out,if_pos hlt2]
   have Ho:Hid ((x:Array Value).all (·.oneCell')=true):=by show _=_;simp [Value.oneCell']
   have hR:=setRow_heap W2 (w.heap.size+1) _ x _ _ hz1';have hz0'':=(setRow_other W2 (w.heap.size+1) w x oM).trans Hz0'.out;have hBF:=below_setRow hB2w (show w.heap.size<=w.heap.size+1 by omega) x;obtain⟨Hz1',HR,HZ,HBF⟩:=Z4 hz1' hR hz0'' hBF;clear hv hR hz0'' hBF hz1' hS hS2;go_wp2_with (first | (refine wpList_load_mid rfl 150 (.tmp 30) rfl b (o+k*3) rfl x _ Hr2.out underlying150 rfl a1f ?_) | (refine Vx rfl 150 (.tmp 5) (.tmp 31) none rfl rfl (w.heap.size+1) 150 _ x rfl rfl Hz1'.out rfl a1f Ho.out ?_));go_roundw
   case rel=>exact⟨k+1,x,oM,oM,by go_num,HN.out,HBF.out,HZ.out,HR.out⟩
   case measure=>simp [intOf];omega
  ·have hv':¬ 0<v:=fun h=>hlt2 (hv.1 h)
   have HN:Hid (Tr.best (l.take (k+1))=some m):=by show _=_;rw [Hst.out,if_neg hlt2]
   have Hz1':=Z1 hz1';clear hv hz1' hS;go_wp2;go_roundw
   case rel=>exact⟨k+1,m,oM,oM,by go_num,HN.out,hB2w,Hz0'.out,Hz1'.out⟩
   case measure=>simp [intOf];omega
end
open Go.Proofs.Tryz Go.RowKit
theorem a1q {α:Type} {P:α->Bool} {l:List α} {k:Nat} (hk:k<l.length):(l.take (k+1)).filter P=(l.take k).filter P++(if P l[k]=true then [l[k]] else []):=by
 rw [tse hk,List.filter_append];simp [List.filter_cons]
section
variable (w:World)
theorem a9t (e:Ent) (code day:Int) (he:e.At w w) (hd:Gr.date day=true) :
  Calls prog 120 #[e,code,day] w (OptPost (Tr.mapAt e code day) w):=by
 obtain⟨W1,hW1,hB0,hb0,hz⟩:=nw1 w e 102;have HW:=Z1 hW1;have he1:=Z1 (he.at_ hB0);have s1:w.heap.size<W1.heap.size:=oM;have hd':decide (-25567<=day/\day<=84005)=true:=hd;have x2:=cr9 2 hb0;simp at x2;have Hb0:=Z1 hb0;obtain⟨i0,hi,hz0,hz1,hz2⟩:=info_parts lnkInfo;clear hW1 hz hb0 he hd;go_enter func120,ntmps120;go_upto_region 1 with(fail);rw [<- HW.out];go_wp2_with (fail);refine(a0P day W1).mono ?_;rintro r W1' ⟨rfl,rfl⟩;rw [hd'];clear hd';go_upto_region 3 with(fail);go_wp2_with (fail);refine(a0M W1 e.cA e.cn e.cc e.chart code he1.out.hcl he1.out.hcn he1.out.hc).mono ?_;rintro r W2 ⟨rfl,hB2⟩;obtain⟨q,hq⟩:∃ q,q=Ch.found e.chart code:=⟨_,rfl⟩;rw [<- hq];obtain⟨W3,hW3,hBa,hra,hza⟩:=nw1 W2 q 87;have HW3:=Z1 hW3;have hB13:Below W1 W1 W3:=hB2.trans (hBa.mono hB2.size);have hB03:=hB0.trans (hB13.mono hB0.size);have Hb3:=gB Hb0 hB13 s1;have s3:w.heap.size<W3.heap.size:=Vq Hb3.out;have he3:=Z1 (he1.out.at_ hB13);clear hW3 hq hra hza hB2 hBa x2 hB13;go_upto_region 4 with(fail);rw [<- HW3.out]
 cases hh:Ch.has e.chart code with
 | false =>
  have HV:Hid (Tr.mapAt e code day=none):=by show _=_;unfold Tr.mapAt;rw [hh];rfl
  clear hh;go_wp2
  go_ret2
  exact OptPost.none HV.out dC hB03
 | true =>
  have HV:Hid (Tr.mapAt e code day=(Tr.best (Tr.linksOf e code day)).map (·.to)):=by show _=_;unfold Tr.mapAt;rw [hh];rfl
  have x3:=cr9 3 Hb3.out;simp at x3;clear hh;obtain⟨P,hP⟩:∃ P:Lnk->Bool,P=(fun x=>decide (x.frm=code)&&decide (x.since<=day)):=⟨_,rfl⟩;have hLO:Hid (Tr.linksOf e code day=e.links.filter P):=by show _=_;unfold Tr.linksOf;rw [hP]
  have Hll:=Z1 he3.out.hll;have hln:=he3.out.hln;have HP:=Z1 hP;clear hP;obtain⟨lA,hlA⟩:∃ lA,lA=e.lA:=⟨_,rfl⟩;have HlA:=Z1 hlA;rw [<- hlA] at x3;clear hlA;go_wp2
  go_loopw [10,28] (fun v i wr=>∃ k:Nat,k<=e.ln/\i=.int .i64 k/\wr.ownsRow W3.heap.size 150 3 v ((e.links.take k).filter P).length (((e.links.take k).filter P).flatMap Lnk.cells)/\Below w w wr/\Below W3 W3 wr) (fun _ i _=>e.ln-(intOf i).toNat)
  case atStart=>exact⟨0,Nat.zero_le _,rfl,World.ownsRow_nil _ _ _ _,hB03,bR⟩
  case round =>
   obtain⟨k,hk,rfl,hown,hb,hb3⟩:=hrel;have Hown:=Z1 hown;have hfl:=List.length_filter_le P (e.links.take k);simp only [List.length_take] at hfl;clear hown x3
   by_cases hlt:k<e.ln
   case neg =>
    obtain rfl:k=e.ln:=oM;have hown:=Hown.out;rw [List.take_of_length_le (by have:=Hll.out;omega),<- hLO.out] at hown;obtain⟨A',c',rfl,hA⟩:=Xz (f:=Lnk.cells) (sz:=3) dC (fun _=>rfl) hown rfl;obtain⟨ls,hls⟩:∃ ls,ls=Tr.linksOf e code day:=⟨_,rfl⟩;have hlen:ls.length<=100000:=by rw [hls,hLO.out];exact Nat.le_trans (List.length_filter_le _ _) (by have:=Hll.out;omega)
    rw [<- hls] at hA ⊢;have HV2:Hid (Tr.mapAt e code day=(Tr.best ls).map (·.to)):=by show _=_;rw [HV.out,hls]
    clear hown hls hfl
    by_cases h0:ls.length=0
    ·have HV3:Hid (Tr.mapAt e code day=none):=by show _=_;rw [HV2.out,List.length_eq_zero_iff.1 h0];rfl
     have k0:((ls.length:Int)==0)=true:=by simp [h0]
     clear h0 HV2 hA;go_wp2
     go_ret2
     exact OptPost.none HV3.out dC hb
    ·have k0:((ls.length:Int)==0)=false:=by simp;intro q;subst q;simp at h0
     have hm:=Z1 (b1g wr A' ls.length c' ls rfl hlen oM hA);clear h0 hA;go_wp2_with (fail);refine hm.out.mono ?_;rintro r W5 ⟨⟨m,hm,rfl⟩,hB5⟩;have HV3:Hid (Tr.mapAt e code day=some m.to):=by show _=_;rw [HV2.out,hm];rfl
     have hBF:=hb.trans (hB5.mono hb.size);clear hm;have hfd:∀ W,(Instr.field 150 (m) 1).run prog W=.ok (.int .i64 m.to) W:=fun W=>kR;go_wp2
     go_ret2
     exact OptPost.some HV3.out hBF
   have hkl:k<e.links.length:=by have:=Hll.out;omega
   obtain⟨bl,ol,hle,hbl,hr⟩:=RowsAt.look (RowsAt.below he3.out.hl hb3 lR) hkl;rw [<- HlA.out] at hle;subst hle;obtain⟨x,hx⟩:∃ x,x=e.links[k]:=⟨_,rfl⟩;have Hst:=Z1 (a1q (P:=P) hkl);rw [<- hx] at hr Hst;have Hr:=Z1 hr;have hbw:bl<wr.heap.size:=by have:=hb3.size;omega
   have hbN:=hb.alloc hb.size (.cells x 150);have hb3N:=hb3.alloc hb3.size (.cells x 150);have hownN:=Hown.out.alloc (.cells x 150);clear hr hx
   by_cases hpx:x.frm=code/\x.since<=day
   case neg =>
    have hst2:=Hst.out;rw [HP.out] at hst2;have HS2:Hid ((e.links.take (k+1)).filter P=(e.links.take k).filter P):=by show _=_;rw [Hst.out,if_neg (by rw [HP.out];simp;intro q1;have:=fun q2=>hpx ⟨q1,q2⟩;omega),List.append_nil]
    have HownN:=Z1 hownN;clear hst2 hownN
    by_cases hq:x.frm=code
    ·have k1:(x.frm==code)=true:=by simp [hq]
     have k2:¬ x.since<=day:=fun h=>hpx ⟨hq,h⟩;clear hpx hq;go_wp2_with (refine wpList_load_mid rfl 150 (.tmp 30) rfl bl (ol+k*3) rfl x _ Hr.out underlying150 rfl a1f ?_);go_roundw
     case rel=>exact⟨k+1,oM,by go_num,by rw [HS2.out];exact HownN.out,hbN,hb3N⟩
     case measure=>simp [intOf];omega
    ·have k1:(x.frm==code)=false:=by simp [hq]
     clear hpx hq;go_wp2_with (refine wpList_load_mid rfl 150 (.tmp 30) rfl bl (ol+k*3) rfl x _ Hr.out underlying150 rfl a1f ?_);go_roundw
     case rel=>exact⟨k+1,oM,by go_num,by rw [HS2.out];exact HownN.out,hbN,hb3N⟩
     case measure=>simp [intOf];omega
   obtain⟨hp1,hp2⟩:=hpx;have k1:(x.frm==code)=true:=by simp [hp1]
   have HS2:Hid ((e.links.take (k+1)).filter P=(e.links.take k).filter P++[x]):=by show _=_;rw [Hst.out,if_pos (by rw [HP.out];simp [hp1,hp2])]
   obtain⟨Wa,hWa,hBa,hra,hza⟩:=nw1 wr x 150;rw [<- hWa] at hbN hb3N hownN;have HWa:=Z1 hWa;have Hra:=Z1 hra;have sa:wr.heap.size<Wa.heap.size:=Vq hra;have hownN2:=hownN.alloc (.cells x 150);have hnew:=a0v Wa x 150;have hone:∀ u∈(x:List Value),u.oneCell'=true:=oC;have h63:((e.links.take k).filter P).length+1<=maxLen:=by unfold maxLen;omega
   have h64:(((e.links.take k).filter P).length+1)*24<=140737488355328:=oM;have h65:W3.heap.size<=(Wa.alloc (.cells x 150)).heap.size:=by have:=hb3N.size;simp;omega
   have hbN2:=hbN.alloc hbN.size (.cells x 150);have hb3N2:=hb3N.alloc hb3N.size (.cells x 150);have y0:=cr9 0 hra;have y2:=cr9 2 hra;simp at y0 y2;clear hWa hra hza hp1;go_upto_region 10 with(refine wpList_load_mid rfl 150 (.tmp 30) rfl bl (ol+k*3) rfl x _ Hr.out underlying150 rfl a1f ?_);rw [<- HWa.out];go_wp2_with (first | (refine wpList_load_row rfl 150 _ rfl _ rfl _ _ _ _ Hra.out underlying150 rfl a1f ?_) | (at_builtin;refine Hid.out ?_));show wpList _ _ _ _ _ _;refine wpList_append_own _ rfl _ _ 100 rfl W3.heap.size 150 i0 (.agg #[(),(),()]) 3 24 underlying100 hi hz0 hz1 hz2 rfl dC _ _ _ rfl hownN2 ⟨Wa,0,none⟩ 1 1 x rfl rfl hnew hone h63 h64 h65 ?_;intro v' w1 hown' hgrow _;have hb1:=hbN2.grown hgrow (Nat.le_trans hB03.size h65) (fun j hj=>Nat.le_trans hB03.size (hownN2.lt j hj).1);have hb31:=hb3N2.grown hgrow h65 (fun j hj=>(hownN2.lt j hj).1);go_wp2;go_roundw
   case rel=>exact⟨k+1,oM,by go_num,by rw [HS2.out,List.length_append,List.flatMap_append];simpa [Lnk.cells] using hown',hb1,hb31⟩
   case measure=>simp [intOf];omega
end
open Go.Proofs.Tryz Go.RowKit
section
variable (w:World)
def Jr.upto (g:Grp) (c:EtC) (k:Nat):Prop:=(1<=k->Jr.formed g c=true)/\(2<=k->Jr.charted g c=true)/\(3<=k->Jr.dated g c=true)/\(4<=k->decide (Jr.total c.lines=0)=true)
theorem a8n (g:Grp) (c:EtC) (A:Option Addr) (n kc:Nat) (hg:g.At w w) (hx:(⟨c,A,n,kc⟩:Etr).At w w) :
  Calls prog 152 #[g,.agg (TE c A n kc)] w (FinePost (Jr.fine g c) w):=by
 obtain⟨W1,hW1,hB0,hb0,hb1,hz⟩:=nw2 w g (TE c A n kc) 29 71;obtain⟨HW,hg1,hx1,Hel⟩:=Z4 hW1 (hg.at_ hB0) (hx.at_ hB0) hg.hel;have s1:w.heap.size<W1.heap.size:=oM;have s1':w.heap.size+1<W1.heap.size:=oM;have Hb0:=Z1 hb0;have Hb1:=Z1 hb1;clear hW1 hz hb0 hb1 hg hx;go_enter func152,ntmps152;go_upto_region 1 with(fail);rw [<- HW.out];go_wp2
 go_loopw [9] (fun i wr=>∃ k:Nat,k<=4/\i=.int .i64 k/\Jr.upto g c k/\Below W1 W1 wr) (fun i _=>4-(intOf i).toNat)
 case atStart=>exact⟨0,oM,rfl,⟨oM,oM,oM,oM⟩,bR⟩
 case round =>
  obtain⟨k,hk,rfl,hu,hb⟩:=hrel;have Hu:=Z1 hu;have hB0r:=hB0.trans (hb.mono hB0.size);have hgr:=Z1 ((hg1.out.below hb lR).more hb.size);have hxr:=Z1 ((hx1.out.below hb lR).more hb.size);have Hg:=gB Hb0 hb s1;have Hx:=gB Hb1 hb s1';have q1:=Vq Hg.out;have q2:=Vq Hx.out;clear hu
  rcases(show k=0∨k=1∨k=2∨k=3∨k=4 by omega) with rfl | rfl | rfl | rfl | rfl
  case inr.inr.inr.inr =>
   have HV:Hid (Jr.fine g c=true):=by
    show _=_;obtain⟨h1,h2,h3,h4⟩:=Hu.out;unfold Jr.fine;rw [h1 oM,h2 oM,h3 oM,h4 oM];rfl
   go_wp2;go_ret;exact FinePost.good HV.out hB0r
  case inl =>
   have hix:∀ W,(Instr.index 272 (.agg #[.func (.func 201) #[] #[],.func (.func 202) #[] #[],.func (.func 203) #[] #[],.func (.func 204) #[] #[]]) (.int .i64 0)).run prog W=.ok (.func (.func 201) #[] #[]) W:=fun W=>kR;go_wp2_with (first | (refine wpList_load_row rfl 29 _ rfl _ rfl _ _ _ _ Hg.out underlying29 rfl VJ ?_) | (refine wpList_load_row rfl 71 _ rfl _ rfl _ _ _ _ Hx.out underlying71 rfl a0H ?_));refine(a8l wr g c A n kc hgr.out hxr.out).mono ?_;have HF:Hid (Jr.formed g c=false->Jr.fine g c=false):=Z1 fun h=>by unfold Jr.fine;rw [h];rfl
   have HN:Hid (Jr.formed g c=true->Jr.upto g c 1):=Z1 fun h=>⟨fun _=>h,oM,oM,oM⟩;rintro e W2 ⟨⟨m,rfl,hm⟩,hB2⟩;have hb2:=hb.trans (hB2.mono hb.size);have hBF:=hB0r.trans (hB2.mono hB0r.size)
   by_cases h:m=0
   ·have h':(m != 0)=false:=by simp [h]
    have HN:=Z1 (HN.out (hm.1 h));clear h hm;go_wp2;go_roundw
    case rel=>exact⟨1,oM,rfl,HN.out,hb2⟩
    case measure=>simp [intOf]
   ·have h':(m != 0)=true:=by simp [h]
    have HF:=Z1 (HF.out (by cases hq:Jr.formed g c;rfl;exact absurd (hm.2 hq) h));have Hne:=Z1 h;clear h hm;go_wp2;go_ret;exact FinePost.bad HF.out Hne.out hBF
  case inr.inl =>
   have hix:∀ W,(Instr.index 272 (.agg #[.func (.func 201) #[] #[],.func (.func 202) #[] #[],.func (.func 203) #[] #[],.func (.func 204) #[] #[]]) (.int .i64 1)).run prog W=.ok (.func (.func 202) #[] #[]) W:=fun W=>kR;obtain⟨hv,ke,hke,hkl⟩:=Jr.fine_parts (Hu.out.1 oM);have hc:=Z1 (a6U wr g c A n kc ke hgr.out hxr.out hke (by have:=Hel.out;omega));clear hv hke hkl;go_wp2_with (first | (refine wpList_load_row rfl 29 _ rfl _ rfl _ _ _ _ Hg.out underlying29 rfl VJ ?_) | (refine wpList_load_row rfl 71 _ rfl _ rfl _ _ _ _ Hx.out underlying71 rfl a0H ?_));refine hc.out.mono ?_;have HF:Hid (Jr.charted g c=false->Jr.fine g c=false):=Z1 fun h=>by unfold Jr.fine;rw [h];simp
   have HN:Hid (Jr.charted g c=true->Jr.upto g c 2):=Z1 fun h=>⟨fun _=>Hu.out.1 oM,fun _=>h,oM,oM⟩;rintro e W2 ⟨⟨m,rfl,hm⟩,hB2⟩;have hb2:=hb.trans (hB2.mono hb.size);have hBF:=hB0r.trans (hB2.mono hB0r.size)
   by_cases h:m=0
   ·have h':(m != 0)=false:=by simp [h]
    have HN:=Z1 (HN.out (hm.1 h));clear h hm;go_wp2;go_roundw
    case rel=>exact⟨2,oM,rfl,HN.out,hb2⟩
    case measure=>simp [intOf]
   ·have h':(m != 0)=true:=by simp [h]
    have HF:=Z1 (HF.out (by cases hq:Jr.charted g c;rfl;exact absurd (hm.2 hq) h));have Hne:=Z1 h;clear h hm;go_wp2;go_ret;exact FinePost.bad HF.out Hne.out hBF
  case inr.inr.inl =>
   have hix:∀ W,(Instr.index 272 (.agg #[.func (.func 201) #[] #[],.func (.func 202) #[] #[],.func (.func 203) #[] #[],.func (.func 204) #[] #[]]) (.int .i64 2)).run prog W=.ok (.func (.func 203) #[] #[]) W:=fun W=>kR;have hv:=(Jr.fine_parts (Hu.out.1 oM)).1;have hc:=Z1 (a9Y wr g c A n kc hv);clear hv;go_wp2_with (first | (refine wpList_load_row rfl 29 _ rfl _ rfl _ _ _ _ Hg.out underlying29 rfl VJ ?_) | (refine wpList_load_row rfl 71 _ rfl _ rfl _ _ _ _ Hx.out underlying71 rfl a0H ?_));refine hc.out.mono ?_;have HF:Hid (Jr.dated g c=false->Jr.fine g c=false):=Z1 fun h=>by unfold Jr.fine;rw [h];simp
   have HN:Hid (Jr.dated g c=true->Jr.upto g c 3):=Z1 fun h=>⟨fun _=>Hu.out.1 oM,fun _=>Hu.out.2.1 oM,fun _=>h,oM⟩;rintro e W2 ⟨⟨m,rfl,hm⟩,hB2⟩;have hb2:=hb.trans (hB2.mono hb.size);have hBF:=hB0r.trans (hB2.mono hB0r.size)
   by_cases h:m=0
   ·have h':(m != 0)=false:=by simp [h]
    have HN:=Z1 (HN.out (hm.1 h));clear h hm;go_wp2;go_roundw
    case rel=>exact⟨3,oM,rfl,HN.out,hb2⟩
    case measure=>simp [intOf]
   ·have h':(m != 0)=true:=by simp [h]
    have HF:=Z1 (HF.out (by cases hq:Jr.dated g c;rfl;exact absurd (hm.2 hq) h));have Hne:=Z1 h;clear h hm;go_wp2;go_ret;exact FinePost.bad HF.out Hne.out hBF
  case inr.inr.inr.inl =>
   have hix:∀ W,(Instr.index 272 (.agg #[.func (.func 201) #[] #[],.func (.func 202) #[] #[],.func (.func 203) #[] #[],.func (.func 204) #[] #[]]) (.int .i64 3)).run prog W=.ok (.func (.func 204) #[] #[]) W:=fun W=>kR;have hc:=Z1 (a6k wr g c A n kc hxr.out);go_wp2_with (first | (refine wpList_load_row rfl 29 _ rfl _ rfl _ _ _ _ Hg.out underlying29 rfl VJ ?_) | (refine wpList_load_row rfl 71 _ rfl _ rfl _ _ _ _ Hx.out underlying71 rfl a0H ?_));refine hc.out.mono ?_;have HF:Hid (decide (Jr.total c.lines=0)=false->Jr.fine g c=false):=Z1 fun h=>by unfold Jr.fine;rw [h];simp
   have HN:Hid (decide (Jr.total c.lines=0)=true->Jr.upto g c 4):=Z1 fun h=>⟨fun _=>Hu.out.1 oM,fun _=>Hu.out.2.1 oM,fun _=>Hu.out.2.2.1 oM,fun _=>h⟩;rintro e W2 ⟨⟨m,rfl,hm⟩,hB2⟩;have hb2:=hb.trans (hB2.mono hb.size);have hBF:=hB0r.trans (hB2.mono hB0r.size)
   by_cases h:m=0
   ·have h':(m != 0)=false:=by simp [h]
    have HN:=Z1 (HN.out (hm.1 h));clear h hm;go_wp2;go_roundw
    case rel=>exact⟨4,oM,rfl,HN.out,hb2⟩
    case measure=>simp [intOf]
   ·have h':(m != 0)=true:=by simp [h]
    have HF:=Z1 (HF.out (by cases hq:decide (Jr.total c.lines=0);rfl;exact absurd (hm.2 hq) h));have Hne:=Z1 h;clear h hm;go_wp2;go_ret;exact FinePost.bad HF.out Hne.out hBF
end
open Go.RowKit
def Ent.era (e:Ent):Ent:={ e with cA:=none,cn:=0,cc:=0,lA:=none,ln:=0,lc:=0 }
def Grp.era (g:Grp):Grp:={ g with cA:=none,cn:=0,cc:=0,eA:=none,en:=0,ec:=0,ents:=g.ents.map Ent.era }
theorem Gr.eat_era (l:List Ent) (i:Nat):Gr.eat (l.map Ent.era) i=(Gr.eat l i).era:=by
 unfold Gr.eat
 by_cases h:i<l.length
 ·simp [h]
 ·simp [h,Ent.zero,Ent.era]
theorem Gr.entAt_era (g:Grp) (i:Nat):Gr.entAt g.era i=Gr.entAt g i:=by
 unfold Gr.entAt;show(Gr.entity g.era (Gr.eat (g.ents.map Ent.era) i)&&_)=_;rw [Gr.eat_era];show(Gr.entity g (Gr.eat g.ents i)&&!((g.ents.map Ent.era).take i).any (fun y=>decide (y.name=(Gr.eat (g.ents.map Ent.era) i).name)))=_;rw [Gr.eat_era,<- List.map_take,List.any_map];rfl
theorem Gr.valid_era (g:Grp):Gr.valid g.era=Gr.valid g:=by
 unfold Gr.valid;show(Gr.books g&&decide (1<=(g.ents.map Ent.era).length)&&decide ((g.ents.map Ent.era).length<=12)&&!(Gr.eat (g.ents.map Ent.era) 0).joint&&(List.range (g.ents.map Ent.era).length).all (Gr.entAt g.era))=_;rw [Gr.eat_era,List.length_map,show Gr.entAt g.era=Gr.entAt g from funext (Gr.entAt_era g)];rfl
theorem Jr.fine_era (g:Grp) (x:EtC):Jr.fine g.era x=Jr.fine g x:=by
 have h1:Jr.formed g.era x=Jr.formed g x:=by
  unfold Jr.formed;rw [Gr.valid_era,show g.era.ents.length=g.ents.length from List.length_map _]
 have h2:Jr.charted g.era x=Jr.charted g x:=by
  unfold Jr.charted Jr.chartOf;rw [show g.era.ents=g.ents.map Ent.era from rfl,Gr.eat_era];rfl
 unfold Jr.fine;rw [h1,h2];rfl
theorem Jr.fine_same {g g':Grp} (h:g'.era=g.era) (x:EtC):Jr.fine g' x=Jr.fine g x:=by rw [<- Jr.fine_era,h,Jr.fine_era]
theorem RowsTy.keep {α:Type} {f:α->List Value} {sz:Nat} {t:TypeId} {w w':World} {A:Option Addr} {l:List α} {k:Nat} (h:RowsTy t w A l) (hi:RowsAt f sz w w A l) (hk:∀ cur fr,w.heap[k]?≠some (.cells cur t fr)) (hg:w.grownBy w' (some k)) :
  RowsTy t w' A l/\RowsAt f sz w' w' A l:=by
 rcases h with h | ⟨b,o,cur,fr,e,hb⟩
 ·exact⟨.inl h,.inl h⟩
 ·have hne:some b≠some k:=fun q=>by cases q;exact hk _ _ hb
  refine⟨.inr ⟨b,o,cur,fr,e,(hg.block b (Vq hb) hne).trans hb⟩,RowsAt.kept hi hg fun b' o' q=>?_⟩;rw [e] at q;cases q;exact hne
structure Ent.Cp (w:World) (e e':Ent):Prop where
 he:e'.era=e.era
 ha:e'.At w w.heap.size
 hc:RowsTy 87 w e'.cA e'.chart
 hl:RowsTy 150 w e'.lA e'.links
theorem Ent.Cp.at_ {w w':World} {e e':Ent} (h:Ent.Cp w e e') (hb:Below w w w'):Ent.Cp w' e e':=⟨h.he,h.ha.at_ hb,h.hc.below hb,h.hl.below hb⟩
theorem Ent.Cp.keep {w w':World} {e e':Ent} {k:Nat} (h:Ent.Cp w e e') {cs:Array Value} {t:TypeId} {fr:Nat × Nat} (hk:w.heap[k]?=some (.cells cs t fr)) (h1:t≠87) (h2:t≠150) (hg:w.grownBy w' (some k)):Ent.Cp w' e e':=by
 have g1:=h.hc.keep h.ha.hc (k:=k) (fun cur fr e=>by rw [hk] at e;cases e;exact h1 rfl) hg;have g2:=h.hl.keep h.ha.hl (k:=k) (fun cur fr e=>by rw [hk] at e;cases e;exact h2 rfl) hg;exact⟨h.he,⟨h.ha.hcl,h.ha.hcn,g1.2,h.ha.hcw,h.ha.hll,h.ha.hln,g2.2,h.ha.hlw,h.ha.hn,h.ha.hu⟩,g1.1,g2.1⟩
def Blk {α:Type} (f:α->List Value) (sz:Nat) (t:TypeId) (w:World) (G:Nat) (l:List α):Prop :=
 ∃ cur,w.heap[G]?=some (.cells cur t (0,0))/\cur.toList.take (l.length*sz)=l.flatMap f
theorem a7n {α:Type} {f:α->List Value} {sz:Nat} (hf:∀ a,(f a).length=sz):∀(l:List α) (i:Nat) (hi:i<l.length) (j:Nat) (v:Value) (y:α),j<sz->f y=(f l[i]).set j v->(l.flatMap f).set (i*sz+j) v=(l.set i y).flatMap f
 | a::l,0,_,j,v,y,hj,h=>by
  simp only [List.flatMap_cons,List.set_cons_zero,Nat.zero_mul,Nat.zero_add];rw [h,List.set_append_left _ _ (by rw [hf];exact hj)];rfl
 | a::l,i+1,hi,j,v,y,hj,h=>by
  have ih:=a7n hf l i (by simpa using hi) j v y hj (by simpa using h);simp only [List.flatMap_cons,List.set_cons_succ];rw [<- ih,show(i+1)*sz+j=(f a).length+(i*sz+j) by rw [hf,Nat.add_mul];omega,List.set_append_right _ _ oM]
  congr 2;omega
section
variable {α:Type} {f:α->List Value} {sz:Nat} {t:TypeId} {w w':World} {G B:Nat} {l:List α}
theorem Blk.lt (h:Blk f sz t w G l):G<w.heap.size:=by obtain⟨_,h,_⟩:=h;exact Vq h
theorem Blk.own {base n c:Nat} (h:w.ownsRow base t sz (.slice (some ⟨G,0,none⟩) n c) n (l.flatMap f)) (hn:n=l.length):Blk f sz t w G l:=by
 subst hn
 rcases h.2 with⟨e,_⟩ | ⟨g,cap,cur,e,_,hg,_,_,_,htk⟩
 ·cases e
 ·cases e;exact⟨cur,hg,htk⟩
theorem Blk.below (h:Blk f sz t w G l) (hb:Below w w w'):Blk f sz t w' G l:=by obtain⟨cur,h1,h2⟩:=h;exact⟨cur,gbox h1 hb (Vq h1),h2⟩
theorem Blk.get (h:Blk f sz t w G l) (hf:∀ a,(f a).length=sz) {i:Nat} (hi:i<l.length):∃ cur,w.heap[G]?=some (.cells cur t (0,0))/\∀ j v,j<sz->(f l[i])[j]?=some v->cur[i*sz+j]?=some v:=by
 obtain⟨cur,h1,h2⟩:=h;refine⟨cur,h1,fun j v hj hv=>?_⟩;have e:=a1s f sz l (fun a _=>hf a) i hi j hj;rw [hv,<- h2,List.getElem?_take] at e
 split at e
 ·simpa using e
 ·cases e
theorem Blk.cell (h:Blk f sz t w G l) (hf:∀ a,(f a).length=sz) {i:Nat} (hi:i<l.length) {j:Nat} {v:Value} (hj:j<sz) (hv:(f l[i])[j]?=some v):w.cell? ⟨G,i*sz+j,none⟩=some v:=by
 obtain⟨cur,h1,h2⟩:=h.get hf hi;exact(cr9 _ h1).trans (h2 j v hj hv)
theorem Blk.rows (h:Blk f sz t w G l) (hf:∀ a,(f a).length=sz) (hB:G<B):RowsAt f sz w B (some ⟨G,0,none⟩) l :=
 .inr ⟨G,0,rfl,hB,fun k hk j v hv=>by
  have hj:j<sz:=by have:=(List.getElem?_eq_some_iff.1 hv).1;rwa [hf] at this
  rw [Nat.zero_add];exact h.cell hf hk hj hv⟩
theorem Blk.set (h:Blk f sz t w G l) (hf:∀ a,(f a).length=sz) {i:Nat} (hi:i<l.length) {j:Nat} (hj:j<sz) (v:Value) (y:α) (hy:f y=(f l[i]).set j v):Blk f sz t (w.setCell ⟨G,i*sz+j,none⟩ v) G (l.set i y):=by
 obtain⟨cur,h1,h2⟩:=h;refine⟨_,heap_setCell_same _ G _ _ _ v h1,?_⟩;rw [List.length_set,<- a7n hf l i hi j v y hj hy,<- h2];simp [List.take_set]
end
open Go.Proofs.Tryz Go.RowKit
def CopyPost (g:Grp) (w:World) (e:Ending) (w':World):Prop:=Below w w w'/\∃ g':Grp,e=.returned (g')/\g'.era=g.era/\g'.At w' w'.heap.size
structure Cping (g:Grp) (i:Nat) (w:World) (G:Nat) (L:List Ent):Prop where
 hl:L.length=g.ents.length
 hb:Blk Ent.cells 5 102 w G L
 hc:∀ k (h:k<L.length) (h':k<g.ents.length),(k<i->Ent.Cp w g.ents[k] L[k])/\(i<=k->L[k]=g.ents[k])
theorem Cping.done {g:Grp} {w:World} {G:Nat} {L:List Ent} (h:Cping g g.ents.length w G L):L.map Ent.era=g.ents.map Ent.era/\∀ e∈L,e.At w w.heap.size:=by
 constructor
 ·apply List.ext_getElem (by simp [h.hl])
  intro k h1 h2;simp only [List.length_map] at h1 h2;rw [List.getElem_map,List.getElem_map];exact((h.hc k h1 h2).1 h2).he
 ·intro e he
  obtain⟨k,hk,rfl⟩:=List.getElem_of_mem he;have:=h.hl;exact((h.hc k hk oM).1 oM).ha
theorem Cping.other {g:Grp} {i:Nat} {w w':World} {G k:Nat} {L:List Ent} (h:Cping g i w G L) {cs:Array Value} {t:TypeId} {fr:Nat × Nat} (hk:w.heap[k]?=some (.cells cs t fr)) (h1:t≠87) (h2:t≠150) (h3:k≠G) (hg:w.grownBy w' (some k)):Cping g i w' G L :=
 ⟨h.hl,by obtain⟨cur,q1,q2⟩:=h.hb;exact⟨cur,(hg.block G (Vq q1) sO).trans q1,q2⟩,fun k h4 h5=>⟨fun h6=>((h.hc k h4 h5).1 h6).keep hk h1 h2 hg,(h.hc k h4 h5).2⟩⟩
theorem a1O (w:World) (b:Nat) (cs:Array Value):w.grownBy (w.setRow b cs) (some b) :=
 ⟨rfl,rfl,rfl,sP,fun i _ hne=>setRow_other w b i cs (fun e=>hne (by rw [e]))⟩
section
variable (w:World)
theorem a9I (g:Grp) (hg:g.At w w) (h1:1<=g.en) :
  Calls prog 151 #[g] w (CopyPost g w):=by
 obtain⟨W1,hW1,hB0,hb0,hb1,hz⟩:=nw2 w g #[.string ⟨#[]⟩,(),(),(),.slice none 0 0,(),(),(),(),(),(),(),(),(),(),(),(),(),(),(),.slice none 0 0] 29 29;obtain⟨HW,hg1,Hg0⟩:=Z3 hW1 (hg.at_ hB0) hg;have hcn:=hg.hcn;have hen:=hg.hen;have s1:w.heap.size<W1.heap.size:=oM;have s1':w.heap.size+1<W1.heap.size:=oM;have x4:=cr9 4 hb0;simp at x4;have Hb0:=Z1 hb0;have Hb1:=Z1 hb1;clear hW1 hz hb0 hb1 hg;go_enter func151,ntmps151;go_upto_region 1 with(fail);rw [<- HW.out];go_wp2_with (fail);refine(a2A W1 g.cA g.cn g.cc g.chart hg1.out.hcl hcn hg1.out.hc).mono ?_;rintro e W2 ⟨hB2,A1,c1,rfl,ho1⟩;have hd2:=gbox Hb0.out hB2 s1;have f2:=fun j=>fr0 j hd2;have d2:=cr9 4 hd2;simp at d2;have s2:w.heap.size<W2.heap.size:=Vq hd2;have hd3:=heap_setCell_same W2 w.heap.size 4 _ _ (.slice A1 g.cn c1) hd2;simp at hd3;obtain⟨W3,hW3⟩:∃ W3,W3=W2.setCell ⟨w,4,none⟩ (.slice A1 g.cn c1):=⟨_,rfl⟩;rw [<- hW3] at hd3;have hBw2:=hB0.trans (hB2.mono hB0.size);have hBw3:Below w w W3:=by rw [hW3];exact hBw2.setCell (p:=⟨w,4,none⟩) lR _
 have hg23:W2.grownBy W3 (some w):=by rw [hW3];exact Xv (Xq _ _) _ _
 have hz23:W3.heap.size=W2.heap.size:=by rw [hW3];simp [World.setCell]
 have ho1':=Xz (f:=Acc.cells) (sz:=4) dC (fun _=>rfl) ho1 hg1.out.hcl.symm;obtain⟨A1',c1',e1,hA1⟩:=ho1'
 cases e1
 have hT1:=a2P ho1 hg1.out.hcl.symm;obtain⟨hT3,hA3⟩:=hT1.keep hA1 (k:=w.heap.size) (fun cur fr e=>by rw [hd2] at e;cases e) hg23;have hb13:=gbox Hb1.out hB2 s1';have hb13':W3.heap[w.heap.size+1]?=some (.cells #[.string ⟨#[]⟩,(),(),(),.slice none 0 0,(),(),(),(),(),(),(),(),(),(),(),(),(),(),(),.slice none 0 0] 29 (0,0)):=by rw [hW3];exact(heap_setCell_other W2 ⟨w,4,none⟩ _ _ sP).trans hb13
 obtain⟨HT3,HA3,Hd3,Hb13⟩:=Z4 hT3 hA3 hd3 hb13';have he3:RowsAt Ent.cells 5 W3 W3 g.eA g.ents:=(RowsAt.below Hg0.out.he hBw3 lR).more hBw3.size;have x20:=cr9 20 hd3;simp at x20;have s3:w.heap.size<W3.heap.size:=Vq hd3;have s3':w.heap.size+1<W3.heap.size:=Vq Hb13.out;have HW3:=Z1 hW3;have Hel:=Z1 hg1.out.hel;clear hW3 hd2 hd3 hT3 hA3 hT1 hA1 ho1 hb13 hb13' hg23 hz23;go_upto_region 2 with(fail);rw [<- HW3.out];clear x4 d2 f2;go_wp2_with (fail);refine(b0f W3 g.eA g.en g.ec g.ents Hel.out hen he3).mono ?_;rintro e W4 ⟨hB4,A2,c2,rfl,ho2⟩
 obtain⟨G,hA2,hG0⟩:∃ G,A2=some ⟨G,0,none⟩/\W3.heap.size<=G:=by
  rcases ho2.2 with⟨e,h0⟩ | ⟨G,cap,cur,e,hb,_⟩
  ·omega
  ·cases e;exact⟨G,rfl,hb⟩
 subst hA2;have hBk:=Blk.own ho2 Hel.out.symm;have hd4:=gbox Hd3.out hB4 s3;have f4:=fun j=>fr0 j hd4;have d4:=cr9 20 hd4;simp at d4;have s4:w.heap.size<W4.heap.size:=Vq hd4;have hd5:=heap_setCell_same W4 w.heap.size 20 _ _ (.slice (some ⟨G,0,none⟩) g.en c2) hd4;simp at hd5;have hBw4:=hBw3.trans (hB4.mono hBw3.size);have hT4:=HT3.out.below hB4;have hA4:=RowsAt.at_ HA3.out hB4;obtain⟨W5,hW5⟩:∃ W5,W5=W4.setCell ⟨w,20,none⟩ (.slice (some ⟨G,0,none⟩) g.en c2):=⟨_,rfl⟩;rw [<- hW5] at hd5;have hBw5:Below w w W5:=by rw [hW5];exact hBw4.setCell (p:=⟨w,20,none⟩) lR _
 have hg45:W4.grownBy W5 (some w):=by rw [hW5];exact Xv (Xq _ _) _ _
 obtain⟨hT5,hA5⟩:=hT4.keep hA4 (k:=w.heap.size) (fun cur fr e=>by rw [hd4] at e;cases e) hg45
 have hBk5:Blk Ent.cells 5 102 W5 G g.ents:=by
  obtain⟨cur,q1,q2⟩:=hBk;exact⟨cur,by rw [hW5];exact(heap_setCell_other W4 ⟨w,20,none⟩ _ _ sO).trans q1,q2⟩
 have hb15:W5.heap[w.heap.size+1]?=some (.cells #[.string ⟨#[]⟩,(),(),(),.slice none 0 0,(),(),(),(),(),(),(),(),(),(),(),(),(),(),(),.slice none 0 0] 29 (0,0)):=by rw [hW5];exact(heap_setCell_other W4 ⟨w,20,none⟩ _ _ sP).trans (gbox Hb13.out hB4 s3')
 obtain⟨HT5,HA5,Hd5,Hb15,hCp⟩:=Z5 hT5 hA5 hd5 hb15 (show Cping g 0 W5 G g.ents from⟨rfl,hBk5,fun k _ _=>⟨fun h=>oM,fun _=>rfl⟩⟩);have x20':=cr9 20 hd5;simp at x20';have s5:w.heap.size<W5.heap.size:=Vq hd5;have s5':w.heap.size+1<W5.heap.size:=Vq hb15;have hGs:w.heap.size+1<G:=oM;have HW5:=Z1 hW5;clear hW5 hd4 hd5 hT5 hA5 hT4 hA4 hBk hBk5 hb15 ho2 hg45 x20;go_upto_region 3 with(fail);rw [<- HW5.out];clear d4 f4;go_wp2
 go_loopw [16] (fun i wr=>∃ k:Nat,k<=g.en/\i=.int .i64 k/\(∃ L,Cping g k wr G L)/\(RowsTy 87 wr A1 g.chart/\RowsAt Acc.cells 4 wr wr A1 g.chart)/\Below G W5 wr) (fun i _=>g.en-(intOf i).toNat)
 case atStart=>exact⟨0,Nat.zero_le _,rfl,⟨_,hCp.out⟩,⟨HT5.out,HA5.out⟩,bR⟩
 case round =>
  obtain⟨k,hk,rfl,⟨L,hL⟩,hch,hb⟩:=hrel;have HL:=Z1 hL;have Hch:=Z1 hch;clear hL hch x20';have hdr:=(hb.block _ (by omega:w.heap.size<G)).trans Hd5.out;have hbr1:=(hb.block _ hGs).trans Hb15.out;have y20:=cr9 20 hdr;simp at y20;have sr:w.heap.size<wr.heap.size:=Vq hdr;have hGr:=HL.out.hb.lt;have Hbr1:=Z1 hbr1;have Hdr:=Z1 hdr;have hbww:=hBw5.trans (hb.mono oM);clear hdr hbr1
  by_cases hlt:k<g.en
  case neg =>
   obtain rfl:k=g.en:=oM;have hq:=HL.out;have e:Cping g g.ents.length wr G L:=by rw [Hel.out];exact hq
   have hLl:L.length=g.en:=e.hl.trans Hel.out;obtain⟨g',hg'⟩:∃ g':Grp,g'={ g with cA:=A1,cn:=g.cn,cc:=c1,eA:=some ⟨G,0,none⟩,en:=g.en,ec:=c2,ents:=L }:=⟨_,rfl⟩;have HE:Hid (g'.era=g.era):=by show _=_;rw [hg'];unfold Grp.era;simp only [e.done.1]
   have hR:=setRow_heap wr (w.heap.size+1) _ g' _ _ Hbr1.out;have hload:=Z1 (run_loadVar_row (P:=prog) _ _ _ 29 _ _ _ hR underlying29 rfl VJ);have hBF:=Z1 (below_setRow hbww (show w.heap.size<=w.heap.size+1 by omega) g');have Ho:Hid ((g':Array Value).all (·.oneCell')=true):=by show _=_;simp [Value.oneCell']
   have hgr:=a1O wr (w.heap.size+1) g';have e6:=e.other Hbr1.out dC dC oM hgr;have hA6:=(Hch.out.1.keep Hch.out.2 (k:=w.heap.size+1) (fun cur fr q=>by rw [Hbr1.out] at q;cases q) hgr).2
   have HG':Hid (g'.At (wr.setRow (w.heap.size+1) g') (wr.setRow (w.heap.size+1) g').heap.size):=by
    have gen:∀ WF:World,RowsAt Acc.cells 4 WF WF A1 g.chart->Cping g g.ents.length WF G L->g'.At WF WF.heap.size:=by
     intro WF a1 a2;rw [hg'];exact⟨Hg0.out.hcl,Hg0.out.hcn,a1,Hg0.out.hcw,hLl,hen,a2.hb.rows (fun _=>rfl) a2.hb.lt,a2.done.2,Hg0.out.hn,Hg0.out.hr⟩
    exact gen _ hA6 e6
   have hdr':wr.heap[w.heap.size]?=some (.cells g' 29 (0,0)):=by rw [hg'];exact Hdr.out
   have Hdr':=Z1 hdr';have s6:w.heap.size+1<wr.heap.size:=Vq Hbr1.out;clear hR hdr' e hq hLl hg' hA6 e6 hgr;go_wp2_with (first | (refine wpList_load_row rfl 29 _ rfl _ rfl _ _ _ _ Hdr'.out underlying29 rfl VJ ?_) | (refine Vx rfl 29 (.tmp 2) (.tmp 40) none rfl rfl (w.heap.size+1) 29 _ g' rfl rfl Hbr1.out rfl VJ Ho.out ?_));exact bodyPost_ret (v:=g') (by simp [results,results151,asAddr,Act.put,hload.out]) rfl ⟨hBF.out,g',rfl,HE.out,HG'.out⟩
  have hkl:k<g.ents.length:=by have:=Hel.out;omega
  have hkL:k<L.length:=by rw [HL.out.hl];exact hkl
  have hLk:L[k]=g.ents[k]:=(HL.out.hc k hkL hkl).2 lR;obtain⟨e,he⟩:∃ e,e=g.ents[k]:=⟨_,rfl⟩;have c2:=HL.out.hb.cell (fun _=>rfl) hkL (j:=2) oM (by rw [hLk];rfl);have c3:=HL.out.hb.cell (fun _=>rfl) hkL (j:=3) oM (by rw [hLk];rfl);rw [<- he] at c2 c3;obtain⟨cur0,hcur0,_⟩:=HL.out.hb;have cf:=fun j=>fr0 j hcur0;have Hcf:=Z1 cf;have Hcur0:=Z1 hcur0;have Heo:=Z1 (show e.At wr w by rw [he];exact(Hg0.out.hea _ (List.getElem_mem _)).below hbww lR);have hk0:(0:Int)<=(k:Int):=oM;have hkn:(k:Int)<(g.en:Int):=oM;have HhLk:=Z1 hLk;have He:=Z1 he;clear he hLk hcur0;go_upto_region 7 with(fail);have hS:Below G wr wr.drew:=Vw bR 1;refine wp_region_held (S:=Below G wr) kR ?_;change wpAnyH _ _ _ _ _ _ _ _ (World.drew wr);obtain⟨W_0,hWd⟩:∃ W0,W0=wr.drew:=⟨_,rfl⟩;rw [<- hWd] at hS ⊢;have hB0':Below wr wr W_0:=by rw [hWd];exact Vw bR 1
  have hz0':wr.heap.size=W_0.heap.size:=by rw [hWd];rfl
  clear hWd;refine jT 0 hS ?_;refine jT 1 hS ?_;refine jT 2 hS ?_;refine jT 3 hS ?_;refine jT 4 hS ?_;refine jT 7 hS ?_;refine jT 8 hS ?_;refine jT 9 hS ?_;refine a0E fun md' ops' Q' a' hlm hlo hlq hla=>?_;obtain⟨RG,hRG⟩:∃ R:World->Prop,R=Below G wr:=⟨_,rfl⟩;rw [<- hRG] at hS ⊢
  have fin:∀(W W6:World) (A6:Option Addr) (c6:Nat) (A8:Option Addr) (c8:Nat),RG W->Below wr wr W6->W6.ownsRow wr.heap.size 87 4 (.slice A6 e.cn c6) e.cn (e.chart.flatMap Acc.cells)->Below W6 W6 W->W.ownsRow W6.heap.size 150 3 (.slice A8 e.ln c8) e.ln (e.links.flatMap Lnk.cells) ->
   wpAnyH prog md' ops' Q' RG 6 #[true,true,true,true,true,true,true,true,true,true,true,true,false,false,false,false,false,false] ((((a'.put (some 28) (.slice e.cA e.cn e.cc)).put (some 33) (.slice e.lA e.ln e.lc)).put (some 29) (.slice A6 e.cn c6)).put (some 34) (.slice A8 e.ln c8)) W:=by
   intro W W6 A6 c6 A8 c8 hS h6 o6 h8 o8;subst hlm hlo hlq hla hRG
   try simp only [z]
   have hw:Below wr wr W:=h6.trans (h8.mono h6.size);have hcurW:=gbox Hcur0.out hw hGr;have f1:=fun j=>fr0 j hcurW;have k2:W.cell? ⟨G,k*5+2,none⟩=some (.slice e.cA e.cn e.cc):=(hw.cell (p:=⟨G,k*5+2,none⟩) hGr).trans c2;have sG:G<W.heap.size:=Vq hcurW;refine jT 12 hS ?_;refine jT 13 hS ?_;refine rZ 14 fun K hK=>?_;go_simp;have hS2:=hS.setCell (p:=⟨G,k*5+2,none⟩) lR (.slice A6 e.cn c6);have hc2:=heap_setCell_same W G (k*5+2) _ _ (.slice A6 e.cn c6) hcurW
   have k3:(W.setCell ⟨G,k*5+2,none⟩ (.slice A6 e.cn c6)).cell? ⟨G,k*5+3,none⟩=some (.slice e.lA e.ln e.lc):=by
    rw [World.cell?_setCell_other _ _ _ _ sP];exact(hw.cell (p:=⟨G,k*5+3,none⟩) hGr).trans c3
   refine jK hK hS2 ?_;clear hK K;obtain⟨V,hV⟩:∃ V,V=W.setCell ⟨G,k*5+2,none⟩ (.slice A6 e.cn c6):=⟨_,rfl⟩;rw [<- hV] at hS2 hc2 k3 ⊢;have f2:=fun j=>fr0 j hc2;have sV:G<V.heap.size:=Vq hc2;have HV:=Z1 hV;clear hV f1 k2;refine jT 15 hS2 ?_;refine jT 16 hS2 ?_;refine rZ 17 fun K hK=>?_;go_simp;have hS3:=hS2.setCell (p:=⟨G,k*5+3,none⟩) lR (.slice A8 e.ln c8);refine hK.out _ _ hS3 (fun _=>?_);clear hK K;refine wpAnyH_done kR ?_ _
   try simp only [z]
   obtain⟨U,hU⟩:∃ U,U=V.setCell ⟨G,k*5+3,none⟩ (.slice A8 e.ln c8):=⟨_,rfl⟩;rw [<- hU] at hS3 ⊢;have hcl:e.chart.length=e.cn:=Heo.out.hcl;have hll:e.links.length=e.ln:=Heo.out.hll;obtain⟨_,_,q1,hA6⟩:=Xz (f:=Acc.cells) (sz:=4) dC (fun _=>rfl) o6 hcl.symm
   cases q1
   obtain⟨_,_,q1,hA8⟩:=Xz (f:=Lnk.cells) (sz:=3) dC (fun _=>rfl) o8 hll.symm
   cases q1
   have hT6:=(a2P o6 hcl.symm).below h8;have hA6':=RowsAt.at_ hA6 h8;have hT8:=a2P o8 hll.symm;obtain⟨e',he'⟩:∃ e':Ent,e'={ e with cA:=A6,cn:=e.cn,cc:=c6,lA:=A8,ln:=e.ln,lc:=c8 }:=⟨_,rfl⟩
   have hCp:Ent.Cp W e e':=by
    rw [he'];exact⟨rfl,⟨hcl,Heo.out.hcn,hA6',Heo.out.hcw,hll,Heo.out.hln,hA8,Heo.out.hlw,Heo.out.hn,Heo.out.hu⟩,hT6,hT8⟩
   have hg1':W.grownBy U (some G):=by rw [hU,HV.out];exact Xv (Xv (Xq _ _) _ _) _ _
   have hCpU:=hCp.keep hcurW dC dC hg1';have hbl:=((HL.out.hb.below hw).set (fun _=>rfl) hkL (j:=2) oM (.slice A6 e.cn c6) { e with cA:=A6,cn:=e.cn,cc:=c6 } (by rw [HhLk.out,<- He.out];rfl));rw [<- HV.out] at hbl;have hbl2:=hbl.set (fun _=>rfl) (i:=k) (by simpa using hkL) (j:=3) oM (.slice A8 e.ln c8) e' (by rw [he'];simp [Ent.cells]);rw [<- hU,List.set_set] at hbl2
   have hnew:Cping g (k+1) U G (L.set k e'):=by
    refine⟨by simp [HL.out.hl],hbl2,fun i h1 h2=>?_⟩;rw [List.getElem_set];have hi:=HL.out.hc i (by simpa using h1) h2
    by_cases q:k=i
    ·subst q
     rw [if_pos rfl,<- He.out];exact⟨fun _=>hCpU,fun q=>oM⟩
    ·rw [if_neg q]
     exact⟨fun q=>((hi.1 oM).at_ hw).keep hcurW dC dC hg1',fun q=>hi.2 oM⟩
   have hch2:=(Hch.out.1.below hw).keep (RowsAt.at_ Hch.out.2 hw) (k:=G) (fun cur fr q=>by rw [hcurW] at q;cases q) hg1';have hbU:=hb.trans (hS3.mono lR);obtain⟨Hnew,Hch2,HbU⟩:=Z3 hnew hch2 hbU;clear hnew hch2 hbU hU hS3 hS2 hS hw hcurW hc2 k3 f2 o6 o8 h6 h8 hCp hCpU hbl hbl2 hT6 hA6' hT8 hA6 hA8 hg1' he' hcl hll sG sV c2 c3 cf y20;go_wp2;go_roundw
   case rel=>exact⟨k+1,oM,by go_num,⟨_,Hnew.out⟩,Hch2.out,HbU.out⟩
   case measure=>simp [intOf];omega
  subst hlm hlo hlq hla hRG;have hszw:wr.heap.size=W_0.heap.size:=hz0'
  try simp only [z]
  refine wpAnyH_ready (rs:=[5,10]) kR sP (.cons rfl (fun K hK=>?_) (.cons rfl (fun K hK=>?_) .nil))
  ·have c0:=(hB0'.cell (p:=⟨G,k*5+2,none⟩) hGr).trans c2
   have sG:G<W_0.heap.size:=by have:=hB0'.size;omega
   go_simp;refine hK.out _ _ (hB0'.mono (Nat.le_of_lt hGr)) (fun _=>?_);clear hK K c0 sG
   try simp only [z]
   refine wpAnyH_ready (rs:=[6,10]) kR sP (.cons rfl (fun K hK=>?_) (.cons rfl (fun K hK=>?_) .nil))
   ·have HC:=Z1 (a2A W_0 e.cA e.cn e.cc e.chart Heo.out.hcl Heo.out.hcn ((RowsAt.below Heo.out.hc hB0' oM).more (by have:=hB0'.size;omega)))
    go_simp;refine HC.out.mono ?_;rintro r W6 ⟨hB6,A6,c6,rfl,o6⟩;have hB6':=hB0'.trans (hB6.mono hB0'.size);refine jK hK (hB6'.mono (Nat.le_of_lt hGr)) ?_;clear hK K;refine wpAnyH_ready (rs:=[10]) kR sP (.cons rfl (fun K hK=>?_) .nil);have c0:=(hB6'.cell (p:=⟨G,k*5+3,none⟩) hGr).trans c3;have sG:G<W6.heap.size:=by have:=hB6'.size;omega
    go_simp;refine hK.out _ _ (hB6'.mono (Nat.le_of_lt hGr)) (fun _=>?_);clear hK K c0 sG
    try simp only [z]
    refine wpAnyH_ready (rs:=[11]) kR sP (.cons rfl (fun K hK=>?_) .nil);have HC:=Z1 (a3T W6 e.lA e.ln e.lc e.links Heo.out.hll Heo.out.hln ((RowsAt.below Heo.out.hl hB6' oM).more (by have:=hB6'.size;omega)));go_simp;refine HC.out.mono ?_;rintro r W8 ⟨hB8,A8,c8,rfl,o8⟩;have hB8':=hB6'.trans (hB8.mono hB6'.size);refine jK hK (hB8'.mono (Nat.le_of_lt hGr)) ?_;clear hK K;have hn:=fin W8 W6 A6 c6 A8 c8 (hB8'.mono (Nat.le_of_lt hGr)) hB6' (by rw [hszw];exact o6) hB8 o8
    try simp only [z] at hn
    exact hn
   ·have c0:=(hB0'.cell (p:=⟨G,k*5+3,none⟩) hGr).trans c3
    have sG:G<W_0.heap.size:=by have:=hB0'.size;omega
    go_simp;refine hK.out _ _ (hB0'.mono (Nat.le_of_lt hGr)) (fun _=>?_);clear hK K c0 sG
    try simp only [z]
    refine wpAnyH_ready (rs:=[6]) kR sP (.cons rfl (fun K hK=>?_) .nil);have HC:=Z1 (a2A W_0 e.cA e.cn e.cc e.chart Heo.out.hcl Heo.out.hcn ((RowsAt.below Heo.out.hc hB0' oM).more (by have:=hB0'.size;omega)));go_simp;refine HC.out.mono ?_;rintro r W6 ⟨hB6,A6,c6,rfl,o6⟩;have hB6':=hB0'.trans (hB6.mono hB0'.size);refine jK hK (hB6'.mono (Nat.le_of_lt hGr)) ?_;clear hK K;refine wpAnyH_ready (rs:=[11]) kR sP (.cons rfl (fun K hK=>?_) .nil);have HC:=Z1 (a3T W6 e.lA e.ln e.lc e.links Heo.out.hll Heo.out.hln ((RowsAt.below Heo.out.hl hB6' oM).more (by have:=hB6'.size;omega)));go_simp;refine HC.out.mono ?_;rintro r W8 ⟨hB8,A8,c8,rfl,o8⟩;have hB8':=hB6'.trans (hB8.mono hB6'.size);refine jK hK (hB8'.mono (Nat.le_of_lt hGr)) ?_;clear hK K;have hn:=fin W8 W6 A6 c6 A8 c8 (hB8'.mono (Nat.le_of_lt hGr)) hB6' (by rw [hszw];exact o6) hB8 o8
    try simp only [z] at hn
    exact hn
  ·have c0:=(hB0'.cell (p:=⟨G,k*5+3,none⟩) hGr).trans c3
   have sG:G<W_0.heap.size:=by have:=hB0'.size;omega
   go_simp;refine hK.out _ _ (hB0'.mono (Nat.le_of_lt hGr)) (fun _=>?_);clear hK K c0 sG
   try simp only [z]
   refine wpAnyH_ready (rs:=[5]) kR sP (.cons rfl (fun K hK=>?_) .nil);have c0:=(hB0'.cell (p:=⟨G,k*5+2,none⟩) hGr).trans c2;have sG:G<W_0.heap.size:=by have:=hB0'.size;omega
   go_simp;refine hK.out _ _ (hB0'.mono (Nat.le_of_lt hGr)) (fun _=>?_);clear hK K c0 sG
   try simp only [z]
   refine wpAnyH_ready (rs:=[6]) kR sP (.cons rfl (fun K hK=>?_) .nil);have HC:=Z1 (a2A W_0 e.cA e.cn e.cc e.chart Heo.out.hcl Heo.out.hcn ((RowsAt.below Heo.out.hc hB0' oM).more (by have:=hB0'.size;omega)));go_simp;refine HC.out.mono ?_;rintro r W6 ⟨hB6,A6,c6,rfl,o6⟩;have hB6':=hB0'.trans (hB6.mono hB0'.size);refine jK hK (hB6'.mono (Nat.le_of_lt hGr)) ?_;clear hK K;refine wpAnyH_ready (rs:=[11]) kR sP (.cons rfl (fun K hK=>?_) .nil);have HC:=Z1 (a3T W6 e.lA e.ln e.lc e.links Heo.out.hll Heo.out.hln ((RowsAt.below Heo.out.hl hB6' oM).more (by have:=hB6'.size;omega)));go_simp;refine HC.out.mono ?_;rintro r W8 ⟨hB8,A8,c8,rfl,o8⟩;have hB8':=hB6'.trans (hB8.mono hB6'.size);refine jK hK (hB8'.mono (Nat.le_of_lt hGr)) ?_;clear hK K;have hn:=fin W8 W6 A6 c6 A8 c8 (hB8'.mono (Nat.le_of_lt hGr)) hB6' (by rw [hszw];exact o6) hB8 o8
   try simp only [z] at hn
   exact hn
end
open Go.Proofs.Tryz Go.RowKit Go.Maps
theorem b2H {D:DataW Value} {kl:Lit} {o:Option Value} (h:∀ z:Value,D.atKey kl (.held z)=.held (o.getD z)):Maps.has D kl=o.isSome:=by
 cases o with
 | none =>
  cases hh:Maps.has D kl
  ·rfl
  ·cases D <;> try (cases hh;done)
   rename_i es;obtain⟨p,hp,hpk⟩:=List.any_eq_true.1 hh;have hs:(es.find? (fun p=>p.1.sameKey kl)).isSome=true:=List.find?_isSome.2 ⟨p,hp,hpk⟩;obtain⟨x,hx⟩:=Option.isSome_iff_exists.1 hs;have e1:x.2=.held (.bool false):=by have:=h (.bool false);simpa [DataW.atKey,hx] using this
   have e2:x.2=.held (.bool true):=by have:=h (.bool true);simpa [DataW.atKey,hx] using this
   rw [e1] at e2
   cases e2
 | some y =>
  cases hh:Maps.has D kl
  ·have e1:=(atKey_of_not_has hh _).symm.trans (h (.bool false))
   have e2:=(atKey_of_not_has hh _).symm.trans (h (.bool true));simp only [Option.getD_some,DataW.held.injEq] at e1 e2;rw [<- e1] at e2
   cases e2
  ·rfl
theorem MapAt.lookOk {w:World} {P:Program} {k t e:TypeId} {b n:Nat} {f:Value->Option Value} (h:MapAt w P k b n f) (K:Keyed P k) (ht:P.underlying t=some (.map k e)) {z:Value} (hz:(zeroValue e).run P w=.ok z w)
  {key:Value} {kl:Lit} (hkey:keyOf P k key=some kl):(Instr.lookup t (.map (some b)) key true).run P w=.ok (.tuple #[(f key).getD z,.bool (f key).isSome]) w:=by
 obtain⟨D,h,_,s⟩:=h;obtain⟨v,ps,hrun,hv⟩:=h.look_ok K ht hz (zd:=.held z) (zp:=[]) rfl hkey;rw [s key kl hkey z] at hv;simp only [heldR,Option.some.injEq,Prod.mk.injEq,DataW.held.injEq] at hv;rw [hrun,hv.1,b2H (s key kl hkey)]
namespace Jr
def idx (p:List EtC) (id:Int):Option Nat:=p.findIdx? (fun y=>decide (y.id=id))
theorem a9H (p:List EtC) (id:Int):get p id=(idx p id).bind (fun k=>p[k]?):=by
 unfold get idx
 induction p with
 | nil=>rfl
 | cons a p ih =>
  rw [List.find?_cons,List.findIdx?_cons]
  by_cases h:a.id=id
  ·simp [h]
  ·simp only [h,decide_false,Bool.false_eq_true,if_false]
   rw [ih]
   cases p.findIdx? _ <;> simp
theorem idx_lt {p:List EtC} {id:Int} {k:Nat} (h:idx p id=some k):k<p.length:=(List.findIdx?_eq_some_iff_getElem.1 h).1
theorem get_none {p:List EtC} {id:Int} (h:idx p id=none):get p id=none:=by rw [a9H,h];rfl
theorem get_some {p:List EtC} {id:Int} {k:Nat} (h:idx p id=some k):get p id=some (p[k]'(idx_lt h)):=by rw [a9H,h];simp [idx_lt h]
theorem idx_snoc {p:List EtC} {x:EtC} (hn:(get p x.id).isNone=true) (id:Int):idx (p++[x]) id=if id=x.id then some p.length else idx p id:=by
 have h0:idx p x.id=none:=by
  cases h:idx p x.id with
  | none=>rfl
  | some k=>rw [get_some h] at hn;cases hn
 unfold idx at *;rw [List.findIdx?_append]
 by_cases h:id=x.id
 ·rw [if_pos h,h,h0];simp
 ·rw [if_neg h]
  cases p.findIdx? (fun y=>decide (y.id=id)) with
  | some k=>rfl
  | none=>simp [Ne.symm h]
theorem revd_snoc (p:List EtC) (x:EtC) (id:Int):revd (p++[x]) id=(revd p id||(decide (x.kind=3)&&decide (x.of_=id))):=by unfold revd;simp
end Jr
structure Jrn (B:Nat) (w:World) (b:Nat) (g:Grp) (p:List EtC) (g':Grp) (q:List Etr) (A:Option Addr) (c m1 m2:Nat) (f1 f2:Value->Option Value):Prop where
 hb:w.heap[b]?=some (.cells #[.string g'.cur,g'.Y,g'.M,g'.N,.slice g'.cA g'.cn g'.cc,g'.r0,g'.r1,g'.r2,g'.r3,g'.r4,g'.r5,g'.r6,g'.r7,g'.r8,g'.r9,g'.r10,g'.r11,g'.r12,g'.r13,g'.r14,.slice g'.eA g'.en g'.ec,.slice A q.length c,.map (some m1),.map (some m2)] 219 (0,0))
 he:g'.era=g.era
 hg:g'.At w B
 hBb:B<=b
 hB1:B<=m1
 hB2:B<=m2
 hne:m1≠m2
 hq:q.map (·.c)=p
 ho:w.ownsRow B 71 7 (.slice A q.length c) q.length (q.flatMap Etr.cells)
 hx:∀ x∈q,x.At w w.heap.size/\RowsTy 68 w x.lA x.c.lines
 h1:MapAt w prog 3 m1 p.length f1
 h2:MapAt w prog 3 m2 p.length f2
 hf1:∀ x,f1 (.int .i64 x)=(Jr.idx p x).map (fun(k:Nat)=>Value.int .i64 (k:Int))
 hf2:∀ x,(f2 (.int .i64 x)).isSome=Jr.revd p x
 hw:∀ x∈p,x.wf
def Jrns (B:Nat) (w:World) (b:Nat) (g:Grp) (p:List EtC):Prop:=∃ g' q A c m1 m2 f1 f2,Jrn B w b g p g' q A c m1 m2 f1 f2
section
variable {B b c m1 m2:Nat} {w w':World} {g g':Grp} {p:List EtC} {q:List Etr} {A:Option Addr} {f1 f2:Value->Option Value}
theorem Jrn.below (h:Jrn B w b g p g' q A c m1 m2 f1 f2) (hb:Below w w w') (hB:B<=w.heap.size):Jrn B w' b g p g' q A c m1 m2 f1 f2 :=
 ⟨gbox h.hb hb (Vq h.hb),h.he,h.hg.below hb hB,h.hBb,h.hB1,h.hB2,h.hne,h.hq,Vj h.ho hb,fun x hx=>⟨(h.hx x hx).1.at_ hb,(h.hx x hx).2.below hb⟩,h.h1.below hb h.h1.lt,h.h2.below hb h.h2.lt,h.hf1,h.hf2,h.hw⟩
theorem Jrns.below (h:Jrns B w b g p) (hb:Below w w w') (hB:B<=w.heap.size):Jrns B w' b g p:=by
 obtain⟨g',q,A,c,m1,m2,f1,f2,h⟩:=h;exact⟨g',q,A,c,m1,m2,f1,f2,h.below hb hB⟩
theorem Jrn.rows (h:Jrn B w b g p g' q A c m1 m2 f1 f2):RowsAt Etr.cells 7 w w A q:=by
 obtain⟨A',c',e,hA⟩:=Xz (f:=Etr.cells) (sz:=7) dC (fun _=>rfl) h.ho rfl
 cases e;exact hA
theorem Jrn.len (h:Jrn B w b g p g' q A c m1 m2 f1 f2):p.length=q.length:=by rw [<- h.hq,List.length_map]
theorem Jrn.look1 (h:Jrn B w b g p g' q A c m1 m2 f1 f2) (x:Int) (hx:(Lit.int .i64 x).wf=true) (n:Nat):(Instr.lookup 217 (.map (some m1)) (.int .i64 x) true).run prog (w.drewN n)=.ok (.tuple #[((Jr.idx p x).map (fun(k:Nat)=>Value.int .i64 (k:Int))).getD (.int .i64 0),.bool (Jr.idx p x).isSome]) (w.drewN n):=by
 have hz:(zeroValue 3).run prog (w.drewN n)=.ok (.int .i64 0) (w.drewN n):=kR;have:=MapAt.lookOk (w:=w.drewN n) h.h1 intLaw underlying217 hz (keyOf_int_mk underlying3 hx);rw [this,h.hf1,Option.isSome_map]
theorem Jrn.look2 (h:Jrn B w b g p g' q A c m1 m2 f1 f2) (x:Int) (hx:(Lit.int .i64 x).wf=true) (n:Nat):(Instr.lookup 217 (.map (some m2)) (.int .i64 x) true).run prog (w.drewN n)=.ok (.tuple #[(f2 (.int .i64 x)).getD (.int .i64 0),.bool (Jr.revd p x)]) (w.drewN n):=by
 have hz:(zeroValue 3).run prog (w.drewN n)=.ok (.int .i64 0) (w.drewN n):=kR;have:=MapAt.lookOk (w:=w.drewN n) h.h2 intLaw underlying217 hz (keyOf_int_mk underlying3 hx);rw [this,h.hf2]
end
section
variable (w:World)
theorem a5G (B b:Nat) (g:Grp) (p:List EtC) (c:EtC) (A:Option Addr) (n kc:Nat) (hj:Jrns B w b g p) (hB:B<=w.heap.size) (hx:(⟨c,A,n,kc⟩:Etr).At w w) :
  Calls prog 153 #[.pointer (some ⟨b,0,none⟩),.agg (TE c A n kc)] w (FinePost (Jr.revOk p c) w):=by
 obtain⟨g',q,A',cq,m1,m2,f1,f2,hj⟩:=hj;obtain⟨W1,hW1,hB0,hb0,hz⟩:=nw1 w (TE c A n kc) 71;obtain⟨HW,HJ,Hx⟩:=Z3 hW1 (hj.below hB0 hB) (hx.at_ hB0);have Hll:Hid (c.lines.length=n):=hx.hl;have hln:n<=60:=by have h1:c.lines.length<=60:=hx.hw.hln;have h2:c.lines.length=n:=hx.hl;omega
 have hl1:=HJ.out.look1 c.of_ hx.hw.hof;have hl2:=HJ.out.look2 c.of_ hx.hw.hof;have s1:w.heap.size<W1.heap.size:=oM;have hbb:=HJ.out.hb;have sb:b<W1.heap.size:=Vq hbb;have z21:=cr9 21 hbb;have z22:=cr9 22 hbb;have z23:=cr9 23 hbb;have y1:=cr9 1 hb0;have y2:=cr9 2 hb0;have y4:=cr9 4 hb0;have y6:=cr9 6 hb0;simp at z21 z22 z23 y1 y2 y4 y6;have Hb0:=Z1 hb0;have Hlen:=Z1 HJ.out.len;clear hW1 hz hb0 hbb hj hx;go_enter func153,ntmps153;go_upto_region 1 with(fail);rw [<- HW.out]
 cases hi:Jr.idx p c.of_ with
 | none =>
  have HV:Hid (Jr.revOk p c=false):=by show _=_;unfold Jr.revOk;rw [Jr.get_none hi]
  rw [hi] at hl1;simp only [Option.map_none,Option.getD_none,Option.isSome_none] at hl1;clear hi hl2;go_quiet (fail);go_wp2;go_ret;exact FinePost.bad HV.out dC (Vw hB0 _)
 | some k =>
  have hkp:=Jr.idx_lt hi;have hkq:k<q.length:=by have:=Hlen.out;omega
  obtain⟨o,ho⟩:∃ o,o=q[k]:=⟨_,rfl⟩;have hoc:p[k]=o.c:=by rw [ho];simp only [<- HJ.out.hq,List.getElem_map]
  have HV:Hid (Jr.revOk p c=(!Jr.revd p c.of_&&decide (o.c.kind≠3)&&decide (o.c.ent=c.ent)&&decide (o.c.date<=c.date)&&Jr.opposite c.lines o.c.lines)):=by
   show _=_;unfold Jr.revOk;rw [Jr.get_some hi,hoc]
  rw [hi] at hl1;simp only [Option.map_some,Option.getD_some,Option.isSome_some] at hl1;obtain⟨bq,oq,hAq,hbq,hr⟩:=RowsAt.look HJ.out.rows hkq;rw [<- ho] at hr;rw [hAq] at z21;have Hr:=Z1 hr;have hox:=HJ.out.hx o (by rw [ho];exact List.getElem_mem _);have Hox:=Z1 hox.1;obtain⟨oc,oA,on,ok⟩:=o;have Hol:Hid (oc.lines.length=on):=Hox.out.hl;have hon:on<=60:=by have h1:oc.lines.length<=60:=Hox.out.hw.hln;have h2:oc.lines.length=on:=Hox.out.hl;omega
  have hk0:(0:Int)<=(k:Int):=oM;have hkn:(k:Int)<(q.length:Int):=oM;clear hi hkp ho hoc hr hox hAq;go_quiet (fail);obtain⟨W2,hW2⟩:∃ W2,W2=W1.drewN nq:=⟨_,rfl⟩;have hB12:Below W1 W1 W2:=by rw [hW2];exact Vw bR _
  rw [<- hW2];have HW2:=Z1 hW2;have hz2:W2.heap.size=W1.heap.size:=by rw [hW2];rfl
  have t1:=fun {bk o:Nat} {v:Value} (h:W1.cell? ⟨bk,o,none⟩=some v) (hl:bk<W1.heap.size)=>(hB12.cell (p:=⟨bk,o,none⟩) hl).trans h;have z21':=t1 z21 sb;have y1':=t1 y1 s1;have y2':=t1 y2 s1;have y6':=t1 y6 s1;have s2:w.heap.size<W2.heap.size:=oM;have sb2:b<W2.heap.size:=oM;have hb2:bq<W2.heap.size:=oM;have hr2:Hid (W2.rangeAt bq (oq+k*7) [oc.id,oc.ent,oc.date,oc.kind,oc.of_,.string oc.text,.slice oA on ok]):=Z1 (by rw [hW2];exact Hr.out);have HJ2:=Z1 (HJ.out.below hB12 (by have:=hB0.size;omega));have HB2:=Z1 (hB0.trans (hB12.mono hB0.size));have hl2':=HJ2.out.look2 c.of_ Hx.out.hw.hof;have Hox2:=Z1 (Hox.out.at_ hB12);have Hx2:=Z1 (Hx.out.at_ hB12);have Hb2:=gB Hb0 hB12 s1;have z23':=t1 z23 sb;have y4':=t1 y4 s1;clear t1 z21 z22 z23 y1 y2 y4 y6 hl1 hl2 hW2 hB12 hz2;go_upto_region 4 with(fail);obtain⟨hB3,hr3,hz3⟩:=a0T W2 (TE oc oA on ok) 71;go_upto_region 5 with(refine wpList_load_mid rfl 71 (.tmp 27) rfl bq (oq+k*7) rfl [oc.id,oc.ent,oc.date,oc.kind,oc.of_,.string oc.text,.slice oA on ok] _ hr2.out underlying71 rfl a0H ?_);obtain⟨W3,hW3⟩:∃ W3,W3=W2.alloc (.cells (TE oc oA on ok) 71):=⟨_,rfl⟩;rw [<- hW3] at hB3 hr3 hz3;have HW3:=Z1 hW3;rw [<- HW3.out];have t1:=fun {bk o:Nat} {v:Value} (h:W2.cell? ⟨bk,o,none⟩=some v) (hl:bk<W2.heap.size)=>(hB3.cell (p:=⟨bk,o,none⟩) hl).trans h;have u23:=t1 z23' sb2;have u1:=t1 y1' s2;have u2:=t1 y2' s2;have u4:=t1 y4' s2;have u6:=t1 y6' s2;have q1:=cr9 1 hr3;have q2:=cr9 2 hr3;have q3:=cr9 3 hr3;have q6:=cr9 6 hr3;simp at q1 q2 q3 q6;have hl3:=(HJ2.out.below hB3 (by have:=HB2.out.size;omega)).look2 c.of_ Hx.out.hw.hof;have s3:w.heap.size<W3.heap.size:=oM;have sb3:b<W3.heap.size:=oM;have so3:W2.heap.size<W3.heap.size:=oM;have HB3:=bT HB2 hB3;have Hx3:=Z1 (Hx2.out.at_ hB3);have Hox3:=Z1 (Hox2.out.at_ hB3);obtain⟨rv,hrv⟩:∃ rv,rv=(f2 (.int .i64 c.of_)).getD (.int .i64 0):=⟨_,rfl⟩;rw [<- hrv] at hl3;clear t1 z21' z23' y1' y2' y4' y6' hl2' hW3 hr3 hrv hB3 hz3
  cases hrd:Jr.revd p c.of_ with
  | true =>
   have HV2:Hid (Jr.revOk p c=false):=by show _=_;rw [HV.out,hrd];rfl
   rw [hrd] at hl3;clear hrd;go_quiet (fail);go_wp2;go_ret;exact FinePost.bad HV2.out dC (Vw HB3.out _)
  | false =>
   have HV2:Hid (Jr.revOk p c=(decide (oc.kind≠3)&&decide (oc.ent=c.ent)&&decide (oc.date<=c.date)&&Jr.opposite c.lines oc.lines)):=by show _=_;rw [HV.out,hrd];rfl
   rw [hrd] at hl3;clear hrd;go_quiet (fail);obtain⟨W4,hW4⟩:∃ W4,W4=W3.drewN nq:=⟨_,rfl⟩;have hB34:Below W3 W3 W4:=by rw [hW4];exact Vw bR _
   rw [<- hW4];have t1:=fun {bk o:Nat} {v:Value} (h:W3.cell? ⟨bk,o,none⟩=some v) (hl:bk<W3.heap.size)=>(hB34.cell (p:=⟨bk,o,none⟩) hl).trans h;have v1:=t1 u1 s3;have v2:=t1 u2 s3;have v6:=t1 u6 s3;have p1:=t1 q1 so3;have p2:=t1 q2 so3;have p3:=t1 q3 so3;have p6:=t1 q6 so3;have s4:w.heap.size<W4.heap.size:=by have:=hB34.size;omega
   have so4:W2.heap.size<W4.heap.size:=by have:=hB34.size;omega
   have HB4:=bT HB3 hB34;have Hx4:=Z1 (Hx3.out.at_ hB34);have Hox4:=Z1 (Hox3.out.at_ hB34);clear t1 u23 u1 u2 u4 u6 q1 q2 q3 q6 hl3 hW4 hB34
   by_cases hk3:oc.kind=3
   ·have k3:(oc.kind==3)=true:=by simp [hk3]
    have HV3:Hid (Jr.revOk p c=false):=by show _=_;rw [HV2.out];simp [hk3]
    clear hk3;go_wp2;go_ret;exact FinePost.bad HV3.out dC HB4.out
   have k3:(oc.kind==3)=false:=by simp [hk3]
   have K3:=Z1 hk3;clear hk3
   by_cases he:oc.ent=c.ent
   case neg =>
    have k4:(oc.ent != c.ent)=true:=by simp [he]
    have HV3:Hid (Jr.revOk p c=false):=by show _=_;rw [HV2.out];simp [he]
    clear he;go_wp2;go_ret;exact FinePost.bad HV3.out dC HB4.out
   have k4:(oc.ent != c.ent)=false:=by simp [he]
   have K4:=Z1 he;clear he
   by_cases hd:oc.date<=c.date
   case neg =>
    have HV3:Hid (Jr.revOk p c=false):=by show _=_;rw [HV2.out];simp [hd]
    go_wp2;go_ret;exact FinePost.bad HV3.out dC HB4.out
   have HV3:Hid (Jr.revOk p c=Jr.opposite c.lines oc.lines):=by show _=_;rw [HV2.out];simp [K3.out,K4.out,hd]
   have hop:=Z1 (b2D W4 A oA n kc on ok c.lines oc.lines Hll.out hln Hol.out hon Hox4.out.hw.hlw Hx4.out.hA Hox4.out.hA);go_wp2_with (fail);refine hop.out.mono ?_;rintro e W5 ⟨rfl,hB5⟩;have hBF:=HB4.out.trans (hB5.mono HB4.out.size)
   cases ho:Jr.opposite c.lines oc.lines with
   | true =>
    have HV4:Hid (Jr.revOk p c=true):=by show _=_;rw [HV3.out,ho]
    clear ho;go_wp2;go_ret;exact FinePost.good HV4.out hBF
   | false =>
    have HV4:Hid (Jr.revOk p c=false):=by show _=_;rw [HV3.out,ho]
    clear ho;go_wp2;go_ret;exact FinePost.bad HV4.out dC hBF
end
open Go.Proofs.Tryz Go.RowKit Go.Maps
theorem etrInfo:(prog.info? 71).map (fun i=>(i.zero,i.size,i.bytes))=some (some (.agg #[(),(),(),(),(),.string ByteArray.empty,.slice none 0 0]),7,80):=kR
open Classical in
theorem a1E {P:Program} {w:World} {k t e:TypeId} {b n:Nat} {f:Value->Option Value} {o:Oper} {a:Act} {K:Act->World->Prop} {Q:Exit->Act->World->Prop}
  (m x v:Operand) (hop:o.op=Op.mapUpdate t m x v) (h:MapAt w P k b n f) (Kd:Keyed P k) (ht:P.underlying t=some (.map k e))
  (hm:a.eval m=.map (some b)) (hn:n<maxLen) (key val:Value) (kl:Lit) (hx:a.eval x=key) (hv:a.eval v=val) (hkey:keyOf P k key=some kl)
  (hK:∀ w',MapAt w' P k b (n+1) (fun x=>if x=key then some val else f x)->w.grownBy w' (some b)->K (a.put o.dst undef) w'):o.wp P a w K Q:=by
 obtain⟨w',hrun,r1,r2⟩:=h.update Kd ht hn (val:=val) hkey;unfold Oper.wp;simp [execOp,hop,hm,hx,hv,hrun,Result.andThen];exact hK w' r1 r2
def EtCopy (c:EtC) (n:Nat) (w:World) (e:Ending) (w':World):Prop :=
 Below w w w'/\∃ A kc,e=.returned (.agg (TE c A n kc))/\(⟨c,A,n,kc⟩:Etr).At w' w'.heap.size/\RowsTy 68 w' A c.lines
section
variable (w:World)
theorem a4G (c:EtC) (A:Option Addr) (n kc:Nat) (hx:(⟨c,A,n,kc⟩:Etr).At w w) :
  Calls prog 154 #[.agg (TE c A n kc)] w (EtCopy c n w):=by
 obtain⟨W1,hW1,hB0,hb0,hb1,hz⟩:=nw2 w (TE c A n kc) #[(),(),(),(),(),.string ⟨#[]⟩,.slice none 0 0] 71 71;have HW:=Z1 hW1;have Hx:=Z1 (hx.at_ hB0);have Hll:Hid (c.lines.length=n):=hx.hl;have hln:n<=60:=by have h1:c.lines.length<=60:=hx.hw.hln;have h2:c.lines.length=n:=hx.hl;omega
 have s1:w.heap.size<W1.heap.size:=oM;have s1':w.heap.size+1<W1.heap.size:=oM;have y6:=cr9 6 hb0;simp at y6;obtain⟨Hb0,Hb1,Hc⟩:=Z3 hb0 hb1 (b0c W1 A n kc c.lines Hll.out oM Hx.out.hA);clear hW1 hz hb0 hb1 hx;go_enter func154,ntmps154;go_upto_region 1 with(fail);rw [<- HW.out];go_wp2_with (fail);refine Hc.out.mono ?_;rintro e W2 ⟨hB2,A2,c2,rfl,ho⟩;have hd2:=gbox Hb0.out hB2 s1;have f2:=fun j=>fr0 j hd2;have d2:=cr9 6 hd2;simp at d2;have s2:w.heap.size<W2.heap.size:=Vq hd2;have hd3:=heap_setCell_same W2 w.heap.size 6 _ _ (.slice A2 n c2) hd2;simp at hd3;obtain⟨W3,hW3⟩:∃ W3,W3=W2.setCell ⟨w,6,none⟩ (.slice A2 n c2):=⟨_,rfl⟩;rw [<- hW3] at hd3;have hBw2:=hB0.trans (hB2.mono hB0.size);have hBw3:Below w w W3:=by rw [hW3];exact hBw2.setCell (p:=⟨w,6,none⟩) lR _
 have hg23:W2.grownBy W3 (some w):=by rw [hW3];exact Xv (Xq _ _) _ _
 obtain⟨_,_,e1,hA1⟩:=Xz (f:=Lin.cells) (sz:=3) dC (fun _=>rfl) ho Hll.out.symm
 cases e1
 have hT1:=a2P ho Hll.out.symm;obtain⟨hT3,hA3⟩:=hT1.keep hA1 (k:=w.heap.size) (fun cur fr e=>by rw [hd2] at e;cases e) hg23
 have hb13:W3.heap[w.heap.size+1]?=some (.cells #[(),(),(),(),(),.string ⟨#[]⟩,.slice none 0 0] 71 (0,0)):=by
  rw [hW3];exact(heap_setCell_other W2 ⟨w,6,none⟩ _ _ sP).trans (gbox Hb1.out hB2 s1')
 obtain⟨Hd3,Hb13,HW3⟩:=Z3 hd3 hb13 hW3;have Ho:Hid (((TE c A2 n c2):Array Value).all (·.oneCell')=true):=by show _=_;simp [Value.oneCell']
 have hR:=setRow_heap W3 (w.heap.size+1) _ (TE c A2 n c2) _ _ hb13;have hload:=Z1 (run_loadVar_row (P:=prog) _ _ _ 71 _ _ _ hR underlying71 rfl a0H);have hBF:=Z1 (below_setRow hBw3 (show w.heap.size<=w.heap.size+1 by omega) (TE c A2 n c2));have hk:=hT3.keep hA3 (k:=w.heap.size+1) (fun cur fr e=>by rw [hb13] at e;cases e) (a1O W3 (w.heap.size+1) (TE c A2 n c2));have Hk:=Z1 hk;have hwf:Hid c.wf:=Hx.out.hw;have s3:w.heap.size<W3.heap.size:=Vq Hd3.out;have s3':w.heap.size+1<W3.heap.size:=Vq Hb13.out;clear hW3 hd2 hd3 hT3 hA3 hT1 hA1 ho hb13 hg23 hR hk;go_upto_region 2 with(fail);rw [<- HW3.out];clear y6 d2 f2;go_wp2_with (first | (refine wpList_load_row rfl 71 _ rfl _ rfl _ _ _ _ Hd3.out underlying71 rfl a0H ?_) | (refine Vx rfl 71 (.tmp 2) (.tmp 7) none rfl rfl (w.heap.size+1) 71 _ (TE c A2 n c2) rfl rfl Hb13.out rfl a0H Ho.out ?_));exact bodyPost_ret (v:=.agg (TE c A2 n c2)) (by simp [results,results154,asAddr,Act.put,hload.out]) rfl ⟨hBF.out,A2,c2,rfl,⟨Hll.out,Hk.out.2,hwf.out⟩,Hk.out.1⟩
end
end Go.Proofs.YtniaimjknmhapaaGreatDoor
