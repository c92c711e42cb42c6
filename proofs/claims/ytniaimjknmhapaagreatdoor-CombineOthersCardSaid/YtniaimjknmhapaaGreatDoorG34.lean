/- My texts OfC, OfD, OfE. -/
import Derived.Test.YtniaimjknmhapaaGreatDoorG32
set_option linter.unusedVariables false
set_option linter.unusedSimpArgs false
set_option maxRecDepth 100000
set_option maxHeartbeats 16000000
namespace Go.Proofs.YtniaimjknmhapaaGreatDoor
open Go.Proofs.Tryz Go.RowKit
structure Ctn where
 ent:Int
 meth:Int
 since:Int
 s:Rn
 f:Rn
 A:Option Addr
 n:Nat
 c:Nat
 B:Option Addr
 m:Nat
 d:Nat
structure CT0 where
 a:Unit
def CT:CT0:=⟨()⟩
instance:CoeFun CT0 (fun _=>Int->Itv->Rn->Rn->Option Addr->Nat->Nat->Option Addr->Nat->Nat->Array Value):=⟨fun _ e n x y A a b B c d=>#[.int .i64 e,.int .i64 n.meth,.int .i64 n.frm,.bool x.g1,.slice x.A1 x.n1 x.c1,.bool x.g2,.slice x.A2 x.n2 x.c2,.bool y.g1,.slice y.A1 y.n1 y.c1,.bool y.g2,.slice y.A2 y.n2 y.c2,.slice A a b,.slice B c d]⟩
instance:Coe Ctn (Array Value):=⟨fun x=>#[.int .i64 x.ent,.int .i64 x.meth,.int .i64 x.since,.bool x.s.g1,.slice x.s.A1 x.s.n1 x.s.c1,.bool x.s.g2,.slice x.s.A2 x.s.n2 x.s.c2,.bool x.f.g1,.slice x.f.A1 x.f.n1 x.f.c1,.bool x.f.g2,.slice x.f.A2 x.f.n2 x.f.c2,.slice x.A x.n x.c,.slice x.B x.m x.d]⟩
instance:Coe Ctn Value:=⟨fun x=>.agg #[.int .i64 x.ent,.int .i64 x.meth,.int .i64 x.since,.bool x.s.g1,.slice x.s.A1 x.s.n1 x.s.c1,.bool x.s.g2,.slice x.s.A2 x.s.n2 x.s.c2,.bool x.f.g1,.slice x.f.A1 x.f.n1 x.f.c1,.bool x.f.g2,.slice x.f.A2 x.f.n2 x.f.c2,.slice x.A x.n x.c,.slice x.B x.m x.d]⟩
instance:Coe Ctn (List Value):=⟨fun x=>[.int .i64 x.ent,.int .i64 x.meth,.int .i64 x.since,.bool x.s.g1,.slice x.s.A1 x.s.n1 x.s.c1,.bool x.s.g2,.slice x.s.A2 x.s.n2 x.s.c2,.bool x.f.g1,.slice x.f.A1 x.f.n1 x.f.c1,.bool x.f.g2,.slice x.f.A2 x.f.n2 x.f.c2,.slice x.A x.n x.c,.slice x.B x.m x.d]⟩
def Ctn.v (x:Ctn):Value:=x
def Ctn.zero:Ctn:=⟨0,0,0,Rn.zero,Rn.zero,none,0,0,none,0,0⟩
def EffPost (K:Nat) (Q:Int->Int->Int->Prop) (d:Int) (w:World) (ev:Ending) (w':World):Prop :=
 Below w w w'/\∃(x:Rn) (N D:Int),ev=.returned x.v/\RI w' w' K K x.v N D/\Q d N D
theorem a0u:(prog.info? 46).map (·.size)=some 13:=kR
theorem none13 (cs:Array Value) (h:cs.toList.all (fun v=>match v with | .int .u32 _=>false | _=>true)=true):∀(j:Nat) (n:Int),cs[j]?≠some (.int .u32 n):=by
 intro j n e;rw [<- Array.getElem?_toList] at e;have:=List.all_eq_true.1 h _ (List.mem_of_getElem? e)
 cases this
theorem a4P:(prog.info? 113).map (·.size)=some 2:=kR
section
variable (w:World)
end
open Go.Proofs.Tryz Go.RowKit
section
variable (w:World)
theorem a6V (b:Bks) (hb:b.At w w):CL 21 #[b] w (Cb.valid b):=by
 obtain⟨W1,hW1,hB0,hb0,hz⟩:=nw1 w b 36;obtain⟨HW,HB1,HB0,Hb0⟩:=Z4 hW1 (hb.at_ hB0) hB0 hb0;have hrg:W1.rangeAt w.heap.size 0 b.g:=fun j v hj=>by have:=cr9 j hb0;rw [Nat.zero_add,this];exact a1C hj
 have x21:=cr9 21 hb0;simp at x21;have s0:=Vq hb0;have Hj:=Z1 (a4u W1 b.g b.eA b.en b.ec b.ents HB1.out.hg HB1.out.hel HB1.out.hen HB1.out.hE HB1.out.hEx);have HV:Hid (Cb.valid b=(Jr.ok b.g (b.ents.map (·.c))&&Rates.valid b.g.cur b.rates&&Hd.valid b.g.ents.length b.holds)):=Z1 rfl;obtain⟨j,hj⟩:∃ j,j=Jr.ok b.g (b.ents.map (·.c)):=⟨_,rfl⟩;obtain⟨r,hr⟩:∃ r,r=Rates.valid b.g.cur b.rates:=⟨_,rfl⟩;obtain⟨h,hh⟩:∃ h,h=Hd.valid b.g.ents.length b.holds:=⟨_,rfl⟩;rw [<- hj] at Hj;rw [<- hj,<- hr,<- hh] at HV;have Hr:Hid (∀ W:World,b.At W W.heap.size->CL 48 #[.string b.g.cur,.slice b.rA b.rn b.rc] W r):=Z1 (fun W hW=>by rw [hr];exact a1e W b.rA b.rn b.rc b.rates b.g.cur hW.hrl (by have:=hW.hrn;omega) hW.hg.hn hW.hRw hW.hR)
 have Hh:Hid (∀ W:World,b.At W W.heap.size->CL 49 #[b.g.en,.slice b.hA b.hn b.hc] W h):=Z1 (fun W hW=>by
  have h1:=a1Z W b.g.ents.length b.hA b.hn b.hc b.holds (by have:=hW.hg.hel;have:=hW.hg.hen;omega) hW.hhl (by have:=hW.hhn;omega) hW.hHw hW.hH;rw [<- hh,hW.hg.hel] at h1;exact h1)
 clear hW1 hz hb0 hb hB0 hj hr hh;go_enter func21,ntmps21;go_upto_region 1 with(fail);rw [<- HW.out];go_wp2_with (refine Vk (by rfl) 29 (.tmp 6) rfl w.heap.size 0 rfl _ _ hrg underlying29 rfl VJ ?_);refine Hj.out.mono ?_;rintro ev W2 ⟨⟨i,m,rfl,hm⟩,hB2⟩;have HB2:=Z1 hB2;have hq2:=hB2.size;have hb2:=gbox Hb0.out hB2 s0;have Hb2:=Z1 hb2;have HBk2:=Z1 (HB1.out.at_ hB2);have y0:=cr9 0 hb2;have y22:=cr9 22 hb2;simp at y0 y22;have s2:=Vq hb2;have HBF:=Z1 (HB0.out.trans (hB2.mono oM));clear hrg x21 hB2 hb2
 by_cases hm0:m=0
 case neg =>
  have hj2:j=false:=by cases j with | false=>rfl | true=>exact absurd (hm.2 rfl) hm0
  have HV2:Hid (Cb.valid b=false):=by show _=_;rw [HV.out,hj2];rfl
  have k1:(m==0)=false:=by simp [hm0]
  clear hm hm0 hj2;go_wp2;go_ret;exact⟨by rw [HV2.out];rfl,HBF.out⟩
 have hj2:j=true:=hm.1 hm0;have k1:(m==0)=true:=by simp [hm0]
 have HV2:Hid (Cb.valid b=(r&&h)):=by show _=_;rw [HV.out,hj2];rfl
 clear hm hm0 hj2;go_wp2_with (fail);refine(Hr.out _ HBk2.out).mono ?_;rintro ev W3 ⟨rfl,hB3⟩;have hq3:=hB3.size;have hb3:=gbox Hb2.out hB3 s2;have HBk3:=Z1 (HBk2.out.at_ hB3);have z20:=cr9 20 hb3;have z23:=cr9 23 hb3;simp at z20 z23;have s3:=Vq hb3;have HBG:=Z1 (HBF.out.trans (hB3.mono (by have:=HBF.out.size;omega)));clear y0 y22 hB3 hb3
 cases r with
 | false =>
  have HV3:Hid (Cb.valid b=false):=by show _=_;rw [HV2.out];rfl
  go_wp2;go_ret;exact⟨by rw [HV3.out];rfl,HBG.out⟩
 | true =>
 have HV3:Hid (Cb.valid b=h):=by show _=_;rw [HV2.out];rfl
 go_wp2_with (fail);refine(Hh.out _ HBk3.out).mono ?_;rintro ev W4 ⟨rfl,hB4⟩;have HBH:=Z1 (HBG.out.trans (hB4.mono (by have:=HBG.out.size;omega)));go_wp2;go_ret;exact⟨by rw [HV3.out];rfl,HBH.out⟩
def QOne (e:Nat) (_ N D:Int):Prop:=e=0->N=1/\D=1
theorem b1L (b:Bks) (d:Int):Calls prog 53 #[b,.int .i64 (0:Nat),d] w (EffPost 3 (QOne 0) d w):=by
 obtain⟨W1,hW1,hB0,hb0,hr0,hz⟩:=nw2 w b ZR 36 43;obtain⟨HW,HB0,Hr0⟩:=Z3 hW1 hB0 hr0;have s1:=Vq hr0;have hof:=a1W W1 1 1 oM oM oM oM oM;have e1:Int.tdiv 1 (redBy 1 1)=1:=dC;rw [e1] at hof;have Hof:=Z1 hof;clear hW1 hz hb0 hr0 hB0 hof e1;go_enter func53,ntmps53;go_upto_region 1 with(fail);rw [<- HW.out];go_wp2_with (fail);refine Hof.out.mono ?_;rintro ev W2 ⟨⟨rv,rfl,hr⟩,hB2⟩;obtain⟨g1,A1,n1,c1,g2,A2,n2,c2,rfl⟩:=hr.open;obtain⟨x,hx⟩:∃ x:Rn,x=⟨g1,A1,n1,c1,g2,A2,n2,c2⟩:=⟨_,rfl⟩;have HR2:=Z1 hr;have hq2:=hB2.size;have HBF:=Z1 (HB0.out.trans (hB2.mono oM));have Hr2:=gB Hr0 hB2 s1;obtain⟨W3,hW3,hB3,hb3,hz3⟩:=nw1 W2 #[g1,.slice A1 n1 c1,g2,.slice A2 n2 c2] 43;have HW3:=Z1 hW3;have Hb3:=Z1 hb3;have Hr3:=gS Hr2 hB3;have HR3:=Z1 (hr.at_ hB3);have HB3:=bT HBF hB3;have Hone:Hid ((#[g1,.slice A1 n1 c1,g2,.slice A2 n2 c2]:Array Value).all (·.oneCell')=true):=by show _=true;simp [Value.oneCell']
 have hRF:=setRow_heap W3 (w.heap.size+1) _ #[g1,.slice A1 n1 c1,g2,.slice A2 n2 c2] _ _ Hr3.out;have Hload:=Z1 (run_loadVar_row (P:=prog) _ _ _ 43 _ _ _ hRF underlying43 rfl Vy);have hBZ:=Z1 (below_setRow HB3.out (show w.heap.size<=w.heap.size+1 by omega) #[g1,.slice A1 n1 c1,g2,.slice A2 n2 c2]);have hp:=Z1 ((HR3.out.other (w':=W3.setRow (w.heap.size+1) #[g1,.slice A1 n1 c1,g2,.slice A2 n2 c2]) Hr3.out a0F (fun c hc=>setRow_other _ _ _ _ hc)).more (C:=(W3.setRow (w.heap.size+1) #[g1,.slice A1 n1 c1,g2,.slice A2 n2 c2]).heap.size) sP (Nat.le_refl 3) (Nat.le_refl 3));have hld:=Hb3.out;clear hr hB2 hW3 hB3 hb3 hz3 hRF hx;go_upto_region 3 with(fail);rw [<- HW3.out];go_wp2_with (first | (refine wpList_load_row rfl 43 _ rfl _ rfl _ _ _ _ hld underlying43 rfl Vy ?_) | (refine Vx rfl 43 (.tmp 6) (.tmp 17) none rfl rfl (w.heap.size+1) 43 _ #[g1,.slice A1 n1 c1,g2,.slice A2 n2 c2] rfl rfl Hr3.out rfl Vy Hone.out ?_));exact bodyPost_ret (v:=.agg #[g1,.slice A1 n1 c1,g2,.slice A2 n2 c2]) (by simp [results,results53,asAddr,Act.put,Hload.out]) rfl ⟨hBZ.out,⟨g1,A1,n1,c1,g2,A2,n2,c2⟩,1,1,rfl,hp.out,fun _=>⟨rfl,rfl⟩⟩
end
open Go.Proofs.Tryz Go.RowKit
section
variable (w:World)
theorem a9f (b:Bks) (E p:Int) (h:Cal.err b.g.Y b.g.M b.g.N p≠0):CL 22 #[b,E,p] w (.tuple #[Ctn.zero.v,(2:Int)]):=by
 obtain⟨W1,hW1,hB0,hb0,hr0,hz⟩:=nw2 w b ZC 36 46;obtain⟨HW,HB0,Hr0⟩:=Z3 hW1 hB0 hr0;have x1:=cr9 1 hb0;have x2:=cr9 2 hb0;have x3:=cr9 3 hb0;simp at x1 x2 x3;have s0:=Vq hb0;have s1:=Vq hr0;have Hla:=Z1 (fun W=>a3Q b.g.Y b.g.M b.g.N p W h);obtain⟨er,her⟩:∃ er,er=Cal.err b.g.Y b.g.M b.g.N p:=⟨_,rfl⟩;rw [<- her] at Hla h;have k1:(er != 0)=true:=by simpa using h
 clear hW1 hz hb0 hr0 hB0 her h;go_enter func22,ntmps22;go_upto_region 1 with(fail);rw [<- HW.out];go_wp2_with (fail);refine(Hla.out _).mono ?_;rintro ev W2 ⟨rfl,hB2⟩;have HB2:=Z1 (HB0.out.trans (hB2.mono oM));have Hr2:=gB Hr0 hB2 s1;clear x1 x2 x3 hB2;have Ho:Hid ((ZC:Array Value).all (·.oneCell')=true):=Z1 oC;have hR:=setRow_heap W2 (w.heap.size+1) _ ZC _ _ Hr2.out;have hload:=Z1 (run_loadVar_row (P:=prog) _ _ _ 46 _ _ _ hR underlying46 rfl a0u);have hBF:=Z1 (below_setRow HB2.out (show w.heap.size<=w.heap.size+1 by omega) ZC);clear hR;go_wp2_with (refine Vx rfl 46 (.tmp 6) (.tmp 39) none rfl rfl (w.heap.size+1) 46 _ ZC rfl rfl Hr2.out rfl a0u Ho.out ?_);exact bodyPost_ret (v:=.tuple #[ZC,(2:Int)]) (by simp [results,results22,asAddr,Act.put,hload.out]) rfl ⟨rfl,hBF.out⟩
end
end Go.Proofs.YtniaimjknmhapaaGreatDoor
