/- Lemmas. -/
import Derived.Test.YtbhdekahdnenjaaGreatDoorG13
set_option linter.unusedVariables false
set_option linter.unusedSimpArgs false
set_option maxRecDepth 100000
set_option maxHeartbeats 16000000
namespace Go.Proofs.YtbhdekahdnenjaaGreatDoor
open Go.Proofs.Tryz Go.RowKit
variable (w:World)
theorem rowsRI (w:World) (X Y:AV) (t s:TypeId):Below w w ((w.alloc (.cells X t)).alloc (.cells Y s))/\((w.alloc (.cells X t)).alloc (.cells Y s)).heap[w.heap.size]?=some (.cells X t (0,0))/\((w.alloc (.cells X t)).alloc (.cells Y s)).heap[w.heap.size+1]?=some (.cells Y s (0,0))/\((w.alloc (.cells X t)).alloc (.cells Y s)).heap.size=w.heap.size+2:=by
 refine⟨(bR.alloc lR _).alloc sP _,?_,?_,sP⟩
 ·rw[VD _ _ _ sP];exact Vh w _
 ·have:=Vh (w.alloc (.cells X t)) (.cells Y s)
  rwa [show(w.alloc (.cells X t)).heap.size=w.heap.size+1 by simp] at this
theorem row1 (w:World) (X:AV) (t:TypeId):Below w w (w.alloc (.cells X t))/\(w.alloc (.cells X t)).heap[w.heap.size]?=some (.cells X t (0,0))/\(w.alloc (.cells X t)).heap.size=w.heap.size+1 :=
 ⟨bR.alloc lR _,Vh w _,sP⟩
theorem a5t (g:Bool) (A:OA) (n c:Nat):∀(j:Nat) (z:Int),(#[g,.slice A n c]:AV)[j]?≠some (.int .u32 z):=by
 intro j z
 match j with
 |0=>simp
 |1=>simp
 |j+2=>simp
theorem PI.drw {W:World} {k:Nat} {v:Value} {z:Int} (h:PI W W k v z):PI W.drew W.drew.heap.size k v z:=h.at_ (Vw bR 1)
theorem b4P (N:Int) (h:¬ N<0):decide (sg N<0)=false:=by
 rcases Z8 N 0 with a|a|a
 ·exact absurd a h
 ·rw[a1w.2.2.2 a];rfl
 ·rw[a1w.1.2 a];rfl
theorem b4Q (N:Int) (h:N<0):decide (sg N<0):=by
 rw[a1w.2.1.2 h];rfl
theorem a5f:∀(j:Nat) (n:Int),(#[false,.slice none 0 0]:AV)[j]?≠some (.int .u32 n):=by
 intro j n
 match j with
 |0=>simp
 |1=>simp
 |j+2=>simp
theorem a9T (k j:Nat) (v:Value) (N D0 D Z:Int) (K0 J:Nat) (hJ:J=max j 3) (bw:D=dz D0) (cr:K0=max (1+k) J+1) (hZ:Z=if N<0 then-D else D) (hk:k+j+100<=10000000000) (h:RI w w k j v N D0) :
  Calls prog 147 #[v] w fun e w'=>(∃r,e=.returned r/\PI w' w' K0 r (Int.tdiv (2*N+Z) (2*D)))/\Below w w w':=by
 obtain⟨g1,A1,n1,c1,g2,A2,n2,c2,rfl⟩:=h.open;obtain⟨az,aq,c5,hz⟩:=rowsRI w #[g1,.slice A1 n1 c1,g2,.slice A2 n2 c2] #[false,.slice none 0 0] 52 50;obtain⟨W1,bz⟩:=eX (((w.alloc (.cells #[g1,.slice A1 n1 c1,g2,.slice A2 n2 c2] 52)).alloc (.cells #[false,.slice none 0 0] 50)));rw[<- bz] at az aq c5 hz;obtain⟨HW,Hz,dg⟩:=Z3 bz hz c5;have hD:D≠0:=by rw[bw];exact a7w D0
 have bx:=fun W u=>a0Z W k j u N D0;rw[<- hJ,<- bw] at bx;have dc:=Z1 bx;have dr:J<=j+3:=oM;obtain⟨_,HZ,da⟩:=Z3 hD hZ cr;have d9:Hid (2*D≠0):=by show _≠_;omega
 have x0:=cr9 0 aq;have x1:=cr9 1 aq;have x2:=cr9 2 aq;have x3:=cr9 3 aq;simp at x0 x1 x2 x3;clear bz hz aq c5 hD hZ cr bx hJ bw;go_enter func147,ntmps147;go_upto_region 1 with(fail);rw[<- HW];go_wp2_with (fail);refine(dc W1 _ (h.at_ az)).mono ?_;rintro e W2 ⟨⟨a1,B1,m1,d1,a2,B2,m2,d2,rfl,cz,d0⟩,bh⟩;have dv:=Hz.out;have dp:=bh.size;have b0:=az.trans (bh.mono az.size);have bj:=gbox dg bh oM;obtain⟨ap,bb,ae,ay⟩:=rows2 W2 #[a1,.slice B1 m1 d1] #[a2,.slice B2 m2 d2] 50;have ak:=b0.trans (ap.mono b0.size);have c9:=gbox bj ap oM;obtain⟨Wa,c0⟩:=eX (((W2.alloc (.cells #[a1,.slice B1 m1 d1] 50)).alloc (.cells #[a2,.slice B2 m2 d2] 50)));rw[<- c0] at ap bb ae ay ak c9;have dd:=Z1 c0;have y0:=cr9 0 ae;have y1:=cr9 1 ae;simp at y0 y1;have s4:(W2:Nat)+1<Wa:=oM;obtain⟨cp,cq,dj,di⟩:=Z4 bb ae ay c9;clear x0 x1 x2 x3 bb ae ay c0 bj c9;go_upto_region 2 with(fail);rw[<- dd];obtain⟨ab,bm,d6⟩:=row1 Wa #[a2,.slice B2 m2 d2] 50;have ay:=dj.out;have al:=ak.trans (ab.mono ak.size);rw[ay] at bm;have b4:=gbox cp ab oM;have c7:=gbox cq ab oM;have c8:=gbox di ab oM;obtain⟨Wc,c3⟩:=eX ((Wa.alloc (.cells #[a2,.slice B2 m2 d2] 50)));rw[<- c3] at ab bm d6 al b4 c7 c8;have de:=Z1 c3;have ba:=(cz.at_ ap).at_ ab;have bo:=(d0.at_ ap).at_ ab;go_upto_region 3 with(fail);rw[<- de];have z0:=cr9 0 b4;have z1:=cr9 1 b4;simp at z0 z1;have s5:(W2:Nat)<Wc:=oM;clear y0 y1 c3;go_wp2_with (fail);refine(a0Y Wc k _ N ba).mono ?_;rintro e W3 ⟨rfl,a6⟩;have bp:=a6.size;have ac:=al.trans (a6.mono al.size);have be:=gbox b4 a6 oM;have ao:=gbox c7 a6 oM;have bf:=gbox bm a6 oM;have bg:=gbox c8 a6 oM;have am:=ba.at_ a6;have a7:=bo.at_ a6;clear z0 z1;refine(Classical.em (N<0)).elim (fun O=>?_) (fun O=>?_)
 focus
  have ck:=b4Q N O;obtain⟨Ez,ag⟩:=eX (-D);have cn:Hid (Ez=Z):=by show _=_;rw[HZ,Vt O];exact ag
  clear O;have y0:=cr9 0 ao;have y1:=cr9 1 ao;simp at y0 y1;have s6:(W2:Nat)+1<W3:=oM;go_wp2_with (fail);refine(b3B W3 W3 J lR _ D oM a7).mono ?_;rintro e W4 ⟨⟨r4,rfl,ch⟩,a9⟩;obtain⟨a3,B3,m3,d3,rfl⟩:=ch.open;have d5:=a9.size;have an:=Z1 (gbox bf a9 oM);have bn:Hid ((#[a3,.slice B3 m3 d3]:AV).all (·.oneCell')):=by show _=true;simp[Value.oneCell']
  obtain⟨Wf,b3⟩:=eX (W4.setRow (W2+2) #[a3,.slice B3 m3 d3]);have ar:=VC W4 (W2+2) _ #[a3,.slice B3 m3 d3] _ _ an;have b5:=(Vl W4 (W2+2) W2 #[a3,.slice B3 m3 d3] oM).trans (gbox be a9 oM);have b6:=(Vl W4 (W2+2) (W2+1) #[a3,.slice B3 m3 d3] oM).trans (gbox ao a9 oM);have b9:=(Vl W4 (W2+2) (w+1) #[a3,.slice B3 m3 d3] oM).trans (gbox bg a9 oM);have ad:=below_setRow (ac.trans (a9.mono ac.size)) (show w.heap.size<=(W2.heap.size+2) by omega) #[a3,.slice B3 m3 d3];have bl:=((am.at_ a9).other (w':=W4.setRow (W2+2) #[a3,.slice B3 m3 d3]) an (a5t a2 B2 m2 d2) (fun c hc=>Vl _ _ _ _ hc)).more (C:=(W4.setRow (W2+2) #[a3,.slice B3 m3 d3]).heap.size) (j:=k) sP lR;have bk:=((a7.at_ a9).other (w':=W4.setRow (W2+2) #[a3,.slice B3 m3 d3]) an (a5t a2 B2 m2 d2) (fun c hc=>Vl _ _ _ _ hc)).more (C:=(W4.setRow (W2+2) #[a3,.slice B3 m3 d3]).heap.size) (j:=J) sP lR;have ai:=(ch.other (w':=W4.setRow (W2+2) #[a3,.slice B3 m3 d3]) an (a5t a2 B2 m2 d2) (fun c hc=>Vl _ _ _ _ hc)).more (C:=(W4.setRow (W2+2) #[a3,.slice B3 m3 d3]).heap.size) (j:=J) sO lR
  rw[<- b3] at ar b5 b6 b9 ad bl bk ai;rw[<- ag] at ai;have co:=Z1 b3;clear y0 y1 b3;go_wp2_with (refine Vz rfl 50 (.tmp 5) (.tmp 20) none rfl rfl (W2+2) 50 _ #[a3,.slice B3 m3 d3] rfl rfl an rfl VZ bn ?_);rw[<- co];clear ch ac bp d5 be ao bf bg am a7 ck a6 a9 an bn s6 ag co
 rotate_left
 focus
  have ck:=b4P N O;obtain⟨Ez,ag⟩:=eX D;have cn:Hid (Ez=Z):=by show _=_;rw[HZ,VB O];exact ag
  clear O;obtain⟨a3,B3,m3,d3,h3⟩:∃a3 B3 m3 d3,(#[.bool a3,.slice B3 m3 d3]:AV)=#[.bool a2,.slice B2 m2 d2]:=⟨_,_,_,_,rfl⟩;obtain⟨Wf,b3⟩:=eX W3;subst b3;have ar:=bf;have b5:=be;have b6:=ao;have b9:=bg;have ad:=ac;have bl:=am;have bk:=a7;have ai:=a7;rw[<- h3] at ar ai;rw[<- ag] at ai;clear h3 ag;go_wp2_with (fail);clear ac bp be ao bf bg am a7 ck a6
 all_goals (
  refine(a1X Wf 2 oM oM).mono ?_;rintro e W5 ⟨⟨r5,rfl,ci⟩,aa⟩;obtain⟨a4,B4,m4,d4,rfl⟩:=ci.open;have b1:=ad.trans (aa.mono ad.size);have bs:=gbox b5 aa (Vq b5);have bt:=gbox b6 aa (Vq b6);have bu:=gbox ar aa (Vq ar);have bv:=gbox b9 aa (Vq b9);obtain⟨a5,cj,d7⟩:=row1 W5 #[a4,.slice B4 m4 d4] 50;have ca:=gbox bs a5 (Vq bs);have cb:=gbox bt a5 (Vq bt);have cc:=gbox bu a5 (Vq bu);have cd:=gbox bv a5 (Vq bv);have b2:=b1.trans (a5.mono b1.size);obtain⟨Wg,c4⟩:=eX ((W5.alloc (.cells #[a4,.slice B4 m4 d4] 50)));rw[<- c4] at a5 cj d7 ca cb cc cd b2;have df:=Z1 c4;have hN:=((bl.at_ aa).at_ a5).drw;have hD:=((bk.at_ aa).at_ a5).drw;have hE:=((ai.at_ aa).at_ a5).drw;have h2:=((ci.tight (j:=1) dC dC).at_ a5).drw;have ct:Reg w [(w.heap.size+1,#[false,.slice none 0 0],50),(W2,#[a1,.slice B1 m1 d1],50),(W2.heap.size+1,#[a2,.slice B2 m2 d2],50),(W2.heap.size+2,#[a3,.slice B3 m3 d3],50),(W5,#[a4,.slice B4 m4 d4],50)] Wg:=⟨b2,by simp[cd,ca,cb,cc,cj]⟩;have hS:=ct.drew;clear c4 bs bt bu bv b5 b6 ar b9 ca cb cc cd;go_upto_region 6 with(fail);rw[<- df];refine Vs (S:=Reg w [(w.heap.size+1,#[false,.slice none 0 0],50),(W2,#[a1,.slice B1 m1 d1],50),(W2.heap.size+1,#[a2,.slice B2 m2 d2],50),(W2.heap.size+2,#[a3,.slice B3 m3 d3],50),(W5,#[a4,.slice B4 m4 d4],50)]) kR ?_;change wpAnyH _ _ _ _ _ _ _ _ (World.drew Wg);obtain⟨a0,cw⟩:=eX Wg.drew;rw[<- cw] at hS hN hD hE h2⊢;have ds:=hS.lt (.head _);have dt:=hS.lt (.tail _ (.tail _ (.tail _ (.head _))));have du:=hS.lt (.tail _ (.tail _ (.tail _ (.tail _ (.head _)))));clear cw d7 d6 ay a5 b2 b1 ad aa ab al ap ak b0 bh az bl bk ai cz d0 ba bo bm b4 c7 c8 cj ci ct;refine jT 0 hS ?_ (v:=.agg #[a4,.slice B4 m4 d4]) (hy:=(Vf (by rfl) 50 _ rfl W5.heap.size 0 rfl [a4,.slice B4 m4 d4] _ (fun X a=>range2 (a.get (.tail _ (.tail _ (.tail _ (.tail _ (.head _))))))) Xy rfl VZ));refine jT 1 hS ?_ (v:=.agg #[a1,.slice B1 m1 d1]) (hy:=(Vf (by rfl) 50 _ rfl W2.heap.size 0 rfl [a1,.slice B1 m1 d1] _ (fun X a=>range2 (a.get (.tail _ (.head _)))) Xy rfl VZ));refine jT 3 hS ?_ (v:=.agg #[a3,.slice B3 m3 d3]) (hy:=(Vf (by rfl) 50 _ rfl (W2+2) 0 rfl [a3,.slice B3 m3 d3] _ (fun X a=>range2 (a.get (.tail _ (.tail _ (.tail _ (.head _)))))) Xy rfl VZ));refine jT 5 hS ?_ (v:=.agg #[a4,.slice B4 m4 d4]) (hy:=(Vf (by rfl) 50 _ rfl W5.heap.size 0 rfl [a4,.slice B4 m4 d4] _ (fun X a=>range2 (a.get (.tail _ (.tail _ (.tail _ (.tail _ (.head _))))))) Xy rfl VZ));refine jT 6 hS ?_ (v:=.agg #[a2,.slice B2 m2 d2]) (hy:=(Vf (by rfl) 50 _ rfl (W2+1) 0 rfl [a2,.slice B2 m2 d2] _ (fun X a=>range2 (a.get (.tail _ (.tail _ (.head _))))) Xy rfl VZ));refine a0w fun bc af Q' a' av aw ax au=>?_;obtain⟨RG,ah⟩:=eX (Reg w [(w.heap.size+1,#[false,.slice none 0 0],50),(W2,#[a1,.slice B1 m1 d1],50),(W2.heap.size+1,#[a2,.slice B2 m2 d2],50),(W2.heap.size+2,#[a3,.slice B3 m3 d3],50),(W5,#[a4,.slice B4 m4 d4],50)]);rw[<- ah] at hS⊢
  have n4:∀(m:Nat) (W:World) (f0:Bool) (F0:OA) (o0 e0:Nat) (f1:Bool) (F1:OA) (o1 e1:Nat) (f2:Bool) (F2:OA) (o2 e2:Nat) (f3:Bool) (F3:OA) (o3 e3:Nat) (rg:Bool) (rA:OA) (rn rc:Nat) (I:Bool) (v7:Value) (T:Nat) (L:Bool) (v8:Value) (p8:Nat),3+cond I 0 1+cond L 0 1<=m->RG W->a0.heap.size<=W.heap.size->PI W W (max (1+k) J+1) (.agg #[f3,.slice F3 o3 e3]) (Int.tdiv (2*N+Ez) (2*D))->Mk a0 W I v7 T #[false,.slice none 0 0] 50->Mk a0 W L v8 p8 #[false,.slice none 0 0] 50->(I->L->T≠p8)->wpAnyH prog bc af Q' RG m #[true,true,true,true,true,true,true,true,true,true,true,true,true,I,L,false,false,false] ((((((((((a'.put (some 25) (.agg #[f0,.slice F0 o0 e0])).put (some 27) (.agg #[f1,.slice F1 o1 e1])).put (some 30) (.agg #[f2,.slice F2 o2 e2])).put (some 31) (.tuple #[.agg #[f3,.slice F3 o3 e3],.agg #[rg,.slice rA rn rc],()])).put (some 22) (.tuple #[.agg #[f3,.slice F3 o3 e3],.agg #[rg,.slice rA rn rc],()])).put (some 32) (.agg #[f3,.slice F3 o3 e3])).put (some 33) (.agg #[rg,.slice rA rn rc])).put (some 34) (.int .i64 0)).put (some 7) v7).put (some 8) v8) W:=by
   intro m
   induction m with
   |zero=>intros;omega
   |succ m ih =>
   intro W f0 F0 o0 e0 f1 F1 o1 e1 f2 F2 o2 e2 f3 F3 o3 e3 rg rA rn rc I v7 T L v8 p8 hm hS hz cg H7 H8 a8;subst av aw ax au ah
   try simp only[z]
   by_cases hb:I/\L
   rotate_left
   ·refine Xc (rs:=(cond I [] [13]++(cond L [] [14]++[]))) (by revert hb;cases I <;> cases L <;> intro hb <;> first|exact absurd dC hb|kernel_rfl) (by revert hb;cases I <;> cases L <;> decide) (ropt (fun h7=>.cons rfl (fun K Q=>?_) .nil) (ropt (fun h8=>.cons rfl (fun K Q=>?_) .nil) .nil))
    ·subst h7
     obtain⟨X,s,o,E,_⟩:=nw1 W #[false,.slice none 0 0] 50;go_simp;rw[<- s];clear s;have a:=hS.step o;refine jK Q a ?_;clear Q K;have O:=ih X f0 F0 o0 e0 f1 F1 o1 e1 f2 F2 o2 e2 f3 F3 o3 e3 rg rA rn rc true (.pointer (some ⟨W,0,none⟩)) W L v8 p8 (by simp only[YP,Y6] at hm⊢;omega) a (Vn hz o.size) (cg.at_ o) (fun _=>⟨rfl,hz,E⟩) (H8.step o) (fun _ h=>by have:=Vq (H8 h).2.2;omega)
     try simp only[z] at O
     exact O
    ·subst h8
     obtain⟨X,s,o,E,_⟩:=nw1 W #[false,.slice none 0 0] 50;go_simp;rw[<- s];clear s;have a:=hS.step o;refine jK Q a ?_;clear Q K;have O:=ih X f0 F0 o0 e0 f1 F1 o1 e1 f2 F2 o2 e2 f3 F3 o3 e3 rg rA rn rc I v7 T true (.pointer (some ⟨W,0,none⟩)) W (by simp only[YP,Y6] at hm⊢;omega) a (Vn hz o.size) (cg.at_ o) (H7.step o) (fun _=>⟨rfl,hz,E⟩) (fun h _=>by have:=Vq (H7 h).2.2;omega)
     try simp only[z] at O
     exact O
   obtain⟨rfl,rfl⟩:=hb;obtain⟨rfl,g7,h7⟩:=H7 rfl;obtain⟨rfl,g8,h8⟩:=H8 rfl;have dq:=a8 rfl rfl;obtain⟨m,rfl⟩:∃k,m=k+2:=⟨m-2,by simp only[YP] at hm;omega⟩;clear ih hm;refine rZ 15 fun K Q=>?_;rw[Vt (by rfl)];refine VQ 50 _ _ none rfl rfl T 50 _ #[f3,.slice F3 o3 e3] rfl rfl h7 rfl VZ oC ?_;have cu:=hS.store T (by have:=hS.1.size;omega) sO #[f3,.slice F3 o3 e3];have dk:=VC W T _ #[f3,.slice F3 o3 e3] _ _ h7;have cx:=(Vl W T p8 #[f3,.slice F3 o3 e3] oM).trans h8;have dm:=cg.other (w':=(W.setRow T #[f3,.slice F3 o3 e3])) h7 a5f (fun c hc=>Vl _ _ _ _ hc);refine jK Q cu ?_;clear Q K;refine rZ 16 fun K Q=>?_;rw[Vt (by rfl)];refine VQ 50 _ _ none rfl rfl p8 50 _ #[rg,.slice rA rn rc] rfl rfl cx rfl VZ oC ?_;have bi:=cu.store p8 (by have:=hS.1.size;omega) sO #[rg,.slice rA rn rc];have cy:=(Vl (W.setRow T #[f3,.slice F3 o3 e3]) p8 T #[rg,.slice rA rn rc] oM).trans dk;have c6:=bi.get (.head _);have dn:=dm.other (w':=((W.setRow T #[f3,.slice F3 o3 e3]).setRow p8 #[rg,.slice rA rn rc])) cx a5f (fun c hc=>Vl _ _ _ _ hc);refine jK Q bi ?_;clear Q K;refine rZ 17 fun K Q=>?_;go_simp;refine jK Q bi ?_;clear Q K;refine VF kR ?_ _;have dl:=cr9 0 cy;have bj:=cr9 1 cy;simp at dl bj;have cs:=VC ((W.setRow T #[f3,.slice F3 o3 e3]).setRow p8 #[rg,.slice rA rn rc]) (w+1) _ #[f3,.slice F3 o3 e3] _ _ c6;have bq:=Z1 (VW (P:=prog) _ _ _ 50 _ _ _ cs Xy rfl VZ);have Hp:=Z1 ((dn.other (w':=(((W.setRow T #[f3,.slice F3 o3 e3]).setRow p8 #[rg,.slice rA rn rc]).setRow (w+1) #[f3,.slice F3 o3 e3])) c6 a5f (fun c hc=>Vl _ _ _ _ hc)).more (C:=(((W.setRow T #[f3,.slice F3 o3 e3]).setRow p8 #[rg,.slice rA rn rc]).setRow (w+1) #[f3,.slice F3 o3 e3]).heap.size) sP lR);have d8:=Z1 (below_setRow bi.1 (show(w:Nat)<=w+1 by omega) #[f3,.slice F3 o3 e3]);have dh:=Z1 c6;have br:Hid ((#[f3,.slice F3 o3 e3]:AV).all (·.oneCell')):=by show _=true;simp[Value.oneCell']
   clear cs;go_wp2_with (refine Vz rfl 50 (.tmp 2) (.tmp 35) none rfl rfl (w+1) 50 _ #[f3,.slice F3 o3 e3] rfl rfl dh rfl VZ br ?_);rw[cn,<- da] at Hp;exact VG (v:=.agg #[f3,.slice F3 o3 e3]) (by simp[results,results147,asAddr,Act.put,bq.out]) rfl ⟨⟨_,rfl,Hp⟩,d8⟩
  have n3:∀(m:Nat) (W:World) (f0:Bool) (F0:OA) (o0 e0:Nat) (f1:Bool) (F1:OA) (o1 e1:Nat) (f2:Bool) (F2:OA) (o2 e2:Nat) (I:Bool) (v7:Value) (T:Nat) (L:Bool) (v8:Value) (p8:Nat),8+cond I 0 1+cond L 0 1<=m->RG W->a0.heap.size<=W.heap.size->PI W W (max (1+k) J+1) (.agg #[f1,.slice F1 o1 e1]) (2*N+Ez)->PI W W (1+J) (.agg #[f2,.slice F2 o2 e2]) (2*D)->Mk a0 W I v7 T #[false,.slice none 0 0] 50->Mk a0 W L v8 p8 #[false,.slice none 0 0] 50->(I->L->T≠p8)->wpAnyH prog bc af Q' RG m #[true,true,true,true,true,true,true,true,false,false,false,false,false,I,L,false,false,false] (((((a'.put (some 25) (.agg #[f0,.slice F0 o0 e0])).put (some 27) (.agg #[f1,.slice F1 o1 e1])).put (some 30) (.agg #[f2,.slice F2 o2 e2])).put (some 7) v7).put (some 8) v8) W:=by
   intro m
   induction m with
   |zero=>intros;omega
   |succ m ih =>
   intro W f0 F0 o0 e0 f1 F1 o1 e1 f2 F2 o2 e2 I v7 T L v8 p8 hm hS hz aj cf H7 H8 a8;subst av aw ax au ah
   try simp only[z]
   refine Xc (rs:=8::(cond I [] [13]++(cond L [] [14]++[]))) (by cases I <;> cases L <;> kernel_rfl) sP (.cons rfl (fun K Q=>?_) (ropt (fun h7=>.cons rfl (fun K Q=>?_) .nil) (ropt (fun h8=>.cons rfl (fun K Q=>?_) .nil) .nil)))
   ·clear ih
    go_simp;refine(a1r W (max (1+k) J+1) (1+J) _ _ (2*N+Ez) (2*D) oM oM d9 aj cf).mono ?_;rintro e X ⟨⟨v,rg,rA,rn,rc,rfl,hr⟩,o⟩;obtain⟨f3,F3,o3,e3,rfl⟩:=hr.open;have a:=hS.step o;refine jK Q a ?_;clear Q K;obtain⟨m,rfl⟩:∃k,m=k+4:=⟨m-4,oM⟩;refine ZP (i:=9) (v:=.tuple #[.agg #[f3,.slice F3 o3 e3],.agg #[rg,.slice rA rn rc],()]) rfl kR (by cases I <;> cases L <;> kernel_rfl) (by cases I <;> cases L <;> kernel_rfl) (fun _ _ _ h=>h) (.inl ⟨by rfl,fun X a=>by go_simp⟩) a ?_
    try simp only[z]
    refine ZP (i:=10) (v:=.agg #[f3,.slice F3 o3 e3]) rfl kR (by cases I <;> cases L <;> kernel_rfl) (by cases I <;> cases L <;> kernel_rfl) (fun _ _ _ h=>h) (.inl ⟨by rfl,fun X a=>by go_simp⟩) a ?_
    try simp only[z]
    refine ZP (i:=11) (v:=.agg #[rg,.slice rA rn rc]) rfl kR (by cases I <;> cases L <;> kernel_rfl) (by cases I <;> cases L <;> kernel_rfl) (fun _ _ _ h=>h) (.inl ⟨by rfl,fun X a=>by go_simp⟩) a ?_
    try simp only[z]
    refine ZP (i:=12) (v:=.int .i64 0) rfl kR (by cases I <;> cases L <;> kernel_rfl) (by cases I <;> cases L <;> kernel_rfl) (fun _ _ _ h=>h) (.inl ⟨by rfl,fun X a=>by go_simp⟩) a ?_
    try simp only[z]
    have O:=n4 m X f0 F0 o0 e0 f1 F1 o1 e1 f2 F2 o2 e2 f3 F3 o3 e3 rg rA rn rc I v7 T L v8 p8 oM a (Vn hz o.size) (hr) (H7.step o) (H8.step o) a8
    try simp only[z] at O
    exact O
   ·subst h7
    obtain⟨X,s,o,E,_⟩:=nw1 W #[false,.slice none 0 0] 50;go_simp;rw[<- s];clear s;have a:=hS.step o;refine jK Q a ?_;clear Q K;have O:=ih X f0 F0 o0 e0 f1 F1 o1 e1 f2 F2 o2 e2 true (.pointer (some ⟨W,0,none⟩)) W L v8 p8 (by simp only[YP,Y6] at hm⊢;omega) a (Vn hz o.size) (aj.at_ o) (cf.at_ o) (fun _=>⟨rfl,hz,E⟩) (H8.step o) (fun _ h=>by have:=Vq (H8 h).2.2;omega)
    try simp only[z] at O
    exact O
   ·subst h8
    obtain⟨X,s,o,E,_⟩:=nw1 W #[false,.slice none 0 0] 50;go_simp;rw[<- s];clear s;have a:=hS.step o;refine jK Q a ?_;clear Q K;have O:=ih X f0 F0 o0 e0 f1 F1 o1 e1 f2 F2 o2 e2 I v7 T true (.pointer (some ⟨W,0,none⟩)) W (by simp only[YP,Y6] at hm⊢;omega) a (Vn hz o.size) (aj.at_ o) (cf.at_ o) (H7.step o) (fun _=>⟨rfl,hz,E⟩) (fun h _=>by have:=Vq (H7 h).2.2;omega)
    try simp only[z] at O
    exact O
  have n2:∀(m:Nat) (W:World) (f0:Bool) (F0:OA) (o0 e0:Nat) (f1:Bool) (F1:OA) (o1 e1:Nat) (I:Bool) (v7:Value) (T:Nat) (L:Bool) (v8:Value) (p8:Nat),9+cond I 0 1+cond L 0 1<=m->RG W->a0.heap.size<=W.heap.size->PI W W J (.agg #[a2,.slice B2 m2 d2]) D->PI W W.heap.size 1 (.agg #[a4,.slice B4 m4 d4]) 2->PI W W (max (1+k) J+1) (.agg #[f1,.slice F1 o1 e1]) (2*N+Ez)->Mk a0 W I v7 T #[false,.slice none 0 0] 50->Mk a0 W L v8 p8 #[false,.slice none 0 0] 50->(I->L->T≠p8)->wpAnyH prog bc af Q' RG m #[true,true,true,true,true,true,true,false,false,false,false,false,false,I,L,false,false,false] ((((a'.put (some 25) (.agg #[f0,.slice F0 o0 e0])).put (some 27) (.agg #[f1,.slice F1 o1 e1])).put (some 7) v7).put (some 8) v8) W:=by
   intro m
   induction m with
   |zero=>intros;omega
   |succ m ih =>
   intro W f0 F0 o0 e0 f1 F1 o1 e1 I v7 T L v8 p8 hm hS hz hD h2 aj H7 H8 a8;subst av aw ax au ah
   try simp only[z]
   refine Xc (rs:=7::(cond I [] [13]++(cond L [] [14]++[]))) (by cases I <;> cases L <;> kernel_rfl) sP (.cons rfl (fun K Q=>?_) (ropt (fun h7=>.cons rfl (fun K Q=>?_) .nil) (ropt (fun h8=>.cons rfl (fun K Q=>?_) .nil) .nil)))
   ·clear ih
    go_simp;refine(a1s W 1 J _ _ 2 D oM oM h2 hD).mono ?_;rintro e X ⟨⟨v,rfl,hr⟩,o⟩;obtain⟨f2,F2,o2,e2,rfl⟩:=hr.open;have a:=hS.step o;refine jK Q a ?_;clear Q K;have O:=n3 m X f0 F0 o0 e0 f1 F1 o1 e1 f2 F2 o2 e2 I v7 T L v8 p8 oM a (Vn hz o.size) (aj.at_ o) (hr) (H7.step o) (H8.step o) a8
    try simp only[z] at O
    exact O
   ·subst h7
    obtain⟨X,s,o,E,_⟩:=nw1 W #[false,.slice none 0 0] 50;go_simp;rw[<- s];clear s;have a:=hS.step o;refine jK Q a ?_;clear Q K;have O:=ih X f0 F0 o0 e0 f1 F1 o1 e1 true (.pointer (some ⟨W,0,none⟩)) W L v8 p8 (by simp only[YP,Y6] at hm⊢;omega) a (Vn hz o.size) (hD.at_ o) (h2.at_ o) (aj.at_ o) (fun _=>⟨rfl,hz,E⟩) (H8.step o) (fun _ h=>by have:=Vq (H8 h).2.2;omega)
    try simp only[z] at O
    exact O
   ·subst h8
    obtain⟨X,s,o,E,_⟩:=nw1 W #[false,.slice none 0 0] 50;go_simp;rw[<- s];clear s;have a:=hS.step o;refine jK Q a ?_;clear Q K;have O:=ih X f0 F0 o0 e0 f1 F1 o1 e1 I v7 T true (.pointer (some ⟨W,0,none⟩)) W (by simp only[YP,Y6] at hm⊢;omega) a (Vn hz o.size) (hD.at_ o) (h2.at_ o) (aj.at_ o) (H7.step o) (fun _=>⟨rfl,hz,E⟩) (fun h _=>by have:=Vq (H7 h).2.2;omega)
    try simp only[z] at O
    exact O
  have n1:∀(m:Nat) (W:World) (f0:Bool) (F0:OA) (o0 e0:Nat) (I:Bool) (v7:Value) (T:Nat) (L:Bool) (v8:Value) (p8:Nat),10+cond I 0 1+cond L 0 1<=m->RG W->a0.heap.size<=W.heap.size->PI W W J (.agg #[a3,.slice B3 m3 d3]) Ez->PI W W J (.agg #[a2,.slice B2 m2 d2]) D->PI W W.heap.size 1 (.agg #[a4,.slice B4 m4 d4]) 2->PI W W (1+k) (.agg #[f0,.slice F0 o0 e0]) (2*N)->Mk a0 W I v7 T #[false,.slice none 0 0] 50->Mk a0 W L v8 p8 #[false,.slice none 0 0] 50->(I->L->T≠p8)->wpAnyH prog bc af Q' RG m #[true,true,true,true,false,true,true,false,false,false,false,false,false,I,L,false,false,false] (((a'.put (some 25) (.agg #[f0,.slice F0 o0 e0])).put (some 7) v7).put (some 8) v8) W:=by
   intro m
   induction m with
   |zero=>intros;omega
   |succ m ih =>
   intro W f0 F0 o0 e0 I v7 T L v8 p8 hm hS hz hE hD h2 ce H7 H8 a8;subst av aw ax au ah
   try simp only[z]
   refine Xc (rs:=4::(cond I [] [13]++(cond L [] [14]++[]))) (by cases I <;> cases L <;> kernel_rfl) sP (.cons rfl (fun K Q=>?_) (ropt (fun h7=>.cons rfl (fun K Q=>?_) .nil) (ropt (fun h8=>.cons rfl (fun K Q=>?_) .nil) .nil)))
   ·clear ih
    go_simp;refine(b1v W (1+k) J _ _ (2*N) Ez oM oM ce hE).mono ?_;rintro e X ⟨⟨v,rfl,hr⟩,o⟩;obtain⟨f1,F1,o1,e1,rfl⟩:=hr.open;have a:=hS.step o;refine jK Q a ?_;clear Q K;have O:=n2 m X f0 F0 o0 e0 f1 F1 o1 e1 I v7 T L v8 p8 oM a (Vn hz o.size) (hD.at_ o) (h2.at_ o) (hr) (H7.step o) (H8.step o) a8
    try simp only[z] at O
    exact O
   ·subst h7
    obtain⟨X,s,o,E,_⟩:=nw1 W #[false,.slice none 0 0] 50;go_simp;rw[<- s];clear s;have a:=hS.step o;refine jK Q a ?_;clear Q K;have O:=ih X f0 F0 o0 e0 true (.pointer (some ⟨W,0,none⟩)) W L v8 p8 (by simp only[YP,Y6] at hm⊢;omega) a (Vn hz o.size) (hE.at_ o) (hD.at_ o) (h2.at_ o) (ce.at_ o) (fun _=>⟨rfl,hz,E⟩) (H8.step o) (fun _ h=>by have:=Vq (H8 h).2.2;omega)
    try simp only[z] at O
    exact O
   ·subst h8
    obtain⟨X,s,o,E,_⟩:=nw1 W #[false,.slice none 0 0] 50;go_simp;rw[<- s];clear s;have a:=hS.step o;refine jK Q a ?_;clear Q K;have O:=ih X f0 F0 o0 e0 I v7 T true (.pointer (some ⟨W,0,none⟩)) W (by simp only[YP,Y6] at hm⊢;omega) a (Vn hz o.size) (hE.at_ o) (hD.at_ o) (h2.at_ o) (ce.at_ o) (H7.step o) (fun _=>⟨rfl,hz,E⟩) (fun h _=>by have:=Vq (H7 h).2.2;omega)
    try simp only[z] at O
    exact O
  have n0:∀(m:Nat) (W:World) (I:Bool) (v7:Value) (T:Nat) (L:Bool) (v8:Value) (p8:Nat),11+cond I 0 1+cond L 0 1<=m->RG W->a0.heap.size<=W.heap.size->PI W W k (.agg #[a1,.slice B1 m1 d1]) N->PI W W J (.agg #[a3,.slice B3 m3 d3]) Ez->PI W W J (.agg #[a2,.slice B2 m2 d2]) D->PI W W.heap.size 1 (.agg #[a4,.slice B4 m4 d4]) 2->Mk a0 W I v7 T #[false,.slice none 0 0] 50->Mk a0 W L v8 p8 #[false,.slice none 0 0] 50->(I->L->T≠p8)->wpAnyH prog bc af Q' RG m #[true,true,false,true,false,true,true,false,false,false,false,false,false,I,L,false,false,false] ((a'.put (some 7) v7).put (some 8) v8) W:=by
   intro m
   induction m with
   |zero=>intros;omega
   |succ m ih =>
   intro W I v7 T L v8 p8 hm hS hz hN hE hD h2 H7 H8 a8;subst av aw ax au ah
   try simp only[z]
   refine Xc (rs:=2::(cond I [] [13]++(cond L [] [14]++[]))) (by cases I <;> cases L <;> kernel_rfl) sP (.cons rfl (fun K Q=>?_) (ropt (fun h7=>.cons rfl (fun K Q=>?_) .nil) (ropt (fun h8=>.cons rfl (fun K Q=>?_) .nil) .nil)))
   ·clear ih
    go_simp;refine(a1s W 1 k _ _ 2 N oM oM h2 hN).mono ?_;rintro e X ⟨⟨v,rfl,hr⟩,o⟩;obtain⟨f0,F0,o0,e0,rfl⟩:=hr.open;have a:=hS.step o;refine jK Q a ?_;clear Q K;have O:=n1 m X f0 F0 o0 e0 I v7 T L v8 p8 oM a (Vn hz o.size) (hE.at_ o) (hD.at_ o) (h2.at_ o) (hr) (H7.step o) (H8.step o) a8
    try simp only[z] at O
    exact O
   ·subst h7
    obtain⟨X,s,o,E,_⟩:=nw1 W #[false,.slice none 0 0] 50;go_simp;rw[<- s];clear s;have a:=hS.step o;refine jK Q a ?_;clear Q K;have O:=ih X true (.pointer (some ⟨W,0,none⟩)) W L v8 p8 (by simp only[YP,Y6] at hm⊢;omega) a (Vn hz o.size) (hN.at_ o) (hE.at_ o) (hD.at_ o) (h2.at_ o) (fun _=>⟨rfl,hz,E⟩) (H8.step o) (fun _ h=>by have:=Vq (H8 h).2.2;omega)
    try simp only[z] at O
    exact O
   ·subst h8
    obtain⟨X,s,o,E,_⟩:=nw1 W #[false,.slice none 0 0] 50;go_simp;rw[<- s];clear s;have a:=hS.step o;refine jK Q a ?_;clear Q K;have O:=ih X I v7 T true (.pointer (some ⟨W,0,none⟩)) W (by simp only[YP,Y6] at hm⊢;omega) a (Vn hz o.size) (hN.at_ o) (hE.at_ o) (hD.at_ o) (h2.at_ o) (H7.step o) (fun _=>⟨rfl,hz,E⟩) (fun h _=>by have:=Vq (H7 h).2.2;omega)
    try simp only[z] at O
    exact O
  have O:=n0 _ a0 false undef 0 false undef 0 lR hS lR hN hE hD h2 (fun h=>nomatch h) (fun h=>nomatch h) (fun h=>nomatch h);subst av aw ax au ah;exact O)
theorem a8I (k j:Nat) (v:Value) (N D:Int) (a:k+j+100<=10000000000) (h:RI w w k j v N D) :
  Calls prog 147 #[v] w fun e w'=>(∃r,e=.returned r/\PI w' w' (max (1+k) (max j 3)+1) r (Int.tdiv (2*N+(if N<0 then-(dz D) else dz D)) (2*dz D)))/\Below w w w' :=
 a9T w k j v N D _ _ _ _ rfl rfl rfl rfl a h
namespace Sc
def okN (n:Int):Bool:=decide (-1000000000000<=n/\n<=1000000000000)
def wN (n:Int):Int:=Int.tdiv n (redBy n 1)
def wD (n:Int):Int:=Int.tdiv 1 (redBy n 1)
def pN (n N D:Int):Int:=Int.tdiv (wN n*N) (redBy (wN n*N) (dz (wD n)*dz D))
def pD (n N D:Int):Int:=Int.tdiv (dz (wD n)*dz D) (redBy (wN n*N) (dz (wD n)*dz D))
def num (n N D:Int):Int:=Int.tdiv (2*pN n N D+(if pN n N D<0 then-(dz (pD n N D)) else dz (pD n N D))) (2*dz (pD n N D))
def out (n N D:Int):Option Int:=if okN n/\okN (num n N D) then some (num n N D) else none
end Sc
def ScPost (o:Option Int) (w:World) (e:Ending) (w':World):Prop :=
 Below w w w'/\((o=none/\∃m,m≠0/\e=.returned (.tuple #[(),.int .i64 m]))∨∃x,o=some x/\e=.returned (.tuple #[.int .i64 x,()]))
theorem a3O (n:Int):Calls prog 145 #[n] w fun e w'=>e=.returned (.bool (Sc.okN n))/\w=w':=by
 by_cases a:-1000000000000<=n
 ·have o:decide (n ≥ -1000000000000)=true:=by simpa using a
  have i:Hid (Sc.okN n=decide (n<=1000000000000)):=by show _=_;unfold Sc.okN;simp[a]
  go_enter func145,ntmps145;go_wp2;go_ret;exact⟨by rw[i.out];rfl,rfl⟩
 ·have o:decide (n ≥ -1000000000000)=false:=by simpa using a
  have i:Hid (Sc.okN n=false):=by show _=_;unfold Sc.okN;simp[a]
  go_enter func145,ntmps145;go_wp2;go_ret;exact⟨by first|rfl|(rw[i.out];rfl),rfl⟩
theorem a9O (n:Int) (k j:Nat) (v:Value) (N D:Int) (hk:3*k+3*j+1000<=10000000000) (h:RI w w k j v N D) :
  Calls prog 90 #[n,v] w (ScPost (Sc.out n N D) w):=by
 obtain⟨g1,A1,n1,c1,g2,A2,n2,c2,rfl⟩:=h.open;obtain⟨W1,a6,i,S,hz⟩:=nw1 w #[g1,.slice A1 n1 c1,g2,.slice A2 n2 c2] 52;have HW:=Z1 a6;have h1:=h.at_ i;have H1:=Z1 h1;have s1:=Vq S;have af:=Z1 S;have HA:=Z1 (a3O W1 n);obtain⟨o,ho⟩:=eX (Sc.out n N D);rw[<- ho];have Ho:=Z1 ho;clear a6 hz S h1 h ho;go_enter func90,ntmps90;go_upto_region 1 with(fail);rw[<- HW];go_wp2_with (fail);refine HA.mono ?_;rintro e W2 ⟨rfl,rfl⟩
 cases W:Sc.okN n with
 |false =>
  have L:Hid (o=none):=by show _=_;rw[Ho];unfold Sc.out;rw[VB (by rw[W];simp)]
  clear W;go_wp2
  go_ret2
  exact⟨i,.inl ⟨L,1,dC,rfl⟩⟩
 |true =>
 have ak:-1000000000000<=n/\n<=1000000000000:=by unfold Sc.okN at W;simpa using W
 have Hn:=Z1 W;clear W;go_wp2_with (fail);refine(a2i W1 n 1 oM oM oM oM oM).mono ?_;rintro e W2 ⟨⟨r,rfl,hr⟩,O⟩;obtain⟨g3,A3,n3,c3,g4,A4,n4,c4,rfl⟩:=hr.open;obtain⟨W3,a7,Q,a8,al⟩:=nw1 W2 #[g3,.slice A3 n3 c3,g4,.slice A4 n4 c4] 52;have ae:=Z1 a7;have a:=O.trans (Q.mono O.size);have ab:=Z1 (i.trans (a.mono i.size));have X:=gB af a s1;have ag:=Z1 a8;have a9:RI W3 W3.heap.size 3 3 _ (Sc.wN n) (Sc.wD n):=hr.at_ Q;have ah:=Z1 a9;have H3:=Z1 (H1.at_ a);clear a7 al a8 hr a9 a O Q ak;go_upto_region 4 with(fail);rw[<- ae];go_wp2_with (first|(refine Vd rfl 52 (.tmp 6) rfl _ rfl _ _ _ _ ag Xf rfl Vy ?_)|(refine Vd rfl 52 (.tmp 3) rfl _ rfl _ _ _ _ X Xf rfl Vy ?_));refine(a7U W3 3 3 k j _ _ (Sc.wN n) (Sc.wD n) N D oM ah H3).mono ?_;rintro e W4 ⟨⟨r4,rfl,s⟩,a0⟩;have s:RI W4 W4 (3+k) (max 3 3+max j 3) r4 (Sc.pN n N D) (Sc.pD n N D):=s;have ai:=Z1 s;have ac:=bT ab a0;clear s a0;go_wp2_with (fail);refine(a8I W4 (3+k) (max 3 3+max j 3) r4 (Sc.pN n N D) (Sc.pD n N D) oM ai).mono ?_;rintro e W5 ⟨⟨r5,rfl,E⟩,a4⟩;have E:PI W5 W5 _ r5 (Sc.num n N D):=E;have aj:=Z1 E;have ad:=bT ac a4;clear E a4;go_wp2_with (fail);refine(a9H W5 _ r5 (Sc.num n N D) oM aj).mono ?_;rintro e W6 ⟨rfl,a5⟩;have J:=bT ad a5;obtain⟨x,hx⟩:=eX (Sc.num n N D);rw[<- hx];have Hx:=Z1 hx;have aa:=Z1 (a3O W6 x);clear a5 hx
 by_cases T:-9223372036854775808<=x/\x<=9223372036854775807
 case neg =>
  have L:Hid (o=none):=by show _=_;rw[Ho];unfold Sc.out;rw[VB (fun q=>T (by have:=q.2;rw[<- Hx] at this;unfold Sc.okN at this;simp at this;omega))]
  rw[VB T,Vr T];clear T;go_wp2
  go_ret2
  exact⟨J,.inl ⟨L,2,dC,rfl⟩⟩
 rw[Vt T,VT T];clear T;go_wp2_with (fail);refine aa.mono ?_;rintro e W7 ⟨rfl,rfl⟩
 cases I:Sc.okN x with
 |false =>
  have L:Hid (o=none):=by show _=_;rw[Ho];unfold Sc.out;rw[<- Hx,VB (by rw[I];simp)]
  clear I;go_wp2
  go_ret2
  exact⟨J,.inl ⟨L,2,dC,rfl⟩⟩
 |true =>
  have L:Hid (o=some x):=by show _=_;rw[Ho];unfold Sc.out;rw[<- Hx,Vt ⟨Hn,I⟩]
  clear I;go_wp2
  go_ret2
  exact⟨J,.inr ⟨x,L,rfl⟩⟩
structure Rn where
 g1:Bool
 A1:Option Addr
 n1:Nat
 c1:Nat
 g2:Bool
 A2:Option Addr
 n2:Nat
 c2:Nat
 N:Int
 D:Int
instance:Coe Rn (Array Value):=⟨fun x=>#[.bool x.g1,.slice x.A1 x.n1 x.c1,.bool x.g2,.slice x.A2 x.n2 x.c2]⟩
instance:Coe Rn Value:=⟨fun x=>.agg #[.bool x.g1,.slice x.A1 x.n1 x.c1,.bool x.g2,.slice x.A2 x.n2 x.c2]⟩
instance:Coe Rn (List Value):=⟨fun x=>[.bool x.g1,.slice x.A1 x.n1 x.c1,.bool x.g2,.slice x.A2 x.n2 x.c2]⟩
abbrev Fr:=Int × Int
def Rn.q (x:Rn):Fr:=(x.N,x.D)
def Fr.part (n:Int):Fr:=(Int.tdiv n (redBy n 10000),Int.tdiv 10000 (redBy n 10000))
def Rn.cells (x:Rn):List Value:=x
def Rn.v (x:Rn):Value:=x
def Rn.zero:Rn:=⟨false,none,0,0,false,none,0,0,0,0⟩
def Rn.At (w:World) (B K:Nat) (x:Rn):Prop:=RI w B K K x.v x.N x.D
theorem Rn.zero_at (w:World) (B K:Nat):Rn.zero.At w B K :=
 ⟨false,none,0,0,false,none,0,0,rfl,(a5q w B).more lR (Vb _),(a5q w B).more lR (Vb _)⟩
theorem Rn.of_ri {w:World} {B k j K:Nat} {v:Value} {N D:Int} (h:RI w B k j v N D) (L:k<=K) (J:j<=K):∃x:Rn,v=x.v/\x.At w B K/\x.q=(N,D):=by
 obtain⟨E,a,O,o,I,i,Q,s,rfl⟩:=h.open;exact⟨⟨E,a,O,o,I,i,Q,s,N,D⟩,rfl,h.more lR L J,rfl⟩
theorem Rn.At.below {w w':World} {B C K:Nat} {x:Rn} (h:x.At w B K) (i:Below C w w') (a:B<=C):x.At w' B K:=by
 obtain⟨J,o,S,E,L,s,T,I,e,O,Q⟩:=h;exact⟨J,o,S,E,L,s,T,I,e,O.below i a,Q.below i a⟩
theorem Rn.At.more {w:World} {B C K L:Nat} {x:Rn} (h:x.At w B K) (i:B<=C) (a:K<=L):x.At w C L:=RI.more h i a a
structure RRow where
 A:Option Addr
 n:Nat
 c:Nat
 l:List Rn
def RRow.cells (r:RRow):List Value:=[.slice r.A r.n r.c]
structure RRow.At (w:World) (B K:Nat) (r:RRow):Prop where
 hl:r.l.length=r.n
 hA:RowsAt Rn.cells 4 w B r.A r.l
 hx:∀x∈r.l,x.At w B K
theorem RRow.At.below {w w':World} {B C K:Nat} {r:RRow} (h:r.At w B K) (i:Below C w w') (a:B<=C):r.At w' B K:=⟨h.hl,RowsAt.below h.hA i a,fun x o=>(h.hx x o).below i a⟩
theorem RRow.At.more {w:World} {B C K L:Nat} {r:RRow} (h:r.At w B K) (a:B<=C) (i:K<=L):r.At w C L:=⟨h.hl,RowsAt.more h.hA a,fun x o=>(h.hx x o).more a i⟩
abbrev MatR (w:World) (B:Nat) (A:Option Addr) (m:List RRow):Prop:=RowsAt RRow.cells 1 w B A m
namespace Lm
def cols:List RRow->Nat
 |[]=>0
 |r::_=>r.n
def valid (m:List RRow):Bool:=m.all (fun r=>decide (r.n=cols m))&&decide (m.length<=24)&&decide (cols m<=24)
def square (m:List RRow):Bool:=valid m&&decide (m.length=cols m)
end Lm
theorem a8i (A:OA) (n c:Nat) (m:List RRow) (a:m.length=n) (i:MatR w w A m) :
  Calls prog 274 #[.slice A n c] w fun e w'=>e=.returned (.int .i64 (Lm.cols m:Nat))/\w=w':=by
 cases m with
 |nil =>
  obtain rfl:n=0:=by simpa using a.symm
  go_enter func274,ntmps274;go_wp2;go_ret;exact⟨rfl,rfl⟩
 |cons r t =>
  obtain⟨b,o,rfl,_,s⟩:=RowsAt.look i (show 0<(r::t).length by simp);have E:=s 0 _ rfl;simp at E;have I:((n:Int)==0)=false:=by rw[<- a];simp<;> omega
  have J:(0:Int)<(n:Int):=by rw[<- a];simp
  clear a i s;go_enter func274,ntmps274;go_wp2;go_ret;exact⟨rfl,rfl⟩
theorem a8X (A:OA) (n c:Nat) (m:List RRow) (X:m.length=n) (hn:n<=1000) (hA:MatR w w A m) :
  Calls prog 273 #[.slice A n c] w fun e w'=>e=.returned (.bool (Lm.valid m))/\w=w':=by
 have HC:=Z1 (a8i w A n c m X hA);obtain⟨a,O⟩:=eX (Lm.cols m);rw[<- O] at HC;have hV:Lm.valid m=(m.all (fun r=>decide (r.n=a))&&decide (n<=24)&&decide (a<=24)):=by rw[O,<- X];rfl
 obtain⟨v,hv⟩:=eX (Lm.valid m);rw[<- hv] at hV⊢;obtain⟨HV,HA,Hl⟩:=Z3 hV hA X;clear hV hv O hA X;go_enter func273,ntmps273;go_wp2
 go_loop [7] (fun i=>∃k:Nat,k<=n/\i=k/\(m.take k).all (fun r=>decide (r.n=a))) (fun i=>n-(intOf i).toNat)
 case atStart=>exact⟨0,Vb _,rfl,rfl⟩
 case round =>
  obtain⟨k,hk,rfl,J⟩:=hrel;have I:=Z1 J;clear J
  by_cases a4:k<n
  case neg =>
   obtain rfl:k=n:=oM
   have s:Hid (v=(decide (k<=24)&&decide (a<=24))):=by
    show _=_;rw[HV];have:=I.out;rw[Vg (by have:=Hl.out;omega)] at this;rw[this];rfl
   by_cases T:k<=24
   ·have k1:decide ((k:Int)<=24):=sO
    have L:Hid (v=decide (a<=24)):=by show _=_;rw[s];simp[T]
    go_wp2_with (fail);refine HC.mono ?_;rintro e W2 ⟨rfl,rfl⟩;go_wp2;go_ret;exact⟨by rw[L];simp;omega,rfl⟩
   ·have k1:decide ((k:Int)<=24)=false:=sO
    have L:Hid (v=false):=by show _=_;rw[s];simp[T]
    go_wp2;go_ret;exact⟨by rw[L];rfl,rfl⟩
  have Q:k<m.length:=by have:=Hl.out;omega
  obtain⟨b,o,rfl,_,hr⟩:=RowsAt.look HA Q;have c0:=hr 0 _ rfl;simp at c0;obtain⟨r,E⟩:=eX (m[k]);rw[<- E] at c0
  have a0:Hid ((m.take (k+1)).all (fun r=>decide (r.n=a))=decide (r.n=a)):=by
   show _=_;rw[tse Q,Yp,I,<- E];simp
  have S:Hid (¬ r.n=a->v=false):=Z1 fun h=>by
   rw[HV];have:m.all (fun r=>decide (r.n=a))=false:=by rw[Yb];exact⟨m[k],Vm Q,by rw[<- E];simp[h]⟩
   rw[this];rfl
  clear hr E;go_wp2_with (fail);refine HC.mono ?_;rintro e W2 ⟨rfl,rfl⟩
  by_cases W:r.n=a
  ·have k1:((r.n:Int) != (a:Int))=false:=by simp[W]
   have H2:Hid ((m.take (k+1)).all (fun r=>decide (r.n=a))):=by show _=_;rw[a0];simp[W]
   clear W;go_wp2
   go_round
   case rel=>exact⟨k+1,oM,by go_num,H2⟩
   case measure=>exact mS
  ·have k1:((r.n:Int) != (a:Int)):=sO
   have s:=Z1 (S W);clear W;go_wp2;go_ret;exact⟨by rw[s];rfl,rfl⟩
theorem a8s (A:OA) (n c:Nat) (m:List RRow) (s:m.length=n) (T:n<=1000) (E:MatR w w A m) :
  Calls prog 237 #[.slice A n c] w fun e w'=>e=.returned (.bool (Lm.square m))/\w=w':=by
 have O:=Z1 (a8i w A n c m s E);have Q:=Z1 (a8X w A n c m s T E);obtain⟨v,hv⟩:=eX (Lm.square m);rw[<- hv];have J:v=(Lm.valid m&&decide (n=Lm.cols m)):=by rw[hv,<- s];rfl
 have I:=Z1 J;clear hv J E s;go_enter func237,ntmps237;go_wp2_with (fail);refine Q.mono ?_;rintro e W ⟨rfl,rfl⟩
 cases o:Lm.valid m with
 |false =>
  have i:Hid (v=false):=by show _=_;rw[I,o];rfl
  clear o;go_wp2;go_ret;exact⟨by rw[i];rfl,rfl⟩
 |true =>
  have i:Hid (v=decide (n=Lm.cols m)):=by show _=_;rw[I,o];rfl
  clear o;go_wp2_with (fail);refine O.mono ?_;rintro e X ⟨rfl,rfl⟩;obtain⟨L,a⟩:=eX (Lm.cols m);rw[<- a] at i⊢;clear a;have S:((n:Int)==(L:Int))=decide (n=L):=by rw[XX];simp;omega
  go_wp2;go_ret;exact⟨by rw[i,<- S];rfl,rfl⟩
theorem b2i (n:Int) (h0:-9223372036854775808<=n) (h1:n<=9223372036854775807) :
  Calls prog 134 #[n] w fun e w'=>(∃x:Rn,e=.returned x.v/\x.At w' w'.heap.size 3/\x.q=Fr.part n)/\Below w w w':=by
 obtain⟨W1,a6,a4,X,hz⟩:=nw1 w ZR 52;have HW:=Z1 a6;have ae:=Z1 X;have s1:=Vq X;have aa:=Z1 a4;have HC:=Z1 (a2i W1 n 10000 h0 h1 oM oM oM);clear a6 hz X a4 h0 h1;go_enter func134,ntmps134;go_upto_region 1 with(fail);rw[<- HW];go_wp2_with (fail);refine HC.mono ?_;rintro e W2 ⟨⟨r,rfl,hr⟩,T⟩;obtain⟨J,o,O,E,L,s,Q,I,rfl⟩:=hr.open;obtain⟨W3,a7,W,a8,ah⟩:=nw1 W2 #[J,.slice o O E,L,.slice s Q I] 52;have ad:=Z1 a7;have i:=T.trans (W.mono T.size);have ab:=bT aa i;have a:=gB ae i s1;have af:=Z1 a8;have a9:=hr.at_ W;have ag:=Z1 a9;have a0:Hid ((#[J,.slice o O E,L,.slice s Q I]:AV).all (·.oneCell')):=by show _=true;simp[Value.oneCell']
 have a5:=VC W3 w _ #[J,.slice o O E,L,.slice s Q I] _ _ a;obtain⟨S,ac,Hp⟩:=Z3 (VW (P:=prog) _ _ _ 52 _ _ _ a5 Xf rfl Vy) (below_setRow ab lR #[J,.slice o O E,L,.slice s Q I]) ((ag.other (w':=W3.setRow w #[J,.slice o O E,L,.slice s Q I]) a a0G (fun c hc=>Vl _ _ _ _ hc)).more (C:=(W3.setRow w #[J,.slice o O E,L,.slice s Q I]).heap.size) sP lR lR);clear a7 ah a8 hr a9 i T W a5;go_upto_region 2 with(fail);rw[<- ad];go_wp2_with (first|(refine Vd rfl 52 (.tmp 3) rfl _ rfl _ _ _ _ af Xf rfl Vy ?_)|(refine Vz rfl 52 (.tmp 2) (.tmp 10) none rfl rfl w.heap.size 52 _ #[J,.slice o O E,L,.slice s Q I] rfl rfl a rfl Vy a0 ?_));refine VG (v:=.agg #[J,.slice o O E,L,.slice s Q I]) (by simp[results,results134,asAddr,Act.put,S.out]) rfl ⟨⟨⟨J,o,O,E,L,s,Q,I,_,_⟩,rfl,Hp,rfl⟩,ac⟩
namespace Fr
def red (a b:Int):Fr:=(Int.tdiv a (redBy a b),Int.tdiv b (redBy a b))
def mul (x y:Fr):Fr:=red (x.1*y.1) (dz x.2*dz y.2)
def add (x y:Fr):Fr:=red (x.1*dz y.2+y.1*dz x.2) (dz x.2*dz y.2)
def sub (x y:Fr):Fr:=red (x.1*dz y.2+-y.1*dz x.2) (dz x.2*dz y.2)
def div (x y:Fr):Fr:=(nwN (x.1*dz y.2) (dz x.2*y.1),nwD (x.1*dz y.2) (dz x.2*y.1))
def neg (x:Fr):Fr:=(-x.1,x.2)
end Fr
def RnPost (q:Fr) (K:Nat) (w:World) (e:Ending) (w':World):Prop:=(∃z:Rn,e=.returned z.v/\z.At w' w' K/\z.q=q)/\Below w w w'
def RnPost2 (q:Fr) (K:Nat) (w:World) (e:Ending) (w':World):Prop:=(∃(z:Rn) (m:Int),e=.returned (.tuple #[z.v,m])/\z.At w' w' K/\z.q=q)/\Below w w w'
section
variable (w:World) (k j:Nat) (x y:Rn)
theorem b3x (J:3<=k) (I:3<=j) (L:6*k+6*j+100<=10000000000) (s:x.At w w k) (hy:y.At w w j):Calls prog 148 #[x.v,y.v] w (RnPost (Fr.mul x.q y.q) (k+j) w):=by
 refine(a7U w k k j j _ _ _ _ _ _ oM s hy).mono ?_;rintro e w' ⟨⟨r,rfl,o⟩,a⟩;obtain⟨z,rfl,E,i⟩:=Rn.of_ri (K:=k+j) o oM oM;exact⟨⟨z,rfl,E,i⟩,a⟩
theorem b4y (J:3<=k) (I:3<=j) (L:6*k+6*j+100<=10000000000) (s:x.At w w k) (hy:y.At w w j):Calls prog 277 #[x.v,y.v] w (RnPost (Fr.sub x.q y.q) (k+j+1) w):=by
 refine(b1A w k k j j _ _ _ _ _ _ oM s hy).mono ?_;rintro e w' ⟨⟨r,rfl,o⟩,a⟩;obtain⟨z,rfl,E,i⟩:=Rn.of_ri (K:=k+j+1) o oM oM;exact⟨⟨z,rfl,E,i⟩,a⟩
theorem b4z (J:3<=k) (I:3<=j) (L:6*k+6*j+100<=10000000000) (s:x.At w w k) (hy:y.At w w j):Calls prog 236 #[x.v,y.v] w (RnPost (Fr.add x.q y.q) (k+j+1) w):=by
 refine(a8k w k k j j _ _ _ _ _ _ oM s hy).mono ?_;rintro e w' ⟨⟨r,rfl,o⟩,a⟩;obtain⟨z,rfl,E,i⟩:=Rn.of_ri (K:=k+j+1) o oM oM;exact⟨⟨z,rfl,E,i⟩,a⟩
theorem b3y (J:3<=k) (I:3<=j) (L:6*k+6*j+100<=10000000000) (s:x.At w w k) (hy:y.At w w j):Calls prog 239 #[x.v,y.v] w (RnPost2 (Fr.div x.q y.q) (k+j) w):=by
 refine(b3e w k k j j _ _ _ _ _ _ oM s hy).mono ?_;rintro e w' ⟨⟨r,rfl,o⟩,a⟩;obtain⟨z,rfl,E,i⟩:=Rn.of_ri (K:=k+j) o oM oM;exact⟨⟨z,_,rfl,E,i⟩,a⟩
theorem b3w (i:k<=10000000000) (E:x.At w w k):Calls prog 235 #[x.v] w (RnPost (Fr.neg x.q) k w):=by
 refine(a7T w k k _ _ _ i E).mono ?_;rintro e w' ⟨⟨r,rfl,s⟩,a⟩;obtain⟨z,rfl,I,o⟩:=Rn.of_ri (K:=k) s lR lR;exact⟨⟨z,rfl,I,o⟩,a⟩
theorem a9V (i:x.At w w k):Calls prog 276 #[x.v] w fun e w'=>(∃s:Int,e=.returned (.int .i64 s)/\s=sg x.q.1)/\Below w w w':=by
 refine(a9I w k k _ _ _ i).mono ?_;rintro e w' ⟨rfl,a⟩;exact⟨⟨_,rfl,rfl⟩,a⟩
theorem a2X (n:Int) (a:-9223372036854775808<=n) (i:n<=9223372036854775807):Calls prog 134 #[n] w (RnPost (Fr.part n) 3 w) :=
 (b2i w n a i).mono fun _ _ ⟨⟨x,e,h,q⟩,o⟩=>⟨⟨x,e,h,q⟩,o⟩
end
end Go.Proofs.YtbhdekahdnenjaaGreatDoor
