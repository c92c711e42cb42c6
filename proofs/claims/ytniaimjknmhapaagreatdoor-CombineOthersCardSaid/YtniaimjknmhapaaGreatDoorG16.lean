/- My texts RatRdG, ScaleW, LinW, LinV, RnOps. -/
import Derived.Test.YtniaimjknmhapaaGreatDoorG13
set_option linter.unusedVariables false
set_option linter.unusedSimpArgs false
set_option maxRecDepth 100000
set_option maxHeartbeats 16000000
namespace Go.Proofs.YtniaimjknmhapaaGreatDoor
open Go.Proofs.Tryz Go.RowKit
theorem rowsRI (w:World) (X Y:Array Value) (t s:TypeId):Below w w ((w.alloc (.cells X t)).alloc (.cells Y s))/\((w.alloc (.cells X t)).alloc (.cells Y s)).heap[w.heap.size]?=some (.cells X t (0,0))/\((w.alloc (.cells X t)).alloc (.cells Y s)).heap[w.heap.size+1]?=some (.cells Y s (0,0))/\((w.alloc (.cells X t)).alloc (.cells Y s)).heap.size=w.heap.size+2:=by
 refine⟨(bR.alloc lR _).alloc sP _,?_,?_,sP⟩
 ·rw [Below.heap_alloc _ _ _ sP];exact heap_alloc_new w _
 ·have:=heap_alloc_new (w.alloc (.cells X t)) (.cells Y s)
  rwa [show(w.alloc (.cells X t)).heap.size=w.heap.size+1 by simp] at this
theorem row1 (w:World) (X:Array Value) (t:TypeId):Below w w (w.alloc (.cells X t))/\(w.alloc (.cells X t)).heap[w.heap.size]?=some (.cells X t (0,0))/\(w.alloc (.cells X t)).heap.size=w.heap.size+1 :=
 ⟨bR.alloc lR _,heap_alloc_new w _,sP⟩
theorem a4Y (g:Bool) (A:Option Addr) (n c:Nat):∀(j:Nat) (z:Int),(#[g,.slice A n c]:Array Value)[j]?≠some (.int .u32 z):=by
 intro j z
 match j with
 | 0=>simp
 | 1=>simp
 | j+2=>simp
theorem PI.drw {W:World} {k:Nat} {v:Value} {z:Int} (h:PI W W k v z):PI W.drew W.drew.heap.size k v z:=h.at_ (Vw bR 1)
theorem b3t (N:Int) (h:¬ N<0):decide (sg N<0)=false:=by
 rcases Int.lt_trichotomy N 0 with hl | hl | hl
 ·exact absurd hl h
 ·rw [a1r.2.2.2 hl];rfl
 ·rw [a1r.1.2 hl];rfl
theorem b3u (N:Int) (h:N<0):decide (sg N<0)=true:=by
 rw [a1r.2.1.2 h];rfl
theorem a4M:∀(j:Nat) (n:Int),(#[false,.slice none 0 0]:Array Value)[j]?≠some (.int .u32 n):=by
 intro j n
 match j with
 | 0=>simp
 | 1=>simp
 | j+2=>simp
section
variable (w:World)
theorem a8S (k j:Nat) (v:Value) (N D0 D Z:Int) (K0 J:Nat) (hJ:J=max j 3) (hDD:D=dz D0) (hKK:K0=max (1+k) J+1) (hZ:Z=if N<0 then -D else D) (hk:k+j+100<=10000000000) (h:RI w w k j v N D0) :
  Calls prog 35 #[v] w fun e w'=>(∃ r,e=.returned r/\PI w' w' K0 r (Int.tdiv (2*N+Z) (2*D)))/\Below w w w':=by
 obtain⟨g1,A1,n1,c1,g2,A2,n2,c2,rfl⟩:=h.open;obtain⟨hB0,hb0,hb1,hz⟩:=rowsRI w #[g1,.slice A1 n1 c1,g2,.slice A2 n2 c2] #[false,.slice none 0 0] 43 41;obtain⟨W1,hW1⟩:∃ W1,W1=((w.alloc (.cells #[g1,.slice A1 n1 c1,g2,.slice A2 n2 c2] 43)).alloc (.cells #[false,.slice none 0 0] 41)):=⟨_,rfl⟩;rw [<- hW1] at hB0 hb0 hb1 hz;obtain⟨HW,Hz,Hb1⟩:=Z3 hW1 hz hb1;have hD:D≠0:=by rw [hDD];exact a6N D0
 have hPt:=fun W u=>a1n W k j u N D0;rw [<- hJ,<- hDD] at hPt;have HPt:=Z1 hPt;have hJb:J<=j+3:=oM;obtain⟨HD,HZ,HKK⟩:=Z3 hD hZ hKK;have HD2:Hid (2*D≠0):=by show _≠_;omega
 have x0:=cr9 0 hb0;have x1:=cr9 1 hb0;have x2:=cr9 2 hb0;have x3:=cr9 3 hb0;simp at x0 x1 x2 x3;have s1:w.heap.size<W1.heap.size:=oM;clear hW1 hz hb0 hb1 hD hZ hKK hPt hJ hDD;go_enter func35,ntmps35;go_upto_region 1 with(fail);rw [<- HW.out];go_wp2_with (fail);refine(HPt.out W1 _ (h.at_ hB0)).mono ?_;rintro e W2 ⟨⟨a1,B1,m1,d1,a2,B2,m2,d2,rfl,hp1,hp2⟩,hB2⟩;have hq1:=Hz.out;have hsz2:=hB2.size;have hBw2:=hB0.trans (hB2.mono hB0.size);have hc1:=gbox Hb1.out hB2 oM;obtain⟨hBa,hra1,hra2,hza⟩:=rows2 W2 #[a1,.slice B1 m1 d1] #[a2,.slice B2 m2 d2] 41;have hBwa:=hBw2.trans (hBa.mono hBw2.size);have hda:=gbox hc1 hBa oM;obtain⟨Wa,hWa⟩:∃ Wa,Wa=((W2.alloc (.cells #[a1,.slice B1 m1 d1] 41)).alloc (.cells #[a2,.slice B2 m2 d2] 41)):=⟨_,rfl⟩;rw [<- hWa] at hBa hra1 hra2 hza hBwa hda;have HWa:=Z1 hWa;have y0:=cr9 0 hra2;have y1:=cr9 1 hra2;simp at y0 y1;have s4:W2.heap.size+1<Wa.heap.size:=oM;obtain⟨Hra1,Hra2,Hza,Hda⟩:=Z4 hra1 hra2 hza hda;clear x0 x1 x2 x3 hra1 hra2 hza hWa hc1 hda;go_upto_region 2 with(fail);rw [<- HWa.out];obtain⟨hBc,hrc,hzc⟩:=row1 Wa #[a2,.slice B2 m2 d2] 41;have hza:=Hza.out;have hBwc:=hBwa.trans (hBc.mono hBwa.size);rw [hza] at hrc;have hc3:=gbox Hra1.out hBc oM;have hc4:=gbox Hra2.out hBc oM;have hcd:=gbox Hda.out hBc oM;obtain⟨Wc,hWc⟩:∃ Wc,Wc=(Wa.alloc (.cells #[a2,.slice B2 m2 d2] 41)):=⟨_,rfl⟩;rw [<- hWc] at hBc hrc hzc hBwc hc3 hc4 hcd;have HWc:=Z1 hWc;have hp1c:=(hp1.at_ hBa).at_ hBc;have hp2c:=(hp2.at_ hBa).at_ hBc;go_upto_region 3 with(fail);rw [<- HWc.out];have z0:=cr9 0 hc3;have z1:=cr9 1 hc3;simp at z0 z1;have s5:W2.heap.size<Wc.heap.size:=oM;clear y0 y1 hWc;go_wp2_with (fail);refine(a0Y Wc k _ N hp1c).mono ?_;rintro e W3 ⟨rfl,hB3⟩;have hsz3:=hB3.size;have hBw3:=hBwc.trans (hB3.mono hBwc.size);have h33:=gbox hc3 hB3 oM;have h34:=gbox hc4 hB3 oM;have h35:=gbox hrc hB3 oM;have h3d:=gbox hcd hB3 oM;have hp1d:=hp1c.at_ hB3;have hp2d:=hp2c.at_ hB3;clear z0 z1;refine(Classical.em (N<0)).elim (fun hn=>?_) (fun hn=>?_)
 focus
  have hsg:=b3u N hn;obtain⟨Ez,hEz⟩:∃ Ez,Ez=-D:=⟨_,rfl⟩;have HE0:Hid (Ez=Z):=by show _=_;rw [HZ.out,if_pos hn];exact hEz
  clear hn;have y0:=cr9 0 h34;have y1:=cr9 1 h34;simp at y0 y1;have s6:W2.heap.size+1<W3.heap.size:=oM;go_wp2_with (fail);refine(b2o W3 W3 J lR _ D oM hp2d).mono ?_;rintro e W4 ⟨⟨r4,rfl,hr4⟩,hB4⟩;obtain⟨a3,B3,m3,d3,rfl⟩:=hr4.open;have hsz4:=hB4.size;have H35:=Z1 (gbox h35 hB4 oM);have Hone:Hid ((#[a3,.slice B3 m3 d3]:Array Value).all (·.oneCell')=true):=by show _=true;simp [Value.oneCell']
  obtain⟨Wf,hWf⟩:∃ Wf,Wf=W4.setRow (W2.heap.size+2) #[a3,.slice B3 m3 d3]:=⟨_,rfl⟩;have hf5:=setRow_heap W4 (W2.heap.size+2) _ #[a3,.slice B3 m3 d3] _ _ H35.out;have hf3:=(setRow_other W4 (W2.heap.size+2) W2 #[a3,.slice B3 m3 d3] oM).trans (gbox h33 hB4 oM);have hf4:=(setRow_other W4 (W2.heap.size+2) (W2.heap.size+1) #[a3,.slice B3 m3 d3] oM).trans (gbox h34 hB4 oM);have hfd:=(setRow_other W4 (W2.heap.size+2) (w.heap.size+1) #[a3,.slice B3 m3 d3] oM).trans (gbox h3d hB4 oM);have hBwf:=below_setRow (hBw3.trans (hB4.mono hBw3.size)) (show w.heap.size<=(W2.heap.size+2) by omega) #[a3,.slice B3 m3 d3];have hpN:=((hp1d.at_ hB4).other (w':=W4.setRow (W2.heap.size+2) #[a3,.slice B3 m3 d3]) H35.out (a4Y a2 B2 m2 d2) (fun c hc=>setRow_other _ _ _ _ hc)).more (C:=(W4.setRow (W2.heap.size+2) #[a3,.slice B3 m3 d3]).heap.size) (j:=k) sP lR;have hpD:=((hp2d.at_ hB4).other (w':=W4.setRow (W2.heap.size+2) #[a3,.slice B3 m3 d3]) H35.out (a4Y a2 B2 m2 d2) (fun c hc=>setRow_other _ _ _ _ hc)).more (C:=(W4.setRow (W2.heap.size+2) #[a3,.slice B3 m3 d3]).heap.size) (j:=J) sP lR;have hpE:=(hr4.other (w':=W4.setRow (W2.heap.size+2) #[a3,.slice B3 m3 d3]) H35.out (a4Y a2 B2 m2 d2) (fun c hc=>setRow_other _ _ _ _ hc)).more (C:=(W4.setRow (W2.heap.size+2) #[a3,.slice B3 m3 d3]).heap.size) (j:=J) sO lR;have hzf:Wf.heap.size=W4.heap.size:=by rw [hWf];simp
  rw [<- hWf] at hf5 hf3 hf4 hfd hBwf hpN hpD hpE;rw [<- hEz] at hpE;have HWf:=Z1 hWf;clear y0 y1 hWf;go_wp2_with (refine Vx rfl 41 (.tmp 5) (.tmp 20) none rfl rfl (W2.heap.size+2) 41 _ #[a3,.slice B3 m3 d3] rfl rfl H35.out rfl VQ Hone.out ?_);rw [<- HWf.out];clear hr4 hBw3 hsz3 hsz4 h33 h34 h35 h3d hp1d hp2d hsg hB3 hB4 H35 Hone s6 hEz hzf HWf
 rotate_left
 focus
  have hsg:=b3t N hn;obtain⟨Ez,hEz⟩:∃ Ez,Ez=D:=⟨_,rfl⟩;have HE0:Hid (Ez=Z):=by show _=_;rw [HZ.out,if_neg hn];exact hEz
  clear hn;obtain⟨a3,B3,m3,d3,h3⟩:∃ a3 B3 m3 d3,(#[.bool a3,.slice B3 m3 d3]:Array Value)=#[.bool a2,.slice B2 m2 d2]:=⟨_,_,_,_,rfl⟩;obtain⟨Wf,hWf⟩:∃ Wf,Wf=W3:=⟨_,rfl⟩;subst hWf;have hf5:=h35;have hf3:=h33;have hf4:=h34;have hfd:=h3d;have hBwf:=hBw3;have hpN:=hp1d;have hpD:=hp2d;have hpE:=hp2d;rw [<- h3] at hf5 hpE;rw [<- hEz] at hpE;have H3:=Z1 h3;clear h3 hEz;go_wp2_with (fail);clear hBw3 hsz3 h33 h34 h35 h3d hp1d hp2d hsg hB3 H3
 all_goals (
  refine(a1M Wf 2 oM oM).mono ?_;rintro e W5 ⟨⟨r5,rfl,hr5⟩,hB5⟩;obtain⟨a4,B4,m4,d4,rfl⟩:=hr5.open;have hsz5:=hB5.size;have hBw5:=hBwf.trans (hB5.mono hBwf.size);have h53:=gbox hf3 hB5 (Vq hf3);have h54:=gbox hf4 hB5 (Vq hf4);have h55:=gbox hf5 hB5 (Vq hf5);have h5d:=gbox hfd hB5 (Vq hfd);obtain⟨hBg,hrg,hzg⟩:=row1 W5 #[a4,.slice B4 m4 d4] 41;have hg3:=gbox h53 hBg (Vq h53);have hg4:=gbox h54 hBg (Vq h54);have hg5:=gbox h55 hBg (Vq h55);have hgd:=gbox h5d hBg (Vq h5d);have hBwg:=hBw5.trans (hBg.mono hBw5.size);obtain⟨Wg,hWg⟩:∃ Wg,Wg=(W5.alloc (.cells #[a4,.slice B4 m4 d4] 41)):=⟨_,rfl⟩;rw [<- hWg] at hBg hrg hzg hg3 hg4 hg5 hgd hBwg;have HWg:=Z1 hWg;have hN:=((hpN.at_ hB5).at_ hBg).drw;have hD:=((hpD.at_ hB5).at_ hBg).drw;have hE:=((hpE.at_ hB5).at_ hBg).drw;have h2:=((hr5.tight (j:=1) dC dC).at_ hBg).drw;have hS0:Reg w [(w.heap.size+1,#[false,.slice none 0 0],41),(W2,#[a1,.slice B1 m1 d1],41),(W2.heap.size+1,#[a2,.slice B2 m2 d2],41),(W2.heap.size+2,#[a3,.slice B3 m3 d3],41),(W5,#[a4,.slice B4 m4 d4],41)] Wg:=⟨hBwg,by simp [hgd,hg3,hg4,hg5,hrg]⟩;have hS:=hS0.drew;clear hWg h53 h54 h55 h5d hf3 hf4 hf5 hfd hg3 hg4 hg5 hgd;go_upto_region 6 with(fail);rw [<- HWg.out];refine wp_region_held (S:=Reg w [(w.heap.size+1,#[false,.slice none 0 0],41),(W2,#[a1,.slice B1 m1 d1],41),(W2.heap.size+1,#[a2,.slice B2 m2 d2],41),(W2.heap.size+2,#[a3,.slice B3 m3 d3],41),(W5,#[a4,.slice B4 m4 d4],41)]) kR ?_;change wpAnyH _ _ _ _ _ _ _ _ (World.drew Wg);obtain⟨W_0,hWd⟩:∃ W_0,W_0=Wg.drew:=⟨_,rfl⟩;rw [<- hWd] at hS hN hD hE h2 ⊢;have hl1:=hS.lt (.head _);have hl2:=hS.lt (.tail _ (.head _));have hl3:=hS.lt (.tail _ (.tail _ (.head _)));have hl4:=hS.lt (.tail _ (.tail _ (.tail _ (.head _))));have hl5:=hS.lt (.tail _ (.tail _ (.tail _ (.tail _ (.head _)))));clear hWd hzg hzc hza hBg hBwg hBw5 hBwf hB5 hBc hBwc hBa hBwa hBw2 hB2 hB0 hpN hpD hpE hp1 hp2 hp1c hp2c hrc hc3 hc4 hcd hrg hr5 hS0 hsz5;refine jT 0 hS ?_ (v:=.agg #[a4,.slice B4 m4 d4]) (hy:=(yieldsIf_load_mid (by rfl) 41 _ rfl W5.heap.size 0 rfl [a4,.slice B4 m4 d4] _ (fun W' hS'=>range2 (hS'.get (.tail _ (.tail _ (.tail _ (.tail _ (.head _))))))) underlying41 rfl VQ));refine jT 1 hS ?_ (v:=.agg #[a1,.slice B1 m1 d1]) (hy:=(yieldsIf_load_mid (by rfl) 41 _ rfl W2.heap.size 0 rfl [a1,.slice B1 m1 d1] _ (fun W' hS'=>range2 (hS'.get (.tail _ (.head _)))) underlying41 rfl VQ));refine jT 3 hS ?_ (v:=.agg #[a3,.slice B3 m3 d3]) (hy:=(yieldsIf_load_mid (by rfl) 41 _ rfl (W2.heap.size+2) 0 rfl [a3,.slice B3 m3 d3] _ (fun W' hS'=>range2 (hS'.get (.tail _ (.tail _ (.tail _ (.head _)))))) underlying41 rfl VQ));refine jT 5 hS ?_ (v:=.agg #[a4,.slice B4 m4 d4]) (hy:=(yieldsIf_load_mid (by rfl) 41 _ rfl W5.heap.size 0 rfl [a4,.slice B4 m4 d4] _ (fun W' hS'=>range2 (hS'.get (.tail _ (.tail _ (.tail _ (.tail _ (.head _))))))) underlying41 rfl VQ));refine jT 6 hS ?_ (v:=.agg #[a2,.slice B2 m2 d2]) (hy:=(yieldsIf_load_mid (by rfl) 41 _ rfl (W2.heap.size+1) 0 rfl [a2,.slice B2 m2 d2] _ (fun W' hS'=>range2 (hS'.get (.tail _ (.tail _ (.head _))))) underlying41 rfl VQ));refine a0E fun md' ops' Q' a' hlm hlo hlq hla=>?_;obtain⟨RG,hRG⟩:∃ R,R=Reg w [(w.heap.size+1,#[false,.slice none 0 0],41),(W2,#[a1,.slice B1 m1 d1],41),(W2.heap.size+1,#[a2,.slice B2 m2 d2],41),(W2.heap.size+2,#[a3,.slice B3 m3 d3],41),(W5,#[a4,.slice B4 m4 d4],41)]:=⟨_,rfl⟩;rw [<- hRG] at hS ⊢
  have n4:∀(m:Nat) (W:World) (f0:Bool) (F0:Option Addr) (o0 e0:Nat) (f1:Bool) (F1:Option Addr) (o1 e1:Nat) (f2:Bool) (F2:Option Addr) (o2 e2:Nat) (f3:Bool) (F3:Option Addr) (o3 e3:Nat) (rg:Bool) (rA:Option Addr) (rn rc:Nat) (b7:Bool) (v7:Value) (p7:Nat) (b8:Bool) (v8:Value) (p8:Nat),3+cond b7 0 1+cond b8 0 1<=m->RG W->W_0.heap.size<=W.heap.size->PI W W (max (1+k) J+1) (.agg #[f3,.slice F3 o3 e3]) (Int.tdiv (2*N+Ez) (2*D))->Mk W_0 W b7 v7 p7 #[false,.slice none 0 0] 41->Mk W_0 W b8 v8 p8 #[false,.slice none 0 0] 41->(b7=true->b8=true->p7≠p8)->wpAnyH prog md' ops' Q' RG m #[true,true,true,true,true,true,true,true,true,true,true,true,true,b7,b8,false,false,false] ((((((((((a'.put (some 25) (.agg #[f0,.slice F0 o0 e0])).put (some 27) (.agg #[f1,.slice F1 o1 e1])).put (some 30) (.agg #[f2,.slice F2 o2 e2])).put (some 31) (.tuple #[.agg #[f3,.slice F3 o3 e3],.agg #[rg,.slice rA rn rc],()])).put (some 22) (.tuple #[.agg #[f3,.slice F3 o3 e3],.agg #[rg,.slice rA rn rc],()])).put (some 32) (.agg #[f3,.slice F3 o3 e3])).put (some 33) (.agg #[rg,.slice rA rn rc])).put (some 34) (.int .i64 0)).put (some 7) v7).put (some 8) v8) W:=by
   intro m
   induction m with
   | zero=>intros;omega
   | succ m ih =>
   intro W f0 F0 o0 e0 f1 F1 o1 e1 f2 F2 o2 e2 f3 F3 o3 e3 rg rA rn rc b7 v7 p7 b8 v8 p8 hm hS hz hr3 H7 H8 G78;subst hlm hlo hlq hla hRG
   try simp only [z]
   by_cases hb:b7=true/\b8=true
   rotate_left
   ·refine wpAnyH_ready (rs:=(cond b7 [] [13]++(cond b8 [] [14]++[]))) (by revert hb;cases b7 <;> cases b8 <;> intro hb <;> first | exact absurd dC hb | kernel_rfl) (by revert hb;cases b7 <;> cases b8 <;> decide) (ropt (fun h7=>.cons rfl (fun K hK=>?_) .nil) (ropt (fun h8=>.cons rfl (fun K hK=>?_) .nil) .nil))
    ·subst h7
     obtain⟨W',hWn,hB,hrow,_⟩:=nw1 W #[false,.slice none 0 0] 41;go_simp;rw [<- hWn];clear hWn;have hS':=hS.step hB;refine jK hK hS' ?_;clear hK K;have hn:=ih W' f0 F0 o0 e0 f1 F1 o1 e1 f2 F2 o2 e2 f3 F3 o3 e3 rg rA rn rc true (.pointer (some ⟨W,0,none⟩)) W b8 v8 p8 (by simp only [cond_true,cond_false] at hm ⊢;omega) hS' (Nat.le_trans hz hB.size) (hr3.at_ hB) (fun _=>⟨rfl,hz,hrow⟩) (H8.step hB) (fun _ h=>by have:=Vq (H8 h).2.2;omega)
     try simp only [z] at hn
     exact hn
    ·subst h8
     obtain⟨W',hWn,hB,hrow,_⟩:=nw1 W #[false,.slice none 0 0] 41;go_simp;rw [<- hWn];clear hWn;have hS':=hS.step hB;refine jK hK hS' ?_;clear hK K;have hn:=ih W' f0 F0 o0 e0 f1 F1 o1 e1 f2 F2 o2 e2 f3 F3 o3 e3 rg rA rn rc b7 v7 p7 true (.pointer (some ⟨W,0,none⟩)) W (by simp only [cond_true,cond_false] at hm ⊢;omega) hS' (Nat.le_trans hz hB.size) (hr3.at_ hB) (H7.step hB) (fun _=>⟨rfl,hz,hrow⟩) (fun h _=>by have:=Vq (H7 h).2.2;omega)
     try simp only [z] at hn
     exact hn
   obtain⟨rfl,rfl⟩:=hb;obtain⟨rfl,g7,h7⟩:=H7 rfl;obtain⟨rfl,g8,h8⟩:=H8 rfl;have g78:=G78 rfl rfl;obtain⟨m,rfl⟩:∃ k,m=k+2:=⟨m-2,by simp only [cond_true] at hm;omega⟩;clear ih hm;refine rZ 15 fun K hK=>?_;rw [if_pos (by rfl)];refine VX 41 _ _ none rfl rfl p7 41 _ #[f3,.slice F3 o3 e3] rfl rfl h7 rfl VQ oC ?_;have hSa:=hS.store p7 (by have:=hS.1.size;omega) sO #[f3,.slice F3 o3 e3];have ha7:=setRow_heap W p7 _ #[f3,.slice F3 o3 e3] _ _ h7;have ha8:=(setRow_other W p7 p8 #[f3,.slice F3 o3 e3] oM).trans h8;have hqa:=hr3.other (w':=(W.setRow p7 #[f3,.slice F3 o3 e3])) h7 a4M (fun c hc=>setRow_other _ _ _ _ hc);refine jK hK hSa ?_;clear hK K;refine rZ 16 fun K hK=>?_;rw [if_pos (by rfl)];refine VX 41 _ _ none rfl rfl p8 41 _ #[rg,.slice rA rn rc] rfl rfl ha8 rfl VQ oC ?_;have hSb:=hSa.store p8 (by have:=hS.1.size;omega) sO #[rg,.slice rA rn rc];have hb7:=(setRow_other (W.setRow p7 #[f3,.slice F3 o3 e3]) p8 p7 #[rg,.slice rA rn rc] oM).trans ha7;have hbd:=hSb.get (.head _);have hqb:=hqa.other (w':=((W.setRow p7 #[f3,.slice F3 o3 e3]).setRow p8 #[rg,.slice rA rn rc])) ha8 a4M (fun c hc=>setRow_other _ _ _ _ hc);refine jK hK hSb ?_;clear hK K;refine rZ 17 fun K hK=>?_;go_simp;refine jK hK hSb ?_;clear hK K;refine wpAnyH_done kR ?_ _;have hc0:=cr9 0 hb7;have hc1:=cr9 1 hb7;simp at hc0 hc1;have hRF:=setRow_heap ((W.setRow p7 #[f3,.slice F3 o3 e3]).setRow p8 #[rg,.slice rA rn rc]) (w.heap.size+1) _ #[f3,.slice F3 o3 e3] _ _ hbd;have Hload:=Z1 (run_loadVar_row (P:=prog) _ _ _ 41 _ _ _ hRF underlying41 rfl VQ);have Hp:=Z1 ((hqb.other (w':=(((W.setRow p7 #[f3,.slice F3 o3 e3]).setRow p8 #[rg,.slice rA rn rc]).setRow (w.heap.size+1) #[f3,.slice F3 o3 e3])) hbd a4M (fun c hc=>setRow_other _ _ _ _ hc)).more (C:=(((W.setRow p7 #[f3,.slice F3 o3 e3]).setRow p8 #[rg,.slice rA rn rc]).setRow (w.heap.size+1) #[f3,.slice F3 o3 e3]).heap.size) sP lR);have HBF:=Z1 (below_setRow hSb.1 (show w.heap.size<=w.heap.size+1 by omega) #[f3,.slice F3 o3 e3]);have Hbd:=Z1 hbd;have Hone2:Hid ((#[f3,.slice F3 o3 e3]:Array Value).all (·.oneCell')=true):=by show _=true;simp [Value.oneCell']
   clear hRF;go_wp2_with (refine Vx rfl 41 (.tmp 2) (.tmp 35) none rfl rfl (w.heap.size+1) 41 _ #[f3,.slice F3 o3 e3] rfl rfl Hbd.out rfl VQ Hone2.out ?_);rw [HE0.out,<- HKK.out] at Hp;exact bodyPost_ret (v:=.agg #[f3,.slice F3 o3 e3]) (by simp [results,results35,asAddr,Act.put,Hload.out]) rfl ⟨⟨_,rfl,Hp.out⟩,HBF.out⟩
  have n3:∀(m:Nat) (W:World) (f0:Bool) (F0:Option Addr) (o0 e0:Nat) (f1:Bool) (F1:Option Addr) (o1 e1:Nat) (f2:Bool) (F2:Option Addr) (o2 e2:Nat) (b7:Bool) (v7:Value) (p7:Nat) (b8:Bool) (v8:Value) (p8:Nat),8+cond b7 0 1+cond b8 0 1<=m->RG W->W_0.heap.size<=W.heap.size->PI W W (max (1+k) J+1) (.agg #[f1,.slice F1 o1 e1]) (2*N+Ez)->PI W W (1+J) (.agg #[f2,.slice F2 o2 e2]) (2*D)->Mk W_0 W b7 v7 p7 #[false,.slice none 0 0] 41->Mk W_0 W b8 v8 p8 #[false,.slice none 0 0] 41->(b7=true->b8=true->p7≠p8)->wpAnyH prog md' ops' Q' RG m #[true,true,true,true,true,true,true,true,false,false,false,false,false,b7,b8,false,false,false] (((((a'.put (some 25) (.agg #[f0,.slice F0 o0 e0])).put (some 27) (.agg #[f1,.slice F1 o1 e1])).put (some 30) (.agg #[f2,.slice F2 o2 e2])).put (some 7) v7).put (some 8) v8) W:=by
   intro m
   induction m with
   | zero=>intros;omega
   | succ m ih =>
   intro W f0 F0 o0 e0 f1 F1 o1 e1 f2 F2 o2 e2 b7 v7 p7 b8 v8 p8 hm hS hz hr1 hr2 H7 H8 G78;subst hlm hlo hlq hla hRG
   try simp only [z]
   refine wpAnyH_ready (rs:=8::(cond b7 [] [13]++(cond b8 [] [14]++[]))) (by cases b7 <;> cases b8 <;> kernel_rfl) sP (.cons rfl (fun K hK=>?_) (ropt (fun h7=>.cons rfl (fun K hK=>?_) .nil) (ropt (fun h8=>.cons rfl (fun K hK=>?_) .nil) .nil)))
   ·clear ih
    go_simp;refine(a1m W (max (1+k) J+1) (1+J) _ _ (2*N+Ez) (2*D) oM oM HD2.out hr1 hr2).mono ?_;rintro e W' ⟨⟨v,rg,rA,rn,rc,rfl,hr⟩,hB⟩;obtain⟨f3,F3,o3,e3,rfl⟩:=hr.open;have hS':=hS.step hB;refine jK hK hS' ?_;clear hK K;obtain⟨m,rfl⟩:∃ k,m=k+4:=⟨m-4,oM⟩;refine wpAnyH_take (i:=9) (v:=.tuple #[.agg #[f3,.slice F3 o3 e3],.agg #[rg,.slice rA rn rc],()]) rfl kR (by cases b7 <;> cases b8 <;> kernel_rfl) (by cases b7 <;> cases b8 <;> kernel_rfl) (fun _ _ _ h=>h) (.inl ⟨by rfl,fun W' hS'=>by go_simp⟩) hS' ?_
    try simp only [z]
    refine wpAnyH_take (i:=10) (v:=.agg #[f3,.slice F3 o3 e3]) rfl kR (by cases b7 <;> cases b8 <;> kernel_rfl) (by cases b7 <;> cases b8 <;> kernel_rfl) (fun _ _ _ h=>h) (.inl ⟨by rfl,fun W' hS'=>by go_simp⟩) hS' ?_
    try simp only [z]
    refine wpAnyH_take (i:=11) (v:=.agg #[rg,.slice rA rn rc]) rfl kR (by cases b7 <;> cases b8 <;> kernel_rfl) (by cases b7 <;> cases b8 <;> kernel_rfl) (fun _ _ _ h=>h) (.inl ⟨by rfl,fun W' hS'=>by go_simp⟩) hS' ?_
    try simp only [z]
    refine wpAnyH_take (i:=12) (v:=.int .i64 0) rfl kR (by cases b7 <;> cases b8 <;> kernel_rfl) (by cases b7 <;> cases b8 <;> kernel_rfl) (fun _ _ _ h=>h) (.inl ⟨by rfl,fun W' hS'=>by go_simp⟩) hS' ?_
    try simp only [z]
    have hn:=n4 m W' f0 F0 o0 e0 f1 F1 o1 e1 f2 F2 o2 e2 f3 F3 o3 e3 rg rA rn rc b7 v7 p7 b8 v8 p8 oM hS' (Nat.le_trans hz hB.size) (hr) (H7.step hB) (H8.step hB) G78
    try simp only [z] at hn
    exact hn
   ·subst h7
    obtain⟨W',hWn,hB,hrow,_⟩:=nw1 W #[false,.slice none 0 0] 41;go_simp;rw [<- hWn];clear hWn;have hS':=hS.step hB;refine jK hK hS' ?_;clear hK K;have hn:=ih W' f0 F0 o0 e0 f1 F1 o1 e1 f2 F2 o2 e2 true (.pointer (some ⟨W,0,none⟩)) W b8 v8 p8 (by simp only [cond_true,cond_false] at hm ⊢;omega) hS' (Nat.le_trans hz hB.size) (hr1.at_ hB) (hr2.at_ hB) (fun _=>⟨rfl,hz,hrow⟩) (H8.step hB) (fun _ h=>by have:=Vq (H8 h).2.2;omega)
    try simp only [z] at hn
    exact hn
   ·subst h8
    obtain⟨W',hWn,hB,hrow,_⟩:=nw1 W #[false,.slice none 0 0] 41;go_simp;rw [<- hWn];clear hWn;have hS':=hS.step hB;refine jK hK hS' ?_;clear hK K;have hn:=ih W' f0 F0 o0 e0 f1 F1 o1 e1 f2 F2 o2 e2 b7 v7 p7 true (.pointer (some ⟨W,0,none⟩)) W (by simp only [cond_true,cond_false] at hm ⊢;omega) hS' (Nat.le_trans hz hB.size) (hr1.at_ hB) (hr2.at_ hB) (H7.step hB) (fun _=>⟨rfl,hz,hrow⟩) (fun h _=>by have:=Vq (H7 h).2.2;omega)
    try simp only [z] at hn
    exact hn
  have n2:∀(m:Nat) (W:World) (f0:Bool) (F0:Option Addr) (o0 e0:Nat) (f1:Bool) (F1:Option Addr) (o1 e1:Nat) (b7:Bool) (v7:Value) (p7:Nat) (b8:Bool) (v8:Value) (p8:Nat),9+cond b7 0 1+cond b8 0 1<=m->RG W->W_0.heap.size<=W.heap.size->PI W W J (.agg #[a2,.slice B2 m2 d2]) D->PI W W.heap.size 1 (.agg #[a4,.slice B4 m4 d4]) 2->PI W W (max (1+k) J+1) (.agg #[f1,.slice F1 o1 e1]) (2*N+Ez)->Mk W_0 W b7 v7 p7 #[false,.slice none 0 0] 41->Mk W_0 W b8 v8 p8 #[false,.slice none 0 0] 41->(b7=true->b8=true->p7≠p8)->wpAnyH prog md' ops' Q' RG m #[true,true,true,true,true,true,true,false,false,false,false,false,false,b7,b8,false,false,false] ((((a'.put (some 25) (.agg #[f0,.slice F0 o0 e0])).put (some 27) (.agg #[f1,.slice F1 o1 e1])).put (some 7) v7).put (some 8) v8) W:=by
   intro m
   induction m with
   | zero=>intros;omega
   | succ m ih =>
   intro W f0 F0 o0 e0 f1 F1 o1 e1 b7 v7 p7 b8 v8 p8 hm hS hz hD h2 hr1 H7 H8 G78;subst hlm hlo hlq hla hRG
   try simp only [z]
   refine wpAnyH_ready (rs:=7::(cond b7 [] [13]++(cond b8 [] [14]++[]))) (by cases b7 <;> cases b8 <;> kernel_rfl) sP (.cons rfl (fun K hK=>?_) (ropt (fun h7=>.cons rfl (fun K hK=>?_) .nil) (ropt (fun h8=>.cons rfl (fun K hK=>?_) .nil) .nil)))
   ·clear ih
    go_simp;refine(a1z W 1 J _ _ 2 D oM oM h2 hD).mono ?_;rintro e W' ⟨⟨v,rfl,hr⟩,hB⟩;obtain⟨f2,F2,o2,e2,rfl⟩:=hr.open;have hS':=hS.step hB;refine jK hK hS' ?_;clear hK K;have hn:=n3 m W' f0 F0 o0 e0 f1 F1 o1 e1 f2 F2 o2 e2 b7 v7 p7 b8 v8 p8 oM hS' (Nat.le_trans hz hB.size) (hr1.at_ hB) (hr) (H7.step hB) (H8.step hB) G78
    try simp only [z] at hn
    exact hn
   ·subst h7
    obtain⟨W',hWn,hB,hrow,_⟩:=nw1 W #[false,.slice none 0 0] 41;go_simp;rw [<- hWn];clear hWn;have hS':=hS.step hB;refine jK hK hS' ?_;clear hK K;have hn:=ih W' f0 F0 o0 e0 f1 F1 o1 e1 true (.pointer (some ⟨W,0,none⟩)) W b8 v8 p8 (by simp only [cond_true,cond_false] at hm ⊢;omega) hS' (Nat.le_trans hz hB.size) (hD.at_ hB) (h2.at_ hB) (hr1.at_ hB) (fun _=>⟨rfl,hz,hrow⟩) (H8.step hB) (fun _ h=>by have:=Vq (H8 h).2.2;omega)
    try simp only [z] at hn
    exact hn
   ·subst h8
    obtain⟨W',hWn,hB,hrow,_⟩:=nw1 W #[false,.slice none 0 0] 41;go_simp;rw [<- hWn];clear hWn;have hS':=hS.step hB;refine jK hK hS' ?_;clear hK K;have hn:=ih W' f0 F0 o0 e0 f1 F1 o1 e1 b7 v7 p7 true (.pointer (some ⟨W,0,none⟩)) W (by simp only [cond_true,cond_false] at hm ⊢;omega) hS' (Nat.le_trans hz hB.size) (hD.at_ hB) (h2.at_ hB) (hr1.at_ hB) (H7.step hB) (fun _=>⟨rfl,hz,hrow⟩) (fun h _=>by have:=Vq (H7 h).2.2;omega)
    try simp only [z] at hn
    exact hn
  have n1:∀(m:Nat) (W:World) (f0:Bool) (F0:Option Addr) (o0 e0:Nat) (b7:Bool) (v7:Value) (p7:Nat) (b8:Bool) (v8:Value) (p8:Nat),10+cond b7 0 1+cond b8 0 1<=m->RG W->W_0.heap.size<=W.heap.size->PI W W J (.agg #[a3,.slice B3 m3 d3]) Ez->PI W W J (.agg #[a2,.slice B2 m2 d2]) D->PI W W.heap.size 1 (.agg #[a4,.slice B4 m4 d4]) 2->PI W W (1+k) (.agg #[f0,.slice F0 o0 e0]) (2*N)->Mk W_0 W b7 v7 p7 #[false,.slice none 0 0] 41->Mk W_0 W b8 v8 p8 #[false,.slice none 0 0] 41->(b7=true->b8=true->p7≠p8)->wpAnyH prog md' ops' Q' RG m #[true,true,true,true,false,true,true,false,false,false,false,false,false,b7,b8,false,false,false] (((a'.put (some 25) (.agg #[f0,.slice F0 o0 e0])).put (some 7) v7).put (some 8) v8) W:=by
   intro m
   induction m with
   | zero=>intros;omega
   | succ m ih =>
   intro W f0 F0 o0 e0 b7 v7 p7 b8 v8 p8 hm hS hz hE hD h2 hr0 H7 H8 G78;subst hlm hlo hlq hla hRG
   try simp only [z]
   refine wpAnyH_ready (rs:=4::(cond b7 [] [13]++(cond b8 [] [14]++[]))) (by cases b7 <;> cases b8 <;> kernel_rfl) sP (.cons rfl (fun K hK=>?_) (ropt (fun h7=>.cons rfl (fun K hK=>?_) .nil) (ropt (fun h8=>.cons rfl (fun K hK=>?_) .nil) .nil)))
   ·clear ih
    go_simp;refine(b0n W (1+k) J _ _ (2*N) Ez oM oM hr0 hE).mono ?_;rintro e W' ⟨⟨v,rfl,hr⟩,hB⟩;obtain⟨f1,F1,o1,e1,rfl⟩:=hr.open;have hS':=hS.step hB;refine jK hK hS' ?_;clear hK K;have hn:=n2 m W' f0 F0 o0 e0 f1 F1 o1 e1 b7 v7 p7 b8 v8 p8 oM hS' (Nat.le_trans hz hB.size) (hD.at_ hB) (h2.at_ hB) (hr) (H7.step hB) (H8.step hB) G78
    try simp only [z] at hn
    exact hn
   ·subst h7
    obtain⟨W',hWn,hB,hrow,_⟩:=nw1 W #[false,.slice none 0 0] 41;go_simp;rw [<- hWn];clear hWn;have hS':=hS.step hB;refine jK hK hS' ?_;clear hK K;have hn:=ih W' f0 F0 o0 e0 true (.pointer (some ⟨W,0,none⟩)) W b8 v8 p8 (by simp only [cond_true,cond_false] at hm ⊢;omega) hS' (Nat.le_trans hz hB.size) (hE.at_ hB) (hD.at_ hB) (h2.at_ hB) (hr0.at_ hB) (fun _=>⟨rfl,hz,hrow⟩) (H8.step hB) (fun _ h=>by have:=Vq (H8 h).2.2;omega)
    try simp only [z] at hn
    exact hn
   ·subst h8
    obtain⟨W',hWn,hB,hrow,_⟩:=nw1 W #[false,.slice none 0 0] 41;go_simp;rw [<- hWn];clear hWn;have hS':=hS.step hB;refine jK hK hS' ?_;clear hK K;have hn:=ih W' f0 F0 o0 e0 b7 v7 p7 true (.pointer (some ⟨W,0,none⟩)) W (by simp only [cond_true,cond_false] at hm ⊢;omega) hS' (Nat.le_trans hz hB.size) (hE.at_ hB) (hD.at_ hB) (h2.at_ hB) (hr0.at_ hB) (H7.step hB) (fun _=>⟨rfl,hz,hrow⟩) (fun h _=>by have:=Vq (H7 h).2.2;omega)
    try simp only [z] at hn
    exact hn
  have n0:∀(m:Nat) (W:World) (b7:Bool) (v7:Value) (p7:Nat) (b8:Bool) (v8:Value) (p8:Nat),11+cond b7 0 1+cond b8 0 1<=m->RG W->W_0.heap.size<=W.heap.size->PI W W k (.agg #[a1,.slice B1 m1 d1]) N->PI W W J (.agg #[a3,.slice B3 m3 d3]) Ez->PI W W J (.agg #[a2,.slice B2 m2 d2]) D->PI W W.heap.size 1 (.agg #[a4,.slice B4 m4 d4]) 2->Mk W_0 W b7 v7 p7 #[false,.slice none 0 0] 41->Mk W_0 W b8 v8 p8 #[false,.slice none 0 0] 41->(b7=true->b8=true->p7≠p8)->wpAnyH prog md' ops' Q' RG m #[true,true,false,true,false,true,true,false,false,false,false,false,false,b7,b8,false,false,false] ((a'.put (some 7) v7).put (some 8) v8) W:=by
   intro m
   induction m with
   | zero=>intros;omega
   | succ m ih =>
   intro W b7 v7 p7 b8 v8 p8 hm hS hz hN hE hD h2 H7 H8 G78;subst hlm hlo hlq hla hRG
   try simp only [z]
   refine wpAnyH_ready (rs:=2::(cond b7 [] [13]++(cond b8 [] [14]++[]))) (by cases b7 <;> cases b8 <;> kernel_rfl) sP (.cons rfl (fun K hK=>?_) (ropt (fun h7=>.cons rfl (fun K hK=>?_) .nil) (ropt (fun h8=>.cons rfl (fun K hK=>?_) .nil) .nil)))
   ·clear ih
    go_simp;refine(a1z W 1 k _ _ 2 N oM oM h2 hN).mono ?_;rintro e W' ⟨⟨v,rfl,hr⟩,hB⟩;obtain⟨f0,F0,o0,e0,rfl⟩:=hr.open;have hS':=hS.step hB;refine jK hK hS' ?_;clear hK K;have hn:=n1 m W' f0 F0 o0 e0 b7 v7 p7 b8 v8 p8 oM hS' (Nat.le_trans hz hB.size) (hE.at_ hB) (hD.at_ hB) (h2.at_ hB) (hr) (H7.step hB) (H8.step hB) G78
    try simp only [z] at hn
    exact hn
   ·subst h7
    obtain⟨W',hWn,hB,hrow,_⟩:=nw1 W #[false,.slice none 0 0] 41;go_simp;rw [<- hWn];clear hWn;have hS':=hS.step hB;refine jK hK hS' ?_;clear hK K;have hn:=ih W' true (.pointer (some ⟨W,0,none⟩)) W b8 v8 p8 (by simp only [cond_true,cond_false] at hm ⊢;omega) hS' (Nat.le_trans hz hB.size) (hN.at_ hB) (hE.at_ hB) (hD.at_ hB) (h2.at_ hB) (fun _=>⟨rfl,hz,hrow⟩) (H8.step hB) (fun _ h=>by have:=Vq (H8 h).2.2;omega)
    try simp only [z] at hn
    exact hn
   ·subst h8
    obtain⟨W',hWn,hB,hrow,_⟩:=nw1 W #[false,.slice none 0 0] 41;go_simp;rw [<- hWn];clear hWn;have hS':=hS.step hB;refine jK hK hS' ?_;clear hK K;have hn:=ih W' b7 v7 p7 true (.pointer (some ⟨W,0,none⟩)) W (by simp only [cond_true,cond_false] at hm ⊢;omega) hS' (Nat.le_trans hz hB.size) (hN.at_ hB) (hE.at_ hB) (hD.at_ hB) (h2.at_ hB) (H7.step hB) (fun _=>⟨rfl,hz,hrow⟩) (fun h _=>by have:=Vq (H7 h).2.2;omega)
    try simp only [z] at hn
    exact hn
  have hn:=n0 _ W_0 false undef 0 false undef 0 lR hS lR hN hE hD h2 (fun h=>nomatch h) (fun h=>nomatch h) (fun h=>nomatch h);subst hlm hlo hlq hla hRG;exact hn)
theorem a7N (k j:Nat) (v:Value) (N D:Int) (hk:k+j+100<=10000000000) (h:RI w w k j v N D) :
  Calls prog 35 #[v] w fun e w'=>(∃ r,e=.returned r/\PI w' w' (max (1+k) (max j 3)+1) r (Int.tdiv (2*N+(if N<0 then -(dz D) else dz D)) (2*dz D)))/\Below w w w' :=
 a8S w k j v N D _ _ _ _ rfl rfl rfl rfl hk h
end
open Go.Proofs.Tryz Go.RowKit
namespace Sc
def okN (n:Int):Bool:=decide (-1000000000000<=n/\n<=1000000000000)
def wN (n:Int):Int:=Int.tdiv n (redBy n 1)
def wD (n:Int):Int:=Int.tdiv 1 (redBy n 1)
def pN (n N D:Int):Int:=Int.tdiv (wN n*N) (redBy (wN n*N) (dz (wD n)*dz D))
def pD (n N D:Int):Int:=Int.tdiv (dz (wD n)*dz D) (redBy (wN n*N) (dz (wD n)*dz D))
def num (n N D:Int):Int:=Int.tdiv (2*pN n N D+(if pN n N D<0 then -(dz (pD n N D)) else dz (pD n N D))) (2*dz (pD n N D))
def out (n N D:Int):Option Int:=if okN n=true/\okN (num n N D)=true then some (num n N D) else none
end Sc
def ScPost (o:Option Int) (w:World) (e:Ending) (w':World):Prop :=
 Below w w w'/\((o=none/\∃ m,m≠0/\e=.returned (.tuple #[(),.int .i64 m]))∨∃ x,o=some x/\e=.returned (.tuple #[.int .i64 x,()]))
section
variable (w:World)
theorem a3u (n:Int):Calls prog 32 #[n] w fun e w'=>e=.returned (.bool (Sc.okN n))/\w=w':=by
 by_cases h0:-1000000000000<=n
 ·have k1:decide (n ≥ -1000000000000)=true:=by simpa using h0
  have HV:Hid (Sc.okN n=decide (n<=1000000000000)):=by show _=_;unfold Sc.okN;simp [h0]
  go_enter func32,ntmps32;go_wp2;go_ret;exact⟨by rw [HV.out];rfl,rfl⟩
 ·have k1:decide (n ≥ -1000000000000)=false:=by simpa using h0
  have HV:Hid (Sc.okN n=false):=by show _=_;unfold Sc.okN;simp [h0]
  go_enter func32,ntmps32;go_wp2;go_ret;exact⟨by first | rfl | (rw [HV.out];rfl),rfl⟩
theorem a5A (n:Int) (k j:Nat) (v:Value) (N D:Int) (hk:3*k+3*j+1000<=10000000000) (h:RI w w k j v N D) :
  Calls prog 14 #[n,v] w (ScPost (Sc.out n N D) w):=by
 obtain⟨g1,A1,n1,c1,g2,A2,n2,c2,rfl⟩:=h.open;obtain⟨W1,hW1,hB0,hb0,hz⟩:=nw1 w #[g1,.slice A1 n1 c1,g2,.slice A2 n2 c2] 43;have HW:=Z1 hW1;have h1:=h.at_ hB0;have H1:=Z1 h1;have s1:=Vq hb0;have Hb0:=Z1 hb0;have HA:=Z1 (a3u W1 n);obtain⟨o,ho⟩:∃ o,o=Sc.out n N D:=⟨_,rfl⟩;rw [<- ho];have Ho:=Z1 ho;clear hW1 hz hb0 h1 h ho;go_enter func14,ntmps14;go_upto_region 1 with(fail);rw [<- HW.out];go_wp2_with (fail);refine HA.out.mono ?_;rintro e W2 ⟨rfl,rfl⟩
 cases ha:Sc.okN n with
 | false =>
  have HN:Hid (o=none):=by show _=_;rw [Ho.out];unfold Sc.out;rw [if_neg (by rw [ha];simp)]
  clear ha;go_wp2
  go_ret2
  exact⟨hB0,.inl ⟨HN.out,1,dC,rfl⟩⟩
 | true =>
 have hnb:-1000000000000<=n/\n<=1000000000000:=by unfold Sc.okN at ha;simpa using ha
 have Hn:=Z1 ha;clear ha;go_wp2_with (fail);refine(a1W W1 n 1 oM oM oM oM oM).mono ?_;rintro e W2 ⟨⟨r,rfl,hr⟩,hB2⟩;obtain⟨g3,A3,n3,c3,g4,A4,n4,c4,rfl⟩:=hr.open;obtain⟨W3,hW3,hB3,hb3,hz3⟩:=nw1 W2 #[g3,.slice A3 n3 c3,g4,.slice A4 n4 c4] 43;have HW3:=Z1 hW3;have hB13:=hB2.trans (hB3.mono hB2.size);have H13:=Z1 hB13;have HB3:=Z1 (hB0.trans (hB13.mono hB0.size));have Hb03:=gB Hb0 hB13 s1;have Hb3:=Z1 hb3;have hr3:RI W3 W3.heap.size 3 3 _ (Sc.wN n) (Sc.wD n):=hr.at_ hB3;have Hr3:=Z1 hr3;have H3:=Z1 (H1.out.at_ hB13);have q1:=Vq hb3;have q2:=Vq Hb03.out;clear hW3 hz3 hb3 hr hr3 hB13 hB2 hB3 hnb;go_upto_region 4 with(fail);rw [<- HW3.out];go_wp2_with (first | (refine wpList_load_row rfl 43 (.tmp 6) rfl _ rfl _ _ _ _ Hb3.out underlying43 rfl Vy ?_) | (refine wpList_load_row rfl 43 (.tmp 3) rfl _ rfl _ _ _ _ Hb03.out underlying43 rfl Vy ?_));refine(a7i W3 3 3 k j _ _ (Sc.wN n) (Sc.wD n) N D oM Hr3.out H3.out).mono ?_;rintro e W4 ⟨⟨r4,rfl,hr4⟩,hB4⟩;have hr4:RI W4 W4 (3+k) (max 3 3+max j 3) r4 (Sc.pN n N D) (Sc.pD n N D):=hr4;have Hr4:=Z1 hr4;have HB4:=bT HB3 hB4;clear hr4 hB4;go_wp2_with (fail);refine(a7N W4 (3+k) (max 3 3+max j 3) r4 (Sc.pN n N D) (Sc.pD n N D) oM Hr4.out).mono ?_;rintro e W5 ⟨⟨r5,rfl,hr5⟩,hB5⟩;have hr5:PI W5 W5 _ r5 (Sc.num n N D):=hr5;have Hr5:=Z1 hr5;have HB5:=bT HB4 hB5;clear hr5 hB5;go_wp2_with (fail);refine(a8I W5 _ r5 (Sc.num n N D) oM Hr5.out).mono ?_;rintro e W6 ⟨rfl,hB6⟩;have HB6:=bT HB5 hB6;obtain⟨x,hx⟩:∃ x,x=Sc.num n N D:=⟨_,rfl⟩;rw [<- hx];have Hx:=Z1 hx;have HA2:=Z1 (a3u W6 x);clear hB6 hx
 by_cases hs:-9223372036854775808<=x/\x<=9223372036854775807
 case neg =>
  have HN:Hid (o=none):=by show _=_;rw [Ho.out];unfold Sc.out;rw [if_neg (fun q=>hs (by have:=q.2;rw [<- Hx.out] at this;unfold Sc.okN at this;simp at this;omega))]
  rw [if_neg hs,decide_eq_false hs];clear hs;go_wp2
  go_ret2
  exact⟨HB6.out,.inl ⟨HN.out,2,dC,rfl⟩⟩
 rw [if_pos hs,decide_eq_true hs];clear hs;go_wp2_with (fail);refine HA2.out.mono ?_;rintro e W7 ⟨rfl,rfl⟩
 cases hx2:Sc.okN x with
 | false =>
  have HN:Hid (o=none):=by show _=_;rw [Ho.out];unfold Sc.out;rw [<- Hx.out,if_neg (by rw [hx2];simp)]
  clear hx2;go_wp2
  go_ret2
  exact⟨HB6.out,.inl ⟨HN.out,2,dC,rfl⟩⟩
 | true =>
  have HN:Hid (o=some x):=by show _=_;rw [Ho.out];unfold Sc.out;rw [<- Hx.out,if_pos ⟨Hn.out,hx2⟩]
  clear hx2;go_wp2
  go_ret2
  exact⟨HB6.out,.inr ⟨x,HN.out,rfl⟩⟩
end
open Go.Proofs.Tryz Go.RowKit
structure Rn where
 g1:Bool
 A1:Option Addr
 n1:Nat
 c1:Nat
 g2:Bool
 A2:Option Addr
 n2:Nat
 c2:Nat
instance:Coe Rn (Array Value):=⟨fun x=>#[.bool x.g1,.slice x.A1 x.n1 x.c1,.bool x.g2,.slice x.A2 x.n2 x.c2]⟩
instance:Coe Rn Value:=⟨fun x=>.agg #[.bool x.g1,.slice x.A1 x.n1 x.c1,.bool x.g2,.slice x.A2 x.n2 x.c2]⟩
instance:Coe Rn (List Value):=⟨fun x=>[.bool x.g1,.slice x.A1 x.n1 x.c1,.bool x.g2,.slice x.A2 x.n2 x.c2]⟩
def Rn.cells (x:Rn):List Value:=x
def Rn.v (x:Rn):Value:=x
def Rn.zero:Rn:=⟨false,none,0,0,false,none,0,0⟩
def Rn.At (w:World) (B K:Nat) (x:Rn):Prop:=∃ N D,RI w B K K x.v N D
theorem Rn.zero_at (w:World) (B K:Nat):Rn.zero.At w B K :=
 ⟨0,0,false,none,0,0,false,none,0,0,rfl,(a4V w B).more lR (Nat.zero_le _),(a4V w B).more lR (Nat.zero_le _)⟩
theorem Rn.of_ri {w:World} {B k j K:Nat} {v:Value} {N D:Int} (h:RI w B k j v N D) (hk:k<=K) (hj:j<=K):∃ x:Rn,v=x.v/\x.At w B K:=by
 obtain⟨g1,A1,n1,c1,g2,A2,n2,c2,rfl⟩:=h.open;exact⟨⟨g1,A1,n1,c1,g2,A2,n2,c2⟩,rfl,N,D,h.more lR hk hj⟩
theorem Rn.At.below {w w':World} {B C K:Nat} {x:Rn} (h:x.At w B K) (hb:Below C w w') (hC:B<=C):x.At w' B K:=by
 obtain⟨N,D,g1,A1,n1,c1,g2,A2,n2,c2,e,h1,h2⟩:=h;exact⟨N,D,g1,A1,n1,c1,g2,A2,n2,c2,e,h1.below hb hC,h2.below hb hC⟩
theorem Rn.At.more {w:World} {B C K L:Nat} {x:Rn} (h:x.At w B K) (hC:B<=C) (hK:K<=L):x.At w C L:=by
 obtain⟨N,D,h⟩:=h;exact⟨N,D,h.more hC hK hK⟩
structure RRow where
 A:Option Addr
 n:Nat
 c:Nat
 l:List Rn
def RRow.cells (r:RRow):List Value:=[.slice r.A r.n r.c]
structure RRow.At (w:World) (B K:Nat) (r:RRow):Prop where
 hl:r.l.length=r.n
 hA:RowsAt Rn.cells 4 w B r.A r.l
 hx:∀ x∈r.l,x.At w B K
theorem RRow.At.below {w w':World} {B C K:Nat} {r:RRow} (h:r.At w B K) (hb:Below C w w') (hC:B<=C):r.At w' B K:=⟨h.hl,RowsAt.below h.hA hb hC,fun x hx=>(h.hx x hx).below hb hC⟩
theorem RRow.At.more {w:World} {B C K L:Nat} {r:RRow} (h:r.At w B K) (hC:B<=C) (hK:K<=L):r.At w C L:=⟨h.hl,RowsAt.more h.hA hC,fun x hx=>(h.hx x hx).more hC hK⟩
abbrev MatR (w:World) (B:Nat) (A:Option Addr) (m:List RRow):Prop:=RowsAt RRow.cells 1 w B A m
namespace Lm
def cols:List RRow->Nat
 | []=>0
 | r::_=>r.n
def valid (m:List RRow):Bool:=m.all (fun r=>decide (r.n=cols m))&&decide (m.length<=24)&&decide (cols m<=24)
def square (m:List RRow):Bool:=valid m&&decide (m.length=cols m)
end Lm
section
variable (w:World)
theorem a7s (A:Option Addr) (n c:Nat) (m:List RRow) (hl:m.length=n) (hA:MatR w w A m) :
  Calls prog 296 #[.slice A n c] w fun e w'=>e=.returned (.int .i64 (Lm.cols m:Nat))/\w=w':=by
 cases m with
 | nil =>
  obtain rfl:n=0:=by simpa using hl.symm
  go_enter func296,ntmps296;go_wp2;go_ret;exact⟨rfl,rfl⟩
 | cons r t =>
  obtain⟨b,o,rfl,hb,hr⟩:=RowsAt.look hA (show 0<(r::t).length by simp);have c0:=hr 0 _ rfl;simp at c0;have hn0:((n:Int)==0)=false:=by rw [<- hl];simp <;> omega
  have hn1:(0:Int)<(n:Int):=by rw [<- hl];simp
  have HV:Hid (Lm.cols (r::t)=r.n):=Z1 rfl;clear hl hA hr;go_enter func296,ntmps296;go_wp2;go_ret;exact⟨rfl,rfl⟩
theorem a8d (A:Option Addr) (n c:Nat) (m:List RRow) (hl:m.length=n) (hn:n<=1000) (hA:MatR w w A m) :
  Calls prog 295 #[.slice A n c] w fun e w'=>e=.returned (.bool (Lm.valid m))/\w=w':=by
 have HC:=Z1 (a7s w A n c m hl hA);obtain⟨k0,hk0⟩:∃ k0,k0=Lm.cols m:=⟨_,rfl⟩;rw [<- hk0] at HC;have hV:Lm.valid m=(m.all (fun r=>decide (r.n=k0))&&decide (n<=24)&&decide (k0<=24)):=by rw [hk0,<- hl];rfl
 obtain⟨v,hv⟩:∃ v,v=Lm.valid m:=⟨_,rfl⟩;rw [<- hv] at hV ⊢;obtain⟨HV,HA,Hl⟩:=Z3 hV hA hl;clear hV hv hk0 hA hl;go_enter func295,ntmps295;go_wp2
 go_loop [7] (fun i=>∃ k:Nat,k<=n/\i=.int .i64 k/\(m.take k).all (fun r=>decide (r.n=k0))=true) (fun i=>n-(intOf i).toNat)
 case atStart=>exact⟨0,Nat.zero_le _,rfl,rfl⟩
 case round =>
  obtain⟨k,hk,rfl,hall⟩:=hrel;have Hall:=Z1 hall;clear hall
  by_cases hlt:k<n
  case neg =>
   obtain rfl:k=n:=oM
   have HV2:Hid (v=(decide (k<=24)&&decide (k0<=24))):=by
    show _=_;rw [HV.out];have:=Hall.out;rw [List.take_of_length_le (by have:=Hl.out;omega)] at this;rw [this];rfl
   by_cases h24:k<=24
   ·have k1:decide ((k:Int)<=24)=true:=sO
    have HV3:Hid (v=decide (k0<=24)):=by show _=_;rw [HV2.out];simp [h24]
    go_wp2_with (fail);refine HC.out.mono ?_;rintro e W2 ⟨rfl,rfl⟩;go_wp2;go_ret;exact⟨by rw [HV3.out];simp;omega,rfl⟩
   ·have k1:decide ((k:Int)<=24)=false:=sO
    have HV3:Hid (v=false):=by show _=_;rw [HV2.out];simp [h24]
    go_wp2;go_ret;exact⟨by rw [HV3.out];rfl,rfl⟩
  have hkm:k<m.length:=by have:=Hl.out;omega
  obtain⟨b,o,rfl,hb,hr⟩:=RowsAt.look HA.out hkm;have c0:=hr 0 _ rfl;simp at c0;obtain⟨r,hre⟩:∃ r,r=m[k]:=⟨_,rfl⟩;rw [<- hre] at c0
  have Hst:Hid ((m.take (k+1)).all (fun r=>decide (r.n=k0))=decide (r.n=k0)):=by
   show _=_;rw [tse hkm,List.all_append,Hall.out,<- hre];simp
  have Hbad:Hid (¬ r.n=k0->v=false):=Z1 fun h=>by
   rw [HV.out];have:m.all (fun r=>decide (r.n=k0))=false:=by rw [List.all_eq_false];exact⟨m[k],List.getElem_mem hkm,by rw [<- hre];simp [h]⟩
   rw [this];rfl
  clear hr hre;go_wp2_with (fail);refine HC.out.mono ?_;rintro e W2 ⟨rfl,rfl⟩
  by_cases hq:r.n=k0
  ·have k1:((r.n:Int) != (k0:Int))=false:=by simp [hq]
   have H2:Hid ((m.take (k+1)).all (fun r=>decide (r.n=k0))=true):=by show _=_;rw [Hst.out];simp [hq]
   clear hq;go_wp2
   go_round
   case rel=>exact⟨k+1,oM,by go_num,H2.out⟩
   case measure=>simp [intOf];omega
  ·have k1:((r.n:Int) != (k0:Int))=true:=sO
   have HV2:=Z1 (Hbad.out hq);clear hq;go_wp2;go_ret;exact⟨by rw [HV2.out];rfl,rfl⟩
end
open Go.Proofs.Tryz Go.RowKit
section
variable (w:World)
theorem a7B (A:Option Addr) (n c:Nat) (m:List RRow) (hl:m.length=n) (hn:n<=1000) (hA:MatR w w A m) :
  Calls prog 255 #[.slice A n c] w fun e w'=>e=.returned (.bool (Lm.square m))/\w=w':=by
 have HC:=Z1 (a7s w A n c m hl hA);have HV:=Z1 (a8d w A n c m hl hn hA);obtain⟨v,hv⟩:∃ v,v=Lm.square m:=⟨_,rfl⟩;rw [<- hv];have hq:v=(Lm.valid m&&decide (n=Lm.cols m)):=by rw [hv,<- hl];rfl
 have Hq:=Z1 hq;clear hv hq hA hl;go_enter func255,ntmps255;go_wp2_with (fail);refine HV.out.mono ?_;rintro e W2 ⟨rfl,rfl⟩
 cases hb:Lm.valid m with
 | false =>
  have H2:Hid (v=false):=by show _=_;rw [Hq.out,hb];rfl
  clear hb;go_wp2;go_ret;exact⟨by rw [H2.out];rfl,rfl⟩
 | true =>
  have H2:Hid (v=decide (n=Lm.cols m)):=by show _=_;rw [Hq.out,hb];rfl
  clear hb;go_wp2_with (fail);refine HC.out.mono ?_;rintro e W3 ⟨rfl,rfl⟩;obtain⟨k0,hk0⟩:∃ k0,k0=Lm.cols m:=⟨_,rfl⟩;rw [<- hk0] at H2 ⊢;clear hk0;have he:((n:Int)==(k0:Int))=decide (n=k0):=by rw [Bool.eq_iff_iff];simp;omega
  go_wp2;go_ret;exact⟨by rw [H2.out,<- he];rfl,rfl⟩
theorem b0U (n:Int) (h0:-9223372036854775808<=n) (h1:n<=9223372036854775807) :
  Calls prog 168 #[n] w fun e w'=>(∃ x:Rn,e=.returned x.v/\x.At w' w'.heap.size 3)/\Below w w w':=by
 obtain⟨W1,hW1,hB0,hb0,hz⟩:=nw1 w ZR 43;have HW:=Z1 hW1;have Hb0:=Z1 hb0;have s1:=Vq hb0;have HB0:=Z1 hB0;have HC:=Z1 (a1W W1 n 10000 h0 h1 oM oM oM);clear hW1 hz hb0 hB0 h0 h1;go_enter func168,ntmps168;go_upto_region 1 with(fail);rw [<- HW.out];go_wp2_with (fail);refine HC.out.mono ?_;rintro e W2 ⟨⟨r,rfl,hr⟩,hB2⟩;obtain⟨g3,A3,n3,c3,g4,A4,n4,c4,rfl⟩:=hr.open;obtain⟨W3,hW3,hB3,hb3,hz3⟩:=nw1 W2 #[g3,.slice A3 n3 c3,g4,.slice A4 n4 c4] 43;have HW3:=Z1 hW3;have hB13:=hB2.trans (hB3.mono hB2.size);have HB3:=bT HB0 hB13;have Hb03:=gB Hb0 hB13 s1;have Hb3:=Z1 hb3;have hr3:=hr.at_ hB3;have Hr3:=Z1 hr3;have q1:=Vq hb3;have q2:=Vq Hb03.out;have Hone:Hid ((#[g3,.slice A3 n3 c3,g4,.slice A4 n4 c4]:Array Value).all (·.oneCell')=true):=by show _=true;simp [Value.oneCell']
 have hRF:=setRow_heap W3 w _ #[g3,.slice A3 n3 c3,g4,.slice A4 n4 c4] _ _ Hb03.out;obtain⟨Hload,HBF,Hp⟩:=Z3 (run_loadVar_row (P:=prog) _ _ _ 43 _ _ _ hRF underlying43 rfl Vy) (below_setRow HB3.out lR #[g3,.slice A3 n3 c3,g4,.slice A4 n4 c4]) ((Hr3.out.other (w':=W3.setRow w #[g3,.slice A3 n3 c3,g4,.slice A4 n4 c4]) Hb03.out a0F (fun c hc=>setRow_other _ _ _ _ hc)).more (C:=(W3.setRow w #[g3,.slice A3 n3 c3,g4,.slice A4 n4 c4]).heap.size) sP lR lR);clear hW3 hz3 hb3 hr hr3 hB13 hB2 hB3 hRF;go_upto_region 2 with(fail);rw [<- HW3.out];go_wp2_with (first | (refine wpList_load_row rfl 43 (.tmp 3) rfl _ rfl _ _ _ _ Hb3.out underlying43 rfl Vy ?_) | (refine Vx rfl 43 (.tmp 2) (.tmp 10) none rfl rfl w.heap.size 43 _ #[g3,.slice A3 n3 c3,g4,.slice A4 n4 c4] rfl rfl Hb03.out rfl Vy Hone.out ?_));refine bodyPost_ret (v:=.agg #[g3,.slice A3 n3 c3,g4,.slice A4 n4 c4]) (by simp [results,results168,asAddr,Act.put,Hload.out]) rfl ⟨⟨⟨g3,A3,n3,c3,g4,A4,n4,c4⟩,rfl,_,_,Hp.out⟩,HBF.out⟩
end
open Go.Proofs.Tryz Go.RowKit
def RnPost (K:Nat) (w:World) (e:Ending) (w':World):Prop:=(∃ z:Rn,e=.returned z.v/\z.At w' w' K)/\Below w w w'
def RnPost2 (K:Nat) (w:World) (e:Ending) (w':World):Prop:=(∃(z:Rn) (m:Int),e=.returned (.tuple #[z.v,m])/\z.At w' w' K)/\Below w w w'
section
variable (w:World) (k j:Nat) (x y:Rn)
theorem b2k (hk:3<=k) (hj:3<=j) (hl:6*k+6*j+100<=10000000000) (hx:x.At w w k) (hy:y.At w w j):Calls prog 36 #[x.v,y.v] w (RnPost (k+j) w):=by
 obtain⟨N1,D1,hx⟩:=hx;obtain⟨N2,D2,hy⟩:=hy;refine(a7i w k k j j _ _ N1 D1 N2 D2 oM hx hy).mono ?_;rintro e w' ⟨⟨r,rfl,hr⟩,hB⟩;obtain⟨z,rfl,hz⟩:=Rn.of_ri (K:=k+j) hr oM oM;exact⟨⟨z,rfl,hz⟩,hB⟩
theorem b3c (hk:3<=k) (hj:3<=j) (hl:6*k+6*j+100<=10000000000) (hx:x.At w w k) (hy:y.At w w j):Calls prog 299 #[x.v,y.v] w (RnPost (k+j+1) w):=by
 obtain⟨N1,D1,hx⟩:=hx;obtain⟨N2,D2,hy⟩:=hy;refine(b0q w k k j j _ _ N1 D1 N2 D2 oM hx hy).mono ?_;rintro e w' ⟨⟨r,rfl,hr⟩,hB⟩;obtain⟨z,rfl,hz⟩:=Rn.of_ri (K:=k+j+1) hr oM oM;exact⟨⟨z,rfl,hz⟩,hB⟩
theorem b3d (hk:3<=k) (hj:3<=j) (hl:6*k+6*j+100<=10000000000) (hx:x.At w w k) (hy:y.At w w j):Calls prog 254 #[x.v,y.v] w (RnPost (k+j+1) w):=by
 obtain⟨N1,D1,hx⟩:=hx;obtain⟨N2,D2,hy⟩:=hy;refine(a7v w k k j j _ _ N1 D1 N2 D2 oM hx hy).mono ?_;rintro e w' ⟨⟨r,rfl,hr⟩,hB⟩;obtain⟨z,rfl,hz⟩:=Rn.of_ri (K:=k+j+1) hr oM oM;exact⟨⟨z,rfl,hz⟩,hB⟩
theorem b2l (hk:3<=k) (hj:3<=j) (hl:6*k+6*j+100<=10000000000) (hx:x.At w w k) (hy:y.At w w j):Calls prog 257 #[x.v,y.v] w (RnPost2 (k+j) w):=by
 obtain⟨N1,D1,hx⟩:=hx;obtain⟨N2,D2,hy⟩:=hy;refine(b1P w k k j j _ _ N1 D1 N2 D2 oM hx hy).mono ?_;rintro e w' ⟨⟨r,rfl,hr⟩,hB⟩;obtain⟨z,rfl,hz⟩:=Rn.of_ri (K:=k+j) hr oM oM;exact⟨⟨z,_,rfl,hz⟩,hB⟩
theorem b2j (hl:k<=10000000000) (hx:x.At w w k):Calls prog 253 #[x.v] w (RnPost k w):=by
 obtain⟨N1,D1,hx⟩:=hx;refine(a7h w k k _ N1 D1 hl hx).mono ?_;rintro e w' ⟨⟨r,rfl,hr⟩,hB⟩;obtain⟨z,rfl,hz⟩:=Rn.of_ri (K:=k) hr lR lR;exact⟨⟨z,rfl,hz⟩,hB⟩
theorem a8T (hx:x.At w w k):Calls prog 298 #[x.v] w fun e w'=>(∃ s:Int,e=.returned (.int .i64 s))/\Below w w w':=by
 obtain⟨N1,D1,hx⟩:=hx;refine(a8J w k k _ N1 D1 hx).mono ?_;rintro e w' ⟨rfl,hB⟩;exact⟨⟨_,rfl⟩,hB⟩
theorem a2G (n:Int) (h0:-9223372036854775808<=n) (h1:n<=9223372036854775807):Calls prog 168 #[n] w (RnPost 3 w) :=
 (b0U w n h0 h1).mono fun _ _ ⟨⟨x,e,h⟩,hB⟩=>⟨⟨x,e,h⟩,hB⟩
end
end Go.Proofs.YtniaimjknmhapaaGreatDoor
