/- My texts Awake37. -/
import Derived.Test.YtniaimjknmhapaaGreatDoorG39
import Derived.Test.YtniaimjknmhapaaGreatDoorG23
set_option linter.unusedVariables false
set_option linter.unusedSimpArgs false
set_option maxRecDepth 100000
set_option maxHeartbeats 16000000
namespace Go.Proofs.YtniaimjknmhapaaGreatDoor
open Go.Proofs.Tryz Go.RowKit
theorem b0p:Dec.frac 1 1=[49]:=by
 unfold Dec.frac;rw [if_pos rfl,Dec.digits_small dC];rfl
theorem RI.rn {w:World} {k j:Nat} {x:Rn} {N D:Int} (h:RI w w k j x.v N D) (hk:k<=900) (hj:j<=900) (hN:0<=N) (hD:0<D) (hT:Tab w w) :
  CL 19 #[x] w (.string ⟨(Dec.frac N.toNat D.toNat).toArray⟩):=a8A w k j x.v N D hk hj hN hD h hT
section
variable (w:World)
theorem a2k (hT:Tab w w):CL 7 #[] w true:=by
 have HT:=Z1 hT;clear hT;go_enter func7,ntmps7;go_wp2_with (fail);refine(a7J w).mono ?_;rintro e W1 ⟨hB1,g,rfl,hg,hgs⟩;obtain⟨zA,zc,zE,zd,x0,x1,x2,x3,hge⟩:=hgs;have hY:g.Y=2026:=by rw [hge];rfl
 have hM:g.M=1:=by rw [hge];rfl
 have hN:g.N=36:=by rw [hge];rfl
 have herr:Cal.err g.Y g.M g.N 0=0:=by rw [hY,hM,hN];decide
 have hfi:Cal.first g.Y g.M 0=20454:=by rw [hY,hM];exact Smp.day0
 have Hfi:=Z1 (fun W=>a4o g.Y g.M g.N 0 W herr);rw [hfi] at Hfi;have Hge:=Z1 hge;obtain⟨W2,hW2,hB2,hb2,hz2⟩:=nw1 W1 g 29;obtain⟨HW2,Hg2,Hb2,HB2⟩:=Z4 hW2 (hg.at_ hB2) hb2 (hB1.trans (hB2.mono hB1.size));have y1:=cr9 1 hb2;have y2:=cr9 2 hb2;have y3:=cr9 3 hb2;simp at y1 y2 y3;have s2:=Vq hb2;clear hg hge hY hM hN herr hfi hW2 hB2 hb2 hB1;have h1c:∀ v∈(g:Array Value).toList,v.oneCell'=true:=oC;go_upto_region 2 with(refine Xw rfl 29 _ _ rfl 29 _ g rfl rfl rfl h1c VJ ?_);rw [<- HW2.out];clear h1c;go_wp2_with (fail);refine(Hfi.out _).mono ?_;rintro ev W3 ⟨rfl,hB3⟩;have hq3:=hB3.size;obtain⟨W5,hW5,hB5,hl5,he5,hz5⟩:=nw2 W3 #[(10:Int),(100:Int),(-1:Int),(100:Int),(-100:Int),(-1:Int)] #[(1:Int),(),(20454:Int),(1:Int),(),.string ⟨#[]⟩,.slice (some ⟨W3,0,none⟩) 2 2] 68 71;have HW5:=Z1 hW5;have hB25:=hB3.trans (hB5.mono hq3);have Hb5:=gB Hb2 hB25 s2;obtain⟨W6,hW6,hB6,hr6,hz6⟩:=nw1 W5 #[(1:Int),(),(20454:Int),(1:Int),(),.string ⟨#[]⟩,.slice (some ⟨W3,0,none⟩) 2 2] 71;have HW6:=Z1 hW6;have hB26:=hB25.trans (hB6.mono hB25.size);have HB6:=bT HB2 hB26;have hl6:=gbox hl5 hB6 (Vq hl5)
 have hbk:(Smp.bks g (some ⟨W3,0,none⟩) (some ⟨W5,0,none⟩)).At W6 W6.heap.size:=by
  refine⟨Hg2.out.at_ hB26,rfl,by show 1<=61;omega,?_,?_,rfl,by show 0<=300;omega,.inl rfl,(by intro r h;cases h),rfl,by show 0<=30;omega,.inl rfl,(by intro x h;cases h)⟩
  ·exact a0z (f:=Etr.cells) (l:=[⟨Smp.ent37,some ⟨W3,0,none⟩,2,2⟩]) hr6 (Vq hr6) (fun _ _=>rfl)
  ·intro x hx
   have hx2:x=⟨Smp.ent37,some ⟨W3,0,none⟩,2,2⟩:=List.mem_singleton.1 hx;subst hx2;refine⟨rfl,a0z (f:=Lin.cells) (l:=Smp.ent37.lines) hl6 (Vq hl6) (fun _ _=>rfl),rfl,rfl,rfl,by show 0<=maxLen;omega,by show 2<=60;omega,?_⟩;intro z hz;have hz2:z=⟨10,100,-1⟩∨z=⟨100,-100,-1⟩:=by simpa [Smp.ent37] using hz
   rcases hz2 with rfl | rfl
   ·exact⟨rfl,dC,rfl⟩
   ·exact⟨rfl,dC,rfl⟩
 have Hof:Hid (Calls prog 9 #[.agg #[.string g.cur,g.Y,g.M,g.N,.slice g.cA g.cn g.cc,g.r0,g.r1,g.r2,g.r3,g.r4,g.r5,g.r6,g.r7,g.r8,g.r9,g.r10,g.r11,g.r12,g.r13,g.r14,.slice g.eA g.en g.ec,.slice (some ⟨W5,0,none⟩) 1 1,.slice none 0 0,.slice none 0 0,.slice none 0 0,.slice none 0 0,.string ⟨#[]⟩],(),()] W6 (OfParK (Smp.bks g (some ⟨W3,0,none⟩) (some ⟨W5,0,none⟩)) 0 W6)):=Z1 (a7Y W6 _ 0 hbk);have hbld:∀ W:World,(Instr.build 36 #[(0,g),(1,.slice (some ⟨W5,0,none⟩) 1 1)]).run prog W=.ok (.agg #[.string g.cur,g.Y,g.M,g.N,.slice g.cA g.cn g.cc,g.r0,g.r1,g.r2,g.r3,g.r4,g.r5,g.r6,g.r7,g.r8,g.r9,g.r10,g.r11,g.r12,g.r13,g.r14,.slice g.eA g.en g.ec,.slice (some ⟨W5,0,none⟩) 1 1,.slice none 0 0,.slice none 0 0,.slice none 0 0,.slice none 0 0,.string ⟨#[]⟩]) W:=fun W=>kR;have hld5:=he5;have hrg5:W5.rangeAt W1.heap.size 0 g:=Xx Hb5.out;clear hz5 hz6 hW5 hB5 hl5 he5 hW6 hB6 hr6 hl6 hbk hB3 hB25 hB26 y1 y2 y3;go_upto_region 4 with(fail);rw [<- HW5.out];go_wp2_with (first | (refine Vk (by rfl) 29 (.tmp 1) rfl W1.heap.size 0 rfl _ _ hrg5 underlying29 rfl VJ ?_) | (refine wpList_load_row rfl 71 _ rfl _ rfl _ _ _ _ hld5 underlying71 rfl a0H ?_) | (refine a3j rfl 36 _ rfl _ rfl _ (hbld _) ?_));rw [<- HW6.out];refine Hof.out.mono ?_;rintro ev W7 ⟨hB7,h⟩
 rcases h with⟨hbad,_⟩ | ⟨its,x,_,hits,rfl,hm,hxn,hA,hRI⟩
 ·exfalso
  rw [Hge.out] at hbad
  rcases hbad with h | h
  ·rw [Smp.cb37] at h;cases h
  ·rw [Smp.items37] at h;cases h
 rw [Hge.out,Smp.items37] at hits;have hi:=Option.some.inj hits;subst hi;have hxn2:x.n=2:=hxn;have HB7:=bT HB6 hB7;obtain⟨HRI,HA,Hxn,Hm⟩:=Z4 hRI hA hxn2 hm;obtain⟨W8,hW8,hB8,hb8,hz8⟩:=nw1 W7 x 46;have HW8:=Z1 hW8;have HB8:=bT HB7 hB8;have HR8:=Z1 (hRI.at_ hB8);obtain⟨b,o,hAe,hbB,hr⟩:=RowsAt.look (RowsAt.at_ hA hB8) (k:=1) (by show 1<2;omega);have p3:=hr 3 _ rfl;have z1:=cr9 1 hb8;have z11:=cr9 11 hb8;simp at z1 z11;rw [Hm.out] at z1;rw [Hxn.out,hAe] at z11;have s8:=Vq hb8
 have hrs:W8.rangeAt W7.heap.size 3 x.s:=fun j v hj=>by
  have hlj:j<4:=by have:=(List.getElem?_eq_some_iff.1 hj).1;simpa using this
  have:=cell_of_row _ _ (3+j) _ _ _ hb8;rw [this,<- hj];have hjc:j=0∨j=1∨j=2∨j=3:=oM
  rcases hjc with rfl | rfl | rfl | rfl <;> rfl
 have Htx:=Z1 (RI.rn HR8.out oM oM oM oM (fun W9 hb=>HT.out W9 (HB8.out.trans (hb.mono HB8.out.size))));have e1:(⟨(Dec.frac (1:Int).toNat (1:Int).toNat).toArray⟩:ByteArray)=⟨#[49]⟩:=by show(⟨(Dec.frac 1 1).toArray⟩:ByteArray)=_;rw [b0p]
 rw [e1] at Htx;clear hxn hxn2 hm hA hRI hits hB7 hW8 hB8 hb8 hz8 hr hAe e1 hrg5 hld5;unfold Ctn.v;have h1d:∀ v∈(x:Array Value).toList,v.oneCell'=true:=oC;go_upto_region 5 with(refine Xw rfl 46 _ _ rfl 46 _ x rfl rfl rfl h1d a0u ?_);clear h1d;rw [<- HW8.out];go_wp2_with (refine Vk (by rfl) 43 (.tmp 49) rfl W7.heap.size 3 rfl x.s _ hrs underlying43 rfl Vy ?_);refine Htx.out.mono ?_;rintro ev W9 ⟨rfl,hB9⟩;have HB9:=bT HB8 hB9;go_wp2;go_ret;exact⟨by first | rfl | simp,HB9.out⟩
end
end Go.Proofs.YtniaimjknmhapaaGreatDoor
