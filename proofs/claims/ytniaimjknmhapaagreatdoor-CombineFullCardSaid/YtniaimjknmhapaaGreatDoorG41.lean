/- My texts LawFull. -/
import Derived.Test.YtniaimjknmhapaaGreatDoorG17
import Derived.Test.YtniaimjknmhapaaGreatDoorG55
import Derived.Test.YtniaimjknmhapaaGreatDoorG24
import Derived.Test.YtniaimjknmhapaaGreatDoorG40
set_option linter.unusedVariables false
set_option linter.unusedSimpArgs false
set_option maxRecDepth 100000
set_option maxHeartbeats 16000000
namespace Go.Proofs.YtniaimjknmhapaaGreatDoor
open Go.Proofs.Tryz Go.RowKit
theorem itms7 {w:World} {B:Nat} {A:Option Addr} {l:List Itm} (h:RowsAt Itm.cells 7 w B A l) {k:Nat} (hk:k<l.length):∃ b o,A=some ⟨b,o,none⟩/\b<B/\w.rangeAt b (o+k*7) (l[k]):=RowsAt.look h hk
section
variable (w:World)
theorem b1o (b:Bks) (E p:Int) (hb:b.Out w w) (hT:Tab w w):CL 4 #[b,E,p] w true:=by
 obtain⟨W1,hW1,hB0,hb0,hz⟩:=nw1 w b 36;obtain⟨HW,HO1,HB0,Hb0⟩:=Z4 hW1 (hb.at_ hB0) hB0 hb0;have s0:=Vq hb0;have Haw:=Z1 (a2k W1 (fun W h=>hT W (hB0.trans (h.mono hB0.size))));clear hW1 hz hb0 hb hB0 hT;go_enter func4,ntmps4;go_upto_region 1 with(fail);rw [<- HW.out];go_wp2_with (fail);refine Haw.out.mono ?_;rintro ev W2 ⟨rfl,hB2⟩;have HB2:=bT HB0 hB2;have Hb2:=gB Hb0 hB2 s0;have s2:=Vq Hb2.out;have HO2:=Z1 (HO1.out.at_ hB2);have Hfew:=Z1 (a3L W2 b HO2.out);have hld:=Hb2.out;clear hB2;go_wp2_with (refine wpList_load_row rfl 36 _ rfl _ rfl _ _ _ _ hld underlying36 rfl a0B ?_);refine Hfew.out.mono ?_;rintro ev W3 ⟨⟨r,rfl,hr⟩,hB3⟩;have HB3:=bT HB2 hB3;have Hb3:=gB Hb2 hB3 s2;have s3:=Vq Hb3.out;have HO3:=Z1 (HO2.out.at_ hB3);have Hr:=Z1 hr;clear hB3 hr hld
 cases r with
 | false =>
  go_wp2;go_ret;exact⟨rfl,HB3.out⟩
 | true =>
 have hat:=HO3.out.at_few (Hr.out rfl);have HA3:=Z1 hat;have hld:=Hb3.out;have Hof:=Z1 (a1i W3 b E p HA3.out);clear hat;go_wp2_with (refine wpList_load_row rfl 36 _ rfl _ rfl _ _ _ _ hld underlying36 rfl a0B ?_);refine Hof.out.mono ?_;rintro ev W4 ⟨hB4,hof⟩;have HB4:=bT HB3 hB4;have Hb4:=gB Hb3 hB4 s3;have HA4:=Z1 (HA3.out.at_ hB4);clear hB4 hld
 rcases hof with⟨_,n,hn,rfl⟩ | ⟨its,sh,x,N,D,rfl,hpu,hA,_,_,_,_⟩
 ·have k1:(n != 0)=true:=by simpa using hn
  have h1d:∀ v∈(ZC:Array Value).toList,v.oneCell'=true:=oC;obtain⟨W5,hW5,hB5,hc5,hz5⟩:=nw1 W4 ZC 46;have HW5:=Z1 hW5;have HB5:=bT HB4 hB5;unfold Ctn.zero Ctn.v Rn.zero;clear hn hW5 hB5 hc5 hz5;go_upto_region 6 with(refine Xw rfl 46 _ _ rfl 46 _ ZC rfl rfl rfl h1d a0u ?_);rw [<- HW5.out];clear h1d;go_wp2;go_ret;exact⟨by first | rfl | simp,HB5.out⟩
 ·obtain⟨hcv,e,now,rfl,he,hp,hcur,hxe,hxm,hxs,hxn,hxk,hct⟩:=hpu
  have HIA:=Z1 hA;obtain⟨W5,hW5,hB5,hc5,hz5⟩:=nw1 W4 x 46;have HW5:=Z1 hW5;have HB5:=bT HB4 hB5;have Hb5:=gS Hb4 hB5;have HA5:=Z1 (HA4.out.at_ hB5);have HI5:=Z1 (RowsAt.at_ HIA.out hB5);have s5:=Vq Hb5.out;have Hc5:=Z1 hc5;have sc5:=Vq hc5;have z1:=cr9 1 hc5;simp at z1;have hld:=Hb5.out;have h1d:∀ v∈(x:Array Value).toList,v.oneCell'=true:=oC;have hgv:Gr.valid b.g=true:=by unfold Cb.valid Tr.valid Jr.ok at hcv;simp only [Bool.and_eq_true] at hcv;exact hcv.1.1.1
  obtain⟨Hgv,Hxn,Hxs,Hxm,Hct⟩:=Z5 hgv hxn hxs hxm hct;unfold Ctn.v;obtain⟨mt,hmt⟩:∃ mt,mt=x.meth:=⟨_,rfl⟩;have Hmt:=Z1 hmt;clear hcv hcur hxe hxm hxs hxn hxk hct hA hW5 hB5 hc5 hz5 hgv he hp;go_upto_region 6 with(refine Xw rfl 46 _ _ rfl 46 _ x rfl rfl rfl h1d a0u ?_);rw [<- HW5.out];clear h1d;rw [<- hmt] at z1;clear hmt
  by_cases hm:mt=3
  rotate_left
  ·have k1:(mt != 3)=true:=by simpa using hm
   clear hm;go_wp2;go_ret;exact⟨by first | rfl | simp,HB5.out⟩
  subst hm
  obtain⟨l,HL⟩:∃ l,Hid (Tr.items b e p=some l/\its=l.map (Cb.acq b.g now.frm)/\its.length=l.length/\l.length<=3660):=by
   have hm3:now.meth=3:=by rw [<- Hxm.out,<- Hmt.out]
   rcases Hct.out with⟨h,_⟩ | ⟨_,l,h1,h2,h3,_⟩
   ·rw [hm3] at h;exact absurd h dC
   ·unfold Cb.its at h2
    rw [if_pos hm3] at h2;have h4:=Option.some.inj h2;have h5:its.length=l.length:=by rw [<- h4,List.length_map]
    exact⟨l,Z1 ⟨h1,h4.symm,h5,oM⟩⟩
  have Hit:=Z1 (a5N W5 b e p HA5.out);go_wp2_with (refine wpList_load_row rfl 36 _ rfl _ rfl _ _ _ _ hld underlying36 rfl a0B ?_);refine Hit.out.mono ?_;rintro ev W6 ⟨hB6,hit⟩
  rcases hit with⟨hno,_⟩ | ⟨l2,A6,c6,hso,rfl,_,hA6,_⟩
  ·rw [HL.out.1] at hno;cases hno
  rw [HL.out.1] at hso;have he:=Option.some.inj hso;subst he;have hq6:W5.heap.size<=W6.heap.size:=hB6.size;have HB6:=bT HB5 hB6;have Hb6:=gB Hb5 hB6 s5;have s6:=Vq Hb6.out;have HA6:=Z1 (HA5.out.at_ hB6);have Hc6:=gB Hc5 hB6 sc5;have HI6:=Z1 (RowsAt.at_ HI5.out hB6);have HJ6:=Z1 hA6;obtain⟨q,hq⟩:∃ q,q=l.length:=⟨_,rfl⟩;have Hq:=Z1 hq;have hq4:q<=3660:=by rw [hq];exact HL.out.2.2.2
  have hnq:x.n=q:=by rw [hq,Hxn.out,HL.out.2.2.1]
  obtain⟨A5,hA5⟩:∃ A5,A5=x.A:=⟨_,rfl⟩;obtain⟨c5,hc5⟩:∃ c5,c5=x.c:=⟨_,rfl⟩;obtain⟨sc,hsc⟩:∃ sc,sc=x.since:=⟨_,rfl⟩;have Hsc:=Z1 (hsc.trans Hxs.out);have z11:=cr9 11 Hc6.out;simp at z11;rw [hnq,<- hA5,<- hc5] at z11;rw [<- hA5] at HI6
  have hz2:∀ W,Below W6 W6 W->W.cell? ⟨W4,2,none⟩=some (.int .i64 sc)/\W.cell? ⟨W4,11,none⟩=some (.slice A5 q c5):=fun W hB=>by
   have hc:=gbox Hc6.out hB (Vq Hc6.out);have e2:=cr9 2 hc;have e11:=cr9 11 hc;simp at e2 e11;rw [hnq,<- hA5,<- hc5] at e11;exact⟨by rw [hsc];exact e2,e11⟩
  have HZ2:=Z1 hz2;have sc6:=Vq Hc6.out;rw [<- hq];clear hB6 hld hso hA6 z1 hz2 hnq hA5 hc5 hsc hq;go_wp2
  go_loopw [11] (fun i wr=>∃ k:Nat,k<=q/\i=.int .i64 k/\Below W6 W6 wr) (fun i _=>q-(intOf i).toNat)
  case atStart=>exact⟨0,Nat.zero_le _,rfl,by first | exact Below.refl _ _ | exact Vw bR _⟩
  case round =>
   obtain⟨k,hk,rfl,hbw⟩:=hrel
   by_cases hlt:k<q
   case neg =>
    obtain rfl:k=q:=oM;have HF:=bT HB6 hbw;clear hbw z11;go_wp2;go_ret;exact⟨rfl,HF.out⟩
   have hsw:=hbw.size;have hkl:k<l.length:=by have:=Hq.out;omega
   have hki:k<its.length:=by have:=HL.out.2.2.1;omega
   obtain⟨b2,o2,hA2,hbB2,d0⟩:=itms7 (RowsAt.at_ HJ6.out hbw) hkl;obtain⟨b1,o1,hA1,hbB1,c0⟩:=itms7 (RowsAt.at_ HI6.out hbw) hki;subst hA1 hA2;obtain⟨za,hac,hS,hR⟩:=Cb.acq_law Hgv.out now.frm l[k]
   have hik:its[k]=Cb.acq b.g now.frm l[k]:=by
    have h1:=HL.out.2.1;subst h1;exact List.getElem_map ..
   rw [hik,hac] at c0;obtain⟨u0,hu0⟩:∃ u,u=l[k].ent0:=⟨_,rfl⟩;obtain⟨u1,hu1⟩:∃ u,u=l[k].lin:=⟨_,rfl⟩;obtain⟨u2,hu2⟩:∃ u,u=l[k].ent:=⟨_,rfl⟩;obtain⟨u3,hu3⟩:∃ u,u=l[k].acct:=⟨_,rfl⟩;obtain⟨u4,hu4⟩:∃ u,u=l[k].partner:=⟨_,rfl⟩;obtain⟨u5,hu5⟩:∃ u,u=l[k].date:=⟨_,rfl⟩;obtain⟨u6,hu6⟩:∃ u,u=l[k].amt:=⟨_,rfl⟩;simp only [<- hu0,<- hu1,<- hu2,<- hu3,<- hu4,<- hu5,<- hu6] at c0 d0 hS hR;rw [<- Hsc.out] at hR;have hc0:wr.rangeAt b1 (o1+k*7) [u0,u1,u2,za,u4,u5,u6]:=c0;have HD0:Hid (wr.rangeAt b2 (o2+k*7) [u0,u1,u2,u3,u4,u5,u6]):=Z1 d0;obtain⟨Wa,hWa,hBa,hra,hza⟩:=nw1 wr #[u0,u1,u2,za,u4,u5,u6] 57;obtain⟨HWa,Hra,HBa,HB6a⟩:=Z4 hWa hra hBa (hbw.trans (hBa.mono hsw));have hzw:=HZ2.out wr hbw;have HS:=Z1 hS;have HR:=Z1 hR;have hb2w:b2<wr.heap.size:=hbB2;have hb1w:b1<wr.heap.size:=hbB1;have Hga:=Z1 (gbox Hb6.out HB6a.out s6);have hga:=Xx Hga.out;have HgA:=Z1 (HA6.out.at_ HB6a.out);have y3:=cr9 3 hra;simp at y3;obtain⟨ib,hib⟩:∃ ib,ib=wr.heap.size:=⟨_,rfl⟩;rw [<- hib] at Hra y3;have Hib:=Z1 hib;have sb1:ib<Wa.heap.size:=oM;have s16:W6.heap.size<=ib:=oM;have sb2:b2<ib:=oM;have hz11:=hzw.2;have hrga:Wa.rangeAt w.heap.size 0 b.g:=fun j v hj=>by have:=cr9 j Hga.out;rw [Nat.zero_add,this];exact a1C hj
   clear hik hac hu0 hu1 hu2 hu3 hu4 hu5 hu6 c0 d0 hS hR hWa hra hza hBa hzw hbB1 hbB2 z11 hga hib hbw;go_upto_region 15 with(refine wpList_load_mid rfl 57 (.tmp 59) rfl b1 (o1+k*7) rfl [u0,u1,u2,za,u4,u5,u6] _ hc0 underlying57 rfl a0J ?_);rw [<- HWa.out,<- Hib.out];clear hz11 hc0;have Hki:=Z1 (a5F Wa b.g za HgA.out.hg);go_wp2_with (refine Vk (by rfl) 29 (.tmp 61) rfl w.heap.size 0 rfl _ _ hrga underlying29 rfl VJ ?_);refine Hki.out.mono ?_;rintro ev Wb ⟨rfl,hBb⟩;have hsb:=hBb.size;have HB6b:=bT HB6a hBb;have Hrb:=gB Hra hBb sb1;have Hgb:=gS Hga hBb;have HDb:=Z1 (VV HD0.out (HBa.out.trans (hBb.mono HBa.out.size)) hb2w);have y3:=cr9 3 Hrb.out;have y5:=cr9 5 Hrb.out;have x12:=cr9 12 Hgb.out;simp at y3 y5 x12;have z2:=(HZ2.out Wb HB6b.out).1;have q3:=HDb.out 3 _ rfl;have sbb:ib<Wb.heap.size:=oM;have sgb:=Vq Hgb.out;have scb:W4.heap.size<Wb.heap.size:=by have:=HB6b.out.size;omega
   have sb2b:b2<Wb.heap.size:=oM;obtain⟨kd,hkd⟩:∃ kd,kd=Gr.kind b.g za:=⟨_,rfl⟩;obtain⟨ra,hra7⟩:∃ ra,ra=b.g.r7:=⟨_,rfl⟩;have hR:=HR.out;have hS:=HS.out;rw [<- hkd,<- hra7] at hR;rw [<- hra7] at hS x12;rw [<- hkd];clear hBb hrga hkd hra7;have hR2:(u5<=sc/\3<=kd/\za=ra)∨(u5<=sc/\¬ 3<=kd)∨¬ u5<=sc:=oM;have hS2:za=u3∨(za≠u3/\za=ra):=oM;clear hR hS
   rcases hR2 with⟨r1,r2,r3⟩ | ⟨r1,r2⟩ | r1
   all_goals rcases hS2 with t1 | ⟨t1,t2⟩
   all_goals try (have r3:=r3.symm;subst r3)
   all_goals try (have t1:=t1.symm;subst t1)
   all_goals try (have t2:=t2.symm;subst t2)
   all_goals try (exfalso;omega)
   all_goals skip
   all_goals
    try have fb1:decide (u5<=sc)=true:=decide_eq_true r1
    try have fb1:decide (u5<=sc)=false:=decide_eq_false r1
    try have fb2:decide (kd ≥ 3)=true:=decide_eq_true r2
    try have fb2:decide (kd ≥ 3)=false:=decide_eq_false r2
    try have fb3:(za != u3)=true:=by simpa using t1
    try have fb3:(ra != u3)=true:=by simpa using t1
    try clear t1
    go_wp2;go_quiet (fail);go_upto_region 18 with(fail)
   all_goals
    obtain⟨Wc,hWc⟩:∃ Wc,Wc=Wb.drewN nq:=⟨_,rfl⟩;have hBc:Below Wb Wb Wc:=by rw [hWc];exact Vw bR _
    rw [<- hWc];have HB6c:=bT HB6b hBc;have Hrc:=gB Hrb hBc sbb;have HDc:=Z1 (VV HDb.out hBc sb2b);have hqc:Wc.heap.size=Wb.heap.size:=by rw [hWc];simp
    have sgc:ib<Wc.heap.size:=oM;clear hWc hBc;have hr5:=heap_setCell_same Wc ib 3 _ _ (.int .i64 u3) Hrc.out;simp at hr5;obtain⟨W5,hW5⟩:∃ W5,W5=Wc.setCell ⟨ib,3,none⟩ (.int .i64 u3):=⟨_,rfl⟩;have hBs:Below ib Wc W5:=by rw [hW5];exact(Below.refl _ Wc).setCell (p:=⟨ib,3,none⟩) lR _
    rw [<- hW5] at hr5;have HW5:=Z1 hW5;have HB65:Hid (Below W6 W6 W5):=by show Below _ _ _;rw [hW5];exact HB6c.out.setCell (p:=⟨ib,3,none⟩) s16 _
    have HD5:=VV HDc.out hBs sb2;have y3:=(HDc.out 3 _ rfl);have y4:=cr9 3 Hrc.out;simp at y4;have uf:=fun j=>fr0 j Hrc.out;have scw:=Vq Hrc.out;clear hW5 hBs;go_upto_region 19 with(fail);rw [<- HW5.out];have p0:=cr9 0 hr5;have p1:=cr9 1 hr5;have p2:=cr9 2 hr5;have p3:=cr9 3 hr5;have p4:=cr9 4 hr5;have p5:=cr9 5 hr5;have p6:=cr9 6 hr5;simp at p0 p1 p2 p3 p4 p5 p6;have q0:W5.cell? ⟨b2,o2+k*7,none⟩=some (.int .i64 u0):=HD5 0 _ rfl;have q1:=HD5 1 _ rfl;have q2:=HD5 2 _ rfl;have q3:=HD5 3 _ rfl;have q4:=HD5 4 _ rfl;have q5:=HD5 5 _ rfl;have q6:=HD5 6 _ rfl;have s5w:=Vq hr5;have s25:b2<W5.heap.size:=oM;clear hr5 HD5 y3 y4 uf;go_quiet (fail);go_wp2;go_roundw
    case rel=>exact⟨k+1,oM,by go_num,by first | exact HB65.out | exact Vw HB65.out _⟩
    case measure=>simp [intOf];omega
end
end Go.Proofs.YtniaimjknmhapaaGreatDoor
