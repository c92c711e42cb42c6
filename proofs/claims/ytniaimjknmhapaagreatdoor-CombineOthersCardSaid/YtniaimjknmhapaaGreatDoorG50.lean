/- My texts OthP, LawOth. -/
import Derived.Test.YtniaimjknmhapaaGreatDoorG55
import Derived.Test.YtniaimjknmhapaaGreatDoorG24
import Derived.Test.YtniaimjknmhapaaGreatDoorG44
set_option linter.unusedVariables false
set_option linter.unusedSimpArgs false
set_option maxRecDepth 100000
set_option maxHeartbeats 16000000
namespace Go.Proofs.YtniaimjknmhapaaGreatDoor
def Bks.bare (b:Bks):Bks:={ b with hA:=none,hn:=0,hc:=0,holds:=[] }
theorem Cb.bare_law {b:Bks} {E p:Int} {x:Ctn} {its sh:List Itm} {N D:Int} (h:OfPure b.bare E p x its sh N D) (hE:E≠0):x.n=0/\x.m=0/\x.meth=0:=by
 obtain⟨_,e,now,rfl,_,_,hcur,_,h2,_,h4,h5,hct⟩:=h;have he:0<e:=oM;have hi:Ct.intervals b.bare.g b.bare.holds e=[⟨-25567,84006,0⟩]:=Ct.intervals_nil b.g e he;have hm:=List.mem_of_find?_eq_some hcur;rw [hi] at hm;obtain rfl:now=⟨-25567,84006,0⟩:=by simpa using hm
 have hf:(Cb.full b.bare p (Ct.intervals b.bare.g b.bare.holds e)).length=0:=by
  rw [hi];unfold Cb.full Iv.off;simp
 rcases hct with⟨_,_,q1,q2⟩ | ⟨q,_⟩
 ·rw [h4,h5,q1,q2];exact⟨rfl,rfl,h2⟩
 ·exact absurd ⟨rfl,hf⟩ q
theorem Cb.oth_law {b:Bks} {E p:Int} {x:Ctn} {its sh:List Itm} {N D:Int} (h:OfPure b E p x its sh N D) (hm:x.meth<2) (hl:b.holds.length<=200) :
  (0<=p/\p<b.g.N)/\Cal.ok b.g.Y b.g.M b.g.N=true/\x.n=its.length/\its.length<=3660/\(∀ y∈its,Gr.isResult b.g y.acct=true/\Cal.begin_ b.g.Y b.g.M p<=y.date)/\(x.meth=1∨x.m=0):=by
 obtain⟨hv,e,now,rfl,he,hp,hcur,h1,h2,h3,h4,h5,hct⟩:=h;have hgv:Gr.valid b.g=true:=by unfold Cb.valid Tr.valid Jr.ok at hv;simp only [Bool.and_eq_true] at hv;exact hv.1.1.1
 have hok:Cal.ok b.g.Y b.g.M b.g.N=true:=by unfold Gr.valid Gr.books at hgv;simp only [Bool.and_eq_true] at hgv;exact hgv.1.1.1.1.1.2
 refine⟨hp,hok,h4,?_,?_,?_⟩
 ·rcases hct with⟨_,_,q1,_⟩ | ⟨_,l,_,_,q3,_⟩
  ·rw [q1];simp
  ·exact q3
 ·rcases hct with⟨_,_,q1,_⟩ | ⟨_,l,_,q2,_,_⟩
  ·rw [q1];intro y hy;cases hy
  ·unfold Cb.its at q2
   rw [if_neg oM,if_neg oM] at q2;obtain rfl:=Option.some.inj q2;intro y hy;have:=(List.mem_filter.1 hy).2;unfold Iv.gone at this;simp only [Bool.and_eq_true,decide_eq_true_eq] at this;exact⟨this.1.1.2,this.1.2⟩
 ·by_cases h:x.meth=1
  ·exact .inl h
  ·right
   rw [h5]
   rcases hct with⟨_,_,_,q2⟩ | ⟨_,l,_,_,_,q4⟩
   ·rw [q2];rfl
   ·rw [q4,if_neg oM];rfl
open Go.Proofs.Tryz Go.RowKit
theorem itms7O {w:World} {B:Nat} {A:Option Addr} {l:List Itm} (h:RowsAt Itm.cells 7 w B A l) {k:Nat} (hk:k<l.length):∃ b o,A=some ⟨b,o,none⟩/\b<B/\w.rangeAt b (o+k*7) (l[k]):=RowsAt.look h hk
def OthC (b:Bks) (E p:Int) (w:World) (er:Int) (x:Ctn):Prop :=
 er≠0∨er=0/\∃ its sh N D,OfPure b E p x its sh N D/\RowsAt Itm.cells 7 w w x.A its
theorem OfAny.one {b:Bks} {E p:Int} {w w':World} {ev:Ending} (h:OfAny b E p w ev w'):Below w w w'/\∃(er:Int) (x:Ctn),ev=.returned (.tuple #[x.v,er])/\OthC b E p w' er x:=by
 obtain⟨hB,⟨_,n,hn,rfl⟩ | ⟨its,sh,x,N,D,rfl,hpu,hA,_⟩⟩:=h
 ·exact⟨hB,n,Ctn.zero,rfl,.inl hn⟩
 ·exact⟨hB,0,x,rfl,.inr ⟨rfl,its,sh,N,D,hpu,hA⟩⟩
theorem OthC.bare {b:Bks} {E p:Int} {w:World} {er:Int} {x:Ctn} (h:OthC b.bare E p w er x):E=0∨er≠0∨E≠0/\er=0/\x.n=0/\x.m=0/\x.meth=0:=by
 by_cases hE:E=0
 ·exact .inl hE
 ·rcases h with h | ⟨h,its,sh,N,D,hpu,_⟩
  ·exact .inr (.inl h)
  ·exact .inr (.inr ⟨hE,h,Cb.bare_law hpu hE⟩)
section
variable (w:World)
theorem b2I (b:Bks) (E p:Int) (h1:b.One) (hb:b.Out w w) (hT:Tab w w):CL 6 #[b,E,p] w true:=by
 obtain⟨W1,hW1,hB0,hb0,hz⟩:=nw1 w b 36;obtain⟨HW,HO1,HB0,Hb0⟩:=Z4 hW1 (hb.at_ hB0) hB0 hb0;have s0:=Vq hb0;have H1:=Z1 h1;have Haw:=Z1 (a2k W1 (fun W h=>hT W (hB0.trans (h.mono hB0.size))));clear hW1 hz hb0 hb hB0 hT h1;go_enter func6,ntmps6;go_upto_region 1 with(fail);rw [<- HW.out];go_wp2_with (fail);refine Haw.out.mono ?_;rintro ev W2 ⟨rfl,hB2⟩;have HB2:=bT HB0 hB2;have Hb2:=gB Hb0 hB2 s0;have s2:=Vq Hb2.out;have HO2:=Z1 (HO1.out.at_ hB2);have Hfew:=Z1 (a3L W2 b HO2.out);have hld:=Hb2.out;clear hB2;go_wp2_with (refine wpList_load_row rfl 36 _ rfl _ rfl _ _ _ _ hld underlying36 rfl a0B ?_);refine Hfew.out.mono ?_;rintro ev W3 ⟨⟨r,rfl,hr⟩,hB3⟩;have HB3:=bT HB2 hB3;have Hb3:=gB Hb2 hB3 s2;have s3:=Vq Hb3.out;have HO3:=Z1 (HO2.out.at_ hB3);have Hr:=Z1 hr;clear hB3 hr hld
 cases r with
 | false =>
  go_wp2;go_ret;exact⟨rfl,HB3.out⟩
 | true =>
 have hat:=HO3.out.at_few (Hr.out rfl);have HA3:=Z1 hat;have hld:=Hb3.out;have Hof:=Z1 (a1i W3 b E p HA3.out);clear hat;go_wp2_with (refine wpList_load_row rfl 36 _ rfl _ rfl _ _ _ _ hld underlying36 rfl a0B ?_);refine Hof.out.mono ?_;rintro ev W4 hall;obtain⟨hB4,er,x,rfl,hof⟩:=hall.one;clear hall;have HB4:=bT HB3 hB4;have Hb4:=gB Hb3 hB4 s3;have HA4:=Z1 (HA3.out.at_ hB4);clear hB4 hld;have HOf:=Z1 hof;obtain⟨W5,hW5,hB5,hc5,hz5⟩:=nw1 W4 x 46;have HW5:=Z1 hW5;have HB5:=bT HB4 hB5;have Hb5:=gS Hb4 hB5;have HA5:=Z1 (HA4.out.at_ hB5);have HB45:=Z1 hB5;have s5:=Vq Hb5.out;have Hc5:=Z1 hc5;have sc5:=Vq hc5;have hld:=Hb5.out;have h1d:∀ v∈(x:Array Value).toList,v.oneCell'=true:=oC;unfold Ctn.v;clear hof hW5 hB5 hz5 hc5;go_upto_region 6 with(refine Xw rfl 46 _ _ rfl 46 _ x rfl rfl rfl h1d a0u ?_);rw [<- HW5.out];clear h1d;obtain⟨W6,hW6,hB6,hb6,hz6⟩:=nw1 W5 b 36;obtain⟨W8,hW8⟩:∃ W8,W8=W6.setCell ⟨W5,23,none⟩ (.slice none 0 0):=⟨_,rfl⟩;have hr8:=heap_setCell_same W6 W5.heap.size 23 _ _ (.slice none 0 0) hb6;simp at hr8;rw [<- hW8] at hr8;have hB58:Below W5 W5 W8:=by rw [hW8];exact hB6.setCell (p:=⟨W5,23,none⟩) lR _
 have hb8:=HA5.out.at_ hB58;have hbk:b.bare.At W8 W8.heap.size:=⟨hb8.hg,hb8.hel,hb8.hen,hb8.hE,hb8.hEx,hb8.hrl,hb8.hrn,hb8.hR,hb8.hRw,rfl,by show 0<=30;omega,.inl rfl,by intro a ha;cases ha⟩;have Hof2:Hid (Calls prog 9 #[.agg #[.string (b.g).cur,.int .i64 (b.g).Y,.int .i64 (b.g).M,.int .i64 (b.g).N,.slice (b.g).cA (b.g).cn (b.g).cc,.int .i64 (b.g).r0,.int .i64 (b.g).r1,.int .i64 (b.g).r2,.int .i64 (b.g).r3,.int .i64 (b.g).r4,.int .i64 (b.g).r5,.int .i64 (b.g).r6,.int .i64 (b.g).r7,.int .i64 (b.g).r8,.int .i64 (b.g).r9,.int .i64 (b.g).r10,.int .i64 (b.g).r11,.int .i64 (b.g).r12,.int .i64 (b.g).r13,.int .i64 (b.g).r14,.slice (b.g).eA (b.g).en (b.g).ec,.slice b.eA b.en b.ec,.slice b.rA b.rn b.rc,.slice none 0 0,b.m0,b.m1,b.m2],E,p] W8 (OfAny b.bare E p W8)):=Z1 (a1i W8 _ E p hbk);have HW6:=Z1 hW6;have HW8:=Z1 hW8;have HB8:=bT HB5 hB58;have Hr8:=Z1 hr8;have Hb8:=gB Hb5 hB58 s5;have HA8:=Z1 hb8;have Hc8:=gB Hc5 hB58 sc5;have HB48:=bT HB45 hB58;have sc8:=Vq Hc8.out;have sb8:=Vq Hb8.out;have s6:=Vq hb6
 have h1b:∀ v∈(b:Array Value).toList,v.oneCell'=true:=by
  have o0:=H1.out.h0;have o1:=H1.out.h1;have o2:=H1.out.h2;intro v hv;simp only [List.mem_cons,List.not_mem_nil,or_false] at hv
  rcases hv with rfl | rfl | rfl | rfl | rfl | rfl | rfl | rfl | rfl | rfl | rfl | rfl | rfl | rfl | rfl | rfl | rfl | rfl | rfl | rfl | rfl | rfl | rfl | rfl | rfl | rfl | rfl <;> first | rfl | assumption
 have yf:=fun j=>fr0 j hb6;clear hz6 hW6 hW8 hr8 hB58 hb8 hbk hB6;go_upto_region 7 with(first | (refine wpList_load_row rfl 36 _ rfl _ rfl _ _ _ _ hld underlying36 rfl a0B ?_) | (refine Xw rfl 36 _ _ rfl 36 _ b rfl rfl rfl h1b a0B ?_));rw [<- HW6.out];clear h1b;have hq6:W6.heap[W5.heap.size]?=some (.cells b 36 (0,0)):=hb6;have y23:=cr9 23 hb6;simp at y23;clear hq6 hb6;go_upto_region 8 with(fail);rw [<- HW8.out];clear y23 yf hld;have hld:=Hr8.out;go_wp2_with (refine wpList_load_row rfl 36 _ rfl _ rfl _ _ _ _ hld underlying36 rfl a0B ?_);refine Hof2.out.mono ?_;rintro ev W9 hall;obtain⟨hB9,er2,y,rfl,hof2⟩:=hall.one;clear hall;have HB9:=bT HB8 hB9;have Hb9:=gB Hb8 hB9 sb8;have Hc9:=gB Hc8 hB9 sc8;have HA9:=Z1 (HA8.out.at_ hB9);have HB49:=bT HB48 hB9;have hbare:=hof2.bare;have HBare:=Z1 hbare;obtain⟨W10,hW10,hB10,hd10,hz10⟩:=nw1 W9 y 46;have HW10:=Z1 hW10;have HB10:=bT HB9 hB10;have Hb10:=gS Hb9 hB10;have Hc10:=gS Hc9 hB10;have HA10:=Z1 (HA9.out.at_ hB10);have HB4A:=bT HB49 hB10;have Hd10:=Z1 hd10;have s10:=Vq Hb10.out;have t10:=Vq Hc10.out;have r10:=Vq hd10;have h1d:∀ v∈(y:Array Value).toList,v.oneCell'=true:=oC;have v1:=cr9 1 hd10;have v11:=cr9 11 hd10;have v12:=cr9 12 hd10;have x1:=cr9 1 Hc10.out;have x11:=cr9 11 Hc10.out;have x12:=cr9 12 Hc10.out;simp at v1 v11 v12 x1 x11 x12;unfold Ctn.v;clear hW10 hB10 hd10 hz10 hB9 hof2 hbare hld;go_upto_region 9 with(refine Xw rfl 46 _ _ rfl 46 _ y rfl rfl rfl h1d a0u ?_);rw [<- HW10.out];clear h1d
 have hb4:E=0∨(E≠0/\er2≠0)∨(E≠0/\er2=0/\y.n=0/\y.m=0/\y.meth=0):=by
  by_cases hE:E=0
  ·exact .inl hE
  ·rcases HBare.out with h | h | h
   ·exact absurd h hE
   ·exact .inr (.inl ⟨hE,h⟩)
   ·exact .inr (.inr h)
 rcases hb4 with he | ⟨he,he2⟩ | ⟨he,he2,hyn,hym,hyt⟩
 focus
  have kE:(E != 0)=false:=by simpa using he
  clear he;go_upto_region 11 with(fail)
 rotate_left
 focus
  have kE:(E != 0)=true:=by simpa using he
  have k2:(er2==0)=false:=by simpa using he2
  clear he he2;go_upto_region 11 with(fail)
 rotate_left
 focus
  have kE:(E != 0)=true:=by simpa using he
  subst he2;rw [hyn] at v11;rw [hym] at v12;rw [hyt] at v1;clear he hyn hym hyt;go_upto_region 11 with(fail)
 all_goals
  clear v1 v11 v12 HBare;obtain⟨mt,hmt⟩:∃ mt,mt=x.meth:=⟨_,rfl⟩;have Hmt:=Z1 hmt;rw [<- hmt] at x1;clear hmt
  by_cases her:er=0
  rotate_left
  ·have k1:(er != 0)=true:=by simpa using her
   clear her;go_wp2;go_ret;exact⟨by first | rfl | simp,HB10.out⟩
  subst her
  by_cases hge:mt ≥ 2
  ·have k1:decide (mt ≥ 2)=true:=by simpa using hge
   clear hge;go_wp2;go_ret;exact⟨by first | rfl | simp,HB10.out⟩
  have kge:decide (mt ≥ 2)=false:=by simpa using hge
  obtain⟨its,sh,N,D,hpu,hA⟩:∃ its sh N D,OfPure b E p x its sh N D/\RowsAt Itm.cells 7 W4 W4 x.A its:=by
   rcases HOf.out with h | ⟨_,h⟩
   ·exact absurd rfl h
   ·exact h
  obtain⟨hp,hok,hxn,hlen,hits,hmm⟩:=Cb.oth_law hpu (by rw [<- Hmt.out];omega) (by have:=HA10.out.hhl;have:=HA10.out.hhn;omega);obtain⟨Hits,Hmm,HI10⟩:=Z3 hits hmm (RowsAt.at_ hA HB4A.out);obtain⟨bg,hbg⟩:∃ bg,bg=Cal.begin_ b.g.Y b.g.M p:=⟨_,rfl⟩;have Hbg:=Z1 hbg;have HBg:=Z1 (fun W=>a7R b.g.Y b.g.M b.g.N p W ((Cal.err_zero _ _ _ _).2 ⟨hok,hp.1,hp.2⟩));rw [<- hbg] at HBg;have g1:=cr9 1 Hb10.out;have g2:=cr9 2 Hb10.out;have g3:=cr9 3 Hb10.out;simp at g1 g2 g3;obtain⟨q,hq⟩:∃ q,q=its.length:=⟨_,rfl⟩;have Hq:=Z1 hq;have hq4:q<=3660:=by rw [hq];exact hlen
  have hxq:x.n=q:=by rw [hq];exact hxn
  have Hxq:=Z1 hxq;obtain⟨A5,hA5⟩:∃ A5,A5=x.A:=⟨_,rfl⟩;have HA5':=Z1 hA5;rw [<- hA5] at HI10;clear hge hpu hA hp hok hxn hlen hits hmm hbg hq hxq hA5;go_wp2_with (fail);refine(HBg.out _).mono ?_;rintro ev W11 ⟨rfl,hB11⟩;have HB11:=bT HB10 hB11;have Hb11:=gB Hb10 hB11 s10;have Hc11:=gB Hc10 hB11 t10;have HA11:=Z1 (HA10.out.at_ hB11);have HI11:=Z1 (RowsAt.at_ HI10.out hB11);have sb11:=Vq Hb11.out;have st11:=Vq Hc11.out
  have hz:∀ W,Below W11 W11 W->W.cell? ⟨W4,1,none⟩=some (.int .i64 mt)/\W.cell? ⟨W4,11,none⟩=some (.slice A5 q x.c)/\W.cell? ⟨W4,12,none⟩=some (.slice x.B x.m x.d):=fun W hB=>by
   have hc:=gbox Hc11.out hB st11;have e1:=cr9 1 hc;have e11:=cr9 11 hc;have e12:=cr9 12 hc;simp at e1 e11 e12;rw [<- Hmt.out] at e1;rw [Hxq.out,<- HA5'.out] at e11;exact⟨e1,e11,e12⟩
  have HZ:=Z1 hz;obtain⟨z11⟩:W11.cell? ⟨W4,11,none⟩=some (.slice A5 q x.c)/\True:=⟨(hz W11 bR).2.1,trivial⟩;clear g1 g2 g3 x1 x11 x12 hB11 hz;go_wp2
  go_loopw [14] (fun i wr=>∃ k:Nat,k<=q/\i=.int .i64 k/\Below W11 W11 wr) (fun i _=>q-(intOf i).toNat)
  case atStart=>exact⟨0,Nat.zero_le _,rfl,by first | exact Below.refl _ _ | exact Vw bR _⟩
  case round =>
   obtain⟨k,hk,rfl,hbw⟩:=hrel;obtain⟨y1,y11,y12⟩:=HZ.out wr hbw;have hsw:=hbw.size;have s4w:W4.heap.size<wr.heap.size:=oM
   by_cases hlt:k<q
   case neg =>
    obtain rfl:k=q:=oM;have HF:=bT HB11 hbw;clear hbw z11
    by_cases hm1:mt=1
    ·have k1:(mt==1)=true:=by simpa using hm1
     clear hm1;go_wp2;go_ret;exact⟨by first | rfl | simp,HF.out⟩
    ·have k1:(mt==1)=false:=by simpa using hm1
     have hm0:x.m=0:=by
      rcases Hmm.out with h | h
      ·exact absurd (Hmt.out.trans h) hm1
      ·exact h
     rw [hm0] at y12;clear hm1 hm0;go_wp2;go_ret;exact⟨by first | rfl | simp,HF.out⟩
   have hki:k<its.length:=by have:=Hq.out;omega
   obtain⟨b1,o1,hA1,hbB1,c0⟩:=itms7O (RowsAt.at_ HI11.out hbw) hki;have hy:=Hits.out _ (List.getElem_mem hki);obtain⟨u3,hu3⟩:∃ u,u=its[k].acct:=⟨_,rfl⟩;obtain⟨u5,hu5⟩:∃ u,u=its[k].date:=⟨_,rfl⟩;rw [<- hu3,<- hu5,<- Hbg.out] at hy;have c3:=c0 3 _ rfl;have c5:=c0 5 _ rfl;simp only [<- hu3,<- hu5] at c3 c5;rw [hA1] at y11;have hb1w:b1<wr.heap.size:=hbB1;obtain⟨Wd,hWd⟩:∃ Wd,Wd=wr.drew:=⟨_,rfl⟩;have hBd:Below wr wr Wd:=by rw [hWd];exact Vw bR 1
   have Hbw:=gB Hb11 hbw sb11;have hAd:=HA11.out.at_ (hbw.trans (hBd.mono hsw));have HRs:=Z1 (a7O Wd b.g u3 hAd.hg);rw [hy.1] at HRs;have hk5:decide (u5<bg)=false:=by simpa using hy.2
   have Hk5:=Z1 hk5
   have hS:(fun W':World=>Below wr wr W'/\W'.cell? ⟨W4,11,none⟩=some (.slice (some ⟨b1,o1,none⟩) q x.c)/\W'.cell? ⟨b1,o1+k*7+3,none⟩=some (.int .i64 u3)/\W'.cell? ⟨b1,o1+k*7+5,none⟩=some (.int .i64 u5)/\W'.heap[w.heap.size]?=some (.cells b 36 (0,0))/\b1<W'.heap.size/\W4.heap.size<W'.heap.size) Wd:=by
    refine⟨hBd,?_,?_,?_,gbox Hbw.out hBd (Vq Hbw.out),by have:=hBd.size;omega,by have:=hBd.size;omega⟩
    ·rw [hBd.cell (p:=⟨W4,11,none⟩) s4w];exact y11
    ·rw [hBd.cell (p:=⟨b1,o1+k*7+3,none⟩) hb1w];exact c3
    ·rw [hBd.cell (p:=⟨b1,o1+k*7+5,none⟩) hb1w];exact c5
   have HWd:=Z1 hWd;have Hbww:=Z1 hbw;have hk0:(0:Int)<=(k:Int):=oM;have hkq:(k:Int)<(q:Int):=oM;clear hWd hy hu3 hu5 c0 c3 c5 hBd hAd hA1 hbB1 hk5 hbw;go_upto_region 17 with(fail);refine wp_region_held (S:=fun W':World=>Below wr wr W'/\W'.cell? ⟨W4,11,none⟩=some (.slice (some ⟨b1,o1,none⟩) q x.c)/\W'.cell? ⟨b1,o1+k*7+3,none⟩=some (.int .i64 u3)/\W'.cell? ⟨b1,o1+k*7+5,none⟩=some (.int .i64 u5)/\W'.heap[w.heap.size]?=some (.cells b 36 (0,0))/\b1<W'.heap.size/\W4.heap.size<W'.heap.size) kR ?_;change wpAnyH _ _ _ _ _ _ _ _ (World.drew wr);rw [<- HWd.out];refine jT 0 hS ?_;refine jT 1 hS ?_ (v:=b.g) (hy:=(yieldsIf_load_mid (by rfl) 29 _ rfl w.heap.size 0 rfl b.g _ (fun W' hS'=>(fun j v hj=>by have:=cr9 j hS'.2.2.2.2.1;rw [Nat.zero_add,this];exact a1C hj)) underlying29 rfl VJ));refine jT 2 hS ?_;refine jT 3 hS ?_ (v:=.slice (some ⟨b1,o1,none⟩) q x.c) (hy:=(.inl ⟨by rfl,fun W' hS'=>by obtain⟨s1,s2,s3,s4,s5,s6,s7⟩:=hS';go_simp⟩));refine jT 4 hS ?_;refine jT 5 hS ?_;refine jT 6 hS ?_;refine jT 7 hS ?_ (v:=.int .i64 u3) (hy:=(.inl ⟨by rfl,fun W' hS'=>by obtain⟨s1,s2,s3,s4,s5,s6,s7⟩:=hS';go_simp⟩));refine rZ 8 fun K hK=>?_;go_simp;refine HRs.out.mono ?_;rintro ev W' ⟨rfl,hB'⟩
   have hS2:(fun W':World=>Below wr wr W'/\W'.cell? ⟨W4,11,none⟩=some (.slice (some ⟨b1,o1,none⟩) q x.c)/\W'.cell? ⟨b1,o1+k*7+3,none⟩=some (.int .i64 u3)/\W'.cell? ⟨b1,o1+k*7+5,none⟩=some (.int .i64 u5)/\W'.heap[w.heap.size]?=some (.cells b 36 (0,0))/\b1<W'.heap.size/\W4.heap.size<W'.heap.size) W':=by
    obtain⟨s1,s2,s3,s4,s5,s6,s7⟩:=hS;refine⟨s1.trans (hB'.mono s1.size),?_,?_,?_,gbox s5 hB' (Vq s5),by have:=hB'.size;omega,by have:=hB'.size;omega⟩
    ·rw [hB'.cell (p:=⟨W4,11,none⟩) s7];exact s2
    ·rw [hB'.cell (p:=⟨b1,o1+k*7+3,none⟩) s6];exact s3
    ·rw [hB'.cell (p:=⟨b1,o1+k*7+5,none⟩) s6];exact s4
   clear hB' hS;refine jK hK hS2 ?_;clear hK K;refine jT 9 hS2 ?_ (v:=.bool false);refine jT 10 hS2 ?_ (v:=.bool false);refine jT 11 hS2 ?_;refine jT 12 hS2 ?_ (v:=.slice (some ⟨b1,o1,none⟩) q x.c) (hy:=(.inl ⟨by rfl,fun W' hS'=>by obtain⟨s1,s2,s3,s4,s5,s6,s7⟩:=hS';go_simp⟩));refine jT 13 hS2 ?_;refine jT 14 hS2 ?_;refine jT 15 hS2 ?_;refine jT 16 hS2 ?_ (v:=.int .i64 u5) (hy:=(.inl ⟨by rfl,fun W' hS'=>by obtain⟨s1,s2,s3,s4,s5,s6,s7⟩:=hS';go_simp⟩));refine jT 17 hS2 ?_;refine jT 18 hS2 ?_ (v:=.bool (decide (u5<bg)));refine jT 19 hS2 ?_ (v:=.bool (decide (u5<bg)));refine wpAnyH_done kR ?_ _;have hk5:=Hk5.out;have HBW:=Z1 (Hbww.out.trans (hS2.1.mono hsw));clear hS2;go_wp2;rotate_left
   ·exact⟨⟨k+1,oM,by go_num,HBW.out⟩,by simp [intOf];omega⟩
   ·exfalso;have h:=Hk5.out;simp at h;omega
end
end Go.Proofs.YtniaimjknmhapaaGreatDoor
