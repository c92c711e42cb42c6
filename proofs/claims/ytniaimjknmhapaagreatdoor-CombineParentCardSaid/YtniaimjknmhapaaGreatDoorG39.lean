/- My texts OfC, OfD, OfE. -/
import Derived.Test.YtniaimjknmhapaaGreatDoorG34
import Derived.Test.YtniaimjknmhapaaGreatDoorG38
set_option linter.unusedVariables false
set_option linter.unusedSimpArgs false
set_option maxRecDepth 100000
set_option maxHeartbeats 16000000
namespace Go.Proofs.YtniaimjknmhapaaGreatDoor
open Go.Proofs.Tryz Go.RowKit
structure Ctn where
 ent:Int
 meth:Int
 since:Int
 s:Rn
 f:Rn
 A:Option Addr
 n:Nat
 c:Nat
 B:Option Addr
 m:Nat
 d:Nat
def Ctn.v (x:Ctn):Value:=.agg #[.int .i64 x.ent,.int .i64 x.meth,.int .i64 x.since,.bool x.s.g1,.slice x.s.A1 x.s.n1 x.s.c1,.bool x.s.g2,.slice x.s.A2 x.s.n2 x.s.c2,.bool x.f.g1,.slice x.f.A1 x.f.n1 x.f.c1,.bool x.f.g2,.slice x.f.A2 x.f.n2 x.f.c2,.slice x.A x.n x.c,.slice x.B x.m x.d]
def Ctn.zero:Ctn:=⟨0,0,0,Rn.zero,Rn.zero,none,0,0,none,0,0⟩
def EffPost (K:Nat) (Q:Int->Int->Int->Prop) (d:Int) (w:World) (ev:Ending) (w':World):Prop :=
 Below w.heap.size w w'/\∃(x:Rn) (N D:Int),ev=.returned x.v/\RI w' w'.heap.size K K x.v N D/\Q d N D
def OfPost3 (b:Bks) (e:Nat) (p:Int) (now:Itv) (K:Nat) (Q:Int->Int->Int->Prop) (w:World) (ev:Ending) (w':World):Prop :=
 Below w.heap.size w w'/\((Tr.items b e p=none/\∃ n,n≠0/\ev=.returned (.tuple #[Ctn.zero.v,.int .i64 n])) ∨
  ∃(its:List Itm) (x:Ctn),Tr.items b e p=some its/\ev=.returned (.tuple #[x.v,.int .i64 0])/\x.ent=e/\x.meth=now.meth/\x.since=now.frm/\x.n=its.length/\its.length<=3660 /\
   RowsAt Itm.cells 7 w' w'.heap.size x.A (its.map (Cb.acq b.g now.frm))/\x.B=none/\x.m=0/\Fresh w.heap.size x.A/\∃ N D,RI w' w'.heap.size K K x.s.v N D/\Q (Cal.last b.g.Y b.g.M p) N D)
theorem ctnSize:(prog.info? 46).map (·.size)=some 13:=by kernel_rfl
theorem none13 (cs:Array Value) (h:cs.toList.all (fun v=>match v with | .int .u32 _=>false | _=>true)=true):∀(j:Nat) (n:Int),cs[j]?≠some (.int .u32 n):=by
 intro j n e
 rw [<- Array.getElem?_toList] at e
 have:=List.all_eq_true.1 h _ (List.mem_of_getElem? e)
 cases this
theorem spanSize:(prog.info? 113).map (·.size)=some 2:=by kernel_rfl
section
variable (w:World)
theorem of3_any (b:Bks) (e:Nat) (p:Int) (L:List Itv) (now:Itv) (K:Nat) (Q:Int->Int->Int->Prop) (hb:b.At w w.heap.size) (he:e<b.g.ents.length) (hok:Cal.ok b.g.Y b.g.M b.g.N=true) (hp:0<=p/\p<b.g.N)
  (hL:L.length<=1000) (hm:now.meth=3)
  (hC:∀ W:World,b.At W W.heap.size->Calls prog 52 #[.agg #[.string (b.g).cur,.int .i64 (b.g).Y,.int .i64 (b.g).M,.int .i64 (b.g).N,.slice (b.g).cA (b.g).cn (b.g).cc,.int .i64 (b.g).r0,.int .i64 (b.g).r1,.int .i64 (b.g).r2,.int .i64 (b.g).r3,.int .i64 (b.g).r4,.int .i64 (b.g).r5,.int .i64 (b.g).r6,.int .i64 (b.g).r7,.int .i64 (b.g).r8,.int .i64 (b.g).r9,.int .i64 (b.g).r10,.int .i64 (b.g).r11,.int .i64 (b.g).r12,.int .i64 (b.g).r13,.int .i64 (b.g).r14,.slice (b.g).eA (b.g).en (b.g).ec],.slice b.hA b.hn b.hc,.int .i64 e,.int .i64 (Cal.last b.g.Y b.g.M p)] W (CurPost now W))
  (hE:∀(W:World) (d:Int),b.At W W.heap.size->Calls prog 53 #[.agg #[.string b.g.cur,.int .i64 b.g.Y,.int .i64 b.g.M,.int .i64 b.g.N,.slice b.g.cA b.g.cn b.g.cc,.int .i64 b.g.r0,.int .i64 b.g.r1,.int .i64 b.g.r2,.int .i64 b.g.r3,.int .i64 b.g.r4,.int .i64 b.g.r5,.int .i64 b.g.r6,.int .i64 b.g.r7,.int .i64 b.g.r8,.int .i64 b.g.r9,.int .i64 b.g.r10,.int .i64 b.g.r11,.int .i64 b.g.r12,.int .i64 b.g.r13,.int .i64 b.g.r14,.slice b.g.eA b.g.en b.g.ec,.slice b.eA b.en b.ec,.slice b.rA b.rn b.rc,.slice b.hA b.hn b.hc,b.m0,b.m1,b.m2],.int .i64 e,.int .i64 d] W (EffPost K Q d W))
  (hI:∀ W:World,b.At W W.heap.size->Calls prog 100 #[.agg #[.string (b.g).cur,.int .i64 (b.g).Y,.int .i64 (b.g).M,.int .i64 (b.g).N,.slice (b.g).cA (b.g).cn (b.g).cc,.int .i64 (b.g).r0,.int .i64 (b.g).r1,.int .i64 (b.g).r2,.int .i64 (b.g).r3,.int .i64 (b.g).r4,.int .i64 (b.g).r5,.int .i64 (b.g).r6,.int .i64 (b.g).r7,.int .i64 (b.g).r8,.int .i64 (b.g).r9,.int .i64 (b.g).r10,.int .i64 (b.g).r11,.int .i64 (b.g).r12,.int .i64 (b.g).r13,.int .i64 (b.g).r14,.slice (b.g).eA (b.g).en (b.g).ec],.slice b.hA b.hn b.hc,.int .i64 e] W (IvsPost L W)) :
  Calls prog 22 #[.agg #[.string b.g.cur,.int .i64 b.g.Y,.int .i64 b.g.M,.int .i64 b.g.N,.slice b.g.cA b.g.cn b.g.cc,.int .i64 b.g.r0,.int .i64 b.g.r1,.int .i64 b.g.r2,.int .i64 b.g.r3,.int .i64 b.g.r4,.int .i64 b.g.r5,.int .i64 b.g.r6,.int .i64 b.g.r7,.int .i64 b.g.r8,.int .i64 b.g.r9,.int .i64 b.g.r10,.int .i64 b.g.r11,.int .i64 b.g.r12,.int .i64 b.g.r13,.int .i64 b.g.r14,.slice b.g.eA b.g.en b.g.ec,.slice b.eA b.en b.ec,.slice b.rA b.rn b.rc,.slice b.hA b.hn b.hc,b.m0,b.m1,b.m2],.int .i64 e,.int .i64 p] w (OfPost3 b e p now K Q w):=by
 obtain⟨W1,hW1,hB0,hb0,hr0,hz⟩:=nw2 w #[.string b.g.cur,.int .i64 b.g.Y,.int .i64 b.g.M,.int .i64 b.g.N,.slice b.g.cA b.g.cn b.g.cc,.int .i64 b.g.r0,.int .i64 b.g.r1,.int .i64 b.g.r2,.int .i64 b.g.r3,.int .i64 b.g.r4,.int .i64 b.g.r5,.int .i64 b.g.r6,.int .i64 b.g.r7,.int .i64 b.g.r8,.int .i64 b.g.r9,.int .i64 b.g.r10,.int .i64 b.g.r11,.int .i64 b.g.r12,.int .i64 b.g.r13,.int .i64 b.g.r14,.slice b.g.eA b.g.en b.g.ec,.slice b.eA b.en b.ec,.slice b.rA b.rn b.rc,.slice b.hA b.hn b.hc,b.m0,b.m1,b.m2] #[.int .i64 0,.int .i64 0,.int .i64 0,.bool false,.slice none 0 0,.bool false,.slice none 0 0,.bool false,.slice none 0 0,.bool false,.slice none 0 0,.slice none 0 0,.slice none 0 0] 36 46
 have HW:=Z1 hW1
 have HB1:=Z1 (hb.at_ hB0)
 have HB0:=Z1 hB0
 have Hb0:=Z1 hb0
 have Hr0:=Z1 hr0
 have x1:=cr9 1 hb0
 have x2:=cr9 2 hb0
 have x3:=cr9 3 hb0
 simp at x1 x2 x3
 have s0:=some_lt hb0
 have s1:=some_lt hr0
 have hlt:e<b.g.en:=by have:=hb.hg.hel;omega
 have HC:=Z1 hC
 have HE:=Z1 hE
 have HI:=Z1 hI
 have Hm:=Z1 hm
 have h0:Cal.err b.g.Y b.g.M b.g.N p=0:=(Cal.err_zero _ _ _ _).2 ⟨hok,hp.1,hp.2⟩
 have H0:=Z1 h0
 obtain⟨la,hla⟩:∃ la,la=Cal.last b.g.Y b.g.M p:=⟨_,rfl⟩
 have Hla:=Z1 hla
 have HLa:Hid (∀ W,Calls prog 50 #[.agg #[.int .i64 b.g.Y,.int .i64 b.g.M,.int .i64 b.g.N],.int .i64 p] W fun e w'=>e=.returned (.tuple #[.int .i64 la,.int .i64 0])/\Below W.heap.size W w'):=Z1 (fun W=>by rw [hla];exact dLast_any b.g.Y b.g.M b.g.N p W h0)
 obtain⟨fi,hfi⟩:∃ fi,fi=Cal.begin_ b.g.Y b.g.M p:=⟨_,rfl⟩
 have HFi:Hid (∀ W,Calls prog 51 #[.agg #[.int .i64 b.g.Y,.int .i64 b.g.M,.int .i64 b.g.N],.int .i64 p] W fun e w'=>e=.returned (.tuple #[.int .i64 fi,.int .i64 0])/\Below W.heap.size W w'):=Z1 (fun W=>by rw [hfi];exact dBegin_any b.g.Y b.g.M b.g.N p W h0)
 rw [<- hla] at HC
 have n1:¬ (e:Int)<0:=by omega
 have n2:¬ (e:Int) ≥ (b.g.en:Int):=by omega
 clear hW1 hz hb0 hr0 hb hB0 hC hE hI hla hfi h0 hok hp he hm
 go_enter func22,ntmps22
 go_upto_region 1 with(fail)
 rw [<- HW.out]
 go_wp2_with (fail)
 refine(HLa.out _).mono ?_
 rintro ev W2 ⟨rfl,hB2⟩
 have Hb2:=Z1 (gbox Hb0.out hB2 s0)
 have y1:=cr9 1 Hb2.out
 have y2:=cr9 2 Hb2.out
 have y3:=cr9 3 Hb2.out
 have y20:=cr9 20 Hb2.out
 simp at y1 y2 y3 y20
 have s2:=some_lt Hb2.out
 have HB2:=Z1 hB2
 clear x1 x2 x3 hB2
 go_wp2_with (fail)
 refine(HFi.out _).mono ?_
 rintro ev W3 ⟨rfl,hB3⟩
 have hq2:=HB2.out.size
 have hB13:=HB2.out.trans (hB3.mono hq2)
 have hq3:=hB13.size
 obtain⟨W4,hW4,hB4,hs4,hz4⟩:=nw1 W3 #[.int .i64 fi,.int .i64 la] 113
 have HW4:=Z1 hW4
 have HB14:=Z1 (hB13.trans (hB4.mono hq3))
 have HBk4:=Z1 (HB1.out.at_ HB14.out)
 have Hb4:=Z1 (gbox Hb0.out HB14.out s0)
 have Hs4:=Z1 hs4
 have hrg:Hid (∀ j v,([.string (b.g).cur,.int .i64 (b.g).Y,.int .i64 (b.g).M,.int .i64 (b.g).N,.slice (b.g).cA (b.g).cn (b.g).cc,.int .i64 (b.g).r0,.int .i64 (b.g).r1,.int .i64 (b.g).r2,.int .i64 (b.g).r3,.int .i64 (b.g).r4,.int .i64 (b.g).r5,.int .i64 (b.g).r6,.int .i64 (b.g).r7,.int .i64 (b.g).r8,.int .i64 (b.g).r9,.int .i64 (b.g).r10,.int .i64 (b.g).r11,.int .i64 (b.g).r12,.int .i64 (b.g).r13,.int .i64 (b.g).r14,.slice (b.g).eA (b.g).en (b.g).ec]:List Value)[j]?=some v->W4.cell? ⟨w.heap.size,0+j,none⟩=some v):=fun j v hj=>by have:=cr9 j Hb4.out;rw [Nat.zero_add,this];exact bks_get hj
 have x23:=cr9 23 Hb4.out
 simp at x23
 have s4:=some_lt Hb4.out
 have s3:W3.heap.size<W4.heap.size:=by omega
 have hq4:=HB14.out.size
 clear y1 y2 y3 y20 hB3 hB13 hW4 hB4 hs4 hz4
 go_upto_region 6 with(fail)
 rw [<- HW4.out]
 go_wp2_with (refine wpList_load_want (by rfl) 29 (.tmp 52) rfl w.heap.size 0 rfl _ _ hrg.out underlying29 rfl grpSize ?_)
 refine(HC.out W4 HBk4.out).mono ?_
 rintro ev W5 ⟨hB5,rfl⟩
 obtain⟨W6,hW6,hB6,hn6,hz6⟩:=nw1 W5 #[.int .i64 now.frm,.int .i64 now.to,.int .i64 now.meth] 115
 have HW6:=Z1 hW6
 have hq5:=hB5.size
 have hB46:=hB5.trans (hB6.mono hq5)
 have HB16:=Z1 (HB14.out.trans (hB46.mono hq4))
 have HBk6:=Z1 (HB1.out.at_ HB16.out)
 have Hb6:=Z1 (gbox Hb0.out HB16.out s0)
 have Hs6:=Z1 (gbox Hs4.out hB46 s3)
 have Hn6:=Z1 hn6
 have s6:=some_lt Hb6.out
 have s7:=some_lt Hn6.out
 have s8:=some_lt Hs6.out
 have hq6:=HB16.out.size
 clear x23 hrg hB5 hW6 hB6 hn6 hz6 hB46
 go_upto_region 7 with(fail)
 rw [<- HW6.out]
 go_upto_region 9 with(fail)
 have z0:=cr9 0 Hn6.out
 have z2:=cr9 2 Hn6.out
 simp at z0 z2
 have hS:Below W6.heap.size W6 W6.drew:=below_drawn (Below.refl _ _) 1
 refine wp_region_held (S:=Below W6.heap.size W6) (by kernel_rfl) ?_
 change wpAnyH _ _ _ _ _ _ _ _ (World.drew W6)
 obtain⟨W_0,hWd⟩:∃ W0,W0=W6.drew:=⟨_,rfl⟩
 rw [<- hWd] at hS ⊢
 clear hWd
 refine tk (i:=0) (v:=.int .i64 e) rfl (.inl ⟨by rfl,fun W' hS'=>by go_simp⟩) hS ?_
 try simp only [z]
 refine tk (i:=1) (v:=.pointer (some ⟨W5.heap.size,2,none⟩)) rfl (.inl ⟨by rfl,fun W' hS'=>by go_simp⟩) hS ?_
 try simp only [z]
 refine tk (i:=2) (v:=.int .i64 now.meth) rfl (.inl ⟨by rfl,fun W' hS'=>by have c0:=(hS'.cell (p:=⟨W5.heap.size,2,none⟩) (by omega)).trans z2;have c9:=some_lt (gbox Hn6.out hS' s7);go_simp⟩) hS ?_
 try simp only [z]
 refine tk (i:=3) (v:=.pointer (some ⟨W5.heap.size,0,none⟩)) rfl (.inl ⟨by rfl,fun W' hS'=>by go_simp⟩) hS ?_
 try simp only [z]
 refine tk (i:=4) (v:=.int .i64 now.frm) rfl (.inl ⟨by rfl,fun W' hS'=>by have c0:=(hS'.cell (p:=⟨W5.heap.size,0,none⟩) (by omega)).trans z0;have c9:=some_lt (gbox Hn6.out hS' s7);go_simp⟩) hS ?_
 try simp only [z]
 refine tk (i:=5) (v:=.agg #[.string b.g.cur,.int .i64 b.g.Y,.int .i64 b.g.M,.int .i64 b.g.N,.slice b.g.cA b.g.cn b.g.cc,.int .i64 b.g.r0,.int .i64 b.g.r1,.int .i64 b.g.r2,.int .i64 b.g.r3,.int .i64 b.g.r4,.int .i64 b.g.r5,.int .i64 b.g.r6,.int .i64 b.g.r7,.int .i64 b.g.r8,.int .i64 b.g.r9,.int .i64 b.g.r10,.int .i64 b.g.r11,.int .i64 b.g.r12,.int .i64 b.g.r13,.int .i64 b.g.r14,.slice b.g.eA b.g.en b.g.ec,.slice b.eA b.en b.ec,.slice b.rA b.rn b.rc,.slice b.hA b.hn b.hc,b.m0,b.m1,b.m2]) rfl (yieldsIf_load_mid (by rfl) 36 _ rfl w.heap.size 0 rfl [.string b.g.cur,.int .i64 b.g.Y,.int .i64 b.g.M,.int .i64 b.g.N,.slice b.g.cA b.g.cn b.g.cc,.int .i64 b.g.r0,.int .i64 b.g.r1,.int .i64 b.g.r2,.int .i64 b.g.r3,.int .i64 b.g.r4,.int .i64 b.g.r5,.int .i64 b.g.r6,.int .i64 b.g.r7,.int .i64 b.g.r8,.int .i64 b.g.r9,.int .i64 b.g.r10,.int .i64 b.g.r11,.int .i64 b.g.r12,.int .i64 b.g.r13,.int .i64 b.g.r14,.slice b.g.eA b.g.en b.g.ec,.slice b.eA b.en b.ec,.slice b.rA b.rn b.rc,.slice b.hA b.hn b.hc,b.m0,b.m1,b.m2] _ (fun W' hS'=>range_of (gbox Hb6.out hS' s6)) underlying36 rfl bksSize) hS ?_
 try simp only [z]
 refine tk (i:=6) (v:=.int .i64 e) rfl (.inl ⟨by rfl,fun W' hS'=>by go_simp⟩) hS ?_
 try simp only [z]
 refine tk (i:=7) (v:=.int .i64 la) rfl (.inl ⟨by rfl,fun W' hS'=>by go_simp⟩) hS ?_
 try simp only [z]
 refine tk (i:=9) (v:=.agg #[.string b.g.cur,.int .i64 b.g.Y,.int .i64 b.g.M,.int .i64 b.g.N,.slice b.g.cA b.g.cn b.g.cc,.int .i64 b.g.r0,.int .i64 b.g.r1,.int .i64 b.g.r2,.int .i64 b.g.r3,.int .i64 b.g.r4,.int .i64 b.g.r5,.int .i64 b.g.r6,.int .i64 b.g.r7,.int .i64 b.g.r8,.int .i64 b.g.r9,.int .i64 b.g.r10,.int .i64 b.g.r11,.int .i64 b.g.r12,.int .i64 b.g.r13,.int .i64 b.g.r14,.slice b.g.eA b.g.en b.g.ec,.slice b.eA b.en b.ec,.slice b.rA b.rn b.rc,.slice b.hA b.hn b.hc,b.m0,b.m1,b.m2]) rfl (yieldsIf_load_mid (by rfl) 36 _ rfl w.heap.size 0 rfl [.string b.g.cur,.int .i64 b.g.Y,.int .i64 b.g.M,.int .i64 b.g.N,.slice b.g.cA b.g.cn b.g.cc,.int .i64 b.g.r0,.int .i64 b.g.r1,.int .i64 b.g.r2,.int .i64 b.g.r3,.int .i64 b.g.r4,.int .i64 b.g.r5,.int .i64 b.g.r6,.int .i64 b.g.r7,.int .i64 b.g.r8,.int .i64 b.g.r9,.int .i64 b.g.r10,.int .i64 b.g.r11,.int .i64 b.g.r12,.int .i64 b.g.r13,.int .i64 b.g.r14,.slice b.g.eA b.g.en b.g.ec,.slice b.eA b.en b.ec,.slice b.rA b.rn b.rc,.slice b.hA b.hn b.hc,b.m0,b.m1,b.m2] _ (fun W' hS'=>range_of (gbox Hb6.out hS' s6)) underlying36 rfl bksSize) hS ?_
 try simp only [z]
 refine tk (i:=10) (v:=.int .i64 e) rfl (.inl ⟨by rfl,fun W' hS'=>by go_simp⟩) hS ?_
 try simp only [z]
 refine tk (i:=11) (v:=.pointer (some ⟨W5.heap.size,0,none⟩)) rfl (.inl ⟨by rfl,fun W' hS'=>by go_simp⟩) hS ?_
 try simp only [z]
 refine tk (i:=12) (v:=.int .i64 now.frm) rfl (.inl ⟨by rfl,fun W' hS'=>by have c0:=(hS'.cell (p:=⟨W5.heap.size,0,none⟩) (by omega)).trans z0;have c9:=some_lt (gbox Hn6.out hS' s7);go_simp⟩) hS ?_
 try simp only [z]
 have hV0:=hS.size
 refine wpAnyH_letters fun md' ops' Q' a' hlm hlo hlq hla=>?_
 obtain⟨RG,hRG⟩:∃ R:World->Prop,R=Below W6.heap.size W6:=⟨_,rfl⟩
 rw [<- hRG] at hS ⊢
 have n3:∀(m:Nat) (W:World) (x1:Rn) (N1 D1:Int) (x2:Rn) (N2 D2:Int) (bf:Bool) (vf:Value) (pf:Nat),1+cond bf 0 1<=m->RG W->W_0.heap.size<=W.heap.size->(RI W W.heap.size K K x1.v N1 D1)->(Q la N1 D1)->(RI W W.heap.size K K x2.v N2 D2)->Mk W_0 W bf vf pf #[.int .i64 0,.int .i64 0,.int .i64 0,.bool false,.slice none 0 0,.bool false,.slice none 0 0,.bool false,.slice none 0 0,.bool false,.slice none 0 0,.slice none 0 0,.slice none 0 0] 46->wpAnyH prog md' ops' Q' RG m #[true,true,true,true,true,true,true,true,true,true,true,true,true,true,true,bf,false] ((((a'.put (some 73) (x1.v)).put (some 78) (x2.v)).put (some 79) (.agg #[.int .i64 e,.int .i64 now.meth,.int .i64 now.frm,.bool x1.g1,.slice x1.A1 x1.n1 x1.c1,.bool x1.g2,.slice x1.A2 x1.n2 x1.c2,.bool x2.g1,.slice x2.A1 x2.n1 x2.c1,.bool x2.g2,.slice x2.A2 x2.n2 x2.c2,.slice none 0 0,.slice none 0 0])).put (some 14) vf) W:=by
  intro m
  induction m with
  | zero=>intros;omega
  | succ m ih =>
  intro W x1 N1 D1 x2 N2 D2 bf vf pf hm hS hz F1 G1 F2 Hf
  subst hlm hlo hlq hla hRG
  try simp only [z]
  by_cases hb:bf=true
  rotate_left
  ·refine wpAnyH_ready (rs:=(cond bf [] [15]++[])) (by revert hb;cases bf <;> intro hb <;> first | exact absurd (by decide) hb | kernel_rfl) (by revert hb;cases bf <;> decide) (ropt (fun hf=>.cons rfl (fun K hK=>?_) .nil) .nil)
   ·subst hf
    obtain⟨W',hWn,hB,hrow,_⟩:=nw1 W #[.int .i64 0,.int .i64 0,.int .i64 0,.bool false,.slice none 0 0,.bool false,.slice none 0 0,.bool false,.slice none 0 0,.bool false,.slice none 0 0,.slice none 0 0,.slice none 0 0] 46
    go_simp
    rw [<- hWn]
    clear hWn
    have hS':=hS.trans (hB.mono hS.size)
    refine hK.out _ _ hS' (fun _=>?_)
    clear hK K
    try simp only [z]
    have hn:=ih W' x1 N1 D1 x2 N2 D2 true (.pointer (some ⟨W.heap.size,0,none⟩)) W.heap.size (by simp only [cond_true,cond_false] at hm ⊢;omega) hS' (Nat.le_trans hz hB.size) (F1.at_ hB) (G1) (F2.at_ hB) (fun _=>⟨rfl,hz,hrow⟩) 
    try simp only [z] at hn
    exact hn
  subst hb
  obtain⟨rfl,gf,hf⟩:=Hf rfl
  clear ih hm
  have HF1:=Z1 F1
  have HF2:=Z1 F2
  have HG1:=Z1 G1
  clear F1 F2 G1
  unfold Rn.v
  refine rd9 16 (by kernel_rfl) rfl (fun K hK=>?_)
  rw [if_pos (by rfl)]
  refine wp_store_row 46 _ _ none rfl rfl pf 46 _ #[.int .i64 e,.int .i64 now.meth,.int .i64 now.frm,.bool x1.g1,.slice x1.A1 x1.n1 x1.c1,.bool x1.g2,.slice x1.A2 x1.n2 x1.c2,.bool x2.g1,.slice x2.A1 x2.n1 x2.c1,.bool x2.g2,.slice x2.A2 x2.n2 x2.c2,.slice none 0 0,.slice none 0 0] rfl rfl hf rfl ctnSize (by simp [Value.oneCell']) ?_
  have hS2:=below_setRow hS (Nat.le_trans (show W6.heap.size<=W_0.heap.size from hV0) gf) #[.int .i64 e,.int .i64 now.meth,.int .i64 now.frm,.bool x1.g1,.slice x1.A1 x1.n1 x1.c1,.bool x1.g2,.slice x1.A2 x1.n2 x1.c2,.bool x2.g1,.slice x2.A1 x2.n1 x2.c1,.bool x2.g2,.slice x2.A2 x2.n2 x2.c2,.slice none 0 0,.slice none 0 0]
  refine hK.out _ _ hS2 (fun _=>?_)
  clear hK K
  try simp only [z]
  refine wpAnyH_done (by kernel_rfl) ?_ _
  try simp only [z]
  have hR7:=setRow_heap W pf _ #[.int .i64 e,.int .i64 now.meth,.int .i64 now.frm,.bool x1.g1,.slice x1.A1 x1.n1 x1.c1,.bool x1.g2,.slice x1.A2 x1.n2 x1.c2,.bool x2.g1,.slice x2.A1 x2.n1 x2.c1,.bool x2.g2,.slice x2.A2 x2.n2 x2.c2,.slice none 0 0,.slice none 0 0] _ _ hf
  have F1:=(HF1.out.other (w':=W.setRow pf #[.int .i64 e,.int .i64 now.meth,.int .i64 now.frm,.bool x1.g1,.slice x1.A1 x1.n1 x1.c1,.bool x1.g2,.slice x1.A2 x1.n2 x1.c2,.bool x2.g1,.slice x2.A1 x2.n1 x2.c1,.bool x2.g2,.slice x2.A2 x2.n2 x2.c2,.slice none 0 0,.slice none 0 0]) hf (none13 _ rfl) (fun c hc=>setRow_other _ _ _ _ hc))
  obtain⟨W7,hW7⟩:∃ W7,W7=W.setRow pf #[.int .i64 e,.int .i64 now.meth,.int .i64 now.frm,.bool x1.g1,.slice x1.A1 x1.n1 x1.c1,.bool x1.g2,.slice x1.A2 x1.n2 x1.c2,.bool x2.g1,.slice x2.A1 x2.n1 x2.c1,.bool x2.g2,.slice x2.A2 x2.n2 x2.c2,.slice none 0 0,.slice none 0 0]:=⟨_,rfl⟩
  have hz7:W7.heap.size=W.heap.size:=by rw [hW7];simp
  rw [<- hW7] at hS2 hR7 F1 ⊢
  rw [<- hz7] at F1
  have gp:W6.heap.size<=pf:=Nat.le_trans hV0 gf
  have HR7:=Z1 hR7
  have HF7:=Z1 F1
  have HS7:=Z1 hS2
  have hq7:=hS2.size
  have sp7:=some_lt hR7
  have HB17:=Z1 (HB16.out.trans (hS2.mono hq6))
  have HBk7:=Z1 (HBk6.out.at_ hS2)
  have Hb7:=Z1 (gbox Hb6.out hS2 s6)
  have Hs7:=Z1 (gbox Hs6.out hS2 s8)
  have Hn7:=Z1 (gbox Hn6.out hS2 s7)
  have Hr7:=Z1 (gbox Hr0.out HB17.out s1)
  clear hW7 hS2 hR7 F1 hS hf hz gf HF1 HF2 z0 z2
  have hld1:=Hs7.out
  have hld2:=Hb7.out
  have Hfu:=Z1 (full_any W7 b e fi la L hL HBk7.out HI.out)
  go_wp2_with (first | (refine wpList_load_row rfl 113 _ rfl _ rfl _ _ _ _ hld1 underlying113 rfl spanSize ?_) | (refine wpList_load_row rfl 36 _ rfl _ rfl _ _ _ _ hld2 underlying36 rfl bksSize ?_))
  refine Hfu.out.mono ?_
  rintro ev W8 ⟨hB8,A8,c8,rfl,_⟩
  have HB8:=Z1 hB8
  have hq8:=hB8.size
  have HBk8:=Z1 (HBk7.out.at_ hB8)
  have Hb8:=Z1 (gbox Hb7.out hB8 (some_lt Hb7.out))
  have Hn8:=Z1 (gbox Hn7.out hB8 (some_lt Hn7.out))
  have hn8:=Hn8.out
  have z2:=cr9 2 hn8
  simp at z2
  rw [Hm.out] at z2
  have sn8:=some_lt hn8
  have hld3:=Hb8.out
  have Hit:=Z1 (items_any W8 b e p HBk8.out)
  clear hB8 hn8 hld1 hld2
  go_wp2_with (refine wpList_load_row rfl 36 _ rfl _ rfl _ _ _ _ hld3 underlying36 rfl bksSize ?_)
  refine Hit.out.mono ?_
  rintro ev W9 ⟨hB9,hit⟩
  have HB9:=Z1 hB9
  have hq9:=hB9.size
  have HB19:=Z1 (HB17.out.trans ((HB8.out.trans (hB9.mono hq8)).mono (show W1.heap.size<=W7.heap.size from HB17.out.size)))
  have Hr9:=Z1 (gbox Hr0.out HB19.out s1)
  have HBw9:=Z1 (HB0.out.trans (HB19.out.mono (by omega)))
  clear z2 hld3 hB9
  rcases hit with⟨hno,n,hn,rfl⟩ | ⟨its,A9,c9,hso,rfl,hlen,hA9,hfr⟩
  ·have k1:(n != 0)=true:=by simpa using hn
   have HV:=Z1 hno
   have Hn:=Z1 hn
   have Ho:Hid ((#[.int .i64 0,.int .i64 0,.int .i64 0,.bool false,.slice none 0 0,.bool false,.slice none 0 0,.bool false,.slice none 0 0,.bool false,.slice none 0 0,.slice none 0 0,.slice none 0 0]:Array Value).all (·.oneCell')=true):=Z1 (by simp [Value.oneCell'])
   have hR:=setRow_heap W9 (w.heap.size+1) _ #[.int .i64 0,.int .i64 0,.int .i64 0,.bool false,.slice none 0 0,.bool false,.slice none 0 0,.bool false,.slice none 0 0,.bool false,.slice none 0 0,.slice none 0 0,.slice none 0 0] _ _ Hr9.out
   have hload:=Z1 (run_loadVar_row (P:=prog) _ _ _ 46 _ _ _ hR underlying46 rfl ctnSize)
   have hBF:=Z1 (below_setRow HBw9.out (show w.heap.size<=w.heap.size+1 by omega) #[.int .i64 0,.int .i64 0,.int .i64 0,.bool false,.slice none 0 0,.bool false,.slice none 0 0,.bool false,.slice none 0 0,.bool false,.slice none 0 0,.slice none 0 0,.slice none 0 0])
   clear hno hn hR
   go_wp2_with (refine wpList_store_row rfl 46 (.tmp 6) (.tmp 102) none rfl rfl (w.heap.size+1) 46 _ #[.int .i64 0,.int .i64 0,.int .i64 0,.bool false,.slice none 0 0,.bool false,.slice none 0 0,.bool false,.slice none 0 0,.bool false,.slice none 0 0,.slice none 0 0,.slice none 0 0] rfl rfl Hr9.out rfl ctnSize Ho.out ?_)
   exact bodyPost_ret (v:=.tuple #[.agg #[.int .i64 0,.int .i64 0,.int .i64 0,.bool false,.slice none 0 0,.bool false,.slice none 0 0,.bool false,.slice none 0 0,.bool false,.slice none 0 0,.slice none 0 0,.slice none 0 0],.int .i64 n]) (by simp [results,results22,asAddr,Act.put,hload.out]) rfl ⟨hBF.out,.inl ⟨HV.out,n,Hn.out,rfl⟩⟩
  have Hso:=Z1 hso
  have HA9:=Z1 hA9
  have HBk9:=Z1 (HBk8.out.at_ HB9.out)
  have Hb9:=Z1 (gbox Hb8.out HB9.out (some_lt Hb8.out))
  have Hn9:=Z1 (gbox Hn8.out HB9.out sn8)
  have HR8:=gbox HR7.out HB8.out sp7
  have HR9:=Z1 (gbox HR8 HB9.out (some_lt HR8))
  have HF9:=Z1 ((HF7.out.at_ HB8.out).at_ HB9.out)
  have z2:=cr9 2 Hn9.out
  have p2:=cr9 2 HR9.out
  simp at z2 p2
  rw [Hm.out] at z2
  have sn9:=some_lt Hn9.out
  have sp9:=some_lt HR9.out
  have sb9:=some_lt Hb9.out
  have hrg9:W9.rangeAt w.heap.size 0 [.string (b.g).cur,.int .i64 (b.g).Y,.int .i64 (b.g).M,.int .i64 (b.g).N,.slice (b.g).cA (b.g).cn (b.g).cc,.int .i64 (b.g).r0,.int .i64 (b.g).r1,.int .i64 (b.g).r2,.int .i64 (b.g).r3,.int .i64 (b.g).r4,.int .i64 (b.g).r5,.int .i64 (b.g).r6,.int .i64 (b.g).r7,.int .i64 (b.g).r8,.int .i64 (b.g).r9,.int .i64 (b.g).r10,.int .i64 (b.g).r11,.int .i64 (b.g).r12,.int .i64 (b.g).r13,.int .i64 (b.g).r14,.slice (b.g).eA (b.g).en (b.g).ec]:=fun j v hj=>by have:=cr9 j Hb9.out;rw [Nat.zero_add,this];exact bks_get hj
  have hac:=acquired_any W9 b.g A9 its.length c9 its now.frm HBk9.out.hg rfl (by omega) HA9.out
  obtain⟨L10,hL10⟩:∃ L10,L10=its.map (Cb.acq b.g now.frm):=⟨_,rfl⟩
  rw [<- hL10] at hac
  have HL10:=Z1 hL10
  have Hac:=Z1 hac
  clear hso hA9 hfr HR8 hL10 hac
  go_wp2_with (refine wpList_load_want (by rfl) 29 (.tmp 115) rfl w.heap.size 0 rfl _ _ hrg9 underlying29 rfl grpSize ?_)
  refine Hac.out.mono ?_
  rintro ev W10 ⟨hB10,A10,c10,rfl,hA10,hfr10⟩
  have HA10:=Z1 hA10
  have Hfr10:=Z1 hfr10
  have hq10:=hB10.size
  have HR10:=Z1 (gbox HR9.out hB10 sp9)
  have Hn10:=Z1 (gbox Hn9.out hB10 sn9)
  have Hr10:=Z1 (gbox Hr9.out hB10 (some_lt Hr9.out))
  have HF10:=Z1 (HF9.out.at_ hB10)
  have HBw10:=Z1 (HBw9.out.trans (hB10.mono HBw9.out.size))
  have p5:=cr9 11 HR10.out
  have pz:=fun j=>fr0 j HR10.out
  simp at p5
  have sp10:=some_lt HR10.out
  clear z2 p2 hrg9 hA10 hfr10 hB10
  go_upto_region 24 with(fail)
  obtain⟨W11,hW11⟩:∃ W11,W11=W10.setCell ⟨pf,11,none⟩ (.slice A10 L10.length c10):=⟨_,rfl⟩
  have hz11:W11.heap.size=W10.heap.size:=by rw [hW11];simp [World.setCell]
  have hR11:Row W11 pf 46 #[.int .i64 e,.int .i64 now.meth,.int .i64 now.frm,.bool x1.g1,.slice x1.A1 x1.n1 x1.c1,.bool x1.g2,.slice x1.A2 x1.n2 x1.c2,.bool x2.g1,.slice x2.A1 x2.n1 x2.c1,.bool x2.g2,.slice x2.A2 x2.n2 x2.c2,.slice A10 L10.length c10,.slice none 0 0]:=by rw [hW11];exact Row.set HR10.out 11 (.slice A10 L10.length c10)
  have hn11:Row W11 W5.heap.size 115 #[.int .i64 now.frm,.int .i64 now.to,.int .i64 now.meth]:=by rw [hW11];exact Row.other Hn10.out ⟨pf,11,none⟩ (by show W5.heap.size≠pf;omega) _
  have hr11:Row W11 (w.heap.size+1) 46 #[.int .i64 0,.int .i64 0,.int .i64 0,.bool false,.slice none 0 0,.bool false,.slice none 0 0,.bool false,.slice none 0 0,.bool false,.slice none 0 0,.slice none 0 0,.slice none 0 0]:=by rw [hW11];exact Row.other Hr10.out ⟨pf,11,none⟩ (by show w.heap.size+1≠pf;omega) _
  have hF11:RI W11 W11.heap.size K K x1.v N1 D1:=by rw [hz11];exact HF10.out.other HR10.out (none13 _ rfl) (fun c hc=>by rw [hW11];exact Below.heap_setCell _ _ _ _ (show c≠pf from hc))
  have hA11:RowsAt Itm.cells 7 W11 W11.heap.size A10 L10:=by
   rw [hW11]
   exact RowsAt.kept HA10.out (grown_setQ W10 pf 11 _) (fun bq oq eq hq=>by have h1:W9.heap.size<=bq:=Hfr10.out _ eq;have h2:bq=pf:=Option.some.inj hq;omega)
  have hB11:Below w.heap.size w W11:=by rw [hW11];exact HBw10.out.setCell (p:=⟨pf,11,none⟩) (by show w.heap.size<=pf;omega) _
  rw [<- hW11]
  have z2:=cr9 2 hn11
  simp at z2
  rw [Hm.out] at z2
  have sn11:=some_lt hn11
  have HR11:=Z1 hR11
  have Hr11:=Z1 hr11
  have hldc:=hR11
  have Ho:Hid ((#[.int .i64 e,.int .i64 now.meth,.int .i64 now.frm,.bool x1.g1,.slice x1.A1 x1.n1 x1.c1,.bool x1.g2,.slice x1.A2 x1.n2 x1.c2,.bool x2.g1,.slice x2.A1 x2.n1 x2.c1,.bool x2.g2,.slice x2.A2 x2.n2 x2.c2,.slice A10 L10.length c10,.slice none 0 0]:Array Value).all (·.oneCell')=true):=Z1 (by simp [Value.oneCell'])
  have hRF:=setRow_heap W11 (w.heap.size+1) _ #[.int .i64 e,.int .i64 now.meth,.int .i64 now.frm,.bool x1.g1,.slice x1.A1 x1.n1 x1.c1,.bool x1.g2,.slice x1.A2 x1.n2 x1.c2,.bool x2.g1,.slice x2.A1 x2.n1 x2.c1,.bool x2.g2,.slice x2.A2 x2.n2 x2.c2,.slice A10 L10.length c10,.slice none 0 0] _ _ hr11
  have hload:=Z1 (run_loadVar_row (P:=prog) _ _ _ 46 _ _ _ hRF underlying46 rfl ctnSize)
  have HBF:=Z1 (below_setRow hB11 (show w.heap.size<=w.heap.size+1 by omega) #[.int .i64 e,.int .i64 now.meth,.int .i64 now.frm,.bool x1.g1,.slice x1.A1 x1.n1 x1.c1,.bool x1.g2,.slice x1.A2 x1.n2 x1.c2,.bool x2.g1,.slice x2.A1 x2.n1 x2.c1,.bool x2.g2,.slice x2.A2 x2.n2 x2.c2,.slice A10 L10.length c10,.slice none 0 0])
  have HFF:=Z1 (hF11.other (w':=W11.setRow (w.heap.size+1) #[.int .i64 e,.int .i64 now.meth,.int .i64 now.frm,.bool x1.g1,.slice x1.A1 x1.n1 x1.c1,.bool x1.g2,.slice x1.A2 x1.n2 x1.c2,.bool x2.g1,.slice x2.A1 x2.n1 x2.c1,.bool x2.g2,.slice x2.A2 x2.n2 x2.c2,.slice A10 L10.length c10,.slice none 0 0]) hr11 (none13 _ rfl) (fun c hc=>setRow_other _ _ _ _ hc))
  have HAF:=Z1 (RowsAt.other_row hA11 (n:=W9.heap.size) Hfr10.out (show w.heap.size+1<W9.heap.size by have:=some_lt Hr9.out;omega) #[.int .i64 e,.int .i64 now.meth,.int .i64 now.frm,.bool x1.g1,.slice x1.A1 x1.n1 x1.c1,.bool x1.g2,.slice x1.A2 x1.n2 x1.c2,.bool x2.g1,.slice x2.A1 x2.n1 x2.c1,.bool x2.g2,.slice x2.A2 x2.n2 x2.c2,.slice A10 L10.length c10,.slice none 0 0])
  clear hW11 hR11 hn11 hr11 hF11 hA11 hB11 hRF p5 pz
  go_wp2_with (first | (refine wpList_load_row rfl 46 _ rfl _ rfl _ _ _ _ hldc underlying46 rfl ctnSize ?_) | (refine wpList_store_row rfl 46 (.tmp 6) (.tmp 151) none rfl rfl (w.heap.size+1) 46 _ #[.int .i64 e,.int .i64 now.meth,.int .i64 now.frm,.bool x1.g1,.slice x1.A1 x1.n1 x1.c1,.bool x1.g2,.slice x1.A2 x1.n2 x1.c2,.bool x2.g1,.slice x2.A1 x2.n1 x2.c1,.bool x2.g2,.slice x2.A2 x2.n2 x2.c2,.slice A10 L10.length c10,.slice none 0 0] rfl rfl Hr11.out rfl ctnSize Ho.out ?_))
  refine bodyPost_ret (v:=.tuple #[.agg #[.int .i64 e,.int .i64 now.meth,.int .i64 now.frm,.bool x1.g1,.slice x1.A1 x1.n1 x1.c1,.bool x1.g2,.slice x1.A2 x1.n2 x1.c2,.bool x2.g1,.slice x2.A1 x2.n1 x2.c1,.bool x2.g2,.slice x2.A2 x2.n2 x2.c2,.slice A10 L10.length c10,.slice none 0 0],.int .i64 0]) (by simp [results,results22,asAddr,Act.put,hload.out]) rfl ?_
  refine⟨HBF.out,.inr ⟨its,⟨e,now.meth,now.frm,x1,x2,A10,L10.length,c10,none,0,0⟩,Hso.out,rfl,rfl,rfl,rfl,?_,hlen,?_,rfl,rfl,?_,N1,D1,?_,?_⟩⟩
  ·show L10.length=_;rw [HL10.out,List.length_map]
  ·rw [<- HL10.out];have:=HAF.out;simpa using this
  ·exact fun ad h=>by have h1:=Hfr10.out ad h;have h2:=HBw9.out.size;omega
  ·have:=HFF.out;simpa using this
  ·rw [<- Hla.out];exact HG1.out
 have n2:∀(m:Nat) (W:World) (x1:Rn) (N1 D1:Int) (x2:Rn) (N2 D2:Int) (bf:Bool) (vf:Value) (pf:Nat),2+cond bf 0 1<=m->RG W->W_0.heap.size<=W.heap.size->(RI W W.heap.size K K x1.v N1 D1)->(Q la N1 D1)->(RI W W.heap.size K K x2.v N2 D2)->Mk W_0 W bf vf pf #[.int .i64 0,.int .i64 0,.int .i64 0,.bool false,.slice none 0 0,.bool false,.slice none 0 0,.bool false,.slice none 0 0,.bool false,.slice none 0 0,.slice none 0 0,.slice none 0 0] 46->wpAnyH prog md' ops' Q' RG m #[true,true,true,true,true,true,true,true,true,true,true,true,true,true,false,bf,false] (((a'.put (some 73) (x1.v)).put (some 78) (x2.v)).put (some 14) vf) W:=by
  intro m
  induction m with
  | zero=>intros;omega
  | succ m ih =>
  intro W x1 N1 D1 x2 N2 D2 bf vf pf hm hS hz F1 G1 F2 Hf
  subst hlm hlo hlq hla hRG
  try simp only [z]
  refine wpAnyH_ready (rs:=14::(cond bf [] [15]++[])) (by cases bf <;> kernel_rfl) (by simp) (.cons rfl (fun K hK=>?_) (ropt (fun hf=>.cons rfl (fun K hK=>?_) .nil) .nil))
  ·clear ih
   unfold Rn.v
   go_simp
   obtain⟨W',hWW⟩:∃ W',W'=W:=⟨_,rfl⟩
   rw [<- hWW]
   have hB:Below W.heap.size W W':=by rw [hWW];exact Below.refl _ _
   clear hWW
   have hS':=hS.trans (hB.mono hS.size)
   refine hK.out _ _ hS' (fun _=>?_)
   clear hK K
   try simp only [z]
   have hn:=n3 m W' x1 N1 D1 x2 N2 D2 bf vf pf (by omega) hS' (Nat.le_trans hz hB.size) (F1.at_ hB) (G1) (F2.at_ hB) (Hf.step hB)
   try simp only [z] at hn
   exact hn
  ·subst hf
   obtain⟨W',hWn,hB,hrow,_⟩:=nw1 W #[.int .i64 0,.int .i64 0,.int .i64 0,.bool false,.slice none 0 0,.bool false,.slice none 0 0,.bool false,.slice none 0 0,.bool false,.slice none 0 0,.slice none 0 0,.slice none 0 0] 46
   go_simp
   rw [<- hWn]
   clear hWn
   have hS':=hS.trans (hB.mono hS.size)
   refine hK.out _ _ hS' (fun _=>?_)
   clear hK K
   try simp only [z]
   have hn:=ih W' x1 N1 D1 x2 N2 D2 true (.pointer (some ⟨W.heap.size,0,none⟩)) W.heap.size (by simp only [cond_true,cond_false] at hm ⊢;omega) hS' (Nat.le_trans hz hB.size) (F1.at_ hB) (G1) (F2.at_ hB) (fun _=>⟨rfl,hz,hrow⟩) 
   try simp only [z] at hn
   exact hn
 have n1:∀(m:Nat) (W:World) (x1:Rn) (N1 D1:Int) (bf:Bool) (vf:Value) (pf:Nat),3+cond bf 0 1<=m->RG W->W_0.heap.size<=W.heap.size->(RI W W.heap.size K K x1.v N1 D1)->(Q la N1 D1)->Mk W_0 W bf vf pf #[.int .i64 0,.int .i64 0,.int .i64 0,.bool false,.slice none 0 0,.bool false,.slice none 0 0,.bool false,.slice none 0 0,.bool false,.slice none 0 0,.slice none 0 0,.slice none 0 0] 46->wpAnyH prog md' ops' Q' RG m #[true,true,true,true,true,true,true,true,true,true,true,true,true,false,false,bf,false] ((a'.put (some 73) (x1.v)).put (some 14) vf) W:=by
  intro m
  induction m with
  | zero=>intros;omega
  | succ m ih =>
  intro W x1 N1 D1 bf vf pf hm hS hz F1 G1 Hf
  subst hlm hlo hlq hla hRG
  try simp only [z]
  refine wpAnyH_ready (rs:=13::(cond bf [] [15]++[])) (by cases bf <;> kernel_rfl) (by simp) (.cons rfl (fun K hK=>?_) (ropt (fun hf=>.cons rfl (fun K hK=>?_) .nil) .nil))
  ·clear ih
   have HQ:=Z1 (HE.out W now.frm (HBk6.out.at_ hS))
   go_simp
   refine HQ.out.mono ?_
   rintro r W' ⟨hB,x2,N2,D2,rfl,hr2,hQ2⟩
   have hS':=hS.trans (hB.mono hS.size)
   refine hK.out _ _ hS' (fun _=>?_)
   clear hK K
   try simp only [z]
   have hn:=n2 m W' x1 N1 D1 x2 N2 D2 bf vf pf (by omega) hS' (Nat.le_trans hz hB.size) (F1.at_ hB) (G1) (hr2) (Hf.step hB)
   try simp only [z] at hn
   exact hn
  ·subst hf
   obtain⟨W',hWn,hB,hrow,_⟩:=nw1 W #[.int .i64 0,.int .i64 0,.int .i64 0,.bool false,.slice none 0 0,.bool false,.slice none 0 0,.bool false,.slice none 0 0,.bool false,.slice none 0 0,.slice none 0 0,.slice none 0 0] 46
   go_simp
   rw [<- hWn]
   clear hWn
   have hS':=hS.trans (hB.mono hS.size)
   refine hK.out _ _ hS' (fun _=>?_)
   clear hK K
   try simp only [z]
   have hn:=ih W' x1 N1 D1 true (.pointer (some ⟨W.heap.size,0,none⟩)) W.heap.size (by simp only [cond_true,cond_false] at hm ⊢;omega) hS' (Nat.le_trans hz hB.size) (F1.at_ hB) (G1) (fun _=>⟨rfl,hz,hrow⟩) 
   try simp only [z] at hn
   exact hn
 have n0:∀(m:Nat) (W:World) (bf:Bool) (vf:Value) (pf:Nat),4+cond bf 0 1<=m->RG W->W_0.heap.size<=W.heap.size->Mk W_0 W bf vf pf #[.int .i64 0,.int .i64 0,.int .i64 0,.bool false,.slice none 0 0,.bool false,.slice none 0 0,.bool false,.slice none 0 0,.bool false,.slice none 0 0,.slice none 0 0,.slice none 0 0] 46->wpAnyH prog md' ops' Q' RG m #[true,true,true,true,true,true,true,true,false,true,true,true,true,false,false,bf,false] (a'.put (some 14) vf) W:=by
  intro m
  induction m with
  | zero=>intros;omega
  | succ m ih =>
  intro W bf vf pf hm hS hz Hf
  subst hlm hlo hlq hla hRG
  try simp only [z]
  refine wpAnyH_ready (rs:=8::(cond bf [] [15]++[])) (by cases bf <;> kernel_rfl) (by simp) (.cons rfl (fun K hK=>?_) (ropt (fun hf=>.cons rfl (fun K hK=>?_) .nil) .nil))
  ·clear ih
   have HQ:=Z1 (HE.out W la (HBk6.out.at_ hS))
   go_simp
   refine HQ.out.mono ?_
   rintro r W' ⟨hB,x1,N1,D1,rfl,hr1,hQ1⟩
   have hS':=hS.trans (hB.mono hS.size)
   refine hK.out _ _ hS' (fun _=>?_)
   clear hK K
   try simp only [z]
   have hn:=n1 m W' x1 N1 D1 bf vf pf (by omega) hS' (Nat.le_trans hz hB.size) (hr1) (hQ1) (Hf.step hB)
   try simp only [z] at hn
   exact hn
  ·subst hf
   obtain⟨W',hWn,hB,hrow,_⟩:=nw1 W #[.int .i64 0,.int .i64 0,.int .i64 0,.bool false,.slice none 0 0,.bool false,.slice none 0 0,.bool false,.slice none 0 0,.bool false,.slice none 0 0,.slice none 0 0,.slice none 0 0] 46
   go_simp
   rw [<- hWn]
   clear hWn
   have hS':=hS.trans (hB.mono hS.size)
   refine hK.out _ _ hS' (fun _=>?_)
   clear hK K
   try simp only [z]
   have hn:=ih W' true (.pointer (some ⟨W.heap.size,0,none⟩)) W.heap.size (by simp only [cond_true,cond_false] at hm ⊢;omega) hS' (Nat.le_trans hz hB.size) (fun _=>⟨rfl,hz,hrow⟩) 
   try simp only [z] at hn
   exact hn
 have hn:=n0 _ W_0 false undef 0 (Nat.le_refl _) hS (Nat.le_refl _)  (fun h=>nomatch h)
 subst hlm hlo hlq hla hRG
 exact hn
end
end Go.Proofs.YtniaimjknmhapaaGreatDoor
namespace Go.Proofs.YtniaimjknmhapaaGreatDoor
open Go.Proofs.Tryz Go.RowKit
section
variable (w:World)
theorem cbvalid_any (b:Bks) (hb:b.At w w.heap.size):Calls prog 21 #[.agg #[.string b.g.cur,.int .i64 b.g.Y,.int .i64 b.g.M,.int .i64 b.g.N,.slice b.g.cA b.g.cn b.g.cc,.int .i64 b.g.r0,.int .i64 b.g.r1,.int .i64 b.g.r2,.int .i64 b.g.r3,.int .i64 b.g.r4,.int .i64 b.g.r5,.int .i64 b.g.r6,.int .i64 b.g.r7,.int .i64 b.g.r8,.int .i64 b.g.r9,.int .i64 b.g.r10,.int .i64 b.g.r11,.int .i64 b.g.r12,.int .i64 b.g.r13,.int .i64 b.g.r14,.slice b.g.eA b.g.en b.g.ec,.slice b.eA b.en b.ec,.slice b.rA b.rn b.rc,.slice b.hA b.hn b.hc,b.m0,b.m1,b.m2]] w fun ev w'=>ev=.returned (.bool (Cb.valid b))/\Below w.heap.size w w':=by
 obtain⟨W1,hW1,hB0,hb0,hz⟩:=nw1 w #[.string b.g.cur,.int .i64 b.g.Y,.int .i64 b.g.M,.int .i64 b.g.N,.slice b.g.cA b.g.cn b.g.cc,.int .i64 b.g.r0,.int .i64 b.g.r1,.int .i64 b.g.r2,.int .i64 b.g.r3,.int .i64 b.g.r4,.int .i64 b.g.r5,.int .i64 b.g.r6,.int .i64 b.g.r7,.int .i64 b.g.r8,.int .i64 b.g.r9,.int .i64 b.g.r10,.int .i64 b.g.r11,.int .i64 b.g.r12,.int .i64 b.g.r13,.int .i64 b.g.r14,.slice b.g.eA b.g.en b.g.ec,.slice b.eA b.en b.ec,.slice b.rA b.rn b.rc,.slice b.hA b.hn b.hc,b.m0,b.m1,b.m2] 36
 have HW:=Z1 hW1
 have HB1:=Z1 (hb.at_ hB0)
 have HB0:=Z1 hB0
 have Hb0:=Z1 hb0
 have hrg:W1.rangeAt w.heap.size 0 [.string (b.g).cur,.int .i64 (b.g).Y,.int .i64 (b.g).M,.int .i64 (b.g).N,.slice (b.g).cA (b.g).cn (b.g).cc,.int .i64 (b.g).r0,.int .i64 (b.g).r1,.int .i64 (b.g).r2,.int .i64 (b.g).r3,.int .i64 (b.g).r4,.int .i64 (b.g).r5,.int .i64 (b.g).r6,.int .i64 (b.g).r7,.int .i64 (b.g).r8,.int .i64 (b.g).r9,.int .i64 (b.g).r10,.int .i64 (b.g).r11,.int .i64 (b.g).r12,.int .i64 (b.g).r13,.int .i64 (b.g).r14,.slice (b.g).eA (b.g).en (b.g).ec]:=fun j v hj=>by have:=cr9 j hb0;rw [Nat.zero_add,this];exact bks_get hj
 have x21:=cr9 21 hb0
 simp at x21
 have s0:=some_lt hb0
 have Hj:=Z1 (jcheck_any W1 b.g b.eA b.en b.ec b.ents HB1.out.hg HB1.out.hel HB1.out.hen HB1.out.hE HB1.out.hEx)
 have HV:Hid (Cb.valid b=(Jr.ok b.g (b.ents.map (·.c))&&Rates.valid b.g.cur b.rates&&Hd.valid b.g.ents.length b.holds)):=Z1 rfl
 obtain⟨j,hj⟩:∃ j,j=Jr.ok b.g (b.ents.map (·.c)):=⟨_,rfl⟩
 obtain⟨r,hr⟩:∃ r,r=Rates.valid b.g.cur b.rates:=⟨_,rfl⟩
 obtain⟨h,hh⟩:∃ h,h=Hd.valid b.g.ents.length b.holds:=⟨_,rfl⟩
 rw [<- hj] at Hj
 rw [<- hj,<- hr,<- hh] at HV
 have Hr:Hid (∀ W:World,b.At W W.heap.size->Calls prog 48 #[.string b.g.cur,.slice b.rA b.rn b.rc] W fun e w'=>e=.returned (.bool r)/\Below W.heap.size W w'):=Z1 (fun W hW=>by rw [hr];exact dvalidr_any W b.rA b.rn b.rc b.rates b.g.cur hW.hrl (by have:=hW.hrn;omega) hW.hg.hn hW.hRw hW.hR)
 have Hh:Hid (∀ W:World,b.At W W.heap.size->Calls prog 49 #[.int .i64 b.g.en,.slice b.hA b.hn b.hc] W fun e w'=>e=.returned (.bool h)/\Below W.heap.size W w'):=Z1 (fun W hW=>by
  have h1:=hvalid_any W b.g.ents.length b.hA b.hn b.hc b.holds (by have:=hW.hg.hel;have:=hW.hg.hen;omega) hW.hhl (by have:=hW.hhn;omega) hW.hHw hW.hH
  rw [<- hh,hW.hg.hel] at h1
  exact h1)
 clear hW1 hz hb0 hb hB0 hj hr hh
 go_enter func21,ntmps21
 go_upto_region 1 with(fail)
 rw [<- HW.out]
 go_wp2_with (refine wpList_load_want (by rfl) 29 (.tmp 6) rfl w.heap.size 0 rfl _ _ hrg underlying29 rfl grpSize ?_)
 refine Hj.out.mono ?_
 rintro ev W2 ⟨⟨i,m,rfl,hm⟩,hB2⟩
 have HB2:=Z1 hB2
 have hq2:=hB2.size
 have hb2:=gbox Hb0.out hB2 s0
 have Hb2:=Z1 hb2
 have HBk2:=Z1 (HB1.out.at_ hB2)
 have y0:=cr9 0 hb2
 have y22:=cr9 22 hb2
 simp at y0 y22
 have s2:=some_lt hb2
 have HBF:=Z1 (HB0.out.trans (hB2.mono (by omega)))
 clear hrg x21 hB2 hb2
 by_cases hm0:m=0
 case neg =>
  have hj2:j=false:=by cases j with | false=>rfl | true=>exact absurd (hm.2 rfl) hm0
  have HV2:Hid (Cb.valid b=false):=by show _=_;rw [HV.out,hj2];rfl
  have k1:(m==0)=false:=by simp [hm0]
  clear hm hm0 hj2
  go_wp2
  go_ret
  exact⟨by rw [HV2.out];rfl,HBF.out⟩
 have hj2:j=true:=hm.1 hm0
 have k1:(m==0)=true:=by simp [hm0]
 have HV2:Hid (Cb.valid b=(r&&h)):=by show _=_;rw [HV.out,hj2];rfl
 clear hm hm0 hj2
 go_wp2_with (fail)
 refine(Hr.out _ HBk2.out).mono ?_
 rintro ev W3 ⟨rfl,hB3⟩
 have hq3:=hB3.size
 have hb3:=gbox Hb2.out hB3 s2
 have HBk3:=Z1 (HBk2.out.at_ hB3)
 have z20:=cr9 20 hb3
 have z23:=cr9 23 hb3
 simp at z20 z23
 have s3:=some_lt hb3
 have HBG:=Z1 (HBF.out.trans (hB3.mono (by have:=HBF.out.size;omega)))
 clear y0 y22 hB3 hb3
 cases r with
 | false =>
  have HV3:Hid (Cb.valid b=false):=by show _=_;rw [HV2.out];rfl
  go_wp2
  go_ret
  exact⟨by rw [HV3.out];rfl,HBG.out⟩
 | true =>
 have HV3:Hid (Cb.valid b=h):=by show _=_;rw [HV2.out];rfl
 go_wp2_with (fail)
 refine(Hh.out _ HBk3.out).mono ?_
 rintro ev W4 ⟨rfl,hB4⟩
 have HBH:=Z1 (HBG.out.trans (hB4.mono (by have:=HBG.out.size;omega)))
 go_wp2
 go_ret
 exact⟨by rw [HV3.out];rfl,HBH.out⟩
def QOne (e:Nat) (_ N D:Int):Prop:=e=0->N=1/\D=1
theorem effz_any (b:Bks) (d:Int):Calls prog 53 #[.agg #[.string b.g.cur,.int .i64 b.g.Y,.int .i64 b.g.M,.int .i64 b.g.N,.slice b.g.cA b.g.cn b.g.cc,.int .i64 b.g.r0,.int .i64 b.g.r1,.int .i64 b.g.r2,.int .i64 b.g.r3,.int .i64 b.g.r4,.int .i64 b.g.r5,.int .i64 b.g.r6,.int .i64 b.g.r7,.int .i64 b.g.r8,.int .i64 b.g.r9,.int .i64 b.g.r10,.int .i64 b.g.r11,.int .i64 b.g.r12,.int .i64 b.g.r13,.int .i64 b.g.r14,.slice b.g.eA b.g.en b.g.ec,.slice b.eA b.en b.ec,.slice b.rA b.rn b.rc,.slice b.hA b.hn b.hc,b.m0,b.m1,b.m2],.int .i64 (0:Nat),.int .i64 d] w (EffPost 3 (QOne 0) d w):=by
 obtain⟨W1,hW1,hB0,hb0,hr0,hz⟩:=nw2 w #[.string b.g.cur,.int .i64 b.g.Y,.int .i64 b.g.M,.int .i64 b.g.N,.slice b.g.cA b.g.cn b.g.cc,.int .i64 b.g.r0,.int .i64 b.g.r1,.int .i64 b.g.r2,.int .i64 b.g.r3,.int .i64 b.g.r4,.int .i64 b.g.r5,.int .i64 b.g.r6,.int .i64 b.g.r7,.int .i64 b.g.r8,.int .i64 b.g.r9,.int .i64 b.g.r10,.int .i64 b.g.r11,.int .i64 b.g.r12,.int .i64 b.g.r13,.int .i64 b.g.r14,.slice b.g.eA b.g.en b.g.ec,.slice b.eA b.en b.ec,.slice b.rA b.rn b.rc,.slice b.hA b.hn b.hc,b.m0,b.m1,b.m2] #[.bool false,.slice none 0 0,.bool false,.slice none 0 0] 36 43
 have HW:=Z1 hW1
 have HB0:=Z1 hB0
 have Hr0:=Z1 hr0
 have s1:=some_lt hr0
 have hof:=ratofg_any W1 1 1 (by omega) (by omega) (by omega) (by omega) (by omega)
 have e1:Int.tdiv 1 (redBy 1 1)=1:=by decide
 rw [e1] at hof
 have Hof:=Z1 hof
 clear hW1 hz hb0 hr0 hB0 hof e1
 go_enter func53,ntmps53
 go_upto_region 1 with(fail)
 rw [<- HW.out]
 go_wp2_with (fail)
 refine Hof.out.mono ?_
 rintro ev W2 ⟨⟨rv,rfl,hr⟩,hB2⟩
 obtain⟨g1,A1,n1,c1,g2,A2,n2,c2,rfl⟩:=hr.open
 obtain⟨x,hx⟩:∃ x:Rn,x=⟨g1,A1,n1,c1,g2,A2,n2,c2⟩:=⟨_,rfl⟩
 have HR2:=Z1 hr
 have hq2:=hB2.size
 have HBF:=Z1 (HB0.out.trans (hB2.mono (by omega)))
 have Hr2:=Z1 (gbox Hr0.out hB2 s1)
 obtain⟨W3,hW3,hB3,hb3,hz3⟩:=nw1 W2 #[.bool g1,.slice A1 n1 c1,.bool g2,.slice A2 n2 c2] 43
 have HW3:=Z1 hW3
 have Hb3:=Z1 hb3
 have Hr3:=Z1 (gbox Hr2.out hB3 (some_lt Hr2.out))
 have HR3:=Z1 (hr.at_ hB3)
 have HB3:=Z1 (HBF.out.trans (hB3.mono HBF.out.size))
 have Hone:Hid ((#[.bool g1,.slice A1 n1 c1,.bool g2,.slice A2 n2 c2]:Array Value).all (·.oneCell')=true):=by show _=true;simp [Value.oneCell']
 have hRF:=setRow_heap W3 (w.heap.size+1) _ #[.bool g1,.slice A1 n1 c1,.bool g2,.slice A2 n2 c2] _ _ Hr3.out
 have Hload:=Z1 (run_loadVar_row (P:=prog) _ _ _ 43 _ _ _ hRF underlying43 rfl ratSize)
 have hBZ:=Z1 (below_setRow HB3.out (show w.heap.size<=w.heap.size+1 by omega) #[.bool g1,.slice A1 n1 c1,.bool g2,.slice A2 n2 c2])
 have hp:=Z1 ((HR3.out.other (w':=W3.setRow (w.heap.size+1) #[.bool g1,.slice A1 n1 c1,.bool g2,.slice A2 n2 c2]) Hr3.out zero_none (fun c hc=>setRow_other _ _ _ _ hc)).more (C:=(W3.setRow (w.heap.size+1) #[.bool g1,.slice A1 n1 c1,.bool g2,.slice A2 n2 c2]).heap.size) (by simp) (Nat.le_refl 3) (Nat.le_refl 3))
 have hld:=Hb3.out
 clear hr hB2 hW3 hB3 hb3 hz3 hRF hx
 go_upto_region 3 with(fail)
 rw [<- HW3.out]
 go_wp2_with (first | (refine wpList_load_row rfl 43 _ rfl _ rfl _ _ _ _ hld underlying43 rfl ratSize ?_) | (refine wpList_store_row rfl 43 (.tmp 6) (.tmp 17) none rfl rfl (w.heap.size+1) 43 _ #[.bool g1,.slice A1 n1 c1,.bool g2,.slice A2 n2 c2] rfl rfl Hr3.out rfl ratSize Hone.out ?_))
 exact bodyPost_ret (v:=.agg #[.bool g1,.slice A1 n1 c1,.bool g2,.slice A2 n2 c2]) (by simp [results,results53,asAddr,Act.put,Hload.out]) rfl ⟨hBZ.out,⟨g1,A1,n1,c1,g2,A2,n2,c2⟩,1,1,rfl,hp.out,fun _=>⟨rfl,rfl⟩⟩
end
end Go.Proofs.YtniaimjknmhapaaGreatDoor
namespace Go.Proofs.YtniaimjknmhapaaGreatDoor
open Go.Proofs.Tryz Go.RowKit
def OfPar (b:Bks) (p:Int) (w:World) (ev:Ending) (w':World):Prop :=
 Below w.heap.size w w'/\(((Cb.valid b=false∨Tr.items b 0 p=none)/\∃ n,n≠0/\ev=.returned (.tuple #[Ctn.zero.v,.int .i64 n])) ∨
  ∃(its:List Itm) (x:Ctn),Cb.valid b=true/\Tr.items b 0 p=some its/\ev=.returned (.tuple #[x.v,.int .i64 0])/\x.meth=3/\x.n=its.length/\its.length<=3660 /\
   RowsAt Itm.cells 7 w' w'.heap.size x.A its/\x.B=none/\x.m=0/\Fresh w.heap.size x.A/\RI w' w'.heap.size 3 3 x.s.v 1 1)
section
variable (w:World)
theorem ofbad_any (b:Bks) (E p:Int) (h:Cal.err b.g.Y b.g.M b.g.N p≠0):Calls prog 22 #[.agg #[.string b.g.cur,.int .i64 b.g.Y,.int .i64 b.g.M,.int .i64 b.g.N,.slice b.g.cA b.g.cn b.g.cc,.int .i64 b.g.r0,.int .i64 b.g.r1,.int .i64 b.g.r2,.int .i64 b.g.r3,.int .i64 b.g.r4,.int .i64 b.g.r5,.int .i64 b.g.r6,.int .i64 b.g.r7,.int .i64 b.g.r8,.int .i64 b.g.r9,.int .i64 b.g.r10,.int .i64 b.g.r11,.int .i64 b.g.r12,.int .i64 b.g.r13,.int .i64 b.g.r14,.slice b.g.eA b.g.en b.g.ec,.slice b.eA b.en b.ec,.slice b.rA b.rn b.rc,.slice b.hA b.hn b.hc,b.m0,b.m1,b.m2],.int .i64 E,.int .i64 p] w fun ev w'=>ev=.returned (.tuple #[Ctn.zero.v,.int .i64 2])/\Below w.heap.size w w':=by
 obtain⟨W1,hW1,hB0,hb0,hr0,hz⟩:=nw2 w #[.string b.g.cur,.int .i64 b.g.Y,.int .i64 b.g.M,.int .i64 b.g.N,.slice b.g.cA b.g.cn b.g.cc,.int .i64 b.g.r0,.int .i64 b.g.r1,.int .i64 b.g.r2,.int .i64 b.g.r3,.int .i64 b.g.r4,.int .i64 b.g.r5,.int .i64 b.g.r6,.int .i64 b.g.r7,.int .i64 b.g.r8,.int .i64 b.g.r9,.int .i64 b.g.r10,.int .i64 b.g.r11,.int .i64 b.g.r12,.int .i64 b.g.r13,.int .i64 b.g.r14,.slice b.g.eA b.g.en b.g.ec,.slice b.eA b.en b.ec,.slice b.rA b.rn b.rc,.slice b.hA b.hn b.hc,b.m0,b.m1,b.m2] #[.int .i64 0,.int .i64 0,.int .i64 0,.bool false,.slice none 0 0,.bool false,.slice none 0 0,.bool false,.slice none 0 0,.bool false,.slice none 0 0,.slice none 0 0,.slice none 0 0] 36 46
 have HW:=Z1 hW1
 have HB0:=Z1 hB0
 have Hr0:=Z1 hr0
 have x1:=cr9 1 hb0
 have x2:=cr9 2 hb0
 have x3:=cr9 3 hb0
 simp at x1 x2 x3
 have s0:=some_lt hb0
 have s1:=some_lt hr0
 have Hla:=Z1 (fun W=>dLast_bad b.g.Y b.g.M b.g.N p W h)
 obtain⟨er,her⟩:∃ er,er=Cal.err b.g.Y b.g.M b.g.N p:=⟨_,rfl⟩
 rw [<- her] at Hla h
 have k1:(er != 0)=true:=by simpa using h
 clear hW1 hz hb0 hr0 hB0 her h
 go_enter func22,ntmps22
 go_upto_region 1 with(fail)
 rw [<- HW.out]
 go_wp2_with (fail)
 refine(Hla.out _).mono ?_
 rintro ev W2 ⟨rfl,hB2⟩
 have HB2:=Z1 (HB0.out.trans (hB2.mono (by omega)))
 have Hr2:=Z1 (gbox Hr0.out hB2 s1)
 clear x1 x2 x3 hB2
 have Ho:Hid ((#[.int .i64 0,.int .i64 0,.int .i64 0,.bool false,.slice none 0 0,.bool false,.slice none 0 0,.bool false,.slice none 0 0,.bool false,.slice none 0 0,.slice none 0 0,.slice none 0 0]:Array Value).all (·.oneCell')=true):=Z1 (by simp [Value.oneCell'])
 have hR:=setRow_heap W2 (w.heap.size+1) _ #[.int .i64 0,.int .i64 0,.int .i64 0,.bool false,.slice none 0 0,.bool false,.slice none 0 0,.bool false,.slice none 0 0,.bool false,.slice none 0 0,.slice none 0 0,.slice none 0 0] _ _ Hr2.out
 have hload:=Z1 (run_loadVar_row (P:=prog) _ _ _ 46 _ _ _ hR underlying46 rfl ctnSize)
 have hBF:=Z1 (below_setRow HB2.out (show w.heap.size<=w.heap.size+1 by omega) #[.int .i64 0,.int .i64 0,.int .i64 0,.bool false,.slice none 0 0,.bool false,.slice none 0 0,.bool false,.slice none 0 0,.bool false,.slice none 0 0,.slice none 0 0,.slice none 0 0])
 clear hR
 go_wp2_with (refine wpList_store_row rfl 46 (.tmp 6) (.tmp 39) none rfl rfl (w.heap.size+1) 46 _ #[.int .i64 0,.int .i64 0,.int .i64 0,.bool false,.slice none 0 0,.bool false,.slice none 0 0,.bool false,.slice none 0 0,.bool false,.slice none 0 0,.slice none 0 0,.slice none 0 0] rfl rfl Hr2.out rfl ctnSize Ho.out ?_)
 exact bodyPost_ret (v:=.tuple #[.agg #[.int .i64 0,.int .i64 0,.int .i64 0,.bool false,.slice none 0 0,.bool false,.slice none 0 0,.bool false,.slice none 0 0,.bool false,.slice none 0 0,.slice none 0 0,.slice none 0 0],.int .i64 2]) (by simp [results,results22,asAddr,Act.put,hload.out]) rfl ⟨rfl,hBF.out⟩
theorem ofpar_any (b:Bks) (p:Int) (hb:b.At w w.heap.size):Calls prog 9 #[.agg #[.string b.g.cur,.int .i64 b.g.Y,.int .i64 b.g.M,.int .i64 b.g.N,.slice b.g.cA b.g.cn b.g.cc,.int .i64 b.g.r0,.int .i64 b.g.r1,.int .i64 b.g.r2,.int .i64 b.g.r3,.int .i64 b.g.r4,.int .i64 b.g.r5,.int .i64 b.g.r6,.int .i64 b.g.r7,.int .i64 b.g.r8,.int .i64 b.g.r9,.int .i64 b.g.r10,.int .i64 b.g.r11,.int .i64 b.g.r12,.int .i64 b.g.r13,.int .i64 b.g.r14,.slice b.g.eA b.g.en b.g.ec,.slice b.eA b.en b.ec,.slice b.rA b.rn b.rc,.slice b.hA b.hn b.hc,b.m0,b.m1,b.m2],.int .i64 0,.int .i64 p] w (OfPar b p w):=by
 obtain⟨W1,hW1,hB0,hb0,hr0,hz⟩:=nw2 w #[.string b.g.cur,.int .i64 b.g.Y,.int .i64 b.g.M,.int .i64 b.g.N,.slice b.g.cA b.g.cn b.g.cc,.int .i64 b.g.r0,.int .i64 b.g.r1,.int .i64 b.g.r2,.int .i64 b.g.r3,.int .i64 b.g.r4,.int .i64 b.g.r5,.int .i64 b.g.r6,.int .i64 b.g.r7,.int .i64 b.g.r8,.int .i64 b.g.r9,.int .i64 b.g.r10,.int .i64 b.g.r11,.int .i64 b.g.r12,.int .i64 b.g.r13,.int .i64 b.g.r14,.slice b.g.eA b.g.en b.g.ec,.slice b.eA b.en b.ec,.slice b.rA b.rn b.rc,.slice b.hA b.hn b.hc,b.m0,b.m1,b.m2] #[.int .i64 0,.int .i64 0,.int .i64 0,.bool false,.slice none 0 0,.bool false,.slice none 0 0,.bool false,.slice none 0 0,.bool false,.slice none 0 0,.slice none 0 0,.slice none 0 0] 36 46
 have HW:=Z1 hW1
 have HB1:=Z1 (hb.at_ hB0)
 have HB0:=Z1 hB0
 have Hb0:=Z1 hb0
 have Hr0:=Z1 hr0
 have s0:=some_lt hb0
 have s1:=some_lt hr0
 have hld:=hb0
 have Hv:=Z1 (cbvalid_any W1 b HB1.out)
 clear hW1 hz hb0 hr0 hb hB0
 go_enter func9,ntmps9
 go_upto_region 1 with(fail)
 rw [<- HW.out]
 go_wp2_with (refine wpList_load_row rfl 36 _ rfl _ rfl _ _ _ _ hld underlying36 rfl bksSize ?_)
 refine Hv.out.mono ?_
 rintro ev W2 ⟨rfl,hB2⟩
 have hq2:=hB2.size
 have HB2:=Z1 (HB0.out.trans (hB2.mono (by omega)))
 have Hb2:=Z1 (gbox Hb0.out hB2 s0)
 have Hr2:=Z1 (gbox Hr0.out hB2 s1)
 have HBk2:=Z1 (HB1.out.at_ hB2)
 clear hld hB2
 cases hv:Cb.valid b with
 | false =>
  have HV:=Z1 hv
  clear hv
  have Ho:Hid ((#[.int .i64 0,.int .i64 0,.int .i64 0,.bool false,.slice none 0 0,.bool false,.slice none 0 0,.bool false,.slice none 0 0,.bool false,.slice none 0 0,.slice none 0 0,.slice none 0 0]:Array Value).all (·.oneCell')=true):=Z1 (by simp [Value.oneCell'])
  have hR:=setRow_heap W2 (w.heap.size+1) _ #[.int .i64 0,.int .i64 0,.int .i64 0,.bool false,.slice none 0 0,.bool false,.slice none 0 0,.bool false,.slice none 0 0,.bool false,.slice none 0 0,.slice none 0 0,.slice none 0 0] _ _ Hr2.out
  have hload:=Z1 (run_loadVar_row (P:=prog) _ _ _ 46 _ _ _ hR underlying46 rfl ctnSize)
  have hBF:=Z1 (below_setRow HB2.out (show w.heap.size<=w.heap.size+1 by omega) #[.int .i64 0,.int .i64 0,.int .i64 0,.bool false,.slice none 0 0,.bool false,.slice none 0 0,.bool false,.slice none 0 0,.bool false,.slice none 0 0,.slice none 0 0,.slice none 0 0])
  clear hR
  go_wp2_with (refine wpList_store_row rfl 46 (.tmp 6) (.tmp 11) none rfl rfl (w.heap.size+1) 46 _ #[.int .i64 0,.int .i64 0,.int .i64 0,.bool false,.slice none 0 0,.bool false,.slice none 0 0,.bool false,.slice none 0 0,.bool false,.slice none 0 0,.slice none 0 0,.slice none 0 0] rfl rfl Hr2.out rfl ctnSize Ho.out ?_)
  exact bodyPost_ret (v:=.tuple #[.agg #[.int .i64 0,.int .i64 0,.int .i64 0,.bool false,.slice none 0 0,.bool false,.slice none 0 0,.bool false,.slice none 0 0,.bool false,.slice none 0 0,.slice none 0 0,.slice none 0 0],.int .i64 1]) (by simp [results,results9,asAddr,Act.put,hload.out]) rfl ⟨hBF.out,.inl ⟨.inl HV.out,1,by decide,rfl⟩⟩
 | true =>
 have HV:=Z1 hv
 have hgv:Gr.valid b.g=true:=by unfold Cb.valid Tr.valid Jr.ok at hv;simp only [Bool.and_eq_true] at hv;exact hv.1.1.1
 have hhv:Hd.valid b.g.ents.length b.holds=true:=by unfold Cb.valid at hv;simp only [Bool.and_eq_true] at hv;exact hv.2
 have hok:Cal.ok b.g.Y b.g.M b.g.N=true:=by unfold Gr.valid Gr.books at hgv;simp only [Bool.and_eq_true] at hgv;exact hgv.1.1.1.1.1.2
 have hel:0<b.g.ents.length:=by unfold Gr.valid at hgv;simp only [Bool.and_eq_true,decide_eq_true_eq] at hgv;omega
 have hld:=Hb2.out
 have hcall:Calls prog 22 #[.agg #[.string b.g.cur,.int .i64 b.g.Y,.int .i64 b.g.M,.int .i64 b.g.N,.slice b.g.cA b.g.cn b.g.cc,.int .i64 b.g.r0,.int .i64 b.g.r1,.int .i64 b.g.r2,.int .i64 b.g.r3,.int .i64 b.g.r4,.int .i64 b.g.r5,.int .i64 b.g.r6,.int .i64 b.g.r7,.int .i64 b.g.r8,.int .i64 b.g.r9,.int .i64 b.g.r10,.int .i64 b.g.r11,.int .i64 b.g.r12,.int .i64 b.g.r13,.int .i64 b.g.r14,.slice b.g.eA b.g.en b.g.ec,.slice b.eA b.en b.ec,.slice b.rA b.rn b.rc,.slice b.hA b.hn b.hc,b.m0,b.m1,b.m2],.int .i64 0,.int .i64 p] W2 (fun ev w'=>Below W2.heap.size W2 w'/\((Tr.items b 0 p=none/\∃ n,n≠0/\ev=.returned (.tuple #[Ctn.zero.v,.int .i64 n])) ∨
   ∃(its:List Itm) (x:Ctn),Tr.items b 0 p=some its/\ev=.returned (.tuple #[x.v,.int .i64 0])/\x.meth=3/\x.n=its.length/\its.length<=3660/\RowsAt Itm.cells 7 w' w'.heap.size x.A its/\x.B=none/\x.m=0/\Fresh W2.heap.size x.A/\RI w' w'.heap.size 3 3 x.s.v 1 1)):=by
  by_cases hp:0<=p/\p<b.g.N
  ·have hI:∀ W:World,b.At W W.heap.size->Calls prog 100 #[.agg #[.string (b.g).cur,.int .i64 (b.g).Y,.int .i64 (b.g).M,.int .i64 (b.g).N,.slice (b.g).cA (b.g).cn (b.g).cc,.int .i64 (b.g).r0,.int .i64 (b.g).r1,.int .i64 (b.g).r2,.int .i64 (b.g).r3,.int .i64 (b.g).r4,.int .i64 (b.g).r5,.int .i64 (b.g).r6,.int .i64 (b.g).r7,.int .i64 (b.g).r8,.int .i64 (b.g).r9,.int .i64 (b.g).r10,.int .i64 (b.g).r11,.int .i64 (b.g).r12,.int .i64 (b.g).r13,.int .i64 (b.g).r14,.slice (b.g).eA (b.g).en (b.g).ec],.slice b.hA b.hn b.hc,.int .i64 (0:Nat)] W (IvsPost [⟨-25568,84006,3⟩] W):=fun W hW =>
    ivs0_any W b.g b.hA b.hn b.hc b.holds hW.hg hW.hhl (by have:=hW.hhn;omega) hW.hHw hW.hH hhv
   have hl:=Cal.first_bd b.g.Y b.g.M b.g.N p hok hp.1 hp.2
   have hC:∀ W:World,b.At W W.heap.size->Calls prog 52 #[.agg #[.string (b.g).cur,.int .i64 (b.g).Y,.int .i64 (b.g).M,.int .i64 (b.g).N,.slice (b.g).cA (b.g).cn (b.g).cc,.int .i64 (b.g).r0,.int .i64 (b.g).r1,.int .i64 (b.g).r2,.int .i64 (b.g).r3,.int .i64 (b.g).r4,.int .i64 (b.g).r5,.int .i64 (b.g).r6,.int .i64 (b.g).r7,.int .i64 (b.g).r8,.int .i64 (b.g).r9,.int .i64 (b.g).r10,.int .i64 (b.g).r11,.int .i64 (b.g).r12,.int .i64 (b.g).r13,.int .i64 (b.g).r14,.slice (b.g).eA (b.g).en (b.g).ec],.slice b.hA b.hn b.hc,.int .i64 (0:Nat),.int .i64 (Cal.last b.g.Y b.g.M p)] W (CurPost ⟨-25568,84006,3⟩ W):=fun W hW =>
    current_any W b (0:Nat) (Cal.last b.g.Y b.g.M p) [⟨-25568,84006,3⟩] ⟨-25568,84006,3⟩ (by omega) (by
     have h1:(-25568:Int)<=Cal.last b.g.Y b.g.M p:=by omega
     have h2:Cal.last b.g.Y b.g.M p<84006:=by omega
     simp [h1,h2]) (by decide) hW hI
   refine(of3_any W2 b 0 p [⟨-25568,84006,3⟩] ⟨-25568,84006,3⟩ 3 (QOne 0) HBk2.out hel hok hp (by decide) rfl hC (fun W d _=>effz_any W b d) hI).mono ?_
   rintro ev W3 ⟨hB3,h⟩
   refine⟨hB3,?_⟩
   rcases h with h | ⟨its,x,h1,h2,_,h4,_,h6,h7,h8,h9,h10,hfq,N,D,h11,h12⟩
   ·exact .inl h
   ·obtain⟨rfl,rfl⟩:=h12 rfl
    have h8':=h8
    rw [Cb.acq_parent h1] at h8'
    exact .inr ⟨its,x,h1,h2,h4,h6,h7,h8',h9,h10,hfq,h11⟩
  ·have he:Cal.err b.g.Y b.g.M b.g.N p≠0:=fun h=>hp ((Cal.err_zero _ _ _ _).1 h).2
   refine(ofbad_any W2 b 0 p he).mono ?_
   rintro ev W3 ⟨rfl,hB3⟩
   exact⟨hB3,.inl ⟨by unfold Tr.items;exact if_neg (fun h=>hp h.2.2),2,by decide,rfl⟩⟩
 have Hcall:=Z1 hcall
 clear hcall hv hgv hhv hok hel
 go_wp2_with (refine wpList_load_row rfl 36 _ rfl _ rfl _ _ _ _ hld underlying36 rfl bksSize ?_)
 refine Hcall.out.mono ?_
 rintro ev W3 ⟨hB3,h⟩
 have HB3:=Z1 (HB2.out.trans (hB3.mono HB2.out.size))
 have Hr3:=Z1 (gbox Hr2.out hB3 (some_lt Hr2.out))
 have sr3:=some_lt Hr3.out
 clear hB3 hld
 rcases h with⟨hno,n,hn,rfl⟩ | ⟨its,x,h1,rfl,h3,h4,h5,h6,h7,h8,hfq,h9⟩
 ·have HN:=Z1 hno
  have Hn:=Z1 hn
  clear hno hn
  unfold Ctn.v Ctn.zero
  have Ho:Hid ((#[.int .i64 0,.int .i64 0,.int .i64 0,.bool false,.slice none 0 0,.bool false,.slice none 0 0,.bool false,.slice none 0 0,.bool false,.slice none 0 0,.slice none 0 0,.slice none 0 0]:Array Value).all (·.oneCell')=true):=Z1 (by simp [Value.oneCell'])
  have hR:=setRow_heap W3 (w.heap.size+1) _ #[.int .i64 0,.int .i64 0,.int .i64 0,.bool false,.slice none 0 0,.bool false,.slice none 0 0,.bool false,.slice none 0 0,.bool false,.slice none 0 0,.slice none 0 0,.slice none 0 0] _ _ Hr3.out
  have hload:=Z1 (run_loadVar_row (P:=prog) _ _ _ 46 _ _ _ hR underlying46 rfl ctnSize)
  have hBF:=Z1 (below_setRow HB3.out (show w.heap.size<=w.heap.size+1 by omega) #[.int .i64 0,.int .i64 0,.int .i64 0,.bool false,.slice none 0 0,.bool false,.slice none 0 0,.bool false,.slice none 0 0,.bool false,.slice none 0 0,.slice none 0 0,.slice none 0 0])
  clear hR
  unfold Rn.zero
  go_wp2_with (refine wpList_store_row rfl 46 (.tmp 6) (.tmp 16) none rfl rfl (w.heap.size+1) 46 _ #[.int .i64 0,.int .i64 0,.int .i64 0,.bool false,.slice none 0 0,.bool false,.slice none 0 0,.bool false,.slice none 0 0,.bool false,.slice none 0 0,.slice none 0 0,.slice none 0 0] rfl rfl Hr3.out rfl ctnSize Ho.out ?_)
  exact bodyPost_ret (v:=.tuple #[.agg #[.int .i64 0,.int .i64 0,.int .i64 0,.bool false,.slice none 0 0,.bool false,.slice none 0 0,.bool false,.slice none 0 0,.bool false,.slice none 0 0,.slice none 0 0,.slice none 0 0],.int .i64 n]) (by simp [results,results9,asAddr,Act.put,hload.out]) rfl ⟨hBF.out,.inl ⟨.inr HN.out,n,Hn.out,rfl⟩⟩
 ·have H6:=Z1 h6
  have H9:=Z1 h9
  have Hfq:=Z1 hfq
  have Hx:Hid (x.meth=3/\x.n=its.length/\its.length<=3660/\x.B=none/\x.m=0):=Z1 ⟨h3,h4,h5,h7,h8⟩
  have H1:=Z1 h1
  clear h1 h3 h4 h5 h6 h7 h8 h9 hfq
  unfold Ctn.v
  have Ho:Hid ((#[.int .i64 x.ent,.int .i64 x.meth,.int .i64 x.since,.bool x.s.g1,.slice x.s.A1 x.s.n1 x.s.c1,.bool x.s.g2,.slice x.s.A2 x.s.n2 x.s.c2,.bool x.f.g1,.slice x.f.A1 x.f.n1 x.f.c1,.bool x.f.g2,.slice x.f.A2 x.f.n2 x.f.c2,.slice x.A x.n x.c,.slice x.B x.m x.d]:Array Value).all (·.oneCell')=true):=Z1 (by simp [Value.oneCell'])
  have hR:=setRow_heap W3 (w.heap.size+1) _ #[.int .i64 x.ent,.int .i64 x.meth,.int .i64 x.since,.bool x.s.g1,.slice x.s.A1 x.s.n1 x.s.c1,.bool x.s.g2,.slice x.s.A2 x.s.n2 x.s.c2,.bool x.f.g1,.slice x.f.A1 x.f.n1 x.f.c1,.bool x.f.g2,.slice x.f.A2 x.f.n2 x.f.c2,.slice x.A x.n x.c,.slice x.B x.m x.d] _ _ Hr3.out
  have hload:=Z1 (run_loadVar_row (P:=prog) _ _ _ 46 _ _ _ hR underlying46 rfl ctnSize)
  have hBF:=Z1 (below_setRow HB3.out (show w.heap.size<=w.heap.size+1 by omega) #[.int .i64 x.ent,.int .i64 x.meth,.int .i64 x.since,.bool x.s.g1,.slice x.s.A1 x.s.n1 x.s.c1,.bool x.s.g2,.slice x.s.A2 x.s.n2 x.s.c2,.bool x.f.g1,.slice x.f.A1 x.f.n1 x.f.c1,.bool x.f.g2,.slice x.f.A2 x.f.n2 x.f.c2,.slice x.A x.n x.c,.slice x.B x.m x.d])
  have HFF:=Z1 (H9.out.other (w':=W3.setRow (w.heap.size+1) #[.int .i64 x.ent,.int .i64 x.meth,.int .i64 x.since,.bool x.s.g1,.slice x.s.A1 x.s.n1 x.s.c1,.bool x.s.g2,.slice x.s.A2 x.s.n2 x.s.c2,.bool x.f.g1,.slice x.f.A1 x.f.n1 x.f.c1,.bool x.f.g2,.slice x.f.A2 x.f.n2 x.f.c2,.slice x.A x.n x.c,.slice x.B x.m x.d]) Hr3.out (none13 _ rfl) (fun c hc=>setRow_other _ _ _ _ hc))
  have HAF:=Z1 (RowsAt.other_row H6.out (n:=W2.heap.size) Hfq.out (show w.heap.size+1<W2.heap.size by have:=some_lt Hr2.out;omega) #[.int .i64 x.ent,.int .i64 x.meth,.int .i64 x.since,.bool x.s.g1,.slice x.s.A1 x.s.n1 x.s.c1,.bool x.s.g2,.slice x.s.A2 x.s.n2 x.s.c2,.bool x.f.g1,.slice x.f.A1 x.f.n1 x.f.c1,.bool x.f.g2,.slice x.f.A2 x.f.n2 x.f.c2,.slice x.A x.n x.c,.slice x.B x.m x.d])
  clear hR
  go_wp2_with (refine wpList_store_row rfl 46 (.tmp 6) (.tmp 16) none rfl rfl (w.heap.size+1) 46 _ #[.int .i64 x.ent,.int .i64 x.meth,.int .i64 x.since,.bool x.s.g1,.slice x.s.A1 x.s.n1 x.s.c1,.bool x.s.g2,.slice x.s.A2 x.s.n2 x.s.c2,.bool x.f.g1,.slice x.f.A1 x.f.n1 x.f.c1,.bool x.f.g2,.slice x.f.A2 x.f.n2 x.f.c2,.slice x.A x.n x.c,.slice x.B x.m x.d] rfl rfl Hr3.out rfl ctnSize Ho.out ?_)
  refine bodyPost_ret (v:=.tuple #[.agg #[.int .i64 x.ent,.int .i64 x.meth,.int .i64 x.since,.bool x.s.g1,.slice x.s.A1 x.s.n1 x.s.c1,.bool x.s.g2,.slice x.s.A2 x.s.n2 x.s.c2,.bool x.f.g1,.slice x.f.A1 x.f.n1 x.f.c1,.bool x.f.g2,.slice x.f.A2 x.f.n2 x.f.c2,.slice x.A x.n x.c,.slice x.B x.m x.d],.int .i64 0]) (by simp [results,results9,asAddr,Act.put,hload.out]) rfl ?_
  exact⟨hBF.out,.inr ⟨its,x,HV.out,H1.out,rfl,Hx.out.1,Hx.out.2.1,Hx.out.2.2.1,HAF.out,Hx.out.2.2.2.1,Hx.out.2.2.2.2,fun ad h=>by have h1:=Hfq.out ad h;have h2:=HB2.out.size;omega,by have:=HFF.out;simpa using this⟩⟩
end
end Go.Proofs.YtniaimjknmhapaaGreatDoor
