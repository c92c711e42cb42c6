/- My texts DeskR, DeskI, DeskO. -/
import Derived.Test.YtniaimjknmhapaaGreatDoorG27
set_option linter.unusedVariables false
set_option linter.unusedSimpArgs false
set_option maxRecDepth 100000
set_option maxHeartbeats 16000000
namespace Go.Proofs.YtniaimjknmhapaaGreatDoor
open Go.Proofs.Tryz Go.RowKit Go.Maps
structure Dk (B:Nat) (w:World) (b:Bks) (e:Nat) (p la:Int) (cur:ByteArray) (cv:Bool):Prop where
 hB:B<=w.heap.size
 hb:b.At w B
 hv:Gr.valid b.g=true
 he:e<b.g.ents.length
 hp:0<=p/\p<b.g.N
 hla:la=Cal.last b.g.Y b.g.M p
 hcur:cur=(Gr.eat b.g.ents e).cur
 hcv:cv=decide (cur≠b.g.cur)
theorem Dk.below {B:Nat} {w w':World} {b:Bks} {e:Nat} {p la:Int} {cur:ByteArray} {cv:Bool} (h:Dk B w b e p la cur cv) (hb:Below B w w') (hB:B<=w'.heap.size):Dk B w' b e p la cur cv :=
 ⟨hB,h.hb.below hb lR,h.hv,h.he,h.hp,h.hla,h.hcur,h.hcv⟩
theorem Dk.la_date {B:Nat} {w:World} {b:Bks} {e:Nat} {p la:Int} {cur:ByteArray} {cv:Bool} (h:Dk B w b e p la cur cv):Gr.date la=true/\(Lit.int .i64 la).wf=true:=by
 have:=Cal.first_bd b.g.Y b.g.M b.g.N p (Gr.cal_ok h.hv) h.hp.1 h.hp.2;rw [h.hla]
 constructor
 ·unfold Gr.date;simp;omega
 ·simp [Lit.wf,IntKind.min,IntKind.max,IntKind.signed,IntKind.bits];omega
def RatePost (B bd mk nk:Nat) (b:Bks) (e:Nat) (p la:Int) (cur:ByteArray) (cv:Bool) (o:Option (Int × Int)) (w:World) (ev:Ending) (w':World):Prop :=
 Kp B mk w w'/\B<=w'.heap.size/\Desks B w' bd mk nk b e p la cur cv/\∃ a v m,ev=.returned (.tuple #[.int .i64 a,.int .i64 v,.int .i64 m])/\(m=0 ↔ o.isSome=true)/\∀ x,o=some x->(a,v)=x
theorem a6o {b:Bks} {w:World} {B:Nat} (hb:b.At w B) (m:Int):(Lit.int .i64 (Ch.found b.g.chart m).basis).wf=true:=by
 unfold Ch.found
 cases h:Ch.find b.g.chart m with
 | none=>rfl
 | some a =>
  have:=hb.hg.hcw a (List.mem_of_find?_eq_some h);exact this.2.2.1
section
variable (w:World)
theorem b0K (B bd mk nk:Nat) (b:Bks) (e:Nat) (p la:Int) (cur:ByteArray) (cv:Bool) (ac d:Int) (hk:Dk B w b e p la cur cv) (hd:Desks B w bd mk nk b e p la cur cv) (hac:(Lit.int .i64 ac).wf=true) (hdd:(Lit.int .i64 d).wf=true) (hn:nk<=100000) :
  Calls prog 62 #[.pointer (some ⟨bd,0,none⟩),.int .i64 ac,.int .i64 d] w (RatePost B bd mk (nk+1) b e p la cur cv (Tr.rateOf b e la ac d) w):=by
 have HK:=Z1 hk;have HD:=Z1 hd;obtain⟨f,hd⟩:=hd;have Hb:=Z1 hd.hb;have sd:bd<w.heap.size:=Vq hd.hb;have hB:=hk.hB;obtain⟨x,hx⟩:∃ x,x=Gr.eat b.g.ents e:=⟨_,rfl⟩;have hx2:b.g.ents[e]'hk.he=x:=by rw [hx];unfold Gr.eat;simp [hk.he]
 have hxa:x.At w B:=by rw [<- hx2];exact hk.hb.hg.hea _ (List.getElem_mem _)
 obtain⟨be,oe,hAe,hbe,hre⟩:=RowsAt.look hk.hb.hg.he hk.he;rw [hx2] at hre;obtain⟨Hre,Hxa,Hx⟩:=Z3 hre hxa hx;have hen:(e:Int)<(b.g.en:Int):=by have:=hk.he;have:=hk.hb.hg.hel;omega
 have hsb:be<w.heap.size:=oM;have HAe:=Z1 hAe
 have HV:Hid (Tr.rateOf b e la ac d=(Tr.mapAt x ac la).bind (fun m=>if Ch.has b.g.chart m=true/\(Tr.look b x.cur la (Ch.found b.g.chart m).basis d).2=0 then some (m,(Tr.look b x.cur la (Ch.found b.g.chart m).basis d).1) else none)):=by
  show _=_;rw [hx];rfl
 have Hcur:Hid (cur=x.cur):=by show _=_;rw [hx];exact hk.hcur
 have Hat:=Z1 (fun(W:World) (hW:Below w w W)=>a9t W x ac la ((hxa.below (hW.mono hB) lR).more (by have:=hW.size;omega)) hk.la_date.1);have Hbas:=Z1 (fun m=>a6o hk.hb m);clear hk hd hx hx2 hxa hre hAe;go_enter func62,ntmps62;go_upto_region 1 with(fail);have hS:Below w w w.drew:=Vw bR 1;refine wp_region_held (S:=Below w w) kR ?_;change wpAnyH _ _ _ _ _ _ _ _ (World.drew w);obtain⟨W_0,hWd⟩:∃ W0,W0=w.drew:=⟨_,rfl⟩;rw [<- hWd] at hS ⊢;clear hWd;refine jT 0 hS ?_;refine jT 1 hS ?_;refine jT 2 hS ?_;refine jT 3 hS ?_;refine jT 4 hS ?_;refine jT 5 hS ?_ (v:=.slice (some ⟨be,oe,none⟩) b.g.en b.g.ec) (hy:=(.inl ⟨by rfl,fun W' hS'=>by have c0:=cr9 20 (gbox Hb.out hS' sd);simp at c0;have c9:=Vq (gbox Hb.out hS' sd);have ha:=HAe.out;rw [ha] at c0;go_simp⟩));refine jT 6 hS ?_;refine jT 7 hS ?_;refine jT 8 hS ?_;refine jT 9 hS ?_ (v:=.int .i64 e) (hy:=(.inl ⟨by rfl,fun W' hS'=>by have c0:=cr9 27 (gbox Hb.out hS' sd);simp at c0;have c9:=Vq (gbox Hb.out hS' sd);go_simp⟩));refine jT 10 hS ?_;refine jT 11 hS ?_ (v:=x) (hy:=(yieldsIf_load_mid (by rfl) 102 _ rfl be (oe+e*5) rfl x _ (fun W' hS'=>VV Hre.out hS' hsb) underlying102 rfl a1Q));refine jT 12 hS ?_;refine jT 13 hS ?_;refine jT 14 hS ?_;refine jT 15 hS ?_;refine jT 16 hS ?_ (v:=.int .i64 la) (hy:=(.inl ⟨by rfl,fun W' hS'=>by have c0:=cr9 29 (gbox Hb.out hS' sd);simp at c0;have c9:=Vq (gbox Hb.out hS' sd);go_simp⟩));refine rZ 17 fun K hK=>?_;have HC:=Z1 (Hat.out W_0 hS);go_simp;refine HC.out.mono ?_;rintro ev W2 ⟨⟨v,m,rfl,hm,hv⟩,hB2⟩;have hS2:=hS.trans (hB2.mono hS.size);refine jK hK hS2 ?_;clear hK K;refine jT 18 hS2 ?_;refine jT 19 hS2 ?_;refine jT 20 hS2 ?_;refine rZ 21 fun K hK=>?_;go_simp;refine jK hK hS2 ?_;clear hK K;refine rZ 22 fun K hK=>?_;go_simp;refine jK hK hS2 ?_;clear hK K;refine wpAnyH_done kR ?_ _
 try simp only [z]
 have HS2:=Z1 hS2;have hB2':B<=W2.heap.size:=by have:=hS2.size;omega
 have HD2:=Z1 (HD.out.below hS2);have HB2:=Z1 (hS2.mono hB);have HK2:=Z1 (HK.out.below HB2.out hB2');clear hS hS2 hB2
 by_cases h0:m=0
 case neg =>
  have k0:(m != 0)=true:=by simp [h0]
  have HN:Hid (Tr.rateOf b e la ac d=none):=by
   show _=_;rw [HV.out]
   cases hq:Tr.mapAt x ac la with
   | none=>rfl
   | some y=>exact absurd (hm.2 (by rw [hq];rfl)) h0
  clear hm hv h0;go_wp2;refine bodyPost_ret (results_tmp3 rfl _ _ _) rfl ?_;exact⟨Kp.of HS2.out hB,hB2',HD2.out.mono (Nat.le_succ _),0,0,15,rfl,by rw [HN.out];decide,fun y hy=>by rw [HN.out] at hy;cases hy⟩
 have k0:(m != 0)=false:=by simp [h0]
 obtain⟨y,hy⟩:=Option.isSome_iff_exists.1 (hm.1 h0);have hvy:=hv y hy;subst hvy;have HV2:Hid (Tr.rateOf b e la ac d=if Ch.has b.g.chart v=true/\(Tr.look b x.cur la (Ch.found b.g.chart v).basis d).2=0 then some (v,(Tr.look b x.cur la (Ch.found b.g.chart v).basis d).1) else none):=by show _=_;rw [HV.out,hy];rfl
 clear hm hv hy h0;have hb2:=gbox Hb.out HS2.out sd;have z4:=cr9 4 hb2;simp at z4;have sd2:bd<W2.heap.size:=Vq hb2;have hg2:=HK2.out.hb.hg;have Hf:=Z1 (a0M W2 b.g.cA b.g.cn b.g.cc b.g.chart v hg2.hcl hg2.hcn (RowsAt.more hg2.hc hB2'));clear hb2 hg2;go_upto_region 4 with(fail);go_wp2_with (fail);refine Hf.out.mono ?_;rintro ev W3 ⟨rfl,hB3⟩;obtain⟨q,hq⟩:∃ q,q=Ch.found b.g.chart v:=⟨_,rfl⟩;rw [<- hq];have hqw:Hid ((Lit.int .i64 q.basis).wf=true):=by show _=_;rw [hq];exact Hbas.out v
 rw [<- hq] at HV2;obtain⟨W4,hW4,hB4,hr4,hz4⟩:=nw1 W3 q 87;have HW4:=Z1 hW4;have hB24:=hB3.trans (hB4.mono hB3.size);have HB4:=Z1 (HB2.out.trans (hB24.mono hB2'));have HBw4:=bT HS2 hB24;have hB4':B<=W4.heap.size:=by have:=hB24.size;omega
 have HD4:=Z1 (HD2.out.below hB24);have HK4:=Z1 (HK2.out.below (hB24.mono hB2') hB4');have a2:=cr9 2 hr4;simp at a2;have s4:W3.heap.size<W4.heap.size:=Vq hr4;clear hq hW4 hr4 hz4 hB3 hB4 hB24 z4;go_upto_region 5 with(fail);rw [<- HW4.out]
 cases hh:Ch.has b.g.chart v with
 | false =>
  have HN:Hid (Tr.rateOf b e la ac d=none):=by show _=_;rw [HV2.out,hh];simp
  clear hh;go_wp2;refine bodyPost_ret (results_tmp3 rfl _ _ _) rfl ?_;exact⟨Kp.of HBw4.out hB,hB4',HD4.out.mono (Nat.le_succ _),0,0,15,rfl,by rw [HN.out];decide,fun y hy=>by rw [HN.out] at hy;cases hy⟩
 | true =>
  have HV3:Hid (Tr.rateOf b e la ac d=if (Tr.look b cur la q.basis d).2=0 then some (v,(Tr.look b cur la q.basis d).1) else none):=by show _=_;rw [HV2.out,hh,Hcur.out];simp
  have Hl:=Z1 (b1j W4 B bd mk nk b e p la cur cv q.basis d HD4.out HK4.out.hcv hB4' HK4.out.hb (Gr.cal_ok HK4.out.hv) (by rw [Hcur.out];exact Hxa.out.hu) hqw.out hdd HK4.out.la_date.2 hn);clear hh;go_wp2_with (fail);refine Hl.out.mono ?_;rintro ev W5 ⟨hB5,rfl,hd5⟩;obtain⟨r,hr⟩:∃ r,r=Tr.look b cur la q.basis d:=⟨_,rfl⟩;rw [<- hr];rw [<- hr] at HV3;have HBF:=Z1 ((Kp.of HBw4.out hB).trans hB5);have HDF:=Z1 hd5;have hBF:B<=W5.heap.size:=by have:=hB5.b.size;omega
  clear hr hd5 hB5 a2;go_wp2;refine bodyPost_ret (results_tmp3 rfl _ _ _) rfl ?_;refine⟨HBF.out,hBF,HDF.out,v,r.1,r.2,rfl,?_,fun y hy=>?_⟩
  ·rw [HV3.out];by_cases h:r.2=0 <;> simp [h]
  ·rw [HV3.out] at hy
   by_cases h:r.2=0
   ·rw [if_pos h] at hy;cases hy;rfl
   ·rw [if_neg h] at hy;cases hy
end
open Go.Proofs.Tryz Go.RowKit Go.Maps
theorem a0J:(prog.info? 57).map (·.size)=some 7:=kR
theorem itmOne (x:Itm):(x:Array Value).all (·.oneCell')=true:=oC
def Itm.zero:Itm:=⟨0,0,0,0,0,0,0⟩
def ItemPost (B bd mk nk:Nat) (b:Bks) (e:Nat) (p la:Int) (cur:ByteArray) (cv:Bool) (o:Option Itm) (w:World) (ev:Ending) (w':World):Prop :=
 Kp B mk w w'/\B<=w'.heap.size/\Desks B w' bd mk nk b e p la cur cv/\∃ x m,ev=.returned (.tuple #[.agg #[.int .i64 x.ent0,.int .i64 x.lin,.int .i64 x.ent,.int .i64 x.acct,.int .i64 x.partner,.int .i64 x.date,.int .i64 x.amt],.int .i64 m])/\(m=0 ↔ o.isSome=true)/\∀ y,o=some y->x=y
theorem ItemPost.bad {B bd mk nk e:Nat} {b:Bks} {p la:Int} {cur:ByteArray} {cv:Bool} {o:Option Itm} {w w':World} {m:Int} (ho:o=none) (hm:m≠0) (h1:Kp B mk w w') (h2:B<=w'.heap.size) (h3:Desks B w' bd mk nk b e p la cur cv):ItemPost B bd mk nk b e p la cur cv o w (.returned (.tuple #[.agg #[.int .i64 0,.int .i64 0,.int .i64 0,.int .i64 0,.int .i64 0,.int .i64 0,.int .i64 0],.int .i64 m])) w' :=
 ⟨h1,h2,h3,Itm.zero,m,rfl,by simp [ho,hm],fun y h=>by rw [ho] at h;cases h⟩
theorem Kp.then_ {B mk:Nat} {w w' w'':World} (h:Kp B mk w w') (k:Below w w' w'') (hB:B<=w.heap.size):Kp B mk w w'' :=
 ⟨h.b.trans (k.mono hB),fun i hi hn=>(k.block i hi).trans (h.k i hi hn)⟩
theorem Desks.setRow {B bd mk nk e i:Nat} {w:World} {b:Bks} {p la:Int} {cur:ByteArray} {cv:Bool} (h:Desks B w bd mk nk b e p la cur cv) (cs:Array Value) (h1:bd≠i) (h2:mk≠i):Desks B (w.setRow i cs) bd mk nk b e p la cur cv:=by
 obtain⟨f,h⟩:=h;exact⟨f,(setRow_other w i bd cs h1).trans h.hb,h.hB1,h.hB2,h.hm.kept (a1O w i cs) (by simpa using h2),h.hf⟩
theorem Tr.rate_has {b:Bks} {e:Nat} {la ac d m v:Int} (h:Tr.rateOf b e la ac d=some (m,v)):Ch.has b.g.chart m=true:=by
 unfold Tr.rateOf at h
 cases hq:Tr.mapAt (Gr.eat b.g.ents e) ac la with
 | none=>rw [hq] at h;cases h
 | some y =>
  rw [hq,Option.bind_some] at h
  split at h
  ·rename_i h2;cases h;exact h2.1
  ·cases h
section
variable (w:World)
theorem b1u (B bd mk nk:Nat) (b:Bks) (e:Nat) (p la:Int) (cur:ByteArray) (cv:Bool) (c:EtC) (A:Option Addr) (n kc k:Nat) (hk:Dk B w b e p la cur cv) (hd:Desks B w bd mk nk b e p la cur cv) (hx:(⟨c,A,n,kc⟩:Etr).At w B) (hkn:k<n) (hn:nk<=100000) :
  Calls prog 28 #[.pointer (some ⟨bd,0,none⟩),.agg #[.int .i64 c.id,.int .i64 c.ent,.int .i64 c.date,.int .i64 c.kind,.int .i64 c.of_,.string c.text,.slice A n kc],.int .i64 k] w (ItemPost B bd mk (nk+1) b e p la cur cv (Tr.item b e p c k) w):=by
 have hB:=hk.hB;have hkl:k<c.lines.length:=by have h1:c.lines.length=n:=hx.hl;omega
 obtain⟨bl,ol,hAe,hbl,hr⟩:=LinsAt.three hx.hA hkl;have hAe:A=some ⟨bl,ol,none⟩:=hAe;subst hAe;obtain⟨l,hl⟩:∃ l,l=Tr.lat c k:=⟨_,rfl⟩;have hl2:c.lines[k]=l:=by rw [hl];unfold Tr.lat;simp [hkl]
 have hr:w.rangeAt bl (ol+k*3) l:=by rw [<- hl2];exact hr
 have hlw:l.wf:=by rw [<- hl2];exact hx.hw.hlw _ (List.getElem_mem _)
 have HV:Hid (Tr.item b e p c k=(Tr.rateOf b e la l.acct c.date).bind (fun r=>(Tr.conv l.amt r.2).map (fun n=>⟨c.id,k,c.ent,Tr.shown b.g r.1 c.date (Cal.begin_ b.g.Y b.g.M p),l.prt,c.date,n⟩))):=by
  show _=_;unfold Tr.item;rw [<- hl,hk.hla]
 obtain⟨hB0,hb0,hb1,hb2,hz⟩:=a3d w #[.int .i64 c.id,.int .i64 c.ent,.int .i64 c.date,.int .i64 c.kind,.int .i64 c.of_,.string c.text,.slice (some ⟨bl,ol,none⟩) n kc] #[.int .i64 0,.int .i64 0,.int .i64 0,.int .i64 0,.int .i64 0,.int .i64 0,.int .i64 0] l 71 57 68;obtain⟨W1,hW1⟩:∃ W1,W1=(((w.alloc (.cells #[.int .i64 c.id,.int .i64 c.ent,.int .i64 c.date,.int .i64 c.kind,.int .i64 c.of_,.string c.text,.slice (some ⟨bl,ol,none⟩) n kc] 71)).alloc (.cells #[.int .i64 0,.int .i64 0,.int .i64 0,.int .i64 0,.int .i64 0,.int .i64 0,.int .i64 0] 57)).alloc (.cells l 68)):=⟨_,rfl⟩;have Hr0:Hid (((w.alloc (.cells #[.int .i64 c.id,.int .i64 c.ent,.int .i64 c.date,.int .i64 c.kind,.int .i64 c.of_,.string c.text,.slice (some ⟨bl,ol,none⟩) n kc] 71)).alloc (.cells #[.int .i64 0,.int .i64 0,.int .i64 0,.int .i64 0,.int .i64 0,.int .i64 0,.int .i64 0] 57)).rangeAt bl (ol+k*3) l):=Z1 (VV hr ((bR.alloc lR _).alloc sP _) (Nat.lt_of_lt_of_le hbl hB));rw [<- hW1] at hB0 hb0 hb1 hb2 hz;obtain⟨HW,Hk,HBw1⟩:=Z3 hW1 hk (Kp.of (mk:=mk) hB0 hB);have sm:mk<w.heap.size:=by obtain⟨f,h⟩:=hd;exact h.hm.lt
 have sbd:bd<w.heap.size:=by obtain⟨f,h⟩:=hd;exact Vq h.hb
 have hB1:B<=W1.heap.size:=oM;obtain⟨HK1,HD1,Hb0,Hb1,Hb2⟩:=Z5 (hk.below (hB0.mono hB) hB1) (hd.below hB0) hb0 hb1 hb2;have s1:w.heap.size<W1.heap.size:=oM;have s1':w.heap.size+1<W1.heap.size:=oM;have s1'':w.heap.size+2<W1.heap.size:=oM;have hsbl:bl<w.heap.size:=Nat.lt_of_lt_of_le hbl hB;have l0:=cr9 0 hb2;have c2:=cr9 2 hb0;simp at l0 c2;have hk0:(0:Int)<=(k:Int):=oM;have hkn':(k:Int)<(n:Int):=oM;have hcd:Hid ((Lit.int .i64 c.date).wf=true):=hx.hw.hda;have Hrt:=Z1 (b0K W1 B bd mk nk b e p la cur cv l.acct c.date HK1.out HD1.out hlw.1 hx.hw.hda hn);clear hW1 hz hb0 hb1 hb2 hr hl hl2 hk hd hx hlw hB0;go_enter func28,ntmps28;go_upto_region 1 with(fail);go_upto_region 2 with(refine wpList_load_mid rfl 68 (.tmp 17) rfl bl (ol+k*3) rfl l _ Hr0.out underlying68 rfl a1o ?_);rw [<- HW.out];go_wp2_with (fail);refine Hrt.out.mono ?_;rintro ev W2 ⟨hB2,hB2',hd2,a,v,m,rfl,hm,hv⟩;have hm1:w.heap.size≠mk:=oM;have hm2:w.heap.size+1≠mk:=oM;have hm3:w.heap.size+2≠mk:=oM;obtain⟨HBw2,HD2,HK2,He2,Hi2,Hl2⟩:=Z6 (HBw1.out.trans hB2) hd2 (HK1.out.below hB2.b hB2') (hB2.box Hb0.out hm1) (hB2.box Hb1.out hm2) (hB2.box Hb2.out hm3);have s2:=Vq He2.out;have s2':=Vq Hi2.out;have s2'':=Vq Hl2.out;clear hd2 hB2 l0 c2
 by_cases h0:m=0
 case neg =>
  have k0:(m != 0)=true:=by simp [h0]
  have Hm:=Z1 h0
  have HN:Hid (Tr.item b e p c k=none):=by
   show _=_;rw [HV.out]
   cases hq:Tr.rateOf b e la l.acct c.date with
   | none=>rfl
   | some y=>exact absurd (hm.2 (by rw [hq];rfl)) h0
  clear hm hv h0;have Ho:=Z1 (itmOne Itm.zero);have hR:=setRow_heap W2 (w.heap.size+1) _ #[.int .i64 0,.int .i64 0,.int .i64 0,.int .i64 0,.int .i64 0,.int .i64 0,.int .i64 0] _ _ Hi2.out;have hload:=Z1 (run_loadVar_row (P:=prog) _ _ _ 57 _ _ _ hR underlying57 rfl a0J);have hbs:=below_setRow (Below.refl w W2) (show w.heap.size<=w.heap.size+1 by omega) #[.int .i64 0,.int .i64 0,.int .i64 0,.int .i64 0,.int .i64 0,.int .i64 0,.int .i64 0];have HP:=Z1 (ItemPost.bad (m:=m) HN.out (Hm.out) (HBw2.out.then_ hbs hB) (by show B<=(W2.setRow (w.heap.size+1) #[.int .i64 0,.int .i64 0,.int .i64 0,.int .i64 0,.int .i64 0,.int .i64 0,.int .i64 0]).heap.size;have:=hbs.size;omega) (HD2.out.setRow #[.int .i64 0,.int .i64 0,.int .i64 0,.int .i64 0,.int .i64 0,.int .i64 0,.int .i64 0] (show bd≠w.heap.size+1 by omega) (show mk≠w.heap.size+1 by omega)):ItemPost B bd mk (nk+1) b e p la cur cv (Tr.item b e p c k) w (.returned (.tuple #[.agg #[.int .i64 0,.int .i64 0,.int .i64 0,.int .i64 0,.int .i64 0,.int .i64 0,.int .i64 0],.int .i64 m])) (W2.setRow (w.heap.size+1) #[.int .i64 0,.int .i64 0,.int .i64 0,.int .i64 0,.int .i64 0,.int .i64 0,.int .i64 0]));clear hR hbs ;go_wp2_with (refine Vx rfl 57 (.tmp 6) (.tmp 31) none rfl rfl (w.heap.size+1) 57 _ #[.int .i64 0,.int .i64 0,.int .i64 0,.int .i64 0,.int .i64 0,.int .i64 0,.int .i64 0] rfl rfl Hi2.out rfl a0J Ho.out ?_);exact bodyPost_ret (v:=.tuple #[.agg #[.int .i64 0,.int .i64 0,.int .i64 0,.int .i64 0,.int .i64 0,.int .i64 0,.int .i64 0],.int .i64 m]) (by simp [results,results28,asAddr,Act.put,hload.out]) rfl HP.out
 have k0:(m != 0)=false:=by simp [h0]
 obtain⟨y,hy⟩:=Option.isSome_iff_exists.1 (hm.1 h0);have hvy:=hv y hy;subst hvy;have HV2:Hid (Tr.item b e p c k=(Tr.conv l.amt v).map (fun n=>⟨c.id,k,c.ent,Tr.shown b.g a c.date (Cal.begin_ b.g.Y b.g.M p),l.prt,c.date,n⟩)):=by show _=_;rw [HV.out,hy];rfl
 have hha:=Tr.rate_has hy;have Hha:=Z1 hha;clear hm hv hy h0 hha;have l1:=cr9 1 Hl2.out;simp at l1;go_upto_region 5 with(fail);go_wp2_with (fail);refine(b1Y W2 l.amt v).mono ?_;rintro ev W3 ⟨⟨am,m3,rfl,hm,hv⟩,hB3⟩;have HBw3:=Z1 (HBw2.out.trans (Kp.of (mk:=mk) hB3 hB2'));have hB3':B<=W3.heap.size:=by have:=hB3.size;omega
 have HD3:=Z1 (HD2.out.below hB3);have HK3:=Z1 (HK2.out.below (hB3.mono hB2') hB3');have He3:=gB He2 hB3 s2;have Hi3:=gB Hi2 hB3 s2';have Hl3:=gB Hl2 hB3 s2'';have s3:=Vq He3.out;have s3':=Vq Hi3.out;have s3'':=Vq Hl3.out;clear hB3 l1
 by_cases h0:m3=0
 case neg =>
  have k0:(m3 != 0)=true:=by simp [h0]
  have HN:Hid (Tr.item b e p c k=none):=by
   show _=_;rw [HV2.out]
   cases hq:Tr.conv l.amt v with
   | none=>rfl
   | some y=>exact absurd (hm.2 (by rw [hq];rfl)) h0
  clear hm hv h0;have Ho:=Z1 (itmOne Itm.zero);have hR:=setRow_heap W3 (w.heap.size+1) _ #[.int .i64 0,.int .i64 0,.int .i64 0,.int .i64 0,.int .i64 0,.int .i64 0,.int .i64 0] _ _ Hi3.out;have hload:=Z1 (run_loadVar_row (P:=prog) _ _ _ 57 _ _ _ hR underlying57 rfl a0J);have hbs:=below_setRow (Below.refl w W3) (show w.heap.size<=w.heap.size+1 by omega) #[.int .i64 0,.int .i64 0,.int .i64 0,.int .i64 0,.int .i64 0,.int .i64 0,.int .i64 0];have HP:=Z1 (ItemPost.bad (m:=2) HN.out dC (HBw3.out.then_ hbs hB) (by show B<=(W3.setRow (w.heap.size+1) #[.int .i64 0,.int .i64 0,.int .i64 0,.int .i64 0,.int .i64 0,.int .i64 0,.int .i64 0]).heap.size;have:=hbs.size;omega) (HD3.out.setRow #[.int .i64 0,.int .i64 0,.int .i64 0,.int .i64 0,.int .i64 0,.int .i64 0,.int .i64 0] (show bd≠w.heap.size+1 by omega) (show mk≠w.heap.size+1 by omega)):ItemPost B bd mk (nk+1) b e p la cur cv (Tr.item b e p c k) w (.returned (.tuple #[.agg #[.int .i64 0,.int .i64 0,.int .i64 0,.int .i64 0,.int .i64 0,.int .i64 0,.int .i64 0],.int .i64 2])) (W3.setRow (w.heap.size+1) #[.int .i64 0,.int .i64 0,.int .i64 0,.int .i64 0,.int .i64 0,.int .i64 0,.int .i64 0]));clear hR hbs ;go_wp2_with (refine Vx rfl 57 (.tmp 6) (.tmp 42) none rfl rfl (w.heap.size+1) 57 _ #[.int .i64 0,.int .i64 0,.int .i64 0,.int .i64 0,.int .i64 0,.int .i64 0,.int .i64 0] rfl rfl Hi3.out rfl a0J Ho.out ?_);exact bodyPost_ret (v:=.tuple #[.agg #[.int .i64 0,.int .i64 0,.int .i64 0,.int .i64 0,.int .i64 0,.int .i64 0,.int .i64 0],.int .i64 2]) (by simp [results,results28,asAddr,Act.put,hload.out]) rfl HP.out
 have k0:(m3 != 0)=false:=by simp [h0]
 obtain⟨y,hy⟩:=Option.isSome_iff_exists.1 (hm.1 h0);have hvy:=hv y hy;subst hvy;obtain⟨sh,hsh⟩:∃ sh,sh=Tr.shown b.g a c.date (Cal.begin_ b.g.Y b.g.M p):=⟨_,rfl⟩;have HV3:Hid (Tr.item b e p c k=some ⟨c.id,k,c.ent,sh,l.prt,c.date,am⟩):=by show _=_;rw [HV2.out,hy,hsh];rfl
 have Hsh:=Z1 hsh;clear hm hv hy h0 hsh;obtain⟨f3,hd3⟩:=HD3.out;have Hd3:=Z1 hd3.hb;have sd3:=Vq hd3.hb;clear hd3;go_upto_region 8 with(fail);have hS:Below W3 W3 W3.drew:=Vw bR 1;refine wp_region_held (S:=Below W3 W3) kR ?_;change wpAnyH _ _ _ _ _ _ _ _ (World.drew W3);obtain⟨W_0,hWd⟩:∃ W0,W0=W3.drew:=⟨_,rfl⟩;rw [<- hWd] at hS ⊢;clear hWd;refine jT 0 hS ?_;refine jT 1 hS ?_;refine jT 2 hS ?_;refine jT 3 hS ?_;refine jT 4 hS ?_ (v:=b.g) (hy:=(yieldsIf_load_mid (by rfl) 29 _ rfl bd 0 rfl b.g _ (fun W' hS'=>fun j v hj=>by have:=cr9 j (gbox Hd3.out hS' sd3);rw [Nat.zero_add,this];exact a6O hj) underlying29 rfl VJ));refine jT 5 hS ?_;refine jT 6 hS ?_;refine jT 7 hS ?_ (v:=.int .i64 c.date) (hy:=(.inl ⟨by rfl,fun W' hS'=>by have c0:=cr9 2 (gbox He3.out hS' s3);simp at c0;have c9:=Vq (gbox He3.out hS' s3);go_simp⟩));refine jT 8 hS ?_;refine jT 9 hS ?_;refine jT 10 hS ?_;refine jT 11 hS ?_ (v:=.int .i64 p) (hy:=(.inl ⟨by rfl,fun W' hS'=>by have c0:=cr9 28 (gbox Hd3.out hS' sd3);simp at c0;have c9:=Vq (gbox Hd3.out hS' sd3);go_simp⟩));refine rZ 12 fun K hK=>?_;have hk4:=HK3.out.below (hS.mono hB3') (by have:=hS.size;omega);have HC:=Z1 (a9a W_0 b.g a c.date p (hk4.hb.hg.more hk4.hB) hk4.hv hk4.hp Hha.out);go_simp;refine HC.out.mono ?_;rintro ev W4 ⟨rfl,hB4⟩;rw [<- Hsh.out];have hS4:=hS.trans (hB4.mono hS.size);refine jK hK hS4 ?_;clear hK K;refine jT 13 hS4 ?_;refine jT 14 hS4 ?_;refine jT 15 hS4 ?_;refine rZ 16 fun K hK=>?_;go_simp;refine jK hK hS4 ?_;clear hK K;refine rZ 17 fun K hK=>?_;go_simp;refine jK hK hS4 ?_;clear hK K;refine wpAnyH_done kR ?_ _
 try simp only [z]
 have HBw4:=Z1 (HBw3.out.trans (Kp.of (mk:=mk) hS4 hB3'));have hB4':B<=W4.heap.size:=by have:=hS4.size;omega
 have HD4:=Z1 (HD3.out.below hS4);have he4:=gbox He3.out hS4 s3;have hi4:=gbox Hi3.out hS4 s3';have hl4:=gbox Hl3.out hS4 s3'';have y0:=cr9 0 he4;have y1:=cr9 1 he4;have y2:=cr9 2 he4;have l2:=cr9 2 hl4;simp at y0 y1 y2 l2;have s4:=Vq he4;have s4':=Vq hi4;have s4'':=Vq hl4;obtain⟨it,hit⟩:∃ it:Itm,it=⟨c.id,k,c.ent,sh,l.prt,c.date,am⟩:=⟨_,rfl⟩;rw [<- hit] at HV3;have Ho:Hid ((#[.int .i64 c.id,.int .i64 k,.int .i64 c.ent,.int .i64 sh,.int .i64 l.prt,.int .i64 c.date,.int .i64 am]:Array Value).all (·.oneCell')=true):=by show _=_;simp [Value.oneCell']
 have hR:=setRow_heap W4 (w.heap.size+1) _ #[.int .i64 c.id,.int .i64 k,.int .i64 c.ent,.int .i64 sh,.int .i64 l.prt,.int .i64 c.date,.int .i64 am] _ _ hi4;have hload:=Z1 (run_loadVar_row (P:=prog) _ _ _ 57 _ _ _ hR underlying57 rfl a0J);have hbs:=below_setRow (Below.refl w W4) (show w.heap.size<=w.heap.size+1 by omega) #[.int .i64 c.id,.int .i64 k,.int .i64 c.ent,.int .i64 sh,.int .i64 l.prt,.int .i64 c.date,.int .i64 am]
 have HP:Hid (ItemPost B bd mk (nk+1) b e p la cur cv (Tr.item b e p c k) w (.returned (.tuple #[it,.int .i64 0])) (W4.setRow (w.heap.size+1) #[.int .i64 c.id,.int .i64 k,.int .i64 c.ent,.int .i64 sh,.int .i64 l.prt,.int .i64 c.date,.int .i64 am])) :=
  Z1 ⟨HBw4.out.then_ hbs hB,by have:=hbs.size;omega,HD4.out.setRow _ (show bd≠w.heap.size+1 by omega) (show mk≠w.heap.size+1 by omega),it,0,rfl,by simp [HV3.out],fun y h=>by rw [HV3.out] at h;cases h;rfl⟩
 rw [hit] at HP;have Hi4:=Z1 hi4;clear hR hbs hit HV3 hS hS4 hB4 he4 hi4 hl4;go_wp2_with (refine Vx rfl 57 (.tmp 6) (.tmp 74) none rfl rfl (w.heap.size+1) 57 _ #[.int .i64 c.id,.int .i64 k,.int .i64 c.ent,.int .i64 sh,.int .i64 l.prt,.int .i64 c.date,.int .i64 am] rfl rfl Hi4.out rfl a0J Ho.out ?_);exact bodyPost_ret (v:=.tuple #[.agg #[.int .i64 c.id,.int .i64 k,.int .i64 c.ent,.int .i64 sh,.int .i64 l.prt,.int .i64 c.date,.int .i64 am],.int .i64 0]) (by simp [results,results28,asAddr,Act.put,hload.out]) rfl HP.out
end
open Go.Proofs.Tryz Go.RowKit Go.Maps
theorem b3n (a c:ByteArray):(!(a.toList==c.toList))=decide (a≠c):=by
 by_cases h:a=c
 ·subst h;simp
 ·have:a.toList≠c.toList:=fun e=>h (Rt.toList_inj e)
  simp [h,this]
theorem a1C {b:Bks} {j:Nat} {v:Value} (hj:(b.g:List Value)[j]?=some v):(b:Array Value)[j]?=some v:=by
 have hl:j<21:=by have:=(List.getElem?_eq_some_iff.1 hj).1;simpa using this
 have:(b:Array Value)=(b.g++#[.slice b.eA b.en b.ec,.slice b.rA b.rn b.rc,.slice b.hA b.hn b.hc,b.m0,b.m1,b.m2]:Array Value):=rfl;rw [this,Array.getElem?_append_left (by simpa using hl)];simpa using hj
theorem a0B:(prog.info? 36).map (·.size)=some 27:=kR
section
variable (w:World)
theorem a9S (B bd:Nat) (b:Bks) (e:Nat) (p la:Int) (hd:w.heap[bd]?=some (.cells #[.string b.g.cur,.int .i64 b.g.Y,.int .i64 b.g.M,.int .i64 b.g.N,.slice b.g.cA b.g.cn b.g.cc,.int .i64 b.g.r0,.int .i64 b.g.r1,.int .i64 b.g.r2,.int .i64 b.g.r3,.int .i64 b.g.r4,.int .i64 b.g.r5,.int .i64 b.g.r6,.int .i64 b.g.r7,.int .i64 b.g.r8,.int .i64 b.g.r9,.int .i64 b.g.r10,.int .i64 b.g.r11,.int .i64 b.g.r12,.int .i64 b.g.r13,.int .i64 b.g.r14,.slice b.g.eA b.g.en b.g.ec,.slice b.eA b.en b.ec,.slice b.rA b.rn b.rc,.slice b.hA b.hn b.hc,b.m0,b.m1,b.m2,.int .i64 0,.int .i64 p,.int .i64 la,.map none,.string ⟨#[]⟩,.bool false] 78 (0,0))) (hBd:B<=bd) (hb:b.At w B) (he:e<b.g.ents.length) :
  Calls prog 58 #[.pointer (some ⟨bd,0,none⟩),.int .i64 e] w fun ev w'=>ev=.returned (.tuple #[])/\Below B w w'/\∃ mk,Desks B w' bd mk 0 b e p la (Gr.eat b.g.ents e).cur (decide ((Gr.eat b.g.ents e).cur≠b.g.cur)):=by
 have sd:=Vq hd;obtain⟨x,hx⟩:∃ x,x=Gr.eat b.g.ents e:=⟨_,rfl⟩;have hx2:b.g.ents[e]=x:=by rw [hx];unfold Gr.eat;simp [he]
 obtain⟨be,oe,hAe,hbe,hre⟩:=RowsAt.look hb.hg.he he;rw [hx2] at hre;rw [<- hx];have hen:(e:Int)<(b.g.en:Int):=by have:=hb.hg.hel;omega
 have he0:(0:Int)<=(e:Int):=oM;have hne:be≠bd:=oM;have hsb:be<w.heap.size:=oM;have z27:=cr9 27 hd;have zf:=fun j=>fr0 j hd;simp at z27;have hd1:=heap_setCell_same w bd 27 _ _ (.int .i64 e) hd;simp at hd1;obtain⟨W1,hW1⟩:∃ W1,W1=w.setCell ⟨bd,27,none⟩ (.int .i64 e):=⟨_,rfl⟩;rw [<- hW1] at hd1;have hB1:Below B w W1:=by rw [hW1];exact bR.setCell (p:=⟨bd,27,none⟩) hBd _
 obtain⟨HW1,Hd1,Hre,HB1,HAe⟩:=Z5 hW1 hd1 hre hB1 hAe;have z20:=cr9 20 hd1;have z31:=cr9 31 hd1;have zf1:=fun j=>fr0 j hd1;simp at z20 z31;rw [hAe] at z20;have e1:W1.cell? ⟨be,oe+e*5+1,none⟩=some (.string x.cur):=(hB1.cell (p:=⟨be,oe+e*5+1,none⟩) hbe).trans (hre 1 _ rfl);have sd1:=Vq hd1;have sbe:be<W1.heap.size:=by have:=hB1.size;omega
 clear hd hW1 hd1 hB1 hx hx2 hre hAe hb;go_enter func58,ntmps58;go_upto_region 1 with(fail);rw [<- HW1.out];have hd2:=heap_setCell_same W1 bd 31 _ _ (.string x.cur) Hd1.out;simp at hd2;obtain⟨W2,hW2⟩:∃ W2,W2=W1.setCell ⟨bd,31,none⟩ (.string x.cur):=⟨_,rfl⟩;rw [<- hW2] at hd2;have HB2:Hid (Below B w W2):=by show Below _ _ _;rw [hW2];exact HB1.out.setCell (p:=⟨bd,31,none⟩) hBd _
 have HW2:=Z1 hW2;have Hd2:=Z1 hd2;have sd2:=Vq hd2;clear hW2 hd2;go_upto_region 2 with(fail);rw [<- HW2.out];clear z27 zf z20 z31 zf1 e1;have hS:(fun W':World=>∃ v:Value,W'.heap[bd]?=some (.cells #[.string b.g.cur,.int .i64 b.g.Y,.int .i64 b.g.M,.int .i64 b.g.N,.slice b.g.cA b.g.cn b.g.cc,.int .i64 b.g.r0,.int .i64 b.g.r1,.int .i64 b.g.r2,.int .i64 b.g.r3,.int .i64 b.g.r4,.int .i64 b.g.r5,.int .i64 b.g.r6,.int .i64 b.g.r7,.int .i64 b.g.r8,.int .i64 b.g.r9,.int .i64 b.g.r10,.int .i64 b.g.r11,.int .i64 b.g.r12,.int .i64 b.g.r13,.int .i64 b.g.r14,.slice b.g.eA b.g.en b.g.ec,.slice b.eA b.en b.ec,.slice b.rA b.rn b.rc,.slice b.hA b.hn b.hc,b.m0,b.m1,b.m2,.int .i64 e,.int .i64 p,.int .i64 la,.map none,.string x.cur,v] 78 (0,0))) W2.drew:=⟨_,Hd2.out⟩;refine wp_region_held (S:=fun W':World=>∃ v:Value,W'.heap[bd]?=some (.cells #[.string b.g.cur,.int .i64 b.g.Y,.int .i64 b.g.M,.int .i64 b.g.N,.slice b.g.cA b.g.cn b.g.cc,.int .i64 b.g.r0,.int .i64 b.g.r1,.int .i64 b.g.r2,.int .i64 b.g.r3,.int .i64 b.g.r4,.int .i64 b.g.r5,.int .i64 b.g.r6,.int .i64 b.g.r7,.int .i64 b.g.r8,.int .i64 b.g.r9,.int .i64 b.g.r10,.int .i64 b.g.r11,.int .i64 b.g.r12,.int .i64 b.g.r13,.int .i64 b.g.r14,.slice b.g.eA b.g.en b.g.ec,.slice b.eA b.en b.ec,.slice b.rA b.rn b.rc,.slice b.hA b.hn b.hc,b.m0,b.m1,b.m2,.int .i64 e,.int .i64 p,.int .i64 la,.map none,.string x.cur,v] 78 (0,0))) kR ?_;change wpAnyH _ _ _ _ _ _ _ _ (World.drew W2);obtain⟨W_0,hWd⟩:∃ W0,W0=W2.drew:=⟨_,rfl⟩;have hd3:=Hd2.out;have hB3:Below B w W_0:=by rw [hWd];exact Vw HB2.out 1
 have hd3:W_0.heap[bd]?=some (.cells #[.string b.g.cur,.int .i64 b.g.Y,.int .i64 b.g.M,.int .i64 b.g.N,.slice b.g.cA b.g.cn b.g.cc,.int .i64 b.g.r0,.int .i64 b.g.r1,.int .i64 b.g.r2,.int .i64 b.g.r3,.int .i64 b.g.r4,.int .i64 b.g.r5,.int .i64 b.g.r6,.int .i64 b.g.r7,.int .i64 b.g.r8,.int .i64 b.g.r9,.int .i64 b.g.r10,.int .i64 b.g.r11,.int .i64 b.g.r12,.int .i64 b.g.r13,.int .i64 b.g.r14,.slice b.g.eA b.g.en b.g.ec,.slice b.eA b.en b.ec,.slice b.rA b.rn b.rc,.slice b.hA b.hn b.hc,b.m0,b.m1,b.m2,.int .i64 e,.int .i64 p,.int .i64 la,.map none,.string x.cur,.bool false] 78 (0,0)):=by rw [hWd];exact Hd2.out
 rw [<- hWd] at hS ⊢;clear hWd;refine jT 0 hS ?_;refine jT 1 hS ?_;refine jT 2 hS ?_;refine jT 3 hS ?_;refine jT 4 hS ?_ (v:=.string x.cur) (hy:=(.inl ⟨by rfl,fun W' hS'=>by obtain⟨vv,hv'⟩:=hS';have c0:=cr9 31 hv';simp at c0;have c9:=Vq hv';go_simp⟩));refine jT 5 hS ?_;refine jT 6 hS ?_;refine jT 7 hS ?_;refine jT 8 hS ?_;refine jT 9 hS ?_;refine jT 10 hS ?_ (v:=.string b.g.cur) (hy:=(.inl ⟨by rfl,fun W' hS'=>by obtain⟨vv,hv'⟩:=hS';have c0:=cr9 0 hv';simp at c0;have c9:=Vq hv';go_simp⟩));refine jT 11 hS ?_ (v:=.bool (!(x.cur.toList==b.g.cur.toList)));refine jT 12 hS ?_;refine jT 13 hS ?_;refine rZ 14 fun K hK=>?_;have c0:=cr9 32 hd3;simp at c0;have cf:=fun j=>fr0 j hd3;have s3:=Vq hd3;go_simp;have hd4:=heap_setCell_same W_0 bd 32 _ _ (.bool (!(x.cur.toList==b.g.cur.toList))) hd3;simp at hd4;refine jK hK ⟨_,hd4⟩ ?_;clear hK K;refine wpAnyH_done kR ?_ _
 try simp only [z]
 rw [b3n] at hd4 ⊢;obtain⟨cv,hcv⟩:∃ cv,cv=decide (x.cur≠b.g.cur):=⟨_,rfl⟩;rw [<- hcv] at hd4 ⊢;obtain⟨W4,hW4⟩:∃ W4,W4=W_0.setCell ⟨bd,32,none⟩ (.bool cv):=⟨_,rfl⟩;have HB4:Hid (Below B w W4):=by show Below _ _ _;rw [hW4];exact hB3.setCell (p:=⟨bd,32,none⟩) hBd _
 rw [<- hW4] at hd4 ⊢;have z30:=cr9 30 hd4;have zf4:=fun j=>fr0 j hd4;simp at z30;have s4:=Vq hd4;have hd5:=heap_setCell_same W4 bd 30 _ _ (.map (some W4)) hd4;simp at hd5;obtain⟨W5,hW5⟩:∃ W5,W5=W4.setCell ⟨bd,30,none⟩ (.map (some W4)):=⟨_,rfl⟩;have hs5:W5.heap.size=W4.heap.size:=by rw [hW5];simp
 rw [<- hW5] at hd5;have hd6:=gbox hd5 (bR.alloc (Nat.le_refl W5) (.map #[] 0)) (Vq hd5);have hm6:=MapAt.made W5 prog 247;rw [hs5] at hm6;have hB5:Below B w W5:=by rw [hW5];exact HB4.out.setCell (p:=⟨bd,30,none⟩) hBd _
 have HBF:=Z1 (hB5.alloc (by have:=hB5.size;omega) (.map #[] 0))
 have HDF:Hid (Desks B (W5.alloc (.map #[] 0)) bd W4.heap.size 0 b e p la x.cur cv) :=
  ⟨_,hd6,hBd,oM,hm6,fun bs d v hv=>by cases hv⟩
 rw [hW5] at HBF HDF;rw [hcv] at HDF;have hmm:=@run_makeMap prog;clear hS hd3 hB3 c0 cf s3 hd4 hW4 hd5 hm6 hd6 hs5 hB5 hW5;go_wp2
 go_end0
 exact⟨rfl,HBF.out,W4,HDF.out⟩
def Tr.okAt (b:Bks) (e:Nat) (p:Int):Prop:=Tr.valid b=true/\e<b.g.ents.length/\0<=p/\p<b.g.N
theorem Tr.valid_ok {b:Bks} (h:Tr.valid b=true):Gr.valid b.g=true:=by
 unfold Tr.valid Jr.ok at h;simp only [Bool.and_eq_true] at h;exact h.1.1
def OpenPost (b:Bks) (e:Nat) (p:Int) (w:World) (ev:Ending) (w':World):Prop :=
 Below w w w'/\((¬ Tr.okAt b e p/\∃ n,n≠0/\ev=.returned (.tuple #[.pointer none,.int .i64 n])) ∨
  (Tr.okAt b e p/\∃ bd mk,ev=.returned (.tuple #[.pointer (some ⟨bd,0,none⟩),.int .i64 0]) /\
   Desks w w' bd mk 0 b e p (Cal.last b.g.Y b.g.M p) (Gr.eat b.g.ents e).cur (decide ((Gr.eat b.g.ents e).cur≠b.g.cur)) /\
   Dk w w' b e p (Cal.last b.g.Y b.g.M p) (Gr.eat b.g.ents e).cur (decide ((Gr.eat b.g.ents e).cur≠b.g.cur))))
theorem b0Z (b:Bks) (e:Nat) (p:Int) (hb:b.At w w) :
  Calls prog 23 #[b,.int .i64 e,.int .i64 p,.bool false] w (OpenPost b e p w):=by
 obtain⟨W1,hW1,hB0,hb0,hz⟩:=nw1 w b 36;obtain⟨HW,HB,hg1⟩:=Z3 hW1 hb (hb.at_ hB0);have s1:w.heap.size<W1.heap.size:=oM;have Hb0:=Z1 hb0;have hrg:Hid (∀ j v,(b.g:List Value)[j]?=some v->W1.cell? ⟨w,0+j,none⟩=some v):=fun j v hj=>by have:=cr9 j Hb0.out;rw [Nat.zero_add,this];exact a1C hj
 have x21:=cr9 21 hb0;simp at x21;have HP:=Z1 (show Tr.okAt b e p ↔ _ from Iff.rfl);clear hW1 hz hb0 hb;go_enter func23,ntmps23;go_upto_region 1 with(fail);rw [<- HW.out];go_wp2_with (refine Vk (by rfl) 29 (.tmp 16) rfl w.heap.size 0 rfl _ _ hrg.out underlying29 rfl VJ ?_);refine(a4u W1 b.g b.eA b.en b.ec b.ents hg1.out.hg hg1.out.hel hg1.out.hen hg1.out.hE hg1.out.hEx).mono ?_;rintro ev W2 ⟨⟨i0,n0,rfl,hn0⟩,hB2⟩;have hB02:=hB0.trans (hB2.mono hB0.size);have hb2:=gbox Hb0.out hB2 s1;have x0:=cr9 0 hb2;have x22:=cr9 22 hb2;simp at x0 x22;have s2:w.heap.size<W2.heap.size:=Vq hb2;obtain⟨Hb2,hg2,HB02⟩:=Z3 hb2 (hg1.out.at_ hB2) hB02;clear hb2 hB2 hB0 hB02 x21
 by_cases hk:n0=0
 case neg =>
  have hk1:(n0 != 0)=true:=by simpa using hk
  have HV:Hid (¬ Tr.okAt b e p):=fun h=>hk (hn0.2 (by have:=h.1;unfold Tr.valid at this;simp only [Bool.and_eq_true] at this;exact this.1));clear hn0;go_wp2
  go_ret2
  exact⟨HB02.out,.inl ⟨HV.out,1,dC,rfl⟩⟩
 subst hk;have HJ:Hid (Jr.ok b.g (b.ents.map (·.c))=true):=hn0.1 rfl;clear hn0;go_wp2_with (fail);refine(a1e W2 b.rA b.rn b.rc b.rates b.g.cur hg2.out.hrl (by have:=hg2.out.hrn;omega) hg2.out.hg.hn hg2.out.hRw hg2.out.hR).mono ?_;rintro ev W3 ⟨rfl,hB3⟩;have HB03:=bT HB02 hB3;have hb3:=gbox Hb2.out hB3 s2;have s3:w.heap.size<W3.heap.size:=Vq hb3;have x4:=cr9 20 hb3;simp at x4;have Hb3:=Z1 hb3;have hg3:=Z1 (hg2.out.at_ hB3);have hen:=hg3.out.hg.hel;clear hb3 hB3 x0 x22
 cases hr:Rates.valid b.g.cur b.rates with
 | false =>
  have HV:Hid (¬ Tr.okAt b e p):=fun h=>by have:=h.1;unfold Tr.valid at this;rw [hr,Bool.and_false] at this;cases this
  clear hr;go_wp2
  go_ret2
  exact⟨HB03.out,.inl ⟨HV.out,1,dC,rfl⟩⟩
 | true =>
 have HV:Hid (Tr.valid b=true):=by show _=_;unfold Tr.valid;rw [HJ.out,hr];rfl
 have HG:=Z1 (Tr.valid_ok HV.out);clear hr HJ;have he0:(decide ((e:Int)<0))=false:=sP
 by_cases he:e<b.g.en
 case neg =>
  have hlt:decide ((e:Int) ≥ (b.g.en:Int))=true:=sO;have HN:Hid (¬ Tr.okAt b e p):=fun h=>he (by have:=h.2.1;omega);clear HV HG;go_wp2
  go_ret2
  exact⟨HB03.out,.inl ⟨HN.out,2,dC,rfl⟩⟩
 have hlt:decide ((e:Int) ≥ (b.g.en:Int))=false:=sO;have x1:=cr9 1 Hb3.out;have x2:=cr9 2 Hb3.out;have x3:=cr9 3 Hb3.out;simp at x1 x2 x3
 by_cases hc:Cal.err b.g.Y b.g.M b.g.N p=0
 case neg =>
  have hc1:(Cal.err b.g.Y b.g.M b.g.N p != 0)=true:=by simpa using hc
  have HN:Hid (¬ Tr.okAt b e p):=fun h=>hc ((Cal.err_zero _ _ _ _).2 ⟨Gr.cal_ok HG.out,h.2.2.1,h.2.2.2⟩);have Hc:=Z1 hc;clear hc;go_wp2_with (fail);refine(a3Q b.g.Y b.g.M b.g.N p W3 Hc.out).mono ?_;rintro ev W4 ⟨rfl,hB4⟩;have HBF:=bT HB03 hB4;go_wp2
  go_ret2
  exact⟨HBF.out,.inl ⟨HN.out,2,dC,rfl⟩⟩
 have hp:=((Cal.err_zero _ _ _ _).1 hc).2;have Hc:=Z1 hc;have HY:Hid (Tr.okAt b e p):=⟨HV.out,oM,hp.1,hp.2⟩;clear hc hp;go_wp2_with (fail);refine(a2y b.g.Y b.g.M b.g.N p W3 Hc.out).mono ?_;rintro ev W4 ⟨rfl,hB4⟩;have HB04:=bT HB03 hB4;have hb4:=gbox Hb3.out hB4 s3;have Hb4:=Z1 hb4;have s4:w.heap.size<W4.heap.size:=Vq hb4;have s14:w.heap.size<=W4.heap.size:=Nat.le_of_lt s4;have Hg4:=Z1 (HB.out.below HB04.out lR);obtain⟨la,hla⟩:∃ la,la=Cal.last b.g.Y b.g.M p:=⟨_,rfl⟩;have Hla:=Z1 hla;rw [<- hla];clear hb4 hB4 x1 x2 x3 x4 hla;go_upto_region 9 with(fail);go_upto_region 11 with(refine wpList_load_row rfl 36 _ rfl _ rfl _ _ _ _ Hb4.out underlying36 rfl a0B ?_);have Hg5:=Hg4.out;obtain⟨W5,hW5,hB5,hb5,hz5⟩:=nw1 W4 #[.string b.g.cur,.int .i64 b.g.Y,.int .i64 b.g.M,.int .i64 b.g.N,.slice b.g.cA b.g.cn b.g.cc,.int .i64 b.g.r0,.int .i64 b.g.r1,.int .i64 b.g.r2,.int .i64 b.g.r3,.int .i64 b.g.r4,.int .i64 b.g.r5,.int .i64 b.g.r6,.int .i64 b.g.r7,.int .i64 b.g.r8,.int .i64 b.g.r9,.int .i64 b.g.r10,.int .i64 b.g.r11,.int .i64 b.g.r12,.int .i64 b.g.r13,.int .i64 b.g.r14,.slice b.g.eA b.g.en b.g.ec,.slice b.eA b.en b.ec,.slice b.rA b.rn b.rc,.slice b.hA b.hn b.hc,b.m0,b.m1,b.m2,.int .i64 0,.int .i64 p,.int .i64 la,.map none,.string ⟨#[]⟩,.bool false] 78;obtain⟨HW5,HB05,Hg6,Hb5⟩:=Z4 hW5 (HB04.out.trans (hB5.mono s14)) (Hg4.out.below hB5 s14) hb5;clear hW5 hB5 hb5 hz5 Hg5;rw [<- HW5.out];go_wp2_with (fail);refine(a9S W5 w W4 b e p la Hb5.out s14 Hg6.out HY.out.2.1).mono ?_;rintro ev W6 ⟨rfl,hB6,mk,hD⟩;have HBF:=Z1 (HB05.out.trans hB6)
 have HDk:Hid (Dk w W6 b e p la (Gr.eat b.g.ents e).cur (decide ((Gr.eat b.g.ents e).cur≠b.g.cur))) :=
  ⟨HBF.out.size,Hg6.out.below hB6 lR,HG.out,HY.out.2.1,HY.out.2.2,Hla.out,rfl,rfl⟩
 have HD:=Z1 hD;obtain⟨cv,hcv⟩:∃ cv,cv=decide ((Gr.eat b.g.ents e).cur≠b.g.cur):=⟨_,rfl⟩;clear hB6 hD;go_wp2
 go_ret2
 exact⟨HBF.out,.inr ⟨HY.out,W4,mk,rfl,by rw [<- Hla.out];exact HD.out,by rw [<- Hla.out];exact HDk.out⟩⟩
end
end Go.Proofs.YtniaimjknmhapaaGreatDoor
