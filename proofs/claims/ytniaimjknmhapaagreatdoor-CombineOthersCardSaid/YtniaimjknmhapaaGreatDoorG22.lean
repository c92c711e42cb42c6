/- My texts ElimC. -/
import Derived.Test.YtniaimjknmhapaaGreatDoorG18
set_option linter.unusedVariables false
set_option linter.unusedSimpArgs false
set_option maxRecDepth 100000
set_option maxHeartbeats 16000000
namespace Go.Proofs.YtniaimjknmhapaaGreatDoor
open Go.Proofs.Tryz Go.RowKit
structure KeepX (S:Nat->Prop) (w w':World):Prop where
 os:w'.os=w.os
 tape:w'.tape=w.tape
 output:w'.output=w.output
 size:w.heap.size<=w'.heap.size
 block:∀ b,b<w.heap.size->¬ S b->w'.heap[b]?=w.heap[b]?
theorem KeepX.refl (S:Nat->Prop) (w:World):KeepX S w w:=⟨rfl,rfl,rfl,lR,fun _ _ _=>rfl⟩
theorem KeepX.trans {S:Nat->Prop} {a b c:World} (h:KeepX S a b) (k:KeepX S b c):KeepX S a c :=
 ⟨k.os.trans h.os,k.tape.trans h.tape,k.output.trans h.output,Nat.le_trans h.size k.size,fun i hi hs=>(k.block i (Nat.lt_of_lt_of_le hi h.size) hs).trans (h.block i hi hs)⟩
theorem KeepX.below {S:Nat->Prop} {a b c:World} (h:KeepX S a b) (k:Below b.heap.size b c):KeepX S a c :=
 h.trans ⟨k.os,k.tape,k.output,k.size,fun i hi _=>k.block i hi⟩
theorem a0I (b:Nat):∀(vs:List Value) (o:Nat) (w:World),(w.setCells b o vs).os=w.os/\(w.setCells b o vs).tape=w.tape/\(w.setCells b o vs).output=w.output
 | [],_,_=>⟨rfl,rfl,rfl⟩
 | v::vs,o,w=>a0I b vs (o+1) (w.setCell ⟨b,o,none⟩ v)
theorem KeepX.put {S:Nat->Prop} {a w:World} (h:KeepX S a w) {b:Nat} (hb:S b) (o:Nat) (vs:List Value):KeepX S a (w.setCells b o vs) :=
 h.trans ⟨(a0I b vs o w).1,(a0I b vs o w).2.1,(a0I b vs o w).2.2,Nat.le_of_eq (a0O b vs o w).symm,fun i _ hs=>a0K b vs o w i (fun e=>hs (e ▸ hb))⟩
theorem KeepX.to_below {S:Nat->Prop} {a w:World} {B:Nat} (h:KeepX S a w) (hB:B<=a.heap.size) (hS:∀ b,b<B->¬ S b):Below B a w :=
 ⟨h.os,h.tape,h.output,h.size,fun k hk=>h.block k (Nat.lt_of_lt_of_le hk hB) (hS k hk)⟩
theorem KeepX.cell {S:Nat->Prop} {a w:World} (h:KeepX S a w) {b:Nat} (hb:b<a.heap.size) (hs:¬ S b) (o:Nat):w.cell? ⟨b,o,none⟩=a.cell? ⟨b,o,none⟩:=World.cell?_of_block (w:=a) (h.block b hb hs)
theorem KeepX.range {S:Nat->Prop} {a w:World} (h:KeepX S a w) {b o:Nat} {cs:List Value} (hr:a.rangeAt b o cs) (hb:b<a.heap.size) (hs:¬ S b):w.rangeAt b o cs:=fun j v hj=>(h.cell hb hs _).trans (hr j v hj)
def rowsOf (n:Nat) (R:Nat->MRow) (b:Nat):Prop:=∃ q,q<n/\b=(R q).b
def ClearPost (lo g n wd K0:Nat) (R:Nat->MRow) (w:World) (e:Ending) (w':World):Prop :=
 (∃ v,e=.returned v)/\KeepX (rowsOf n R) w w'/\∃ R',(∀ q,q<n->(R' q).b=(R q).b)/\Mx w' lo g n n wd R' (fun _=>4*K0+1)
section
variable (w:World)
theorem b0g (mb g lo n wd r c K0:Nat) (R:Nat->MRow) (hn:n<=24) (hwd:wd<=30) (hr:r<n) (hc:c<wd) (hK:3<=K0) (hK2:30*K0+1000<=10000000000) (hml:mb<w.heap.size)
  (hm:w.cell? ⟨mb,0,none⟩=some (.slice (some ⟨g,0,none⟩) n n)) (hmS:¬ rowsOf n R mb) (hM:Mx w lo g n n wd R (fun _=>K0)) :
  Calls prog 297 #[r,c,.pointer (some ⟨mb,0,none⟩)] w (ClearPost lo g n wd K0 R w):=by
 obtain⟨HM,Hm,HmS⟩:=Z3 hM hm hmS;have hrn:(r:Int)<(n:Int):=oM;have hr0:(0:Int)<=(r:Int):=oM;have hcn:(c:Int)<(wd:Int):=oM;have hc0:(0:Int)<=(c:Int):=oM;have hml0:=hml;clear hM hmS;go_enter func297,ntmps297;go_wp2
 go_loopw [11] (fun i wr=>∃(k:Nat) (R1:Nat->MRow),k<=n/\i=.int .i64 k/\(∀ q,q<n->(R1 q).b=(R q).b)/\Mx wr lo g n n wd R1 (fun q=>if q<k/\q≠r then 4*K0+1 else K0)/\KeepX (rowsOf n R) w wr) (fun i _=>n-(intOf i).toNat)
 case atStart=>exact⟨0,R,Nat.zero_le _,rfl,fun _ _=>rfl,HM.out.wider (fun i _=>sP),KeepX.refl _ _⟩
 case round =>
  obtain⟨V,rfl⟩:∃ V,V=wr:=⟨_,rfl⟩;obtain⟨k,R1,hk,rfl,hRb,hM1,hX⟩:=hrel;have hwb:∀ q,q<n->rowsOf n R (R1 q).b:=fun q hq=>⟨q,hq,hRb q hq⟩;obtain⟨HRb,Hwb,HX⟩:=Z3 hRb hwb hX;have cm:=(World.cell?_of_block (w:=w) (hX.block mb hml HmS.out):V.cell? ⟨mb,0,none⟩=_).trans Hm.out;have hsz:=hX.size;have hml2:mb<V.heap.size:=oM;clear hRb hwb hX
  by_cases hlt:k<n
  case neg =>
   obtain rfl:k=n:=oM;have HP:Hid (ClearPost lo g k wd K0 R w (.returned (.tuple #[])) V):=Z1 ⟨⟨_,rfl⟩,HX.out,R1,HRb.out,hM1.wider (fun i _=>by split <;> omega)⟩;clear hM1 cm;go_wp2
   go_end0
   exact HP.out
  have hkn:(k:Int)<(n:Int):=oM;have hk0:(0:Int)<=(k:Int):=oM
  by_cases hkr:k=r
  ·subst hkr
   have k1:((k:Int)==(k:Int))=true:=sP;have HM2:=Z1 (hM1.wider (K':=fun q=>if q<k+1/\q≠k then 4*K0+1 else K0) (fun i _=>by split <;> split <;> omega));clear hM1 cm;go_wp2;go_roundw
   case rel=>exact⟨k+1,R1,oM,by go_num,HRb.out,HM2.out,HX.out⟩
   case measure=>simp [intOf];omega
  have k1:((k:Int)==(r:Int))=false:=sO;have ck:=hM1.head hlt hlt;have cr:=hM1.head hr hr;obtain⟨x,hx0,hrx,hxa⟩:=hM1.get hlt hc;obtain⟨y,hy0,hry,hya⟩:=hM1.get hr hc;simp only [show ¬ (k<k/\k≠r) by omega,if_false] at hxa;simp only [show ¬ (r<k/\r≠r) by simp,if_false] at hya;have hbk:=Vq (hM1.hr k hlt).1;have hbr:=Vq (hM1.hr r hr).1;have hbg:=Vq hM1.hg;obtain⟨bk,hbke⟩:∃ bk,bk=(R1 k).b:=⟨_,rfl⟩;obtain⟨br,hbre⟩:∃ br,br=(R1 r).b:=⟨_,rfl⟩;rw [<- hbke] at ck hrx hbk;rw [<- hbre] at cr hry hbr;obtain⟨Hs,Hrx,Hry,Hxa,Hya,HM1,Hbk⟩:=Z7 (a8T V K0 x hxa) hrx hry hxa hya hM1 hbke;have Hbr:=Z1 hbre;clear hM1 hrx hry hxa hya hbke hbre hx0 hy0;go_wp2_with (refine Vk (by rfl) 43 (.tmp 23) rfl bk (c*4) rfl x _ Hrx.out underlying43 rfl Vy ?_);refine Hs.out.mono ?_;rintro e W2 ⟨⟨s,rfl⟩,hB2⟩;have hs2:=hB2.size;have HM2:=Z1 (HM1.out.below hB2);have HX2:=Z1 (HX.out.below hB2);have cm2:=(hB2.cell (p:=⟨mb,0,none⟩) hml2).trans cm;have ck2:=(hB2.cell (p:=⟨g,k,none⟩) hbg).trans ck;have cr2:=(hB2.cell (p:=⟨g,r,none⟩) hbg).trans cr;obtain⟨Hxa2,Hya2,Hrx2,Hry2⟩:=Z4 ((Hxa.out.below hB2 lR).more hB2.size lR) ((Hya.out.below hB2 lR).more hB2.size lR) (VV Hrx.out hB2 hbk) (VV Hry.out hB2 hbr);clear cm ck cr hB2
  by_cases hz:s=0
  ·have k2:(s==0)=true:=by simp [hz]
   have HM3:=Z1 (HM2.out.wider (K':=fun q=>if q<k+1/\q≠r then 4*K0+1 else K0) (fun i _=>by split <;> split <;> omega));clear hz cm2 ck2 cr2;go_wp2;go_roundw
   case rel=>exact⟨k+1,R1,oM,by go_num,HRb.out,HM3.out,HX2.out⟩
   case measure=>simp [intOf];omega
  have k2:(s==0)=false:=by simp [hz]
  have hg2:g<W2.heap.size:=oM;have hk2:bk<W2.heap.size:=oM;have hr2:br<W2.heap.size:=oM;have hm2:mb<W2.heap.size:=oM;have Hdiv:=fun(W:World) (hB:Below W2 W2 W)=>Z1 (b2l W K0 K0 x y hK hK oM ((Hxa2.out.below hB lR).more hB.size lR) ((Hya2.out.below hB lR).more hB.size lR));clear hz;go_upto_region 4 with(fail);have hS0:Below W2 W2 W2.drew:=Vw bR 1;refine wp_region_held (S:=Below W2 W2) kR ?_;change wpAnyH _ _ _ _ _ _ _ _ (World.drew W2);obtain⟨W0,hW0⟩:∃ W0,W0=W2.drew:=⟨_,rfl⟩;rw [<- hW0] at hS0 ⊢;clear hW0;refine jT 0 hS0 ?_ (v:=.slice (some ⟨g,0,none⟩) n n) (hy:=(.inl ⟨by rfl,fun W' hS'=>by have c0:=(hS'.cell (p:=⟨mb,0,none⟩) hm2).trans cm2;have c1:=hS'.size;have c2:mb<W'.heap.size:=oM;go_simp⟩));refine jT 1 hS0 ?_;refine jT 2 hS0 ?_;refine jT 3 hS0 ?_ (v:=.slice (some ⟨bk,0,none⟩) wd wd) (hy:=(.inl ⟨by rfl,fun W' hS'=>by have c0:=(hS'.cell (p:=⟨g,k,none⟩) hg2).trans ck2;have c1:=hS'.size;have c2:g<W'.heap.size:=oM;go_simp⟩));refine jT 4 hS0 ?_;refine jT 5 hS0 ?_;refine jT 6 hS0 ?_ (v:=x) (hy:=(yieldsIf_load_mid (by rfl) 43 _ rfl bk (c*4) rfl x _ (fun W' hS'=>VV Hrx2.out hS' hk2) underlying43 rfl Vy));refine jT 7 hS0 ?_ (v:=.slice (some ⟨g,0,none⟩) n n) (hy:=(.inl ⟨by rfl,fun W' hS'=>by have c0:=(hS'.cell (p:=⟨mb,0,none⟩) hm2).trans cm2;have c1:=hS'.size;have c2:mb<W'.heap.size:=oM;go_simp⟩));refine jT 8 hS0 ?_;refine jT 9 hS0 ?_;refine jT 10 hS0 ?_ (v:=.slice (some ⟨br,0,none⟩) wd wd) (hy:=(.inl ⟨by rfl,fun W' hS'=>by have c0:=(hS'.cell (p:=⟨g,r,none⟩) hg2).trans cr2;have c1:=hS'.size;have c2:g<W'.heap.size:=oM;go_simp⟩));refine jT 11 hS0 ?_;refine jT 12 hS0 ?_;refine jT 13 hS0 ?_ (v:=y) (hy:=(yieldsIf_load_mid (by rfl) 43 _ rfl br (c*4) rfl y _ (fun W' hS'=>VV Hry2.out hS' hr2) underlying43 rfl Vy));refine wpAnyH_ready (rs:=[14,18]) kR sP (AllReadyH.cons rfl (fun K hK=>?_) (AllReadyH.cons rfl (fun K hK=>?_) AllReadyH.nil))
  focus
   go_simp;refine(Hdiv W0 hS0).out.mono ?_;rintro e W3 ⟨⟨z,m,rfl,hz⟩,hB3⟩;have hS3:=hS0.trans (hB3.mono hS0.size);refine hK.out _ _ hS3 (fun _=>?_);clear hK K;unfold Rn.v
   try simp only [z]
   refine jT 15 hS3 ?_;refine jT 16 hS3 ?_;refine jT 17 hS3 ?_;refine rZ 18 fun K hK=>?_;obtain⟨W4,hW4,hB4,hrow,_⟩:=nw1 W3 ZR 43;go_simp;rw [<- hW4];have hS4:=hS3.trans (hB4.mono hS3.size);refine jK hK hS4 ?_;clear hK K;obtain⟨fb,hfb⟩:∃ fb,fb=W3.heap.size:=⟨_,rfl⟩;rw [<- hfb] at hrow ⊢;have hfl:W2.heap.size<=fb:=by have:=hS3.size;omega
   have hz4:=(hz.below hB4 lR).more hB4.size lR;clear hW4 hB4 hB3 hS3 hz hfb
  rotate_left
  focus
   obtain⟨W3,hW3,hB3,hrow3,_⟩:=nw1 W0 ZR 43;go_simp;rw [<- hW3];have hS3:=hS0.trans (hB3.mono hS0.size);refine jK hK hS3 ?_;clear hK K;obtain⟨fb,hfb⟩:∃ fb,fb=W0.heap.size:=⟨_,rfl⟩;rw [<- hfb] at hrow3 ⊢;have hfl:W2.heap.size<=fb:=by have:=hS0.size;omega
   clear hW3 hB3 hfb;refine rZ 14 fun K hK=>?_;go_simp;refine(Hdiv W3 hS3).out.mono ?_;rintro e W4 ⟨⟨z,m,rfl,hz4⟩,hB4⟩;have hS4:=hS3.trans (hB4.mono hS3.size);have hrow:=gbox hrow3 hB4 (Vq hrow3);refine hK.out _ _ hS4 (fun _=>?_);clear hK K;unfold Rn.v
   try simp only [z]
   refine jT 15 hS4 ?_;refine jT 16 hS4 ?_;refine jT 17 hS4 ?_;clear hB4 hS3 hrow3
  rotate_left
  all_goals
   refine rZ 19 fun K hK=>?_;rw [if_pos (by rfl)];refine VX 43 _ _ none rfl rfl fb 43 _ z rfl rfl hrow rfl Vy oC ?_;have hS5:Below W2 W2 (W4.setRow fb z):=below_setRow hS4 hfl _;refine jK hK hS5 ?_;clear hK K;have hrow5:=setRow_heap W4 fb _ z _ _ hrow;have hz5:z.At (W4.setRow fb z) (W4.setRow fb z).heap.size (K0+K0):=(hz4.other hrow a0F (fun c hc=>setRow_other _ _ _ _ hc)).more sP lR;obtain⟨W5,hW5⟩:∃ W5,W5=W4.setRow fb z:=⟨_,rfl⟩;rw [<- hW5] at hS5 hrow5 hz5 ⊢;obtain⟨HM5,HX5,Hrow5,Hz5⟩:=Z4 (HM2.out.below hS5) (HX2.out.below hS5) hrow5 hz5;have hs5:=hS5.size;have hfS:¬ rowsOf n R fb:=fun⟨q,hq,e⟩=>by have:=Vq (HM2.out.hr q hq).1;rw [HRb.out q hq] at this;omega
   clear hW5 hS4 hrow hz4 hrow5 hz5 hS0 Hdiv;refine rZ 20 fun K hK=>?_;go_simp;refine jK hK hS5 ?_;clear hK K;refine wpAnyH_done kR ?_ _;have cm5:=(World.cell?_of_block (w:=w) (HX5.out.block mb hml HmS.out):W5.cell? ⟨mb,0,none⟩=_).trans Hm.out;have ck5:=HM5.out.head hlt hlt;rw [<- Hbk.out] at ck5;have g5:=Vq HM5.out.hg;have m5:mb<W5.heap.size:=by have:=HX5.out.size;omega
   clear cm2 ck2 cr2;clear hS5;go_wp2
   go_loopw [51] (fun v wi=>∃(q:Nat) (R2:Nat->MRow),q<=wd/\v=.int .i64 q/\(∀ p,p<n->(R2 p).b=(R p).b)/\Mx wi lo g n n wd R2 (fun p=>if p<k+1/\p≠r then 4*K0+1 else K0)/\(∀ p,q<=p->∀ u,(R2 k).l[p]?=some u->u.At wi wi K0)/\KeepX (rowsOf n R) w wi/\Row wi fb 43 z/\z.At wi wi (K0+K0)) (fun v _=>wd-(intOf v).toNat)
   case atStart=>exact⟨0,R1,Nat.zero_le _,rfl,HRb.out,HM5.out.wider (fun i _=>by split <;> split <;> omega),fun p _ u hu=>by have:=HM5.out.hx k hlt u (List.mem_of_getElem? hu);simpa using this,HX5.out,Hrow5.out,Hz5.out⟩
   case round =>
    obtain⟨U,rfl⟩:∃ U,U=wr:=⟨_,rfl⟩;obtain⟨q,R2,hq,rfl,hRb2,hMu,hlo,hXu,hfu,hzu⟩:=hrel
    by_cases hqw:q<wd
    case neg =>
     have HMu:=Z1 hMu;clear hlo hMu;go_wp2;go_roundw
     case rel=>exact⟨k+1,R2,oM,by go_num,hRb2,HMu.out,hXu⟩
     case measure=>simp [intOf];omega
    have c1:=(World.cell?_of_block (w:=w) (hXu.block mb hml HmS.out):U.cell? ⟨mb,0,none⟩=_).trans Hm.out;have c2:=hMu.head hlt hlt;have c3:=hMu.head hr hr;obtain⟨x3,hx3,hrx3,_⟩:=hMu.get hlt hqw;obtain⟨y3,hy3,hry3,hya3⟩:=hMu.get hr hqw;simp only [show ¬ (r<k+1/\r≠r) by simp,if_false] at hya3;have hxa3:=hlo q lR x3 hx3;have b1:=Vq (hMu.hr k hlt).1;have b2:=Vq (hMu.hr r hr).1;have b3:=Vq hMu.hg;have b4:=Vq hfu;have b5:mb<U.heap.size:=by have:=hXu.size;omega
    have e1:(R2 k).b=bk:=by rw [hRb2 k hlt,<- HRb.out k hlt,Hbk.out]
    have e2:(R2 r).b=br:=by rw [hRb2 r hr,<- HRb.out r hr,Hbr.out]
    have hput:=fun(W:World) (hB:Below U.heap.size U W) (v:Rn) (hv:v.At W W (4*K0+1))=>Z1 ((hMu.below hB).put (K':=fun p=>if p<k+1/\p≠r then 4*K0+1 else K0) hlt hqw v (fun _ _=>Nat.le_refl _) (by show v.At W W (if k<k+1/\k≠r then 4*K0+1 else K0);rw [if_pos ⟨oM,hkr⟩];exact hv));have hth:=fun(W:World) (hB:Below U.heap.size U W)=>Z1 ((hMu.below hB).there hlt hqw);have Hll:=Z1 (hMu.hr k hlt).2.1;rw [e1] at c2 hrx3 b1;simp only [e1] at hput hth;rw [e2] at c3 hry3 b2;have hqi:(q:Int)<(wd:Int):=oM;have hq0:(0:Int)<=(q:Int):=oM;have Hmul:=fun(W:World) (hB:Below U.heap.size U W)=>Z1 (b2k W (K0+K0) K0 z y3 oM hK oM ((hzu.below hB lR).more hB.size lR) ((hya3.below hB lR).more hB.size lR));have Hsub:=fun(W:World) (v:Rn) (hB:Below U.heap.size U W) (hv:v.At W W (K0+K0+K0))=>Z1 (b3c W K0 (K0+K0+K0) x3 v hK oM oM ((hxa3.below hB lR).more hB.size lR) hv);obtain⟨HRb2,Hlo,HXu,Hfu,Hzu,Hx3⟩:=Z6 hRb2 hlo hXu hfu hzu hx3;have hng:¬ g=bk:=fun e=>by have:=hMu.ne hlt;omega
    have hnr:¬ br=bk:=fun e=>by have:=hMu.inj k hlt r hr oM;exact hkr this
    have hnm:¬ mb=bk:=fun e=>HmS.out ⟨k,hlt,by rw [<- hRb2 k hlt];omega⟩;have hnf:¬ fb=bk:=fun e=>hfS ⟨k,hlt,by rw [<- hRb2 k hlt];omega⟩;obtain⟨Hrx3,Hry3,hrf⟩:=Z3 hrx3 hry3 (Xx hfu);clear hMu hlo hRb2 hXu hfu hzu hxa3 hya3 hrx3 hry3 e1 e2 hx3 hy3;unfold Rn.v at Hmul Hsub;go_upto_region 8 with(fail);have hS0:KeepX (fun b=>b=bk) U U.drew:=(KeepX.refl _ _).below (Vw bR 1);have hBU:Below U.heap.size U U.drew:=Vw bR 1;refine wp_region_held (S:=KeepX (fun b=>b=bk) U) kR ?_;change wpAnyH _ _ _ _ _ _ _ _ (World.drew U);obtain⟨U0,hU0⟩:∃ U0,U0=U.drew:=⟨_,rfl⟩;rw [<- hU0] at hS0 hBU ⊢;clear hU0;refine jT 0 hS0 ?_ (v:=.slice (some ⟨g,0,none⟩) n n) (hy:=(.inl ⟨by rfl,fun W' hS'=>by have c8:=(hS'.cell b5 hnm 0).trans c1;have c9:=hS'.size;have c7:mb<W'.heap.size:=oM;go_simp⟩));refine jT 1 hS0 ?_;refine jT 2 hS0 ?_;refine jT 3 hS0 ?_ (v:=.slice (some ⟨bk,0,none⟩) wd wd) (hy:=(.inl ⟨by rfl,fun W' hS'=>by have c8:=(hS'.cell b3 hng k).trans c2;have c9:=hS'.size;have c7:g<W'.heap.size:=oM;go_simp⟩));refine jT 4 hS0 ?_;refine jT 5 hS0 ?_ (v:=.slice (some ⟨g,0,none⟩) n n) (hy:=(.inl ⟨by rfl,fun W' hS'=>by have c8:=(hS'.cell b5 hnm 0).trans c1;have c9:=hS'.size;have c7:mb<W'.heap.size:=oM;go_simp⟩));refine jT 6 hS0 ?_;refine jT 7 hS0 ?_;refine jT 8 hS0 ?_ (v:=.slice (some ⟨bk,0,none⟩) wd wd) (hy:=(.inl ⟨by rfl,fun W' hS'=>by have c8:=(hS'.cell b3 hng k).trans c2;have c9:=hS'.size;have c7:g<W'.heap.size:=oM;go_simp⟩));refine jT 9 hS0 ?_;refine jT 10 hS0 ?_;refine jT 12 hS0 ?_ (v:=z) (hy:=(yieldsIf_load_mid (by rfl) 43 _ rfl fb 0 rfl z _ (fun W' hS'=>hS'.range hrf.out b4 hnf) underlying43 rfl Vy));refine jT 13 hS0 ?_ (v:=.slice (some ⟨g,0,none⟩) n n) (hy:=(.inl ⟨by rfl,fun W' hS'=>by have c8:=(hS'.cell b5 hnm 0).trans c1;have c9:=hS'.size;have c7:mb<W'.heap.size:=oM;go_simp⟩));refine jT 14 hS0 ?_;refine jT 15 hS0 ?_;refine jT 16 hS0 ?_ (v:=.slice (some ⟨br,0,none⟩) wd wd) (hy:=(.inl ⟨by rfl,fun W' hS'=>by have c8:=(hS'.cell b3 hng r).trans c3;have c9:=hS'.size;have c7:g<W'.heap.size:=oM;go_simp⟩));refine jT 17 hS0 ?_;refine jT 18 hS0 ?_;refine jT 19 hS0 ?_ (v:=y3) (hy:=(yieldsIf_load_mid (by rfl) 43 _ rfl br (q*4) rfl y3 _ (fun W' hS'=>hS'.range Hry3.out b2 hnr) underlying43 rfl Vy));refine wpAnyH_ready (rs:=[11,20]) kR sP (AllReadyH.cons rfl (fun K hK=>?_) (AllReadyH.cons rfl (fun K hK=>?_) AllReadyH.nil))
    focus
     rw [if_pos (by rfl)];refine wp_load_mid 43 (.tmp 64) rfl bk (q*4) rfl x3 _ (VV Hrx3.out hBU b1) underlying43 rfl Vy ?_;refine jK hK hS0 ?_;clear hK K;refine rZ 20 fun K hK=>?_;go_simp;refine(Hmul U0 hBU).out.mono ?_;rintro e W6 ⟨⟨v6,rfl,hv6⟩,hB60⟩;have hB6:=hBU.trans (hB60.mono hBU.size);have hS6:=hS0.below hB60;refine hK.out _ _ hS6 (fun _=>?_);clear hK K hB60;unfold Rn.v
     try simp only [z]
    rotate_left
    focus
     go_simp;refine(Hmul U0 hBU).out.mono ?_;rintro e W6 ⟨⟨v6,rfl,hv6⟩,hB60⟩;have hB6:=hBU.trans (hB60.mono hBU.size);have hS6:=hS0.below hB60;refine hK.out _ _ hS6 (fun _=>?_);clear hK K hB60;unfold Rn.v
     try simp only [z]
     refine rZ 11 fun K hK=>?_;rw [if_pos (by rfl)];refine wp_load_mid 43 (.tmp 64) rfl bk (q*4) rfl x3 _ (VV Hrx3.out hB6 b1) underlying43 rfl Vy ?_;refine jK hK hS6 ?_;clear hK K
    rotate_left
    all_goals
     have Hs6:=Hsub W6 v6 hB6 hv6;refine rZ 21 fun K hK=>?_;go_simp;refine Hs6.out.mono ?_;rintro e W7 ⟨⟨v7,rfl,hv7⟩,hB7⟩;have hS7:=hS6.below hB7;refine hK.out _ _ hS7 (fun _=>?_);clear hK K;unfold Rn.v
     try simp only [z]
     have hB67:=hB6.trans (hB7.mono hB6.size);have Hp:=hput W7 hB67 v7 (hv7.more lR oM);have Hth:=hth W7 hB67;have HX7:=Z1 ((HXu.out.below hB67).put (b:=bk) ⟨k,hlt,by rw [<- HRb.out k hlt,Hbk.out]⟩ (q*4) v7.cells);have Hf7:=gB Hfu hB67 b4;have Hz7:=Z1 ((Hzu.out.below hB67 lR).more hB67.size lR);have HB67:=Z1 hB67;clear Hs6 Hsub hput hth hB6 hB7 hv6 hv7 hB67 hS6;refine jT 22 hS7 ?_;refine rZ 23 fun K hK=>?_;rw [if_pos (by rfl)];refine wp_store_mid 43 (.tmp 76) (.tmp 75) rfl bk (q*4) v7 rfl rfl Hth.out Vy oC ?_;refine jK hK (hS7.put rfl _ _) ?_;clear hK K;refine wpAnyH_done kR ?_ _;clear hS7;go_wp2;go_roundw
     case rel =>
      refine⟨q+1,_,oM,by go_num,fun p hp=>?_,Hp.out.1,fun p hp u hu=>?_,HX7.out,?_,Hp.out.2 _ _ Hz7.out⟩
      ·have:=HRb2.out p hp
       by_cases e:p=k
       ·rw [e];simpa using Hbk.out.trans (HRb.out k hlt)
       ·simpa [e] using this
      ·rw [if_pos rfl] at hu
       have hu2:((R2 k).l.set q v7)[p]?=some u:=hu;rw [List.getElem?_set_ne oM] at hu2;replace hu:=hu2;exact Hp.out.2 _ _ (((Hlo.out p oM u hu).below HB67.out lR).more HB67.out.size lR)
      ·have hne:fb≠bk:=fun e=>hfS ⟨k,hlt,by rw [e,<- HRb.out k hlt,Hbk.out]⟩
       exact(a0K _ _ _ _ _ hne).trans Hf7.out
     case measure=>simp [intOf];omega
end
end Go.Proofs.YtniaimjknmhapaaGreatDoor
