/- My texts ShrW, EffW, OfH. -/
import Derived.Test.YtniaimjknmhapaaGreatDoorG37
import Derived.Test.YtniaimjknmhapaaGreatDoorG35
import Derived.Test.YtniaimjknmhapaaGreatDoorG38
set_option linter.unusedVariables false
set_option linter.unusedSimpArgs false
set_option maxRecDepth 100000
set_option maxHeartbeats 16000000
namespace Go.Proofs.YtniaimjknmhapaaGreatDoor
open Go.Proofs.Tryz Go.RowKit
def KS:Nat:=kk 7 12+kk 7 12
theorem kk7 {p:Nat} (h:p<=12):kk 7 p<=123032917:=Nat.le_trans (a3B 7 h) dC
theorem KS7:7<=KS:=dC
def SharePost (m:Nat) (w:World) (e:Ending) (w':World):Prop :=
 Below w w w'/\((∃ k:Int,k≠0/\e=.returned (.tuple #[.slice none 0 0,k]))∨∃ A c l,e=.returned (.tuple #[.slice A m c,()])/\l.length=m/\RowsAt Rn.cells 4 w' w' A l/\∀ x∈l,x.At w' w' KS)
theorem Rn.At.stored {w:World} {b:Nat} {t:TypeId} {l:List Rn} (h:Row w b t (rcells l)) (o:Nat) (vs:List Value) {y:Rn} {L:Nat} (hy:y.At w w L):y.At (w.setCells b o vs) (w.setCells b o vs).heap.size L:=by
 rw [a0O];exact hy.other h (a0L _) (fun c hc=>a0K _ _ _ _ _ hc)
theorem a3r {w:World} {b:Nat} {t:TypeId} {l:List Rn} (h:Row w b t (rcells l)) {j:Nat} (hj:j<l.length):w.there b (j*4) 4:=by
 intro q hq;refine⟨?_,fr0 _ h⟩;rw [cr9 _ h,Array.getElem?_eq_getElem (by unfold rcells;rw [List.size_toArray,a0x (f:=Rn.cells) (sz:=4) (fun _=>rfl)];omega)];rfl
theorem a1S {B:Nat} {a w:World} {b:Nat} (h:Below B a w) (hb:B<=b) (o:Nat) (vs:List Value):Below B a (w.setCells b o vs) :=
 ⟨(a0I b vs o w).1.trans h.os,(a0I b vs o w).2.1.trans h.tape,(a0I b vs o w).2.2.trans h.output,by rw [a0O];exact h.size,fun k hk=>(a0K b vs o w k oM).trans (h.block k hk)⟩
theorem a1A {α:Type} {P:α->Prop} {l:List α} {k:Nat} {x:α} (h:∀ y∈l,P y) (hx:P x):∀ y∈l.set k x,P y:=fun y hy=>by
 rcases List.mem_or_eq_of_mem_set hy with hm | rfl
 ·exact h y hm
 ·exact hx
theorem b0H {α β:Type} {f:β->List Value} {g:α->β} {sz:Nat} {w:World} {B:Nat} {A:Option Addr} {l:List α} (h:RowsAt (fun x=>f (g x)) sz w B A l):RowsAt f sz w B A (l.map g):=by
 rcases h with h | ⟨b,o,e,hl,hc⟩
 ·exact .inl (by rw [h];rfl)
 ·exact .inr ⟨b,o,e,hl,fun k hk=>by have:=hc k (by simpa using hk);simpa using this⟩
section
variable (w:World)
theorem b1N (A:Option Addr) (m c e:Nat) (M:List IRow) (hm:1<=m) (he:e<m) (hM:MatI w w A m m M) (hMb:∀ r∈M,∀ x∈r.l,0<=x/\x<=10000) :
  Calls prog 169 #[.slice A m c,e] w fun ev w'=>(∃ x:Int,ev=.returned (.int .i64 x)/\0<=x/\x<=10000)/\w'=w:=by
 have h1:0<M.length:=by rw [hM.hl];omega
 obtain⟨b,o,rfl,hb,hr⟩:=RowsAt.look hM.hA h1;have c0:=hr 0 _ rfl;simp at c0;have hx:=hM.hx M[0] (List.getElem_mem h1);have h2:e<M[0].l.length:=by rw [hx.1.hl,hx.2];exact he
 obtain⟨b2,o2,e1,hb2,hr2⟩:=RowsAt.look hx.1.hA h2;have d0:=hr2 0 _ rfl;simp at d0;rw [e1,hx.2] at c0;have hbd:=hMb _ (List.getElem_mem h1) _ (List.getElem_mem h2);obtain⟨x,hxe⟩:∃ x,x=M[0].l[e]:=⟨_,rfl⟩;rw [<- hxe] at d0 hbd;have hem:(e:Int)<(m:Int):=oM;have he0:(0:Int)<=(e:Int):=oM;have hm0:(0:Int)<(m:Int):=oM;have Hbd:=Z1 hbd;clear hr hr2 hx hxe hbd e1 hM hMb;go_enter func169,ntmps169;go_wp2;go_ret;exact⟨⟨x,rfl,Hbd.out⟩,rfl⟩
theorem a8L (A:Option Addr) (n c m:Nat) (l:List Hld) (d:Int) (pr:Rn) (hl:l.length=n) (hn:n<=200) (hw:∀ x∈l,x.wf) (hA:RowsAt Hld.cells 4 w w A l) (hv:Hd.valid m l=true) (hd:-25567<=d/\d<=84005) (hpr:pr.At w w.heap.size 3) :
  Calls prog 167 #[m,.slice A n c,d,pr.v,.func (.func 169) #[] #[]] w (SharePost m w):=by
 have hm:1<=m/\m<=12:=by have:=hv;unfold Hd.valid at this;simp at this;omega
 have hm1:=hm.1;have hm2:=hm.2;have hmm:(m:Int)<=12:=oM;obtain⟨i0,hi,hz0,hz1,hz2⟩:=info_parts intInfo;obtain⟨i1,hi',hy0,hy1,hy2⟩:=info_parts ratInfo;have Hbd:=fun M=>Z1 (Hd.matrix_bd m l d (Hd.valid_shr hv) M);obtain⟨W1,hW1,hB1,hr1,-⟩:=nw1 w pr 43;obtain⟨Hm,HW1,HB1,Hr1,Hpr⟩:=Z5 (a2H W1 A n c m l d hl hn hw (RowsAt.at_ hA hB1) hv hd) hW1 hB1 hr1 ((hpr.below hB1 lR).more hB1.size lR);have r1:=Vq hr1;clear hA hl hw hd hv hn hm hW1 hB1 hr1 hpr;unfold Rn.v;go_enter func167,ntmps167;go_upto_region 1 with(fail);rw [<- HW1.out];go_wp2_with (fail);refine Hm.out.mono ?_;rintro ev W2 ⟨hB2,A2,c2,M,rfl,hM,hML⟩;have HM:=Z1 hM;have HMb:=Z1 ((Hbd M).out hML);have HB2:=bT HB1 hB2;have Hr2:=gB Hr1 hB2 r1;have Hpr2:=Z1 ((Hpr.out.below hB2 lR).more hB2.size lR);have hs2:=HB2.out.size;have r2:=Vq Hr2.out;clear hM hML hB2 Hm Hbd;go_wp2_with (at_make;refine a0C icell 1 (0:Int) rfl _ _ 128 rfl 3 i0 (.int .i64 0) rfl dC underlying128 hi hz0 rfl hz1 oM _ _ _ _ m rfl rfl rfl rfl oM ?_;intro w3 hw3);obtain⟨pb,hpb⟩:∃ pb,pb=W2.heap.size:=⟨_,rfl⟩
 have harr:Row w3 pb 3 (cellsI (List.replicate m 0)):=by
  have:=heap_alloc_new W2 (.cells ((List.replicate m (0:Int)).flatMap icell).toArray 3);have e:∀ k,((List.replicate k (0:Int)).flatMap icell).toArray=cellsI (List.replicate k 0):=fun k=>by unfold cellsI;congr 1;induction k with | zero=>rfl | succ k ih=>rw [List.replicate_succ,List.flatMap_cons,ih];rfl
  rw [<- e];unfold Row;rw [hpb,hw3.out];exact this
 have Harr:=Z1 harr;have HB3:Hid (Below pb W2 w3):=Z1 (by rw [hw3.out];exact(Below.refl pb W2).alloc (by rw [hpb];exact lR) _);rw [<- hpb];have hp1:pb<=W2.heap.size:=Nat.le_of_eq hpb;have hp2:W2.heap.size<=pb:=Nat.le_of_eq hpb.symm;clear hw3 harr hpb;go_wp2
 go_loopw [15] (fun i wr=>∃(k:Nat) (pl:List Int),1<=k/\k<=m/\i=.int .i64 k/\pl.length=m/\(∀ x∈pl,0<=x/\x<=10000)/\Row wr pb 3 (cellsI pl)/\Below pb W2 wr) (fun i _=>m-(intOf i).toNat)
 case atStart=>exact⟨1,_,lR,hm1,rfl,sP,fun x hx=>by rw [List.eq_of_mem_replicate hx];omega,Harr.out,HB3.out⟩
 case round =>
  obtain⟨V,rfl⟩:∃ V,V=wr:=⟨_,rfl⟩;obtain⟨k,pl,hk1,hkm,rfl,hpl,hpx,hrow,hb⟩:=hrel;have hVs:=hb.size;have hk0:(0:Int)<=(k:Int):=oM;have HMV:=Z1 ((MatI.below HM.out hb oM).more (show W2.heap.size<=V.heap.size by omega))
  by_cases hlt:k<m
  ·have hkm2:(k:Int)<(m:Int):=oM
   obtain⟨H1,Hrow,Hb,Hpx⟩:=Z4 (b1N V A2 m c2 k M hm1 hlt HMV.out HMb.out) hrow hb hpx;have p1:=Vq hrow;have p2:=fr0 k hrow;have p3:V.cell? ⟨pb,k,none⟩=some (.int .i64 pl[k]):=by rw [cr9 k hrow];unfold cellsI;simp [hpl,hlt]
   clear hrow hb hpx;go_wp2_with (fail);refine H1.out.mono ?_;rintro ev V2 ⟨⟨x,rfl,hx⟩,rfl⟩;have hr':=Row.set Hrow.out k (.int .i64 x);have hce:(cellsI pl).setIfInBounds k (.int .i64 x)=cellsI (pl.set k x):=by unfold cellsI;simp [List.map_set]
   rw [hce] at hr';have Hr':=Z1 hr';have Hb':=Z1 (Hb.out.setCell (p:=⟨pb,k,none⟩) lR (.int .i64 x));have Hx':Hid (∀ y∈pl.set k x,0<=y/\y<=10000):=Z1 (a1A Hpx.out hx);clear hr' hce hx H1;go_wp2;go_roundw
   case rel=>exact⟨k+1,pl.set k x,oM,oM,by go_num,by simpa using hpl,Hx'.out,Hr'.out,Hb'.out⟩
   case measure=>simp [intOf];omega
  obtain rfl:k=m:=oM;have hrA:RowsAt icell 1 V V.heap.size (some ⟨pb,0,none⟩) pl:=a3c (Value.int .i64) hrow;obtain⟨Hre,Hpl,Hpx,Hb,HbV⟩:=Z5 (a6A V A2 k c2 M (some ⟨pb,0,none⟩) k pl hm1 hm2 HMV.out hpl hrA) hrA hpx hb (HB2.out.trans (hb.mono oM));clear hrow hrA hpx hb;go_wp2_with (fail);refine Hre.out.mono ?_;rintro ev V2 ⟨hB4,g,F,rfl,hFl,hF⟩;have g1:=Vq hF;have Hpl2:=Z1 (RowsAt.at_ Hpl.out hB4);have HM2:=Z1 (MatI.more (MatI.below HMV.out hB4 lR) hB4.size);have Hr3:Hid (Row V2 w.heap.size 43 pr):=Z1 ((hB4.block w oM).trans ((Hb.out.block w oM).trans Hr2.out));have Hpr3:=Z1 ((((Hpr2.out.below Hb.out oM).more hVs lR).below hB4 lR).more hB4.size lR);have HB5:=bT HbV hB4;have HF:=Z1 hF;clear hF hB4 Hre Hpl HMV Hr2 Hpr2 Hb HbV;have hs4:=HB5.out.size;have r4:=Vq Hr3.out;go_wp2
  go_loopw [16,54] (fun v vi wr=>∃(q:Nat) (P:List Nat),q<=k/\vi=.int .i64 q/\(∀ x∈P,x<k)/\P.length<=q/\wr.ownsRow V2.heap.size 3 1 v P.length (P.flatMap fun x:Nat=>[Value.int .i64 (x:Int)])/\Below V2.heap.size V2 wr) (fun _ vi _=>k-(intOf vi).toNat)
  case atStart=>exact⟨0,[],Nat.zero_le _,rfl,sP,sP,World.ownsRow_nil _ _ _ _,bR⟩
  case round =>
   obtain⟨V3,rfl⟩:∃ V3,V3=wr:=⟨_,rfl⟩;obtain⟨q,P,hqk,rfl,hPx,hPl,hown,hb⟩:=hrel;have hs3:=hb.size;have hq0:(0:Int)<=(q:Int):=oM
   by_cases hqlt:q<k
   ·have hq2:(q:Int)<(k:Int):=oM
    have f0:=(hb.cell (p:=⟨g,q,none⟩) g1).trans (show V2.cell? ⟨g,q,none⟩=some (.bool (F.getD q false)) from by rw [cr9 q HF.out];unfold cellsB;simp [show q<F.length by omega]);have g3:g<V3.heap.size:=oM;obtain⟨Hown,Hb,HPx⟩:=Z3 hown hb hPx;clear hown hb hPx
    cases hf:F.getD q false with
    | false =>
     rw [hf] at f0;clear hf;go_wp2;go_roundw
     case rel=>exact⟨q+1,P,oM,by go_num,HPx.out,oM,Hown.out,Hb.out⟩
     case measure=>simp [intOf];omega
    | true =>
     rw [hf] at f0;clear hf;go_wp2_with (at_builtin;refine Hid.out ?_);show wpList _ _ _ _ _ _;refine a1j eltInt Hown.out [q] rfl rfl rfl rfl rfl oC oM oM ?_;intro v' w' ho' hb' hk';have Ho:Hid (w'.ownsRow V2.heap.size 3 1 v' (P++[q]).length ((P++[q]).flatMap fun x:Nat=>[Value.int .i64 (x:Int)])):=Z1 (by rw [List.length_append,List.flatMap_append];exact ho');have HBn:=Z1 (Hb.out.trans hb');clear ho' hb' hk';go_wp2;go_roundw
     case rel=>exact⟨q+1,P++[q],oM,by go_num,fun x hx=>by rcases List.mem_append.1 hx with h | h;exact HPx.out x h;rw [List.mem_singleton.1 h];omega,sO,Ho.out,HBn.out⟩
     case measure=>simp [intOf];omega
   obtain rfl:q=k:=oM;obtain⟨A3,c3,rfl,hA3⟩:=Xz (f:=fun x:Nat=>[Value.int .i64 (x:Int)]) (sz:=1) dC (fun _=>rfl) hown rfl;have HP:=Z1 hA3
   have HPb:Hid (P.length≠0->∀ ad,A3=some ad->ad.block<V3.heap.size):=Z1 (fun hne ad e=>by
    rcases hA3 with h | ⟨b,o,e',hl,_⟩
    ·rw [h] at hne;simp at hne
    ·rw [e'] at e;cases e;exact hl)
   obtain⟨HPx,Hpl3,HM3⟩:=Z3 hPx (RowsAt.at_ Hpl2.out hb) (MatI.more (MatI.below HM2.out hb lR) hb.size);have Hr4:Hid (Row V3 w.heap.size 43 pr):=Z1 ((hb.block w oM).trans Hr3.out);have Hpr4:=Z1 ((Hpr3.out.below hb lR).more hb.size lR);have HB6:=Z1 (HB5.out.trans (hb.mono oM));clear hown hb hPx hA3 Hpl2 HM2 Hr3 Hpr3 HB5 HF;go_wp2_with (at_make;refine a0C Rn.cells 4 Rn.zero rfl _ _ 184 rfl 43 i1 (.agg ZR) rfl dC underlying184 hi' hy0 rfl hy1 oM _ _ _ _ q rfl rfl rfl rfl oM ?_;intro w5 hw5);obtain⟨ob,hob⟩:∃ ob,ob=V3.heap.size:=⟨_,rfl⟩
   have harr:Row w5 ob 43 (rcells (List.replicate q Rn.zero)):=by
    have:=heap_alloc_new V3 (.cells ((List.replicate q Rn.zero).flatMap Rn.cells).toArray 43);unfold Row;rw [hob,hw5.out];exact this
   have Harr5:=Z1 harr;have HB7:Hid (Below ob V3 w5):=Z1 (by rw [hw5.out];exact(Below.refl ob V3).alloc (by rw [hob];exact lR) _);rw [<- hob];have ho1:ob<=V3.heap.size:=Nat.le_of_eq hob;have ho2:V3.heap.size<=ob:=Nat.le_of_eq hob.symm;clear hw5 harr hob;go_wp2
   go_loopw [69] (fun vi wr=>∃(i:Nat) (ol:List Rn),i<=q/\vi=.int .i64 i/\ol.length=q/\(∀ x∈ol,x.At wr wr KS)/\Row wr ob 43 (rcells ol)/\Below ob V3 wr) (fun vi _=>q-(intOf vi).toNat)
   case atStart=>exact⟨0,_,Nat.zero_le _,rfl,sP,fun x hx=>by rw [List.eq_of_mem_replicate hx];exact Rn.zero_at _ _ _,Harr5.out,HB7.out⟩
   case round =>
    obtain⟨V4,rfl⟩:∃ V4,V4=wr:=⟨_,rfl⟩;obtain⟨i,ol,hiq,rfl,hol,hox,hrow,hb⟩:=hrel;have hs5:=hb.size;have hi0:(0:Int)<=(i:Int):=oM;have o1:=Vq hrow
    by_cases hilt:i<q
    ·have hi2:(i:Int)<(q:Int):=oM
     obtain⟨Hpt,Hrow,Hb,Hox⟩:=Z4 (a2G V4 0 oM oM) hrow hb hox;clear hrow hb hox;go_wp2_with (fail);refine Hpt.out.mono ?_;rintro ev V5 ⟨⟨z,rfl,hz⟩,hB5⟩;have hr5:=gbox Hrow.out hB5 o1;have Hth:=Z1 (a3r hr5 (show i<ol.length by omega));have Hr5:=Z1 (a4S z hr5 (show i<ol.length by omega));have Hx5:Hid (∀ y∈ol.set i z,y.At (V5.setCells ob (i*4) z.cells) (V5.setCells ob (i*4) z.cells).heap.size KS):=Z1 (a1A (fun y hy=>Rn.At.stored hr5 _ _ (((Hox.out y hy).below hB5 lR).more hB5.size lR)) (Rn.At.stored hr5 _ _ (hz.more lR (by have:=KS7;omega))));have Hb5:=Z1 (a1S (Hb.out.trans (hB5.mono oM)) lR (i*4) z.cells);clear hr5 hz hB5 Hpt;unfold Rn.v;go_wp2_with (refine wpList_store_mid rfl 43 (.tmp 75) (.tmp 74) rfl ob (i*4) z rfl rfl Hth.out Vy oC ?_);go_roundw
     case rel=>exact⟨i+1,ol.set i z,oM,by go_num,by simpa using hol,Hx5.out,Hr5.out,Hb5.out⟩
     case measure=>simp [intOf];omega
    obtain rfl:i=q:=oM;have hr4:Row V4 w.heap.size 43 pr:=(hb.block w oM).trans Hr4.out;have Hth:=Z1 (a3r hrow (show 0<ol.length by omega));obtain⟨V5,hV5⟩:∃ V5,V5=V4.setCells ob (0*4) pr.cells:=⟨_,rfl⟩;have hr5:Row V5 ob 43 (rcells (ol.set 0 pr)):=by rw [hV5];exact a4S pr hrow oM
    have hx5:∀ y∈ol.set 0 pr,y.At V5 V5.heap.size KS:=by
     rw [hV5];exact a1A (fun y hy=>Rn.At.stored hrow _ _ (hox y hy)) (Rn.At.stored hrow _ _ (((Hpr4.out.below hb ho2).more hs5 lR).more lR (by have:=KS7;omega)))
    have hb5:Below ob V3 V5:=by rw [hV5];exact a1S hb lR _ _
    have hs6:=hb5.size;obtain⟨ol5,hol5⟩:∃ ol5,ol5=ol.set 0 pr:=⟨_,rfl⟩;have hl5:ol5.length=i:=by rw [hol5];simpa using hol
    rw [<- hol5] at hr5 hx5;have HV5:Hid (V5=V4.setCells ob 0 pr):=Z1 (by rw [hV5];rfl);have o5:=Vq hr5;obtain⟨HP5,Hpl5,HM5,HB8,Hr5,Hx5⟩:=Z6 (RowsAt.more (RowsAt.below HP.out hb5 ho2) hs6) (RowsAt.more (RowsAt.below Hpl3.out hb5 ho2) hs6) (MatI.more (MatI.below HM3.out hb5 ho2) hs6) (HB6.out.trans (hb5.mono oM)) hr5 hx5;clear hV5 hol5 hrow hox hb hb5 hr5 hx5 HP Hpl3 HM3 HB6;go_upto_region 23 with(first | (refine wpList_load_row rfl 43 _ rfl _ rfl _ _ _ _ hr4 underlying43 rfl Vy ?_) | (refine wpList_store_mid rfl 43 (.tmp 79) (.tmp 78) rfl ob 0 pr rfl rfl Hth.out Vy oC ?_));rw [<- HV5.out];clear hr4 HV5 Hth
    by_cases hP0:P.length=0
    ·have k1:((P.length:Int)==0)=true:=by rw [hP0];rfl
     have HZ:Hid (SharePost i w (.returned (.tuple #[.slice (some ⟨ob,0,none⟩) i i,()])) V5):=Z1 ⟨HB8.out,.inr ⟨_,i,ol5,rfl,hl5,a0z Hr5.out o5 (fun _ _=>rfl),Hx5.out⟩⟩;clear hP0;go_wp2
     go_ret2
     exact HZ.out
    have k1:((P.length:Int)==0)=false:=beq_eq_false_iff_ne.2 oM;have Heq:=Z1 (b1H V5 A2 (some ⟨pb,0,none⟩) A3 i c2 i P.length c3 M pl P hm1 hm2 HM5.out HMb.out hpl Hpx.out Hpl5.out oM oM rfl HPx.out (b0H (f:=icell) (g:=fun x:Nat=>(x:Int)) HP5.out));go_wp2_with (fail);refine Heq.out.mono ?_;rintro ev V6 ⟨hB6,A6,c6,rows,B6,d6,bl,rfl,hrl,hA6,hrx,hbl,hB6',hbx⟩;have Hso:=Z1 (a8H V6 A6 B6 P.length c6 d6 7 rows bl oM oM oM (by have:=kk7 (show P.length<=12 by omega);omega) hrl hA6 hrx hbl hB6' hbx);have HB6:=Z1 hB6;clear hB6 hrl hA6 hrx hbl hB6' hbx Heq;go_wp2_with (fail);refine Hso.out.mono ?_;rintro ev V7 ⟨hB7,h7⟩;have HB9:=bT HB6 hB7;have hs7:=HB9.out.size;have HB10:=Z1 (HB8.out.trans (HB9.out.mono (by have:=HB8.out.size;omega)));clear hB7 Hso
    rcases h7 with⟨er,hne,rfl⟩ | ⟨A7,c7,zl,rfl,hzl,hzA,hzx,hzf⟩
    ·have k2:(er != 0)=true:=by simpa using hne
     have HZ:Hid (SharePost i w (.returned (.tuple #[.slice none 0 0,er])) V7):=Z1 ⟨HB10.out,.inl ⟨er,hne,rfl⟩⟩;clear hne;go_wp2
     go_ret2
     exact HZ.out
    obtain⟨bz,oz,rfl,hbz,hrz⟩:=RowsAt.base hzA oM;have hzo:V6.heap.size<=bz:=hzf _ rfl;have h67:=HB6.out.size;have hP7:=RowsAt.at_ HP5.out HB9.out;obtain⟨bP,oP,rfl,hbP,hrP⟩:=RowsAt.base hP7 oM;have hPo:bP≠ob:=by have:=HPb.out hP0 _ rfl;simp at this;omega
    obtain⟨Hrz,HrP,Hr7,Hx7⟩:=Z4 hrz hrP (gbox Hr5.out HB9.out o5) (fun y hy=>((Hx5.out y hy).below HB9.out lR).more HB9.out.size lR);have Hzx:Hid (∀ x∈zl,x.At V7 V7.heap.size KS):=Z1 (fun x hx=>(hzx x hx).more lR (by have:=a3B 7 (show P.length<=12 by omega);show _<=kk 7 12+kk 7 12;omega));have hpz:P.length<=12:=oM;clear hzA hrz hzf hP7 hrP hzx Hr5 Hx5 HP5;go_wp2
    go_loopw [102] (fun vi wr=>∃(j:Nat) (ol:List Rn),j<=P.length/\vi=.int .i64 j/\ol.length=i/\(∀ x∈ol,x.At wr wr KS)/\Row wr ob 43 (rcells ol)/\KeepX (fun b=>b=ob) V7 wr) (fun vi _=>P.length-(intOf vi).toNat)
    case atStart=>exact⟨0,ol5,Nat.zero_le _,rfl,hl5,Hx7.out,Hr7.out,KeepX.refl _ _⟩
    case round =>
     obtain⟨U,rfl⟩:∃ U,U=wr:=⟨_,rfl⟩;obtain⟨j,ol6,hj,rfl,hol6,hx6,hr6,hX⟩:=hrel;have hj0:(0:Int)<=(j:Int):=oM;have o6:=Vq hr6;have hUs:=hX.size
     by_cases hjP:j<P.length
     case neg =>
      have hBU:Below w w U:=HB10.out.trans (hX.to_below oM (fun b hb e=>oM));have HZ:Hid (SharePost i w (.returned (.tuple #[.slice (some ⟨ob,0,none⟩) i i,()])) U):=Z1 ⟨hBU,.inr ⟨_,i,ol6,rfl,hol6,a0z hr6 o6 (fun _ _=>rfl),hx6⟩⟩;obtain rfl:j=P.length:=oM;clear hx6 hr6 hX hBU;go_wp2
      go_ret2
      exact HZ.out
     have hjP2:(j:Int)<(P.length:Int):=oM;have y1:=(hX.cell (show bP<V7.heap.size by omega) hPo (oP+j)).trans (show V7.cell? ⟨bP,oP+j,none⟩=some (.int .i64 (P[j]:Nat)) from by have:=HrP.out j hjP 0 _ rfl;simpa using this);obtain⟨e,he⟩:∃ e,e=P[j]:=⟨_,rfl⟩;have hei:e<i:=by rw [he];exact HPx.out _ (List.getElem_mem hjP)
     rw [<- he] at y1;have hjz:j<zl.length:=oM;have y2:=hX.range (Hrz.out j hjz) hbz oM;obtain⟨z,hz⟩:∃ z,z=zl[j]:=⟨_,rfl⟩;rw [<- hz] at y2;have hza:=(Hzx.out zl[j] (List.getElem_mem hjz)).keepX (fun b hb=>by subst hb;exact⟨_,_,_,Hr7.out,a0L _⟩) hX;rw [<- hz] at hza;have hei2:(e:Int)<(i:Int):=oM;have he0:(0:Int)<=(e:Int):=oM;have y3:bP<U.heap.size:=oM;have y4:bz<U.heap.size:=oM;have Hth:=Z1 (a3r hr6 (show e<ol6.length by omega));have Hy2:=Z1 y2;have Hr8:=Z1 (a4S z hr6 (show e<ol6.length by omega));have Hx8:Hid (∀ y∈ol6.set e z,y.At (U.setCells ob (e*4) z.cells) (U.setCells ob (e*4) z.cells).heap.size KS):=Z1 (a1A (fun y hy=>Rn.At.stored hr6 _ _ (hx6 y hy)) (Rn.At.stored hr6 _ _ hza));have HX8:=Z1 (hX.put (b:=ob) rfl (e*4) z.cells);clear he hz y2 hza hx6 hr6 hX;go_wp2_with (first | (refine wpList_load_mid rfl 43 (.tmp 111) rfl bz (oz+j*4) rfl z _ Hy2.out underlying43 rfl Vy ?_) | (refine wpList_store_mid rfl 43 (.tmp 113) (.tmp 112) rfl ob (e*4) z rfl rfl Hth.out Vy oC ?_));go_roundw
     case rel=>exact⟨j+1,ol6.set e z,oM,by go_num,by simpa using hol6,Hx8.out,Hr8.out,HX8.out⟩
     case measure=>simp [intOf];omega
theorem b1M (A:Option Addr) (n c m:Nat) (l:List Hld) (d:Int) (hl:l.length=n) (hn:n<=200) (hw:∀ x∈l,x.wf) (hA:RowsAt Hld.cells 4 w w A l) (hv:Hd.valid m l=true) (hd:-25567<=d/\d<=84005) :
  Calls prog 102 #[m,.slice A n c,d] w (SharePost m w):=by
 have Hp:=Z1 (a2G w 10000 oM oM);have Hs:=fun(W:World) (hB:Below w w W) (z:Rn) (hz:z.At W W.heap.size 3)=>Z1 (a8L W A n c m l d z hl hn hw (RowsAt.at_ hA hB) hv hd hz);unfold Rn.v at Hs;clear hA hl hw hd hv hn;go_enter func102,ntmps102;go_wp2_with (fail);refine Hp.out.mono ?_;rintro ev W2 ⟨⟨z,rfl,hz⟩,hB2⟩;have Hs2:=Hs W2 hB2 z hz;have HB2:=Z1 hB2;clear Hs hz hB2 Hp;unfold Rn.v;go_wp2_with (fail);refine Hs2.out.mono ?_;rintro ev W3 ⟨hB3,h⟩;have HB3:=bT HB2 hB3;clear hB3
 rcases h with⟨k,hk,rfl⟩ | ⟨A3,c3,l3,rfl,h3⟩
 ·have HZ:Hid (SharePost m w (.returned (.tuple #[.slice none 0 0,k])) W3):=Z1 ⟨HB3.out,.inl ⟨k,hk,rfl⟩⟩
  clear hk;go_wp2
  go_ret2
  exact HZ.out
 ·have HZ:Hid (SharePost m w (.returned (.tuple #[.slice A3 m c3,()])) W3):=Z1 ⟨HB3.out,.inr ⟨A3,c3,l3,rfl,h3⟩⟩
  clear h3;go_wp2
  go_ret2
  exact HZ.out
end
open Go.Proofs.Tryz Go.RowKit
def QAny (_ _ _:Int):Prop:=True
theorem Rn.At.eff {w w':World} {d:Int} {x:Rn} (h:x.At w' w' KS) (hB:Below w w w'):EffPost KS QAny d w (.returned x.v) w':=by
 obtain⟨N,D,h⟩:=h;exact⟨hB,x,N,D,rfl,h,trivial⟩
section
variable (w:World)
theorem b2N (b:Bks) (e:Nat) (d:Int) (he0:e≠0) (he:e<b.g.ents.length) (hb:b.At w w) (hv:Hd.valid b.g.ents.length b.holds=true) (hd:-25567<=d/\d<=84005) :
  Calls prog 53 #[b,e,d] w (EffPost KS QAny d w):=by
 obtain⟨W1,hW1,hB0,hb0,hr0,hz⟩:=nw2 w b ZR 36 43;have hel:=hb.hg.hel;have Hef:=Z1 (b1M W1 b.hA b.hn b.hc b.g.ents.length b.holds d hb.hhl (by have:=hb.hhn;omega) hb.hHw (RowsAt.at_ hb.hH hB0) hv hd);rw [hel] at Hef;obtain⟨HW,HB0,Hr0⟩:=Z3 hW1 hB0 hr0;have x20:=cr9 20 hb0;have x23:=cr9 23 hb0;simp at x20 x23;have s0:=Vq hb0;have s1:=Vq hr0;have k1:((e:Int)==0)=false:=sO;have hen:e<b.g.en:=oM;have k2:decide ((e:Int) ≥ (b.g.en:Int))=false:=decide_eq_false oM;have he1:(0:Int)<=(e:Int):=oM;have he2:(e:Int)<(b.g.en:Int):=oM;clear hW1 hz hb0 hr0 hB0 hb hv hd hel he;go_enter func53,ntmps53;go_upto_region 1 with(fail);rw [<- HW.out];go_wp2_with (fail);refine Hef.out.mono ?_;rintro ev W2 ⟨hB2,h2⟩;have HB2:=bT HB0 hB2;have Hr2:=gB Hr0 hB2 s1;have Hr2r:=Hr2.out;clear x20 x23 hB2 Hef
 rcases h2 with⟨er,hne,rfl⟩ | ⟨A3,c3,l3,rfl,h3l,h3A,h3x⟩
 ·have k3:(er != 0)=true:=by simpa using hne
  have Ho:Hid ((ZR:Array Value).all (·.oneCell')=true):=Z1 oC;have hRF:=setRow_heap W2 (w.heap.size+1) _ ZR _ _ Hr2.out;have Hload:=Z1 (run_loadVar_row (P:=prog) _ _ _ 43 _ _ _ hRF underlying43 rfl Vy);have HBZ:=Z1 (below_setRow HB2.out (show w.heap.size<=w.heap.size+1 by omega) ZR);clear hRF hne;go_wp2_with (refine Vx rfl 43 (.tmp 6) (.tmp 37) none rfl rfl (w.heap.size+1) 43 _ ZR rfl rfl Hr2.out rfl Vy Ho.out ?_);exact bodyPost_ret (v:=.agg ZR) (by simp [results,results53,asAddr,Act.put,Hload.out]) rfl (Rn.At.eff (x:=Rn.zero) (Rn.zero_at _ _ _) HBZ.out)
 ·have hel3:e<l3.length:=oM
  obtain⟨b3,o3,rfl,hb3,hr3⟩:=RowsAt.look h3A hel3;obtain⟨z,hz⟩:∃ z,z=l3[e]:=⟨_,rfl⟩;have hza:=h3x _ (List.getElem_mem hel3);rw [<- hz] at hr3 hza;have Hr3:=Z1 hr3;have Ho:Hid ((z:Array Value).all (·.oneCell')=true):=Z1 oC;have hRF:=setRow_heap W2 (w.heap.size+1) _ z _ _ Hr2.out;have Hload:=Z1 (run_loadVar_row (P:=prog) _ _ _ 43 _ _ _ hRF underlying43 rfl Vy);have HBZ:=Z1 (below_setRow HB2.out (show w.heap.size<=w.heap.size+1 by omega) z);have Hza:=Z1 ((hza.other Hr2.out a0F (fun c hc=>setRow_other W2 (w.heap.size+1) c z hc)).more (C:=(W2.setRow (w.heap.size+1) z).heap.size) sP lR);clear hRF hz hr3 hza h3A h3x;go_wp2_with (first | (refine wpList_load_mid rfl 43 (.tmp 40) rfl b3 (o3+e*4) rfl z _ Hr3.out underlying43 rfl Vy ?_) | (refine Vx rfl 43 (.tmp 6) (.tmp 41) none rfl rfl (w.heap.size+1) 43 _ z rfl rfl Hr2.out rfl Vy Ho.out ?_));exact bodyPost_ret (v:=z) (by simp [results,results53,asAddr,Act.put,Hload.out]) rfl (Rn.At.eff Hza.out HBZ.out)
end
open Go.Proofs.Tryz Go.RowKit
def OfWhy (b:Bks) (E p:Int):Prop:=∀ e:Nat,E=e->e<b.g.ents.length->Cb.valid b=true->0<=p/\p<b.g.N ->
 Tr.items b e p=none∨∃ now,Ct.current b.g b.holds e (Cal.last b.g.Y b.g.M p)=some now/\now.meth=2
def OfPure (b:Bks) (E p:Int) (x:Ctn) (its sh:List Itm) (N D:Int):Prop:=Cb.valid b=true/\∃(e:Nat) (now:Itv),E=e/\e<b.g.ents.length/\(0<=p/\p<b.g.N) /\
 Ct.current b.g b.holds e (Cal.last b.g.Y b.g.M p)=some now/\x.ent=e/\x.meth=now.meth/\x.since=now.frm/\x.n=its.length/\x.m=sh.length/\CtnOf b e p (Ct.intervals b.g b.holds e) now N D its sh
def OfAny (b:Bks) (E p:Int) (w:World) (ev:Ending) (w':World):Prop :=
 Below w w w'/\((OfWhy b E p/\∃ n,n≠0/\ev=.returned (.tuple #[Ctn.zero.v,.int .i64 n])) ∨
  ∃(its sh:List Itm) (x:Ctn) (N D:Int),ev=.returned (.tuple #[x.v,()])/\OfPure b E p x its sh N D /\
   RowsAt Itm.cells 7 w' w' x.A its/\RowsAt Itm.cells 7 w' w' x.B sh/\Fresh w x.A/\Fresh w x.B/\RI w' w' KS KS x.s.v N D/\(E=0->N=1/\D=1))
theorem KSmax:6*KS+1000<=10000000000:=dC
section
variable (w:World)
theorem a9e (b:Bks) (E p:Int) (h:Cal.err b.g.Y b.g.M b.g.N p=0) (hE:E<0∨(b.g.en:Int)<=E):CL 22 #[b,E,p] w (.tuple #[Ctn.zero.v,(2:Int)]):=by
 obtain⟨W1,hW1,hB0,hb0,hr0,hz⟩:=nw2 w b ZC 36 46;obtain⟨HW,HB0,Hr0,Hb0⟩:=Z4 hW1 hB0 hr0 hb0;have x1:=cr9 1 hb0;have x2:=cr9 2 hb0;have x3:=cr9 3 hb0;simp at x1 x2 x3;have s0:=Vq hb0;have s1:=Vq hr0;have HLa:=Z1 (fun W=>a2y b.g.Y b.g.M b.g.N p W h);obtain⟨la,hla⟩:∃ la,la=Cal.last b.g.Y b.g.M p:=⟨_,rfl⟩;rw [<- hla] at HLa;clear hW1 hz hb0 hr0 hB0 hla h;go_enter func22,ntmps22;go_upto_region 1 with(fail);rw [<- HW.out];go_wp2_with (fail);refine(HLa.out _).mono ?_;rintro ev W2 ⟨rfl,hB2⟩;have Hb2:=gB Hb0 hB2 s0;have y20:=cr9 20 Hb2.out;simp at y20;have HB2:=Z1 (HB0.out.trans (hB2.mono oM));have Hr2:=gB Hr0 hB2 s1;clear x1 x2 x3 hB2
 rcases hE with hE | hE
 ·skip
  have Ho:Hid ((ZC:Array Value).all (·.oneCell')=true):=Z1 oC;have hR:=setRow_heap W2 (w.heap.size+1) _ ZC _ _ Hr2.out;have hload:=Z1 (run_loadVar_row (P:=prog) _ _ _ 46 _ _ _ hR underlying46 rfl a0u);have hBF:=Z1 (below_setRow HB2.out (show w.heap.size<=w.heap.size+1 by omega) ZC);clear hR;go_wp2_with (refine Vx rfl 46 (.tmp 6) (.tmp 39) none rfl rfl (w.heap.size+1) 46 _ ZC rfl rfl Hr2.out rfl a0u Ho.out ?_);exact bodyPost_ret (v:=.tuple #[ZC,(2:Int)]) (by simp [results,results22,asAddr,Act.put,hload.out]) rfl ⟨rfl,hBF.out⟩
 ·by_cases hn:E<0
  ·exfalso;omega
  have hE2:E ≥ (b.g.en:Int):=hE;have Ho:Hid ((ZC:Array Value).all (·.oneCell')=true):=Z1 oC;have hR:=setRow_heap W2 (w.heap.size+1) _ ZC _ _ Hr2.out;have hload:=Z1 (run_loadVar_row (P:=prog) _ _ _ 46 _ _ _ hR underlying46 rfl a0u);have hBF:=Z1 (below_setRow HB2.out (show w.heap.size<=w.heap.size+1 by omega) ZC);clear hR;go_wp2_with (refine Vx rfl 46 (.tmp 6) (.tmp 39) none rfl rfl (w.heap.size+1) 46 _ ZC rfl rfl Hr2.out rfl a0u Ho.out ?_);exact bodyPost_ret (v:=.tuple #[ZC,(2:Int)]) (by simp [results,results22,asAddr,Act.put,hload.out]) rfl ⟨rfl,hBF.out⟩
theorem a7Z (b:Bks) (E p:Int) (hb:b.At w w) (hv:Cb.valid b=true):Calls prog 22 #[b,E,p] w (OfAny b E p w):=by
 have hgv:Gr.valid b.g=true:=by unfold Cb.valid Tr.valid Jr.ok at hv;simp only [Bool.and_eq_true] at hv;exact hv.1.1.1
 have hhv:Hd.valid b.g.ents.length b.holds=true:=by unfold Cb.valid at hv;simp only [Bool.and_eq_true] at hv;exact hv.2
 have hok:Cal.ok b.g.Y b.g.M b.g.N=true:=by unfold Gr.valid Gr.books at hgv;simp only [Bool.and_eq_true] at hgv;exact hgv.1.1.1.1.1.2
 have hel:=hb.hg.hel
 by_cases hp:0<=p/\p<b.g.N
 ·by_cases hE:0<=E/\E<b.g.en
  ·obtain⟨e,rfl⟩:∃ e:Nat,E=e:=⟨E.toNat,oM⟩
   have he:e<b.g.ents.length:=oM;have hl:=Cal.first_bd b.g.Y b.g.M b.g.N p hok hp.1 hp.2;have hd:-25567<=Cal.last b.g.Y b.g.M p/\Cal.last b.g.Y b.g.M p<=84005:=oM
   have hh:∃ now,Ct.current b.g b.holds e (Cal.last b.g.Y b.g.M p)=some now/\(Ct.intervals b.g b.holds e).length<=1000/\(now.meth=0∨now.meth=1∨now.meth=2∨now.meth=3) /\
     (∀ W:World,b.At W W.heap.size->Calls prog 100 #[b.g,.slice b.hA b.hn b.hc,e] W (IvsPost (Ct.intervals b.g b.holds e) W)) /\
     (∀(W:World) (d:Int),(d=Cal.last b.g.Y b.g.M p∨d=now.frm)->b.At W W.heap.size->Calls prog 53 #[b,e,d] W (EffPost KS (fun _ N D=>e=0->N=1/\D=1) d W)):=by
    by_cases h0:e=0
    ·subst h0
     have hi:Ct.intervals b.g b.holds 0=[⟨-25568,84006,3⟩]:=by unfold Ct.intervals;rw [if_pos rfl]
     refine⟨⟨-25568,84006,3⟩,?_,?_,.inr (.inr (.inr rfl)),fun W hW=>?_,fun W d _ hW=>?_⟩
     ·unfold Ct.current
      rw [hi];have h1:(-25568:Int)<=Cal.last b.g.Y b.g.M p:=oM;have h2:Cal.last b.g.Y b.g.M p<84006:=oM;simp [h1,h2]
     ·rw [hi];decide
     ·rw [hi]
      exact b1s W b.g b.hA b.hn b.hc b.holds hW.hg hW.hhl (by have:=hW.hhn;omega) hW.hHw hW.hH hhv
     ·refine(b1L W b d).mono ?_
      rintro ev W3 ⟨hB,x,N,D,rfl,hr,hq⟩;exact⟨hB,x,N,D,rfl,hr.more lR dC dC,hq⟩
    ·obtain⟨hg,hlen⟩:=Ct.ivs_good b.g b.holds e h0 (by have:=hb.hhl;have:=hb.hhn;omega) (Hd.valid_date hhv)
     obtain⟨now,hf,hm⟩:=Ct.current_good hg hd;refine⟨now,hf,hlen,hg.met now hm,fun W hW=>?_,fun W d hd' hW=>?_⟩
     ·exact b2K W b.g b.hA b.hn b.hc b.holds e h0 he hW.hg hW.hhl (by have:=hW.hhn;omega) hW.hHw hW.hH hhv
     ·have hd2:-25567<=d/\d<=84005:=by
       rcases hd' with rfl | rfl
       ·exact hd
       ·exact hg.frm now hm
      refine(b2N W b e d h0 he hW hhv hd2).mono ?_;rintro ev W3 ⟨hB,x,N,D,rfl,hr,_⟩;exact⟨hB,x,N,D,rfl,hr,fun h=>absurd h h0⟩
   obtain⟨now,hf,hlen,hm,hI,hEf⟩:=hh;refine(b2S w b e p (Ct.intervals b.g b.holds e) now KS hb he hok hp hlen hm KSmax (fun W hW=>a6Q W b e (Cal.last b.g.Y b.g.M p) (Ct.intervals b.g b.holds e) now hd hf hlen hW hI) hEf hI).mono ?_;rintro ev W3 ⟨hB3,h⟩;refine⟨hB3,?_⟩
   rcases h with⟨h,n,hn,rfl⟩ | ⟨its,sh,x,N,D,rfl,h1,h2,h3,h4,h5,h6,h7,h8,h9,h10,h11,h12⟩
   ·refine .inl ⟨fun e' he' _ _ _=>?_,n,hn,rfl⟩
    have:e'=e:=oM;subst this;exact h.imp id (fun h=>⟨now,hf,h⟩)
   ·exact .inr ⟨its,sh,x,N,D,rfl,⟨hv,e,now,rfl,he,hp,hf,h1,h2,h3,h4,h5,h11⟩,h6,h7,h8,h9,h10,fun hE=>h12 oM⟩
  ·refine(a9e w b E p ((Cal.err_zero _ _ _ _).2 ⟨hok,hp.1,hp.2⟩) oM).mono ?_
   rintro ev W3 ⟨rfl,hB3⟩;exact⟨hB3,.inl ⟨fun e' he' h _ _=>absurd (by omega:0<=E/\E<b.g.en) hE,2,dC,rfl⟩⟩
 ·have he:Cal.err b.g.Y b.g.M b.g.N p≠0:=fun h=>hp ((Cal.err_zero _ _ _ _).1 h).2
  refine(a9f w b E p he).mono ?_;rintro ev W3 ⟨rfl,hB3⟩;exact⟨hB3,.inl ⟨fun e' _ _ _ h=>absurd h hp,2,dC,rfl⟩⟩
theorem a1i (b:Bks) (E p:Int) (hb:b.At w w):Calls prog 9 #[b,E,p] w (OfAny b E p w):=by
 obtain⟨W1,hW1,hB0,hb0,hr0,hz⟩:=nw2 w b ZC 36 46;obtain⟨HW,HB1,HB0,Hb0,Hr0⟩:=Z5 hW1 (hb.at_ hB0) hB0 hb0 hr0;have s0:=Vq hb0;have s1:=Vq hr0;have hld:=hb0;have Hv:=Z1 (a6V W1 b HB1.out);clear hW1 hz hb0 hr0 hb hB0;go_enter func9,ntmps9;go_upto_region 1 with(fail);rw [<- HW.out];go_wp2_with (refine wpList_load_row rfl 36 _ rfl _ rfl _ _ _ _ hld underlying36 rfl a0B ?_);refine Hv.out.mono ?_;rintro ev W2 ⟨rfl,hB2⟩;have hq2:=hB2.size;have HB2:=Z1 (HB0.out.trans (hB2.mono oM));have Hb2:=gB Hb0 hB2 s0;have Hr2:=gB Hr0 hB2 s1;have HBk2:=Z1 (HB1.out.at_ hB2);clear hld hB2
 cases hv:Cb.valid b with
 | false =>
  have HV:=Z1 hv;clear hv;have Ho:Hid ((ZC:Array Value).all (·.oneCell')=true):=Z1 oC;have hR:=setRow_heap W2 (w.heap.size+1) _ ZC _ _ Hr2.out;have hload:=Z1 (run_loadVar_row (P:=prog) _ _ _ 46 _ _ _ hR underlying46 rfl a0u);have hBF:=Z1 (below_setRow HB2.out (show w.heap.size<=w.heap.size+1 by omega) ZC);clear hR;go_wp2_with (refine Vx rfl 46 (.tmp 6) (.tmp 11) none rfl rfl (w.heap.size+1) 46 _ ZC rfl rfl Hr2.out rfl a0u Ho.out ?_);exact bodyPost_ret (v:=.tuple #[ZC,(1:Int)]) (by simp [results,results9,asAddr,Act.put,hload.out]) rfl ⟨hBF.out,.inl ⟨fun e _ _ hv=>absurd hv (by rw [HV.out];decide),1,dC,rfl⟩⟩
 | true =>
 have hld:=Hb2.out;have Hcall:=Z1 (a7Z W2 b E p HBk2.out hv);clear hv;go_wp2_with (refine wpList_load_row rfl 36 _ rfl _ rfl _ _ _ _ hld underlying36 rfl a0B ?_);refine Hcall.out.mono ?_;rintro ev W3 ⟨hB3,h⟩;have HB3:=bT HB2 hB3;have Hr3:=gS Hr2 hB3;have sr3:=Vq Hr3.out;clear hB3 hld
 rcases h with⟨hno,n,hn,rfl⟩ | ⟨its,sh,x,N,D,rfl,hpu,h6,h7,h8,h9,h10,h11⟩
 ·have HN:=Z1 hno
  have Hn:=Z1 hn;clear hno hn;unfold Ctn.v Ctn.zero;have Ho:Hid ((ZC:Array Value).all (·.oneCell')=true):=Z1 oC;have hR:=setRow_heap W3 (w.heap.size+1) _ ZC _ _ Hr3.out;have hload:=Z1 (run_loadVar_row (P:=prog) _ _ _ 46 _ _ _ hR underlying46 rfl a0u);have hBF:=Z1 (below_setRow HB3.out (show w.heap.size<=w.heap.size+1 by omega) ZC);clear hR;unfold Rn.zero;go_wp2_with (refine Vx rfl 46 (.tmp 6) (.tmp 16) none rfl rfl (w.heap.size+1) 46 _ ZC rfl rfl Hr3.out rfl a0u Ho.out ?_);exact bodyPost_ret (v:=.tuple #[ZC,n]) (by simp [results,results9,asAddr,Act.put,hload.out]) rfl ⟨hBF.out,.inl ⟨HN.out,n,Hn.out,rfl⟩⟩
 ·have H6:=Z1 h6
  obtain⟨H7,H8,H9,H10,H11,Hpu⟩:=Z6 h7 h8 h9 h10 h11 hpu;clear hpu h6 h7 h8 h9 h10 h11;unfold Ctn.v;have Ho:Hid ((x:Array Value).all (·.oneCell')=true):=Z1 oC;have hR:=setRow_heap W3 (w.heap.size+1) _ x _ _ Hr3.out;have hload:=Z1 (run_loadVar_row (P:=prog) _ _ _ 46 _ _ _ hR underlying46 rfl a0u);have hBF:=Z1 (below_setRow HB3.out (show w.heap.size<=w.heap.size+1 by omega) x);have HFF:=Z1 (H10.out.other (w':=W3.setRow (w.heap.size+1) x) Hr3.out (none13 _ rfl) (fun c hc=>setRow_other _ _ _ _ hc));have HAF:=Z1 (RowsAt.other_row H6.out (n:=W2.heap.size) H8.out (show w.heap.size+1<W2.heap.size by have:=Vq Hr2.out;omega) x);have HSF:=Z1 (RowsAt.other_row H7.out (n:=W2.heap.size) H9.out (show w.heap.size+1<W2.heap.size by have:=Vq Hr2.out;omega) x);clear hR;go_wp2_with (refine Vx rfl 46 (.tmp 6) (.tmp 16) none rfl rfl (w.heap.size+1) 46 _ x rfl rfl Hr3.out rfl a0u Ho.out ?_);refine bodyPost_ret (v:=.tuple #[x,()]) (by simp [results,results9,asAddr,Act.put,hload.out]) rfl ?_;exact⟨hBF.out,.inr ⟨its,sh,x,N,D,rfl,Hpu.out,HAF.out,HSF.out,fun ad h=>by have h1:=H8.out ad h;have h2:=HB2.out.size;omega,fun ad h=>by have h1:=H9.out ad h;have h2:=HB2.out.size;omega,by have:=HFF.out;simpa using this,H11.out⟩⟩
def OfParK (b:Bks) (p:Int) (w:World) (ev:Ending) (w':World):Prop :=
 Below w w w'/\(((Cb.valid b=false∨Tr.items b 0 p=none)/\∃ n,n≠0/\ev=.returned (.tuple #[Ctn.zero.v,.int .i64 n])) ∨
  ∃(its:List Itm) (x:Ctn),Cb.valid b=true/\Tr.items b 0 p=some its/\ev=.returned (.tuple #[x.v,()])/\x.meth=3/\x.n=its.length/\RowsAt Itm.cells 7 w' w' x.A its/\RI w' w'.heap.size 3 3 x.s.v 1 1)
theorem Ct.current_zero {b:Bks} {d:Int} {now:Itv} (h:Ct.current b.g b.holds 0 d=some now):now=⟨-25568,84006,3⟩:=by
 unfold Ct.current Ct.intervals at h;rw [if_pos rfl] at h;simpa using List.mem_of_find?_eq_some h
theorem RI.small {w:World} {k j:Nat} {v:Value} (h:RI w w k j v 1 1):RI w w.heap.size 3 3 v 1 1:=by
 obtain⟨g1,A1,n1,c1,g2,A2,n2,c2,e,h1,h2⟩:=h;exact⟨g1,A1,n1,c1,g2,A2,n2,c2,e,(h1.tight (j:=1) dC dC).more lR dC,(h2.tight (j:=1) dC dC).more lR dC⟩
theorem a7Y (b:Bks) (p:Int) (hb:b.At w w):Calls prog 9 #[b,(),p] w (OfParK b p w):=by
 refine(a1i w b 0 p hb).mono ?_;rintro ev w' ⟨hB,h⟩;refine⟨hB,?_⟩
 rcases h with⟨h,n,hn,rfl⟩ | ⟨its,sh,x,N,D,rfl,hpu,hA,_,_,_,hR,hQ⟩
 ·refine .inl ⟨?_,n,hn,rfl⟩
  cases hv:Cb.valid b with
  | false=>exact .inl rfl
  | true =>
   right
   by_cases hc:0<b.g.ents.length/\0<=p/\p<b.g.N
   ·rcases h 0 rfl hc.1 hv hc.2 with h | ⟨now,h1,h2⟩
    ·exact h
    ·rw [Ct.current_zero h1] at h2;cases h2
   ·unfold Tr.items
    exact if_neg (fun q=>hc q.2)
 ·obtain⟨hv,e,now,he,_,_,hcur,_,h2,_,h4,_,hct⟩:=hpu
  obtain rfl:e=0:=oM;obtain rfl:=Ct.current_zero hcur;obtain⟨rfl,rfl⟩:=hQ rfl
  rcases hct with⟨q,_⟩ | ⟨_,l,q1,q2,_⟩
  ·cases q
  unfold Cb.its at q2;rw [if_pos rfl] at q2;have q3:=Option.some.inj q2;have q4:l.map (Cb.acq b.g (-25568))=l:=Cb.acq_parent q1;have q5:its=l:=by rw [<- q3];exact q4
  subst q5;exact .inr ⟨its,x,hv,q1,rfl,h2,h4,hA,hR.small⟩
end
end Go.Proofs.YtniaimjknmhapaaGreatDoor
