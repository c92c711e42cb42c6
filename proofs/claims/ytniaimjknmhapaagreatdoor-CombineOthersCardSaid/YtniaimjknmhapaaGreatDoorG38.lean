/- My texts SolvW, EqnW. -/
import Derived.Deep.AppendLies
import Derived.Test.YtniaimjknmhapaaGreatDoorG36
set_option linter.unusedVariables false
set_option linter.unusedSimpArgs false
set_option maxRecDepth 100000
set_option maxHeartbeats 16000000
namespace Go.Proofs.YtniaimjknmhapaaGreatDoor
open Go.Proofs.Tryz Go.RowKit
theorem Rn.At.keepT {w w':World} {K:Nat} {x:Rn} (h:x.At w w K) (hk:KeepT (limbTy .u32) w w') (hs:w.heap.size<=w'.heap.size):x.At w' w' K:=by
 have go:∀ {k:Nat} {v:Value} {z:Int},PI w w k v z->PI w' w' k v z:=by
  rintro k v z ⟨g,A,n,c,l,h1,h2,h3,h4,h5,h6,h7,h8,h9⟩;refine⟨g,A,n,c,l,h1,h2,h3,h4,h5,h6,h7,h8,?_⟩
  rcases h9 with h | ⟨d,o,e,hl,hc,cur,fr,hd⟩
  ·exact .inl h
  ·have e2:=(hk _ _ _ hd).trans hd.symm
   exact .inr ⟨d,o,e,oM,fun j hj=>(World.cell?_of_block (w:=w) e2).trans (hc j hj),cur,fr,hk _ _ _ hd⟩
 obtain⟨N,D,g1,A1,n1,c1,g2,A2,n2,c2,e,h1,h2⟩:=h;exact⟨N,D,g1,A1,n1,c1,g2,A2,n2,c2,e,go h1,go h2⟩
structure RowR (w:World) (n K:Nat) (r:RRow):Prop where
 hr:r.At w w K
 hn:r.n=n
 ht:RowsTy 43 w r.A r.l
theorem RowR.keepT {w w':World} {n K:Nat} {r:RRow} (h:RowR w n K r) (hk:∀ t',t'≠184->KeepT t' w w') (hs:w.heap.size<=w'.heap.size):RowR w' n K r:=by
 obtain⟨a,b⟩:=RowsTy.keepT h.ht h.hr.hA (hk _ dC) hs;exact⟨⟨h.hr.hl,b,fun x hx=>(h.hr.hx x hx).keepT (hk _ dC) hs⟩,h.hn,a⟩
theorem RowR.below {w w':World} {n K:Nat} {r:RRow} (h:RowR w n K r) (hb:Below w w w'):RowR w' n K r:=⟨(h.hr.below hb lR).more hb.size lR,h.hn,h.ht.below hb⟩
def SolvePost (n K:Nat) (w:World) (e:Ending) (w':World):Prop :=
 Below w w w'/\((∃ m:Int,m≠0/\e=.returned (.tuple #[.slice none 0 0,m]))∨∃ A c l,e=.returned (.tuple #[.slice A n c,()])/\l.length=n/\RowsAt Rn.cells 4 w' w' A l/\(∀ x∈l,x.At w' w' K)/\Fresh w A)
section
variable (w:World)
theorem a8H (A B:Option Addr) (n c d K0:Nat) (m:List RRow) (bl:List Rn) (hn0:1<=n) (hn:n<=12) (hK:3<=K0) (hK2:30*kk K0 n+1000<=10000000000) (hl:m.length=n)
  (hA:MatR w w A m) (hx:∀ r∈m,r.At w w K0/\r.n=n) (hbl:bl.length=n) (hB:RowsAt Rn.cells 4 w w B bl) (hbx:∀ x∈bl,x.At w w K0) :
  Calls prog 217 #[.slice A n c,.slice B n d] w (SolvePost n (kk K0 n+kk K0 n) w):=by
 have hsq:Lm.square m=true:=by
  unfold Lm.square Lm.valid
  have hc:Lm.cols m=n:=by
   cases m with
   | nil=>simp at hl;omega
   | cons r t=>exact(hx r sP).2
  rw [hc,hl];simp only [Bool.and_eq_true,List.all_eq_true,decide_eq_true_eq];exact⟨⟨⟨fun r hr=>(hx r hr).2,oM⟩,oM⟩,trivial⟩
 have Hsq:=Z1 (a7B w A n c m hl oM hA);rw [hsq] at Hsq;obtain⟨bA,oA,rfl,hbA,hrA⟩:=RowsAt.base hA oM;obtain⟨bB,oB,rfl,hbB,hrB⟩:=RowsAt.base hB oM
 have HRA:=fun q (hq:q<n)=>Z1 (show ∃(b o c':Nat) (l:List Rn),w.cell? ⟨bA,oA+q,none⟩=some (.slice (some ⟨b,o,none⟩) n c')/\b<w.heap.size/\RowsAt Rn.cells 4 w w (some ⟨b,o,none⟩) l/\l.length=n/\(∀ x∈l,x.At w w K0) from by
  have h1:q<m.length:=oM;obtain⟨⟨k1,k2,k3⟩,k4⟩:=hx m[q] (List.getElem_mem h1);have c0:=hrA q h1 0 _ rfl;obtain⟨b,o,e,hb,_⟩:=RowsAt.base k2 oM;rw [e] at c0 k2;rw [k4] at c0 k1;exact⟨b,o,m[q].c,m[q].l,by simpa using c0,hb,k2,k1,k3⟩)
 have HRB:=fun q (hq:q<n)=>Z1 (show ∃ y:Rn,w.rangeAt bB (oB+q*4) y.cells/\y.At w w K0 from⟨bl[q],hrB q oM,hbx _ (List.getElem_mem _)⟩);have hnn:(n:Int)<=12:=oM;have k0:((n:Int) != (n:Int))=false:=sP;clear hA hx hrA hl hB hrB hbx hbl hsq;go_enter func217,ntmps217;go_wp2_with (fail);refine Hsq.out.mono ?_;rintro e W1 ⟨rfl,rfl⟩;go_wp2
 go_loopw [6,29] (fun v vi wr=>∃(k:Nat) (rows:List RRow),k<=n/\vi=.int .i64 k/\rows.length=k/\(∀ r∈rows,RowR wr (n+1) K0 r)/\wr.ownsRow w.heap.size 184 1 v rows.length (rows.flatMap RRow.cells)/\Below w w wr) (fun _ vi _=>n-(intOf vi).toNat)
 case atStart=>exact⟨0,[],Nat.zero_le _,rfl,rfl,sP,World.ownsRow_nil _ _ _ _,bR⟩
 case round =>
  obtain⟨V,rfl⟩:∃ V,V=wr:=⟨_,rfl⟩;obtain⟨k,rows,hk,rfl,hrl,hrow,hown,hb⟩:=hrel;have hVs:=hb.size;have hk0:(0:Int)<=(k:Int):=oM
  by_cases hlt:k<n
  case neg =>
   obtain rfl:k=n:=oM;obtain⟨A6,c6,rfl,hA6⟩:=Xz (f:=RRow.cells) (sz:=1) dC (fun _=>rfl) hown rfl;have Hel:=Z1 (b1K V A6 k c6 (k+1) k K0 rows hn0 oM oM oM oM hK hK2 hrl hA6 (fun r hr=>⟨(hrow r hr).hr,(hrow r hr).hn⟩));rw [hrl];have HB:=Z1 hb;clear hown hA6 hrow hb;go_wp2_with (fail);refine Hel.out.mono ?_;rintro e W2 ⟨hB2,g,lo,R,r,det,rfl,hrn,hM⟩;have HM:=Z1 hM;have HB2:=Z1 (HB.out.trans (hB2.mono hVs));have hs2:=hB2.size;clear hM hB2 HB Hel;unfold Rn.v
   by_cases hrk:r<k
   ·have k1:decide ((r:Int)<(k:Int))=true:=decide_eq_true oM
    obtain⟨W3,hW3,hB3,-,-⟩:=nw1 W2 det 43;have HP:Hid (SolvePost k (kk K0 k+kk K0 k) w (.returned (.tuple #[.slice none 0 0,(14:Int)])) W3):=Z1 ⟨HB2.out.trans (hB3.mono oM),.inl ⟨14,dC,rfl⟩⟩;have HW3:=Z1 hW3;clear hW3 hB3;go_upto_region 10 with(fail);rw [<- HW3.out];go_wp2
    go_ret2
    exact HP.out
   have k1:decide ((r:Int)<(k:Int))=false:=decide_eq_false oM;obtain⟨W3,hW3,hB3,-,-⟩:=nw1 W2 det 43;obtain⟨HW3,HM3,HB3⟩:=Z3 hW3 (HM.out.below hB3) (HB2.out.trans (hB3.mono oM));have hs3:=HB3.out.size;clear hW3 hB3 HM;go_upto_region 10 with(fail);rw [<- HW3.out];go_wp2
   go_loopw [12,61] (fun v vi wr=>∃(i:Nat) (l:List Rn),i<=k/\vi=.int .i64 i/\l.length=i/\wr.ownsRow W3.heap.size 43 4 v l.length (l.flatMap Rn.cells)/\(∀ x∈l,x.At wr wr (kk K0 k+kk K0 k))/\Below W3 W3 wr) (fun _ vi _=>k-(intOf vi).toNat)
   case atStart=>exact⟨0,[],Nat.zero_le _,rfl,rfl,World.ownsRow_nil _ _ _ _,sP,bR⟩
   case round =>
    obtain⟨U,rfl⟩:∃ U,U=wr:=⟨_,rfl⟩;obtain⟨i,l,hik,rfl,hll,hown,hlx,hb⟩:=hrel
    by_cases hi:i<k
    case neg =>
     obtain rfl:i=k:=oM;obtain⟨A9,c9,rfl,hA9⟩:=Xz (f:=Rn.cells) (sz:=4) dC (fun _=>rfl) hown rfl;have hfr:=a0S hown;have HP:Hid (SolvePost i (kk K0 i+kk K0 i) w (.returned (.tuple #[.slice A9 l.length c9,()])) U):=Z1 ⟨HB3.out.trans (hb.mono hs3),.inr ⟨A9,c9,l,by rw [hll],hll,hA9,hlx,fun ad h=>Nat.le_trans hs3 (hfr ad h)⟩⟩;clear hown hA9 hlx hb hfr;go_wp2
     go_ret2
     exact HP.out
    have hM:=HM3.out.below hb;have e1:=hM.head hi hi;have e2:=Vq hM.hg;have hi0:(0:Int)<=(i:Int):=oM;have hik2:(i:Int)<(k:Int):=oM;have hi1:(i:Int)<(k:Int)+1:=oM;have hk1:(k:Int)<(k:Int)+1:=oM;have hkz:(0:Int)<=(k:Int):=oM;obtain⟨x,_,hrx,hxa⟩:=hM.get hi (show k<k+1 by omega);obtain⟨y,_,hry,hya⟩:=hM.get hi (show i<k+1 by omega);have hbi:=Vq (hM.hr i hi).1;obtain⟨bi,hbe⟩:∃ bi,bi=(R i).b:=⟨_,rfl⟩;rw [<- hbe] at e1 hrx hry hbi;have Hrx:=Z1 hrx;have Hry:=Z1 hry;have h3k:3<=kk K0 k:=Nat.le_trans hK (b3l K0 k);have Hdiv:=fun(W:World) (hB:Below U.heap.size U W)=>Z1 (b2l W (kk K0 k) (kk K0 k) x y h3k h3k oM ((hxa.below hB lR).more hB.size lR) ((hya.below hB lR).more hB.size lR));obtain⟨Hown,Hlx,Hb⟩:=Z3 hown hlx hb;clear hM hrx hry hxa hya hbe hown hlx hb;go_upto_region 16 with(fail);have hS0:Below U.heap.size U U.drew:=Vw bR 1;refine wp_region_held (S:=Below U.heap.size U) kR ?_;change wpAnyH _ _ _ _ _ _ _ _ (World.drew U);obtain⟨W0,hW0⟩:∃ W0,W0=U.drew:=⟨_,rfl⟩;rw [<- hW0] at hS0 ⊢;clear hW0;refine jT 0 hS0 ?_;refine jT 1 hS0 ?_;refine jT 2 hS0 ?_;refine jT 3 hS0 ?_;refine jT 4 hS0 ?_ (v:=x) (hy:=(yieldsIf_load_mid (by rfl) 43 _ rfl bi (k*4) rfl x _ (fun W' hS'=>VV Hrx.out hS' hbi) underlying43 rfl Vy));refine jT 5 hS0 ?_;refine jT 6 hS0 ?_;refine jT 7 hS0 ?_;refine jT 8 hS0 ?_ (v:=y) (hy:=(yieldsIf_load_mid (by rfl) 43 _ rfl bi (i*4) rfl y _ (fun W' hS'=>VV Hry.out hS' hbi) underlying43 rfl Vy));refine wpAnyH_ready (rs:=[9,13]) kR sP (AllReadyH.cons rfl (fun K hK=>?_) (AllReadyH.cons rfl (fun K hK=>?_) AllReadyH.nil))
    focus
     go_simp;refine(Hdiv W0 hS0).out.mono ?_;rintro e W4 ⟨⟨z,m9,rfl,hz⟩,hB3⟩;have hS3:=hS0.trans (hB3.mono hS0.size);refine hK.out _ _ hS3 (fun _=>?_);clear hK K;unfold Rn.v
     try simp only [z]
     refine jT 10 hS3 ?_;refine jT 11 hS3 ?_;refine jT 12 hS3 ?_;refine rZ 13 fun K hK=>?_;obtain⟨W5,hW4,hB4,hrow,-⟩:=nw1 W4 ZR 43;go_simp;rw [<- hW4];have hS4:=hS3.trans (hB4.mono hS3.size);refine jK hK hS4 ?_;clear hK K;obtain⟨fb,hfb⟩:∃ fb,fb=W4.heap.size:=⟨_,rfl⟩;rw [<- hfb] at hrow ⊢;have hfl:U.heap.size<=fb:=by have:=hS3.size;omega
     have hz4:=(hz.below hB4 lR).more hB4.size lR;clear hW4 hB4 hB3 hS3 hz hfb
    rotate_left
    focus
     obtain⟨W4,hW3',hB3,hrow3,-⟩:=nw1 W0 ZR 43;go_simp;rw [<- hW3'];have hS3:=hS0.trans (hB3.mono hS0.size);refine jK hK hS3 ?_;clear hK K;obtain⟨fb,hfb⟩:∃ fb,fb=W0.heap.size:=⟨_,rfl⟩;rw [<- hfb] at hrow3 ⊢;have hfl:U.heap.size<=fb:=by have:=hS0.size;omega
     clear hW3' hB3 hfb;refine rZ 9 fun K hK=>?_;go_simp;refine(Hdiv W4 hS3).out.mono ?_;rintro e W5 ⟨⟨z,m9,rfl,hz4⟩,hB4⟩;have hS4:=hS3.trans (hB4.mono hS3.size);have hrow:=gbox hrow3 hB4 (Vq hrow3);refine hK.out _ _ hS4 (fun _=>?_);clear hK K;unfold Rn.v
     try simp only [z]
     refine jT 10 hS4 ?_;refine jT 11 hS4 ?_;refine jT 12 hS4 ?_;clear hB4 hS3 hrow3
    rotate_left
    all_goals
     refine rZ 14 fun K hK=>?_;rw [if_pos (by rfl)];refine VX 43 _ _ none rfl rfl fb 43 _ z rfl rfl hrow rfl Vy oC ?_;have hS5:Below U.heap.size U (W5.setRow fb z):=below_setRow hS4 hfl _;refine jK hK hS5 ?_;clear hK K;have hrow5:=setRow_heap W5 fb _ z _ _ hrow;have hz5:z.At (W5.setRow fb z) (W5.setRow fb z).heap.size (kk K0 k+kk K0 k):=(hz4.other hrow a0F (fun c hc=>setRow_other _ _ _ _ hc)).more sP lR;obtain⟨W6,hW5⟩:∃ W6,W6=W5.setRow fb z:=⟨_,rfl⟩;rw [<- hW5] at hS5 hrow5 hz5 ⊢;have Hz5:=Z1 hz5;clear hW5 hS4 hrow hz4 hz5 hS0 Hdiv;refine rZ 15 fun K hK=>?_;go_simp;refine jK hK hS5 ?_;clear hK K;refine wpAnyH_done kR ?_ _;have Ho5:=Z1 (Vj Hown.out hS5);have Hl5:Hid (∀ x∈l,x.At W6 W6 (kk K0 k+kk K0 k)):=Z1 (fun x hx=>((Hlx.out x hx).below hS5 lR).more hS5.size lR);have Hb5:=bT Hb hS5;have hs6:=Hb5.out.size;clear hS5 e1 e2;go_wp2_with (first | (refine wpList_load_row rfl 43 _ rfl _ rfl _ _ _ _ hrow5 underlying43 rfl Vy ?_) | (at_builtin;refine Hid.out ?_));show wpList _ _ _ _ _ _;refine a1j eltRat Ho5.out z rfl rfl rfl rfl rfl oC oM oM ?_;intro v' w' ho' hb' hk'
     have Hx7:Hid (∀ x∈l++[z],x.At w' w' (kk K0 k+kk K0 k)):=Z1 (fun x hx=>by
      rcases List.mem_append.1 hx with h | h
      ·exact(Hl5.out x h).keepT (hk' _ dC) hb'.size
      ·rw [List.mem_singleton.1 h];exact Hz5.out.keepT (hk' _ dC) hb'.size)
     have Ho7:Hid (w'.ownsRow W3.heap.size 43 4 v' (l++[z]).length ((l++[z]).flatMap Rn.cells)):=Z1 (by rw [List.length_append,List.flatMap_append];simpa [Rn.cells] using ho');have Hb7:=Z1 (Hb5.out.trans hb');clear ho' hb' hk' Ho5 Hl5 Hb5 Hz5 hrow5;go_wp2;go_roundw
     case rel=>exact⟨i+1,l++[z],oM,by go_num,by rw [List.length_append,hll];rfl,Ho7.out,Hx7.out,Hb7.out⟩
     case measure=>simp [intOf];omega
  have hkn:(k:Int)<(n:Int):=oM;obtain⟨b0,o0,c0,l,y1,y2,y3,y4,y5⟩:=(HRA k hlt).out;obtain⟨y,z1,z2⟩:=(HRB k hlt).out;have a1:=(hb.cell (p:=⟨bA,oA+k,none⟩) hbA).trans y1;have a2:bA<V.heap.size:=oM;have a3:bB<V.heap.size:=oM;obtain⟨Hy1,Hl,Hl4,Hl5,Hz1,Hz2,Hrow⟩:=Z7 y1 y3 y4 y5 z1 z2 hrow;obtain⟨Hown,Hb,Hrl⟩:=Z3 hown hb hrl;clear y1 y3 y4 y5 z1 z2 hrow hown hb hrl;go_upto_region 7 with(fail);have hS0:Below w w V.drew:=Hb.out.trans ((Vw bR 1).mono hVs);have hBV:Below V.heap.size V V.drew:=Vw bR 1;refine wp_region_held (S:=Below w w) kR ?_;change wpAnyH _ _ _ _ _ _ _ _ (World.drew V);obtain⟨V0,hV0⟩:∃ V0,V0=V.drew:=⟨_,rfl⟩;rw [<- hV0] at hS0 hBV ⊢;clear hV0;refine jT 0 hS0 ?_;refine jT 2 hS0 ?_;refine jT 4 hS0 ?_;refine jT 5 hS0 ?_;refine jT 6 hS0 ?_;refine jT 7 hS0 ?_ (v:=y) (hy:=(yieldsIf_load_mid (by rfl) 43 _ rfl bB (oB+k*4) rfl y _ (fun W' hS'=>VV Hz1.out hS' hbB) underlying43 rfl Vy));have hSV0:=hS0;have hBV0:=hBV;refine wpAnyH_ready (rs:=[1,8]) kR sP (AllReadyH.cons rfl (fun K hK=>?_) (AllReadyH.cons rfl (fun K hK=>?_) AllReadyH.nil))
  focus
   obtain⟨Wa,hW,hB,-,-⟩:=nw1 V0 #[] 43;go_simp;rw [<- hW];have hSWa:=hSV0.trans (hB.mono hSV0.size);have hBWa:=hBV0.trans (hB.mono hBV0.size);obtain⟨a1,ha1⟩:∃ a1,a1=V0.heap.size:=⟨_,rfl⟩;have ho1:Wa.ownsRow V.heap.size 43 4 (.slice (some ⟨a1,0,none⟩) 0 0) 0 []:=by rw [hW,ha1];exact World.ownsRow_made (e:=43) (size:=4) V0 #[] 0 hBV0.size (Nat.zero_le _) rfl
   rw [<- ha1];have hal:a1<Wa.heap.size:=by rw [hW,ha1];simp
   have ha1v:V0.heap.size<=a1:=Nat.le_of_eq ha1.symm;clear hW ha1;refine jK hK hSWa ?_;clear hK K;refine wpAnyH_ready (rs:=[3,8]) kR sP (AllReadyH.cons rfl (fun K hK=>?_) (AllReadyH.cons rfl (fun K hK=>?_) AllReadyH.nil))
   focus
    rw [if_pos (by rfl)];refine a4i eltRat ho1 ⟨b0,o0,none⟩ n c0 (l.flatMap Rn.cells) rfl rfl rfl (by rw [a0x (f:=Rn.cells) (sz:=4) (fun _=>rfl),Hl4.out]) (a0Q (f:=Rn.cells) (sz:=4) (B:=w.heap.size) dC (fun _=>rfl) (RowsAt.below Hl.out hSWa lR)) (List.all_eq_true.2 (fun v hv=>by rw [List.mem_flatMap] at hv;obtain⟨x,_,hx⟩:=hv;revert v;simp [Rn.cells,Value.oneCell'])) oM hBWa.size ?_;intro v37 Wb ho37 hb37 _ hk37;rw [Nat.zero_add,List.nil_append] at ho37;have hSWb:=hSWa.trans (hb37.mono hVs);have hBWb:=hBWa.trans hb37;refine jK hK hSWb ?_;clear hK K;refine rZ 8 fun K hK=>?_;obtain⟨Wc,hW8,hB,hp8,-⟩:=nw1 Wb y 43;go_simp;rw [<- hW8];have hSWc:=hSWb.trans (hB.mono hSWb.size);have hBWc:=hBWb.trans (hB.mono hBWb.size);obtain⟨p8,he8⟩:∃ p8,p8=Wb.heap.size:=⟨_,rfl⟩;rw [<- he8] at hp8 ⊢;have hp8l:=Vq hp8;have hp8v:Wb.heap.size<=p8:=Nat.le_of_eq he8.symm;clear hW8 he8;refine jK hK hSWc ?_;clear hK K;have ho9:=Vj ho37 hB;clear hB hk37 hb37 ho37 ho1 hSWa hBWa hSWb hBWb
   rotate_left
   focus
    obtain⟨Wb,hW8,hB,hp8,-⟩:=nw1 Wa y 43;go_simp;rw [<- hW8];have hSWb:=hSWa.trans (hB.mono hSWa.size);have hBWb:=hBWa.trans (hB.mono hBWa.size);obtain⟨p8,he8⟩:∃ p8,p8=Wa.heap.size:=⟨_,rfl⟩;rw [<- he8] at hp8 ⊢;have hp8l:=Vq hp8;have hp8v:Wa.heap.size<=p8:=Nat.le_of_eq he8.symm;clear hW8 he8;refine jK hK hSWb ?_;clear hK K;have ho1:=Vj ho1 hB;refine rZ 3 fun K hK=>?_;rw [if_pos (by rfl)];refine a4i eltRat ho1 ⟨b0,o0,none⟩ n c0 (l.flatMap Rn.cells) rfl rfl rfl (by rw [a0x (f:=Rn.cells) (sz:=4) (fun _=>rfl),Hl4.out]) (a0Q (f:=Rn.cells) (sz:=4) (B:=w.heap.size) dC (fun _=>rfl) (RowsAt.below Hl.out hSWb lR)) (List.all_eq_true.2 (fun v hv=>by rw [List.mem_flatMap] at hv;obtain⟨x,_,hx⟩:=hv;revert v;simp [Rn.cells,Value.oneCell'])) oM hBWb.size ?_;intro v37 Wc ho37 hb37 _ hk37;rw [Nat.zero_add,List.nil_append] at ho37;have hSWc:=hSWb.trans (hb37.mono hVs);have hBWc:=hBWb.trans hb37;refine jK hK hSWc ?_;clear hK K;have ho9:=ho37;replace hp8:=(hk37 p8 (Vq hp8) (fun e=>by simp [Value.ownBlock] at e;omega)).trans hp8;clear hB hk37 hb37 ho37 ho1 hSWa hBWa hSWb hBWb
   rotate_left
  rotate_left 2
  focus
   obtain⟨Wa,hW8,hB,hp8,-⟩:=nw1 V0 y 43;go_simp;rw [<- hW8];have hSWa:=hSV0.trans (hB.mono hSV0.size);have hBWa:=hBV0.trans (hB.mono hBV0.size);obtain⟨p8,he8⟩:∃ p8,p8=V0.heap.size:=⟨_,rfl⟩;rw [<- he8] at hp8 ⊢;have hp8l:=Vq hp8;have hp8v:V0.heap.size<=p8:=Nat.le_of_eq he8.symm;clear hW8 he8;refine jK hK hSWa ?_;clear hK K;refine rZ 1 fun K hK=>?_;obtain⟨Wb,hW,hB,-,-⟩:=nw1 Wa #[] 43;go_simp;rw [<- hW];have hSWb:=hSWa.trans (hB.mono hSWa.size);have hBWb:=hBWa.trans (hB.mono hBWa.size);obtain⟨a1,ha1⟩:∃ a1,a1=Wa.heap.size:=⟨_,rfl⟩;have ho1:Wb.ownsRow V.heap.size 43 4 (.slice (some ⟨a1,0,none⟩) 0 0) 0 []:=by rw [hW,ha1];exact World.ownsRow_made (e:=43) (size:=4) Wa #[] 0 hBWa.size (Nat.zero_le _) rfl
   rw [<- ha1];have hal:a1<Wb.heap.size:=by rw [hW,ha1];simp
   have ha1v:Wa.heap.size<=a1:=Nat.le_of_eq ha1.symm;clear hW ha1;refine jK hK hSWb ?_;clear hK K;replace hp8:=(hB.block p8 (Vq hp8)).trans hp8;refine rZ 3 fun K hK=>?_;rw [if_pos (by rfl)];refine a4i eltRat ho1 ⟨b0,o0,none⟩ n c0 (l.flatMap Rn.cells) rfl rfl rfl (by rw [a0x (f:=Rn.cells) (sz:=4) (fun _=>rfl),Hl4.out]) (a0Q (f:=Rn.cells) (sz:=4) (B:=w.heap.size) dC (fun _=>rfl) (RowsAt.below Hl.out hSWb lR)) (List.all_eq_true.2 (fun v hv=>by rw [List.mem_flatMap] at hv;obtain⟨x,_,hx⟩:=hv;revert v;simp [Rn.cells,Value.oneCell'])) oM hBWb.size ?_;intro v37 Wc ho37 hb37 _ hk37;rw [Nat.zero_add,List.nil_append] at ho37;have hSWc:=hSWb.trans (hb37.mono hVs);have hBWc:=hBWb.trans hb37;refine jK hK hSWc ?_;clear hK K;have ho9:=ho37;replace hp8:=(hk37 p8 (Vq hp8) (fun e=>by simp [Value.ownBlock] at e;omega)).trans hp8;clear hB hk37 hb37 ho37 ho1 hSWa hBWa hSWb hBWb
  all_goals
   refine rZ 9 fun K hK=>?_;rw [if_pos (by rfl)];refine a4i eltRat ho9 ⟨p8,0,none⟩ 1 1 y.cells rfl rfl rfl rfl (fun j u hj=>by rw [Addr.add_mid,Nat.zero_add,cr9 j hp8];simpa [Rn.cells] using hj) (by simp [Rn.cells,Value.oneCell']) oM hBWc.size ?_;intro v43 W10 ho43 hb43 _ _;have hS10:=hSWc.trans (hb43.mono hVs);have hB10:=hBWc.trans hb43;obtain⟨g43,c43,rfl⟩:=ownsRow_succ ho43;have ho43':W10.ownsRow V.heap.size 43 4 (.slice (some ⟨g43,0,none⟩) (n+1) c43) (n+1) ((l++[y]).flatMap Rn.cells):=by rw [List.flatMap_append];simpa using ho43
   refine jK hK hS10 ?_;clear hK K;refine rZ 10 fun K hK=>?_;obtain⟨W11,hW11,hB,hr11,-⟩:=nw1 W10 #[.slice (some ⟨g43,0,none⟩) (n+1) c43] 184;go_simp;rw [<- hW11];have hS11:=hS10.trans (hB.mono hS10.size);have hB11:=hB10.trans (hB.mono hB10.size);obtain⟨p11,he11⟩:∃ p11,p11=W10.heap.size:=⟨_,rfl⟩;rw [<- he11] at hr11 ⊢;clear hW11 he11;refine jK hK hS11 ?_;clear hK K;refine rZ 11 fun K hK=>?_
   have hnew:RowR W11 (n+1) K0 ⟨some ⟨g43,0,none⟩,n+1,c43,l++[y]⟩:=by
    have ho:=Vj ho43' hB;obtain⟨A',c',e',hA'⟩:=Xz (f:=Rn.cells) (sz:=4) dC (fun _=>rfl) ho (by simp [Hl4.out])
    cases e'
    refine⟨⟨by simp [Hl4.out],hA',fun x hx=>?_⟩,rfl,a2P ho (by simp [Hl4.out])⟩
    rcases List.mem_append.1 hx with h | h
    ·exact((Hl5.out x h).below hS11 lR).more hS11.size lR
    ·rw [List.mem_singleton.1 h];exact(Hz2.out.below hS11 lR).more hS11.size lR
   have hold:∀ r∈rows,RowR W11 (n+1) K0 r:=fun r hr=>(Hrow.out r hr).below hB11;have Hnew:=Z1 hnew;have Hold:=Z1 hold;have hrln:=Hrl.out;rw [if_pos (by rfl)];refine a4i eltRow (Vj Hown.out hB11) ⟨p11,0,none⟩ 1 1 [.slice (some ⟨g43,0,none⟩) (n+1) c43] rfl rfl rfl rfl (fun j u hj=>by rw [Addr.add_mid,Nat.zero_add,cr9 j hr11];simpa using hj) oC oM hS11.size ?_;intro v45 W12 ho45 hb45 hk45 _;have hS12:=hS11.trans hb45;refine jK hK hS12 ?_;clear hK K
   have Hr12:Hid (∀ r∈rows++[(⟨some ⟨g43,0,none⟩,n+1,c43,l++[y]⟩:RRow)],RowR W12 (n+1) K0 r):=Z1 (fun r hr=>by
    rcases List.mem_append.1 hr with h | h
    ·exact(Hold.out r h).keepT hk45 hb45.size
    ·rw [List.mem_singleton.1 h];exact Hnew.out.keepT hk45 hb45.size)
   have Ho12:Hid (W12.ownsRow w.heap.size 184 1 v45 (rows++[(⟨some ⟨g43,0,none⟩,n+1,c43,l++[y]⟩:RRow)]).length ((rows++[(⟨some ⟨g43,0,none⟩,n+1,c43,l++[y]⟩:RRow)]).flatMap RRow.cells)):=Z1 (by rw [List.length_append,List.flatMap_append];simpa [RRow.cells] using ho45);have HS12:=Z1 hS12;clear ho45 hb45 hk45 hnew hold Hnew Hold ho43 ho43' hb43 hB10 hS10 hB hr11 hS11 hB11 ho9 hp8;refine rZ 12 fun K hK=>?_;go_simp;refine jK hK HS12.out ?_;clear hK K;refine wpAnyH_done kR ?_ _;clear hS12;go_wp2;go_roundw
   case rel=>exact⟨k+1,_,oM,by go_num,by rw [List.length_append,Hrl.out];rfl,Hr12.out,Ho12.out,HS12.out⟩
   case measure=>simp [intOf];omega
end
open Go.Proofs.Tryz Go.RowKit
theorem b2s {P:Program} {o:Oper} {a:Act} {K:Act->World->Prop} {Q:Exit->Act->World->Prop} {W:World} {base:Nat} {e t:TypeId} {sz n:Nat} {v:Value} {xs:List Value} (E:Elt P t e sz) (hown:W.ownsRow base e sz v n xs) (ad:Addr) (c:Nat) (news:List Value)
  {s x:Operand} (ho:o.op=.call { callee:=.builtin .append,args:=#[s,x],argTypes:=#[t,t] }) (hs:a.eval s=v) (hx:a.eval x=.slice (some ad) 1 c) (hl:news.length=sz) (hnews:∀ j u,news[j]?=some u->W.cell? (ad.add j)=some u) (h1:news.all (·.oneCell')=true) (hn:n+1<=100000) (hb:base<=W.heap.size)
  (h:∀ g cap w',w'.ownsRow base e sz (.slice (some ⟨g,0,none⟩) (n+1) cap) (n+1) (xs++news)->Below base W w'->(∀ t',t'≠e->KeepT t' W w')->(∀ b,b<W.heap.size->some b≠v.ownBlock->w'.heap[b]?=W.heap[b]?)->(v.ownBlock=some g∨g=W.heap.size)->K (a.put o.dst (.slice (some ⟨g,0,none⟩) (n+1) cap)) w'):o.wp P a W K Q:=by
 obtain⟨i,z,bts,hu,hi,hz,hsz,hby,hzs,h0,hbt⟩:=E;have hbt2:(n+1)*bts<=100000*1000:=Nat.mul_le_mul hn hbt;refine wp_append_lies W s x t ho base e i z sz bts hu hi hz hsz hby hzs h0 v n xs hs hown ad 1 c news hx oM hnews (fun u hu=>by simpa using List.all_eq_true.1 h1 u hu) dC (by unfold maxLen;omega) oM hb _ rfl ?_;intro g cap w' ho' hg hat _;exact h g cap w' ho' ((Below.refl _ W).grown hg hb (fun k hk=>(hown.lt k hk).1)) (fun t' hne=>a2v hown hg hne) hg.block hat
theorem a4q {w w':World} {base e sz n:Nat} {v:Value} {xs:List Value} (h:w.ownsRow base e sz v n xs) (hk:KeepT e w w'):w'.ownsRow base e sz v n xs :=
 ⟨h.1,h.2.imp id (fun⟨g,cap,cur,a,b,c,d⟩=>⟨g,cap,cur,a,b,hk _ _ _ c,d⟩)⟩
def Apart (r:RRow) (v:Value):Prop:=∀ b o,r.A=some ⟨b,o,none⟩->some b≠v.ownBlock
theorem RowR.keepB {w w':World} {n K:Nat} {r:RRow} {v:Value} (h:RowR w n K r) (ha:Apart r v) (hb:∀ b,b<w.heap.size->some b≠v.ownBlock->w'.heap[b]?=w.heap[b]?) (hk:KeepT (limbTy .u32) w w') (hs:w.heap.size<=w'.heap.size):RowR w' n K r:=by
 refine⟨⟨h.hr.hl,?_,fun x hx=>(h.hr.hx x hx).keepT hk hs⟩,h.hn,?_⟩
 ·rcases h.hr.hA with e | ⟨b,o,e,hl,hc⟩
  ·exact .inl e
  ·exact .inr ⟨b,o,e,oM,fun k hk j v hv=>(World.cell?_of_block (w:=w) (hb b hl (ha b o e))).trans (hc k hk j v hv)⟩
 ·rcases h.ht with e | ⟨b,o,cur,fr,e,hc⟩
  ·exact .inl e
  ·exact .inr ⟨b,o,cur,fr,e,(hb b (Vq hc) (ha b o e)).trans hc⟩
def EqnPost (p:Nat) (w:World) (e:Ending) (w':World):Prop :=
 Below w w w'/\∃ A c rows B d bl,e=.returned (.tuple #[.slice A p c,.slice B p d])/\rows.length=p/\MatR w' w' A rows/\(∀ r∈rows,r.At w' w'.heap.size 7/\r.n=p)/\bl.length=p/\RowsAt Rn.cells 4 w' w' B bl/\∀ x∈bl,x.At w' w'.heap.size 7
section
variable (w:World)
theorem b1H (A B P:Option Addr) (n c d p pc:Nat) (M:List IRow) (dl:List Int) (pl:List Nat) (hn0:1<=n) (hn:n<=12) (hM:MatI w w A n n M) (hMb:∀ r∈M,∀ x∈r.l,0<=x/\x<=10000) (hdl:dl.length=n) (hdb:∀ x∈dl,0<=x/\x<=10000) (hB:RowsAt icell 1 w w B dl)
  (hp0:1<=p) (hp:p<=12) (hpl:pl.length=p) (hpb:∀ x∈pl,x<n) (hP:RowsAt icell 1 w w P (pl.map (fun x:Nat=>(x:Int)))) :
  Calls prog 216 #[.slice A n c,.slice B n d,.slice P p pc] w (EqnPost p w):=by
 obtain⟨bA,oA,rfl,hbA,hrA⟩:=RowsAt.base hM.hA (by rw [hM.hl];omega);obtain⟨bB,oB,rfl,hbB,hrB⟩:=RowsAt.base hB oM;obtain⟨bP,oP,rfl,hbP,hrP⟩:=RowsAt.base hP sO;have HRB:=fun k (h:k<n)=>Z1 (show ∃ x,w.cell? ⟨bB,oB+k,none⟩=some (.int .i64 x)/\0<=x/\x<=10000 from⟨_,by have:=hrB k oM 0 _ rfl;simpa using this,hdb _ (List.getElem_mem _)⟩);have HRP:=fun k (h:k<p)=>Z1 (show ∃ x:Nat,w.cell? ⟨bP,oP+k,none⟩=some (.int .i64 x)/\x<n from⟨pl[k],by have:=hrP k sO 0 _ rfl;simpa using this,hpb _ (List.getElem_mem _)⟩)
 have HRA:=fun h e (hh:h<n) (he:e<n)=>Z1 (show ∃ b o m c x,w.cell? ⟨bA,oA+h,none⟩=some (.slice (some ⟨b,o,none⟩) m c)/\e<m/\b<w.heap.size/\w.cell? ⟨b,o+e,none⟩=some (.int .i64 x)/\0<=x/\x<=10000 from by
  have h1:h<M.length:=by rw [hM.hl];exact hh
  have c0:=hrA h h1 0 _ rfl;have hx:=hM.hx M[h] (List.getElem_mem h1);have h2:e<M[h].l.length:=by rw [hx.1.hl,hx.2];exact he
  obtain⟨b,o,e1,hb,hr⟩:=RowsAt.look hx.1.hA h2;have d0:=hr 0 _ rfl;rw [e1] at c0;exact⟨b,o,M[h].n,M[h].c,M[h].l[e],by simpa using c0,by rw [hx.2];exact he,hb,by simpa using d0,hMb _ (List.getElem_mem h1) _ (List.getElem_mem h2)⟩)
 have hnn:(n:Int)<=12:=oM;have hpp:(p:Int)<=12:=oM;clear hM hB hP hrA hrB hrP hdl hdb hMb hpl hpb;go_enter func216,ntmps216;go_wp2
 go_loopw [8,9,18] (fun va vb vi wr=>∃(k:Nat) (rows:List RRow) (bl:List Rn),k<=p/\vi=.int .i64 k/\rows.length=k/\bl.length=k/\(∀ r∈rows,RowR wr p 7 r)/\wr.ownsRow w.heap.size 184 1 va rows.length (rows.flatMap RRow.cells)/\wr.ownsRow w.heap.size 43 4 vb bl.length (bl.flatMap Rn.cells)/\(∀ x∈bl,x.At wr wr.heap.size 7)/\(∀ r∈rows,Apart r vb)/\Below w w wr) (fun _ _ vi _=>p-(intOf vi).toNat)
 case atStart=>exact⟨0,[],[],Nat.zero_le _,rfl,rfl,rfl,sP,World.ownsRow_nil _ _ _ _,World.ownsRow_nil _ _ _ _,sP,sP,bR⟩
 case round =>
  obtain⟨V,rfl⟩:∃ V,V=wr:=⟨_,rfl⟩;obtain⟨k,rows,bl,hk,rfl,hrl,hbll,hrow,hoa,hob,hbx,hap,hb⟩:=hrel;have hVs:=hb.size;have hk0:(0:Int)<=(k:Int):=oM
  by_cases hlt:k<p
  case neg =>
   obtain rfl:k=p:=oM;obtain⟨A8,c8,e8,hA8⟩:=Xz (f:=RRow.cells) (sz:=1) dC (fun _=>rfl) hoa rfl;obtain⟨A9,c9,e9,hA9⟩:=Xz (f:=Rn.cells) (sz:=4) dC (fun _=>rfl) hob rfl;rw [hrl] at e8;rw [hbll] at e9;subst e8 e9;have HP:Hid (EqnPost k w (.returned (.tuple #[.slice A8 k c8,.slice A9 k c9])) V):=Z1 ⟨hb,A8,c8,rows,A9,c9,bl,rfl,hrl,hA8,fun r hr=>⟨(hrow r hr).hr,(hrow r hr).hn⟩,hbll,hA9,hbx⟩;clear hrow hoa hob hbx hap hb hA8 hA9;go_wp2
   go_ret2
   exact HP.out
  have hkp:(k:Int)<(p:Int):=oM;obtain⟨e,y1,y2⟩:=(HRP k hlt).out;have a1:=(hb.cell (p:=⟨bP,oP+k,none⟩) hbP).trans y1;have a2:bP<V.heap.size:=oM;have he0:(0:Int)<=(e:Int):=oM;have hen:(e:Int)<(n:Int):=oM;obtain⟨Hrow,Hoa,Hob,Hbx,Hap,Hb,Hrl⟩:=Z7 hrow hoa hob hbx hap hb hrl;have Hbll:=Z1 hbll;clear hrow hoa hob hbx hap hb hrl hbll y1;go_wp2
  go_loopw [12,24] (fun v vi wi=>∃(q:Nat) (l:List Rn),q<=p/\vi=.int .i64 q/\l.length=q/\wi.ownsRow V.heap.size 43 4 v l.length (l.flatMap Rn.cells)/\(∀ x∈l,x.At wi wi.heap.size 7)/\Below V.heap.size V wi) (fun _ vi _=>p-(intOf vi).toNat)
  case atStart=>exact⟨0,[],Nat.zero_le _,rfl,rfl,World.ownsRow_nil _ _ _ _,sP,bR⟩
  case round =>
   obtain⟨U,rfl⟩:∃ U,U=wr:=⟨_,rfl⟩;obtain⟨q,l,hq,rfl,hll,hown,hlx,hbu⟩:=hrel;have hUs:=hbu.size;have hq0:(0:Int)<=(q:Int):=oM
   by_cases hqp:q<p
   case neg =>
    obtain rfl:q=p:=oM;obtain⟨y,z1,z2,z3⟩:=(HRB e y2).out;obtain⟨g2,c2,rfl,hg2,hg3⟩:=hown.form oM;have hU0:Below w w U:=Hb.out.trans (hbu.mono hVs);have hvb:∀ b,u9.ownBlock=some b->b<V.heap.size:=fun b h=>(Hob.out.lt b h).2;obtain⟨Hown,Hlx,Hbu,Hll⟩:=Z4 hown hlx hbu hll;rw [hll] at Hown;rw [hll];have b5:bB<U.heap.size:=oM;clear hown hlx hbu hll a1;go_upto_region 15 with(fail);have hS0:Below w w U.drew:=hU0.trans ((Vw bR 1).mono hU0.size);have hBV:Below V.heap.size V U.drew:=Hbu.out.trans ((Vw bR 1).mono hUs);have hBd:Below U.heap.size U U.drew:=Vw bR 1;refine wp_region_held (S:=Below w w) kR ?_;change wpAnyH _ _ _ _ _ _ _ _ (World.drew U);obtain⟨U0,hU0'⟩:∃ U0,U0=U.drew:=⟨_,rfl⟩;rw [<- hU0'] at hS0 hBV hBd ⊢;clear hU0' hU0;refine jT 0 hS0 ?_;refine jT 1 hS0 ?_;refine jT 4 hS0 ?_;refine jT 5 hS0 ?_;refine jT 6 hS0 ?_;refine jT 7 hS0 ?_;refine jT 8 hS0 ?_ (v:=.int .i64 y) (hy:=(.inl ⟨by rfl,fun W' hS'=>by have c8:=(hS'.cell (p:=⟨bB,oB+e,none⟩) hbB).trans z1;have c9:=hS'.size;have c7:bB<W'.heap.size:=oM;go_simp⟩));refine rZ 2 fun K hK=>?_;obtain⟨W1,hW1,hB,hr1,-⟩:=nw1 U0 #[.slice (some ⟨g2,0,none⟩) q c2] 184;go_simp;rw [<- hW1];have hS1:=hS0.trans (hB.mono hS0.size);have hV1:=hBV.trans (hB.mono hBV.size);have hU1:=hBd.trans (hB.mono hBd.size);obtain⟨p1,he1⟩:∃ p1,p1=U0.heap.size:=⟨_,rfl⟩;rw [<- he1] at hr1 ⊢;clear hW1 he1 hB;refine jK hK hS1 ?_;clear hK K;refine rZ 3 fun K hK=>?_
    have hnew:RowR W1 q 7 ⟨some ⟨g2,0,none⟩,q,c2,l⟩:=by
     have ho:=Vj Hown.out hU1;obtain⟨A',c',e',hA'⟩:=Xz (f:=Rn.cells) (sz:=4) dC (fun _=>rfl) ho Hll.out.symm
     cases e'
     exact⟨⟨Hll.out,hA',fun x hx=>((Hlx.out x hx).below hU1 lR).more hU1.size lR⟩,rfl,a2P ho Hll.out.symm⟩
    have Hnew:=Z1 hnew;have hrln:=Hrl.out;have hbln:=Hbll.out;rw [if_pos (by rfl)];refine a4i eltRow (Vj Hoa.out hV1) ⟨p1,0,none⟩ 1 1 [.slice (some ⟨g2,0,none⟩) q c2] rfl rfl rfl rfl (fun j u hj=>by rw [Addr.add_mid,Nat.zero_add,cr9 j hr1];simpa using hj) oC oM hS1.size ?_;intro v2 W2 ho2 hb2 hk2 _;have hS2:=hS1.trans hb2
    have Hr2:Hid (∀ r∈rows++[(⟨some ⟨g2,0,none⟩,q,c2,l⟩:RRow)],RowR W2 q 7 r):=Z1 (fun r hr=>by
     rcases List.mem_append.1 hr with h | h
     ·exact((Hrow.out r h).below hV1).keepT hk2 hb2.size
     ·rw [List.mem_singleton.1 h];exact Hnew.out.keepT hk2 hb2.size)
    have Ha2:Hid (W2.ownsRow w.heap.size 184 1 v2 (rows++[(⟨some ⟨g2,0,none⟩,q,c2,l⟩:RRow)]).length ((rows++[(⟨some ⟨g2,0,none⟩,q,c2,l⟩:RRow)]).flatMap RRow.cells)):=Z1 (by rw [List.length_append,List.flatMap_append];simpa [RRow.cells] using ho2);have Hb2:=Z1 (a4q (Vj Hob.out hV1) (hk2 _ dC));have Hx2:Hid (∀ x∈bl,x.At W2 W2.heap.size 7):=Z1 (fun x hx=>(((Hbx.out x hx).below hV1 lR).more hV1.size lR).keepT (hk2 _ dC) hb2.size)
    have Hp2:Hid (∀ r∈rows++[(⟨some ⟨g2,0,none⟩,q,c2,l⟩:RRow)],Apart r u9):=Z1 (fun r hr=>by
     rcases List.mem_append.1 hr with h | h
     ·exact Hap.out r h
     ·rw [List.mem_singleton.1 h]
      intro b o ee eb
      cases ee
      have:=hvb g2 eb.symm;omega)
    have hs2:=hS2.size;have HS2:=Z1 hS2;clear ho2 hb2 hk2 hnew hr1 Hnew;refine jK hK hS2 ?_;clear hK K;refine rZ 9 fun K hK=>?_;go_simp;refine(a2G W2 y oM oM).mono ?_;rintro ev W3 ⟨⟨zz,rfl,hz⟩,hB3⟩;have hS3:=hS2.trans (hB3.mono hS2.size);refine jK hK hS3 ?_;clear hK K;unfold Rn.v;refine rZ 10 fun K hK=>?_;obtain⟨W4,hW4,hB4,hr4,-⟩:=nw1 W3 zz 43;go_simp;rw [<- hW4];have hB24:=hB3.trans (hB4.mono hB3.size);have hS4:=hS2.trans (hB24.mono hS2.size);obtain⟨p4,he4⟩:∃ p4,p4=W3.heap.size:=⟨_,rfl⟩;rw [<- he4] at hr4 ⊢;have hz4:=(hz.below hB4 lR).more hB4.size (Nat.le_refl 3);clear hW4 he4 hB3 hB4 hS3 hz;refine jK hK hS4 ?_;clear hK K;refine rZ 11 fun K hK=>?_;rw [if_pos (by rfl)];refine b2s eltRat (Vj Hb2.out hB24) ⟨p4,0,none⟩ 1 zz.cells rfl rfl rfl rfl (fun j u hj=>by rw [Addr.add_mid,Nat.zero_add,cr9 j hr4];simpa [Rn.cells] using hj) (by simp [Rn.cells,Value.oneCell']) oM hS4.size ?_;intro g5 c5 W5 ho5 hb5 hk5 hbk hat;have hS5:=hS4.trans hb5;have Hr5:Hid (∀ r∈rows++[(⟨some ⟨g2,0,none⟩,q,c2,l⟩:RRow)],RowR W5 q 7 r):=Z1 (fun r hr=>((Hr2.out r hr).below hB24).keepB (Hp2.out r hr) hbk (hk5 _ dC) hb5.size);have Ha5:=Z1 (a4q (Vj Ha2.out hB24) (hk5 _ dC));have Ho5:Hid (W5.ownsRow w.heap.size 43 4 (.slice (some ⟨g5,0,none⟩) (bl.length+1) c5) (bl++[zz]).length ((bl++[zz]).flatMap Rn.cells)):=Z1 (by rw [List.length_append,List.flatMap_append];simpa using ho5)
    have Hx5:Hid (∀ x∈bl++[zz],x.At W5 W5.heap.size 7):=Z1 (fun x hx=>by
     rcases List.mem_append.1 hx with h | h
     ·exact(((Hx2.out x h).below hB24 lR).more hB24.size lR).keepT (hk5 _ dC) hb5.size
     ·rw [List.mem_singleton.1 h];exact(hz4.more lR oM).keepT (hk5 _ dC) hb5.size)
    have Hp5:Hid (∀ r∈rows++[(⟨some ⟨g2,0,none⟩,q,c2,l⟩:RRow)],Apart r (.slice (some ⟨g5,0,none⟩) (bl.length+1) c5)):=Z1 (fun r hr b o ee eb=>by
     have e5:b=g5:=by simpa [Value.ownBlock] using eb
     rcases hat with h | h
     ·exact Hp2.out r hr b o ee (by rw [e5,h])
     ·have hl:b<W4.heap.size:=by
       rcases(((Hr2.out r hr).below hB24).hr.hA) with h9 | ⟨b',o',e9,hl,_⟩
       ·have h1:=(Hr2.out r hr).hr.hl
        have h2:=(Hr2.out r hr).hn;rw [h9] at h1;simp at h1;omega
       ·rw [ee] at e9;cases e9;exact hl
      omega)
    have HS5:=Z1 hS5;clear ho5 hb5 hk5 hbk hat hz4 hr4 hB24 hS4 hS2 hS1 hS0 hV1 hU1 hBV hBd;refine jK hK hS5 ?_;clear hK K;refine rZ 12 fun K hK=>?_;go_simp;refine jK hK HS5.out ?_;clear hK K;refine rZ 13 fun K hK=>?_;go_simp;refine jK hK HS5.out ?_;clear hK K;refine wpAnyH_done kR ?_ _;clear hS5;go_wp2;go_roundw
    case rel=>exact⟨k+1,rows++[(⟨some ⟨g2,0,none⟩,q,c2,l⟩:RRow)],bl++[zz],oM,by go_num,by rw [List.length_append,Hrl.out];rfl,by rw [List.length_append,Hbll.out];rfl,Hr5.out,Ha5.out,by rw [<- Hbll.out];exact Ho5.out,Hx5.out,by rw [<- Hbll.out];exact Hp5.out,HS5.out⟩
    case measure=>simp [intOf];omega
   have hqp2:(q:Int)<(p:Int):=oM;obtain⟨h,z1,z2⟩:=(HRP q hqp).out;have hU0:Below w w U:=Hb.out.trans (hbu.mono hVs);have b1:=(hU0.cell (p:=⟨bP,oP+q,none⟩) hbP).trans z1;obtain⟨br,or_,mr,cr,x,x1,x2,x3,x4,x5,x6⟩:=(HRA h e z2 y2).out;have b2:=(hU0.cell (p:=⟨bA,oA+h,none⟩) hbA).trans x1;have b3:=(hU0.cell (p:=⟨br,or_+e,none⟩) x3).trans x4;have b4:bP<U.heap.size:=oM;have b5:bA<U.heap.size:=oM;have b6:br<U.heap.size:=oM;have h0:(0:Int)<=(h:Int):=oM;have hhn:(h:Int)<(n:Int):=oM;have hem:(e:Int)<(mr:Int):=oM;obtain⟨Hpt,Hown,Hlx,Hbu,Hll⟩:=Z5 (a2G U x oM oM) hown hlx hbu hll;clear hU0 z1 x1 x4 hown hlx hbu hll;go_wp2_with (fail);refine Hpt.out.mono ?_;rintro ev W1 ⟨⟨z,rfl,hz⟩,hB1⟩;have Hng:=Z1 (b2j W1 3 z oM hz);have HB1:=Z1 hB1;clear hz hB1 b1 b2 b3 Hpt;unfold Rn.v at Hng ⊢;go_wp2_with (fail);refine Hng.out.mono ?_;rintro ev W2 ⟨⟨y,rfl,hy⟩,hB2⟩;obtain⟨W3,hW3,hB3,hr3,-⟩:=nw1 W2 y 43;obtain⟨xb,hxb⟩:∃ xb,xb=W2.heap.size:=⟨_,rfl⟩;rw [<- hxb] at hr3;have HW3:=Z1 hW3;have Hxb:=Z1 hxb;have hxU:U.heap.size<=xb:=by have:=HB1.out.size;have:=hB2.size;omega
   obtain⟨HB3,Hy3,Hr3⟩:=Z3 (HB1.out.trans ((hB2.trans (hB3.mono hB2.size)).mono HB1.out.size)) ((hy.below hB3 lR).more hB3.size (Nat.le_refl 3)) hr3;have x3l:=Vq hr3;clear hW3 hB3 hr3 hxb hy hB2 Hng HB1;unfold Rn.v;go_upto_region 11 with(fail);rw [<- HW3.out,<- Hxb.out]
   by_cases hhe:h=e
   rotate_left
   focus
    have k1:((h:Int)==(e:Int))=false:=sO;obtain⟨W9,zz,hr9,HX⟩:∃ W9 zz,W9.heap[xb]?=some (.cells #[zz.g1,.slice zz.A1 zz.n1 zz.c1,zz.g2,.slice zz.A2 zz.n2 zz.c2] 43 (0,0))/\Hid (W9=W3/\zz=y):=⟨W3,y,Hr3.out,Z1 ⟨rfl,rfl⟩⟩;have Hz9:Hid (zz.At W9 W9.heap.size 7):=Z1 (by rw [HX.out.1,HX.out.2];exact Hy3.out.more lR oM);have HB9:Hid (Below U.heap.size U W9):=Z1 (by rw [HX.out.1];exact HB3.out);rw [<- HX.out.1];clear HX Hr3 Hy3 HB3 hhe HW3;go_upto_region 13 with(fail)
   rotate_left
   focus
    have k1:((h:Int)==(e:Int))=true:=by simp [hhe]
    go_upto_region 12 with(fail);have hS0:KeepX (fun b=>b=xb) W3 W3.drew:=(KeepX.refl _ _).below (Vw bR 1);have hBU:Below W3 W3 W3.drew:=Vw bR 1;refine wp_region_held (S:=KeepX (fun b=>b=xb) W3) kR ?_;change wpAnyH _ _ _ _ _ _ _ _ (World.drew W3);obtain⟨U0,hU0⟩:∃ U0,U0=W3.drew:=⟨_,rfl⟩;rw [<- hU0] at hS0 hBU ⊢;clear hU0;refine wpAnyH_ready (rs:=[0,1]) kR sP (AllReadyH.cons rfl (fun K hK=>?_) (AllReadyH.cons rfl (fun K hK=>?_) AllReadyH.nil))
    focus
     rw [if_pos (by rfl)];refine wp_load_mid 43 (.tmp 15) rfl xb 0 rfl y _ (VV (Xx Hr3.out) hBU x3l) underlying43 rfl Vy ?_;refine jK hK hS0 ?_;clear hK K;refine rZ 1 fun K hK=>?_;go_simp;refine(a2G U0 10000 oM oM).mono ?_;rintro ev W4 ⟨⟨v,rfl,hv⟩,hB4⟩;have hS4:=hS0.below hB4;have hB34:=hBU.trans (hB4.mono hBU.size);refine hK.out _ _ hS4 (fun _=>?_);clear hK K;unfold Rn.v
     try simp only [z]
    rotate_left
    focus
     go_simp;refine(a2G U0 10000 oM oM).mono ?_;rintro ev W4 ⟨⟨v,rfl,hv⟩,hB4⟩;have hS4:=hS0.below hB4;have hB34:=hBU.trans (hB4.mono hBU.size);refine hK.out _ _ hS4 (fun _=>?_);clear hK K;unfold Rn.v
     try simp only [z]
     refine rZ 0 fun K hK=>?_;rw [if_pos (by rfl)];refine wp_load_mid 43 (.tmp 15) rfl xb 0 rfl y _ (VV (Xx Hr3.out) hB34 x3l) underlying43 rfl Vy ?_;refine jK hK hS4 ?_;clear hK K
    rotate_left
    all_goals
     refine rZ 2 fun K hK=>?_;go_simp;refine(b3d W4 3 3 y v oM oM oM ((Hy3.out.below hB34 lR).more hB34.size lR) hv).mono ?_;rintro ev W5 ⟨⟨zz,rfl,hzz⟩,hB5⟩;have hS5:=hS4.below hB5;have hB35:=hB34.trans (hB5.mono hB34.size);have hr5:=gbox Hr3.out hB35 x3l;refine hK.out _ _ hS5 (fun _=>?_);clear hK K;unfold Rn.v
     try simp only [z]
     refine rZ 3 fun K hK=>?_;rw [if_pos (by rfl)];refine VX 43 _ _ none rfl rfl xb 43 _ zz rfl rfl hr5 rfl Vy oC ?_;have hS6:KeepX (fun b=>b=xb) W3 (W5.setRow xb zz):=hS5.trans ⟨rfl,rfl,rfl,sP,fun b _ hb=>setRow_other _ _ _ _ hb⟩;refine jK hK hS6 ?_;clear hK K;refine wpAnyH_done kR ?_ _;have hr9:=setRow_heap W5 xb _ zz _ _ hr5;have hz9:zz.At (W5.setRow xb zz) (W5.setRow xb zz).heap.size 7:=(hzz.other hr5 (a0L [y]) (fun c hc=>setRow_other _ _ _ _ hc)).more sP oM;have hB9:Below U.heap.size U (W5.setRow xb zz):=below_setRow (HB3.out.trans (hB35.mono HB3.out.size)) hxU _;obtain⟨W9,hW9⟩:∃ W9,W9=W5.setRow xb zz:=⟨_,rfl⟩;rw [<- hW9] at hr9 hz9 hB9 ⊢;have Hz9:=Z1 hz9;have HB9:=Z1 hB9;clear hW9 hS6 hS5 hS4 hS0 hBU hB34 hB35 hr5 hzz hv hB4 hB5 hz9 hB9 Hr3 Hy3 HB3 HW3 hhe;go_upto_region 13 with(fail)
   all_goals
    have Ho9:=Z1 (Vj Hown.out HB9.out);have Hl9:Hid (∀ x∈l,x.At W9 W9.heap.size 7):=Z1 (fun x hx=>((Hlx.out x hx).below HB9.out lR).more HB9.out.size lR);have s9:=HB9.out.size;have hll:=Hll.out;go_wp2_with (first | (refine wpList_load_row rfl 43 _ rfl _ rfl _ _ _ _ hr9 underlying43 rfl Vy ?_) | (at_builtin;refine Hid.out ?_));show wpList _ _ _ _ _ _;refine a1j eltRat Ho9.out zz rfl rfl rfl rfl rfl oC oM oM ?_;intro v' w' ho' hb' hk'
    have Hx7:Hid (∀ x∈l++[zz],x.At w' w'.heap.size 7):=Z1 (fun x hx=>by
     rcases List.mem_append.1 hx with h | h
     ·exact(Hl9.out x h).keepT (hk' _ dC) hb'.size
     ·rw [List.mem_singleton.1 h];exact Hz9.out.keepT (hk' _ dC) hb'.size)
    have Ho7:Hid (w'.ownsRow V.heap.size 43 4 v' (l++[zz]).length ((l++[zz]).flatMap Rn.cells)):=Z1 (by rw [List.length_append,List.flatMap_append];simpa [Rn.cells] using ho');have Hb7:=Z1 ((Hbu.out.trans (HB9.out.mono hUs)).trans hb');clear ho' hb' hk' Ho9 Hl9 Hz9 hr9 hll;go_wp2;go_roundw
    case rel=>exact⟨q+1,l++[zz],oM,by go_num,by rw [List.length_append,Hll.out];rfl,Ho7.out,Hx7.out,Hb7.out⟩
    case measure=>simp [intOf];omega
end
end Go.Proofs.YtniaimjknmhapaaGreatDoor
