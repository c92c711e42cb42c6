/- My texts IntQuo, IntGcd, IntOf, IntSmall. -/
import Derived.Deep.LoopGhost
import Derived.Test.YtniaimjknmhapaaGreatDoorG01
set_option linter.unusedVariables false
set_option linter.unusedSimpArgs false
set_option maxRecDepth 100000
set_option maxHeartbeats 16000000
namespace Go.Proofs.YtniaimjknmhapaaGreatDoor
open Tryz Go.RowKit

def RegT (w:World) (X Y:Array Value) (W':World):Prop :=
 Below w w W'/\W'.heap[w.heap.size]?=some (.cells X 41 (0,0))/\W'.heap[w.heap.size+1]?=some (.cells Y 41 (0,0)) /\
 (∃ cs:Array Value,W'.heap[w.heap.size+2]?=some (.cells cs 41 (0,0))/\cs.size=2)/\∃ cs:Array Value,W'.heap[w.heap.size+3]?=some (.cells cs 41 (0,0))/\cs.size=2
theorem RegT.lt {w W:World} {X Y:Array Value} (h:RegT w X Y W):w.heap.size+3<W.heap.size:=by
 obtain⟨_,_,_,_,cs,h,_⟩:=h;exact(Array.getElem?_eq_some_iff.1 h).1
theorem RegT.step {w W W':World} {X Y:Array Value} (h:RegT w X Y W) (hb:Below W W W'):RegT w X Y W':=by
 have hlt:=h.lt;obtain⟨h1,h2,h3,⟨cs,h4,h5⟩,ds,h6,h7⟩:=h;exact⟨h1.trans (hb.mono h1.size),(hb.block _ oM).trans h2,(hb.block _ oM).trans h3,⟨cs,(hb.block _ oM).trans h4,h5⟩,ds,(hb.block _ hlt).trans h6,h7⟩
theorem RegT.store2 {w W:World} {X Y:Array Value} (h:RegT w X Y W) (cs:Array Value) (hc:cs.size=2):RegT w X Y (W.setRow (w.heap.size+2) cs):=by
 obtain⟨h1,h2,h3,⟨ds,h4,h5⟩,es,h6,h7⟩:=h;exact⟨below_setRow h1 oM _,(setRow_other _ _ _ _ oM).trans h2,(setRow_other _ _ _ _ oM).trans h3,⟨cs,setRow_heap _ _ _ _ _ _ h4,hc⟩,es,(setRow_other _ _ _ _ oM).trans h6,h7⟩
theorem RegT.store3 {w W:World} {X Y:Array Value} (h:RegT w X Y W) (cs:Array Value) (hc:cs.size=2):RegT w X Y (W.setRow (w.heap.size+3) cs):=by
 obtain⟨h1,h2,h3,⟨ds,h4,h5⟩,es,h6,h7⟩:=h;exact⟨below_setRow h1 oM _,(setRow_other _ _ _ _ oM).trans h2,(setRow_other _ _ _ _ oM).trans h3,⟨ds,(setRow_other _ _ _ _ oM).trans h4,h5⟩,cs,setRow_heap _ _ _ _ _ _ h6,hc⟩
theorem RegT.drew {w W:World} {X Y:Array Value} (h:RegT w X Y W):RegT w X Y W.drew:=⟨Vw h.1 1,h.2⟩
theorem RegT.start (w:World) (X Y:Array Value):RegT w X Y ((((w.alloc (.cells X 41)).alloc (.cells Y 41)).alloc (.cells #[false,.slice none 0 0] 41)).alloc (.cells #[false,.slice none 0 0] 41)):=by
 obtain⟨h1,h2,h3,cs,h4,h5⟩:=RegS.start w X Y;have hlt:=(RegS.start w X Y).lt;refine⟨h1.alloc h1.size _,(Below.heap_alloc _ _ _ oM).trans h2,(Below.heap_alloc _ _ _ oM).trans h3,⟨cs,(Below.heap_alloc _ _ _ hlt).trans h4,h5⟩,#[false,.slice none 0 0],?_,rfl⟩;have:=heap_alloc_new (((w.alloc (.cells X 41)).alloc (.cells Y 41)).alloc (.cells #[false,.slice none 0 0] 41)) (.cells #[false,.slice none 0 0] 41)
 rwa [show(((w.alloc (.cells X 41)).alloc (.cells Y 41)).alloc (.cells #[false,.slice none 0 0] 41)).heap.size=w.heap.size+3 by simp] at this
theorem LimbsAt.away {K:IntKind} {w w':World} {B Bk n:Nat} {A:Option Addr} {l:List Int} (h:LimbsAt K w B A l) (ha:Away Bk n A l) (hg:∀ b,b<Bk∨n<=b->w'.heap[b]?=w.heap[b]?):LimbsAt K w' B A l:=by
 rcases ha with h0 | ha
 ·exact .inl h0
 ·exact h.other fun b o e=>hg b (ha b o e)
theorem LimbsAt.drewn {K:IntKind} {w:World} {B:Nat} {A:Option Addr} {l:List Int} (h:LimbsAt K w B A l):LimbsAt K w.drew B A l:=h
theorem a7S {a b Q R:Int} (g h:Bool) (hb:0<b) (e:a=b*Q+R) (h0:0<=R) (h1:R<b) (ha:0<=a):Big.sgn (g != h) Q=Int.tdiv (Big.sgn g a) (Big.sgn h b):=by
 have hQ:Q=a / b:=by
  rw [e,Int.add_comm,Int.add_mul_ediv_left _ _ oM,Int.ediv_eq_zero_of_lt h0 h1,Int.zero_add]
 have ht:Int.tdiv a b=a / b:=Int.tdiv_eq_ediv_of_nonneg ha
 cases g <;> cases h <;> simp [Big.sgn,Int.neg_tdiv,Int.tdiv_neg,ht,hQ]

section
variable (w:World)
theorem a1m (k j:Nat) (u v:Value) (x y:Int) (hk:k<=90000000000) (hj:j<=90000000000) (hy:y≠0) (hu:PI w w k u x) (hv:PI w w j v y) :
  Calls prog 73 #[u,v] w fun e w'=>(∃ q g' A' n' c',e=.returned (.tuple #[q,.agg #[.bool g',.slice A' n' c'],()])/\PI w' w' k q (Int.tdiv x y))/\Below w w w':=by
 have hv':=hv;obtain⟨g,A,n,c,l,rfl,hl,hn,hc,hL,hN,hx,hA,hsx⟩:=hu.parts;obtain⟨h,B,m,d,q,rfl,hq,hm,hd,hQ,hM,hyv,hB,hsy⟩:=hv.parts;have hm0:0<m:=by rcases hsy with⟨_,_,e⟩ | ⟨e,_⟩ | ⟨e,_⟩;exact absurd e hy;exact e;exact e
 have hvl:=Big.val_nonneg (B:=1000000000) oM hL;have hvq:=Big.val_nonneg (B:=1000000000) oM hQ
 have hvq0:0<Big.val 1000000000 q:=by
  rcases Int.lt_or_eq_of_le hvq with h | h
  ·exact h
  ·exfalso;apply hy;rw [hyv,<- h];simp [Big.sgn]
 have hsg:(sg y==0)=false:=by simp [a1r.2.2];exact hy
 have hS0:=RegT.start w #[g,.slice A n c] #[h,.slice B m d];obtain⟨W1,hW1⟩:∃ W1,W1=((((w.alloc (.cells #[g,.slice A n c] 41)).alloc (.cells #[h,.slice B m d] 41)).alloc (.cells #[false,.slice none 0 0] 41)).alloc (.cells #[false,.slice none 0 0] 41)):=⟨_,rfl⟩;rw [<- hW1] at hS0;obtain⟨HW,HX,HY⟩:=Z3 hW1 hx hyv;clear hW1 hx hyv hsx hsy hy;have hq0:=hS0.lt;have b0:=cr9 0 hS0.2.2.1;have b1:=cr9 1 hS0.2.2.1;simp at b0 b1;go_enter func73,ntmps73;go_upto_region 1 with(fail);rw [<- HW.out];go_wp2_with (fail);refine(a0Y W1 j _ y (hv'.at_ hS0.1)).mono ?_;rintro e W2 ⟨rfl,hB2⟩;have hS2:=hS0.step hB2;have hq2:=hS2.lt;have a1:=cr9 1 hS2.2.1;have d1:=cr9 1 hS2.2.2.1;simp at a1 d1;clear b0 b1;go_wp2_with (fail);refine(a3N W2 A B n m c d l q hl hq oM oM hc hm0 hL hQ hN hM (hA.at_ hS2.1 lR) (hB.at_ hS2.1 lR)).mono ?_;rintro e W3 ⟨hB3,A1,n1,c1,Q,A2,n2,c2,R,rfl,hQl,hRl,hn1,hn2,hc1,hc2,hQL,hRL,hQR,hR0,hR1,hAQ,hAR,haQ0,_⟩;have hS3:=hS2.step hB3;have haQ:Away 0 W2 A1 Q:=.inr fun b o e=>.inr (haQ0 b o e);obtain⟨HQl,HRl,Hquo⟩:=Z3 hQl hRl (a7S g h hvq0 hQR hR0 hR1 hvl);have hS:=hS3.drew;clear hQl hRl hQR a1 d1;go_upto_region 4 with(fail);refine wp_region_held (S:=RegT w #[g,.slice A n c] #[h,.slice B m d]) kR ?_;change wpAnyH _ _ _ _ _ _ _ _ (World.drew _);refine jT 0 hS ?_;refine jT 1 hS ?_ (v:=.bool g) (hy:=(.inl ⟨by rfl,fun W' hS'=>by have hc:=cr9 0 hS'.2.1;simp at hc;go_simp⟩));refine jT 2 hS ?_;refine jT 3 hS ?_ (v:=.bool h) (hy:=(.inl ⟨by rfl,fun W' hS'=>by have hc:=cr9 0 hS'.2.2.1;simp at hc;go_simp⟩));refine jT 4 hS ?_ (v:=.bool (g != h)) (hy:=(.inl ⟨by rfl,fun W' hS'=>by go_simp;cases g <;> cases h <;> rfl⟩));refine jT 5 hS ?_;refine jT 7 hS ?_;refine jT 8 hS ?_ (v:=.bool g) (hy:=(.inl ⟨by rfl,fun W' hS'=>by have hc:=cr9 0 hS'.2.1;simp at hc;go_simp⟩));refine jT 9 hS ?_;refine rZ 6 fun K hK=>?_;go_simp;refine(a0N W3.drew (g != h) A1 n1 c1 Q HQl.out oM hc1 hAQ).mono ?_;rintro e W5 ⟨rfl,hB5⟩;have hS5:=hS.step hB5;refine jK hK hS5 ?_;clear hK K;refine rZ 10 fun K hK=>?_;go_simp;refine(a0N W5 g A2 n2 c2 R HRl.out oM hc2 (hAR.drewn.at_ hB5 lR)).mono ?_;rintro e W6 ⟨rfl,hB6⟩;have hS6:=hS5.step hB6;refine jK hK hS6 ?_;clear hK K;refine rZ 11 fun K hK=>?_;rw [if_pos (by rfl)];obtain⟨cs,hcs,hcs2⟩:=hS6.2.2.2.1;refine VX 41 _ _ none rfl rfl (w.heap.size+2) 41 cs #[.bool ((g != h)&&decide (0<(Big.trim Q).length)),.slice A1 (Big.trim Q).length c1] rfl rfl hcs hcs2 VQ oC ?_;have hR7:=setRow_heap W6 (w.heap.size+2) cs #[.bool ((g != h)&&decide (0<(Big.trim Q).length)),.slice A1 (Big.trim Q).length c1] _ _ hcs;have hS7:=hS6.store2 #[.bool ((g != h)&&decide (0<(Big.trim Q).length)),.slice A1 (Big.trim Q).length c1] rfl;refine jK hK hS7 ?_;clear hK K;refine rZ 12 fun K hK=>?_;rw [if_pos (by rfl)];obtain⟨ds,hds,hds2⟩:=hS7.2.2.2.2;refine VX 41 _ _ none rfl rfl (w.heap.size+3) 41 ds #[.bool (g&&decide (0<(Big.trim R).length)),.slice A2 (Big.trim R).length c2] rfl rfl hds hds2 VQ oC ?_;have hR8:=setRow_heap (W6.setRow (w.heap.size+2) #[.bool ((g != h)&&decide (0<(Big.trim Q).length)),.slice A1 (Big.trim Q).length c1]) (w.heap.size+3) ds #[.bool (g&&decide (0<(Big.trim R).length)),.slice A2 (Big.trim R).length c2] _ _ hds;have hR8':=(setRow_other (W6.setRow (w.heap.size+2) #[.bool ((g != h)&&decide (0<(Big.trim Q).length)),.slice A1 (Big.trim Q).length c1]) (w.heap.size+3) (w.heap.size+2) #[.bool (g&&decide (0<(Big.trim R).length)),.slice A2 (Big.trim R).length c2] oM).trans hR7;have hS8:=hS7.store3 #[.bool (g&&decide (0<(Big.trim R).length)),.slice A2 (Big.trim R).length c2] rfl;refine jK hK hS8 ?_;clear hK K;refine rZ 13 fun K hK=>?_;go_simp;refine hK.out _ _ hS8 (fun _=>?_);clear hK K;refine wpAnyH_done kR ?_ _;have hq3:=hS2.lt;have hA8:=(((hAQ.drewn.at_ hB5 lR).at_ hB6 lR).away (w':=(W6.setRow (w.heap.size+2) #[.bool ((g != h)&&decide (0<(Big.trim Q).length)),.slice A1 (Big.trim Q).length c1]).setRow (w.heap.size+3) #[.bool (g&&decide (0<(Big.trim R).length)),.slice A2 (Big.trim R).length c2]) haQ (fun b hb=>(setRow_other _ _ _ _ oM).trans (setRow_other _ _ _ _ oM)));have HP:=Z1 ((PI.mk (neg:=g != h) HQl.out hn1 hc1 hQL hA8).more (C:=((W6.setRow (w.heap.size+2) #[.bool ((g != h)&&decide (0<(Big.trim Q).length)),.slice A1 (Big.trim Q).length c1]).setRow (w.heap.size+3) #[.bool (g&&decide (0<(Big.trim R).length)),.slice A2 (Big.trim R).length c2]).heap.size) (j:=k) sP oM);have hload1:=run_loadVar_row (P:=prog) _ _ _ 41 _ _ _ hR8' underlying41 rfl VQ;have hload2:=run_loadVar_row (P:=prog) _ _ _ 41 _ _ _ hR8 underlying41 rfl VQ;clear hA8;go_wp2;refine bodyPost_ret (v:=.tuple #[.agg #[.bool ((g != h)&&decide (0<(Big.trim Q).length)),.slice A1 (Big.trim Q).length c1],.agg #[.bool (g&&decide (0<(Big.trim R).length)),.slice A2 (Big.trim R).length c2],()]) (by simp [results,results73,asAddr,hload1,hload2]) rfl ⟨⟨_,_,_,_,_,rfl,?_⟩,hS8.1⟩;rw [HX.out,HY.out,<- Hquo.out];exact HP.out
end
open Tryz Go.RowKit

theorem b1B (a b Q R:Int) (e:a=b*Q+R):Int.gcd b R=Int.gcd a b:=by
 rw [e,Int.add_comm,Int.gcd_comm _ b];simp
theorem RegS.drewN {w W:World} {X Y:Array Value} (h:RegS w X Y W) (q:Nat):RegS w X Y (W.drewN q):=⟨Vw h.1 q,h.2⟩
def GcdRelG (w:World) (X Y:Array Value) (k:Nat) (G:Nat) (t:Nat) (s5 s6:Value) (wr:World):Prop :=
 ∃(A:Option Addr) (n c:Nat) (p:List Int) (B:Option Addr) (m d:Nat) (q:List Int),s5=.slice A n c/\s6=.slice B m d/\p.length=n/\q.length=m/\n<=k/\m<=k/\n<=c/\m<=d/\Big.Lim 1000000000 p/\Big.Lim 1000000000 q/\Big.Norm p/\Big.Norm q /\
  LimbsAt .u32 wr wr A p/\LimbsAt .u32 wr wr B q/\Away w (w.heap.size+3) A p/\Away w (w.heap.size+3) B q/\Int.gcd (Big.val 1000000000 p) (Big.val 1000000000 q)=G/\RegS w X Y wr/\t=(Big.val 1000000000 q).toNat
section
variable (w:World)
theorem a7m (k j:Nat) (u v:Value) (x y:Int) (hk:k<=40000000000) (hj:j<=40000000000) (hu:PI w w k u x) (hv:PI w w j v y) :
  Calls prog 140 #[u,v] w fun e w'=>(∃ r,e=.returned r/\PI w' w' (k+j) r (Int.gcd x y))/\Below w w w':=by
 obtain⟨g,A,n,c,l,rfl,hl,hn,hc,hL,hN,hx,hA,_⟩:=hu.parts;obtain⟨h,B,m,d,q,rfl,hq,hm,hd,hQ,hM,hy,hB,_⟩:=hv.parts
 have hg:Int.gcd x y=Int.gcd (Big.val 1000000000 l) (Big.val 1000000000 q):=by
  rw [hx,hy];cases g <;> cases h <;> simp [Big.sgn]
 have hS0:=RegS.start w #[g,.slice A n c] #[h,.slice B m d];obtain⟨W1,hW1⟩:∃ W1,W1=(((w.alloc (.cells #[g,.slice A n c] 41)).alloc (.cells #[h,.slice B m d] 41)).alloc (.cells #[false,.slice none 0 0] 41)):=⟨_,rfl⟩;rw [<- hW1] at hS0;have HW:=Z1 hW1;have Hg:=Z1 hg;have hq1:=hS0.lt;have a1:=cr9 1 hS0.2.1;have d1:=cr9 1 hS0.2.2.1;simp at a1 d1
 have HAw:Hid (Away w (w.heap.size+3) A l):=by
  show Away _ _ _ _
  rcases hA with h | ⟨b,o,e,hb,_⟩
  ·exact .inl h
  ·exact .inr fun b' o' e'=>by rw [e] at e';cases e';exact .inl hb
 have HBw:Hid (Away w (w.heap.size+3) B q):=by
  show Away _ _ _ _
  rcases hB with h | ⟨b,o,e,hb,_⟩
  ·exact .inl h
  ·exact .inr fun b' o' e'=>by rw [e] at e';cases e';exact .inl hb
 clear hW1 hg hx hy;go_enter func140,ntmps140;go_upto_region 1 with(fail);rw [<- HW.out];go_quiet (fail);go_wp2
 go_loopg [5,6] (Big.val 1000000000 q).toNat (fun t s5 s6 wr=>GcdRelG w #[g,.slice A n c] #[h,.slice B m d] (k+j) (Int.gcd x y) t s5 s6 wr)
 case atStart=>exact⟨A,n,c,l,B,m,d,q,rfl,rfl,hl,hq,oM,oM,hc,hd,hL,hQ,hN,hM,(hA.at_ (hS0.drewN nq).1 lR),(hB.at_ (hS0.drewN nq).1 lR),HAw.out,HBw.out,Hg.out.symm,hS0.drewN _,rfl⟩
 case round =>
  obtain⟨A',n',c',p',B',m',d',q',rfl,rfl,hl',hq',hn',hm',hc',hd',hL',hQ',hN',hM',hA',hB',hAw',hBw',hG',hS',ht'⟩:=hrel;have HG:=Z1 hG';have HT:=Z1 ht';clear hG' ht' a1 d1 hA hB
  rcases Nat.eq_zero_or_pos m' with h0 | h0
  ·have hq0:q'=[]:=List.length_eq_zero_iff.1 oM
   have hz:Hid (Big.sgn false (Big.val 1000000000 p')=(Int.gcd x y:Int)):=by
    show _=_;rw [<- HG.out,hq0];have:=Big.val_nonneg (B:=1000000000) oM hL';simp [Big.sgn,Big.val];omega
   obtain⟨cs,hcs,hcs2⟩:=hS'.2.2.2;subst h0;have hlt:=hS'.lt;clear hq' hq0;go_wp2_with (fail);refine(a0N wr false A' n' c' p' hl' oM hc' hA').mono ?_;rintro e w5 ⟨rfl,hB5⟩;have hS5:=hS'.step hB5;have hq5:=hB5.size;obtain⟨cs5,hcs5,hcs52⟩:=hS5.2.2.2
   obtain⟨e0,e1,rfl⟩:∃ e0 e1,cs5=#[e0,e1]:=by
    obtain⟨l5⟩:=cs5
    match l5,hcs52 with
    | [a,b],_=>exact⟨a,b,rfl⟩
   have z0:w5.cell? ⟨w.heap.size+1+1,0,none⟩=some e0:=by rw [cell_of_row w5 (w.heap.size+1+1) _ _ _ _ hcs5];rfl
   have z1:w5.cell? ⟨w.heap.size+1+1,1,none⟩=some e1:=by rw [cell_of_row w5 (w.heap.size+1+1) _ _ _ _ hcs5];rfl
   have zf:∀ j,w5.frozen? ⟨w.heap.size+1+1,j,none⟩=false:=fun j=>frozen_of_row w5 (w.heap.size+1+1) _ _ _ hcs5;have hP:=Z1 ((PI.mk (neg:=false) hl' hn' hc' hL' ((hA'.at_ hB5 lR).away (w':=(w5.setCell ⟨w.heap.size+1+1,0,none⟩ (.bool (false&&decide (0<(Big.trim p').length)))).setCell ⟨w.heap.size+1+1,1,none⟩ (.slice A' (Big.trim p').length c')) hAw' (fun b hb=>(Below.heap_setCell _ _ _ b (fun e=>by simp at e;omega)).trans (Below.heap_setCell _ _ _ b (fun e=>by simp at e;omega))))).more (C:=((w5.setCell ⟨w.heap.size+1+1,0,none⟩ (.bool (false&&decide (0<(Big.trim p').length)))).setCell ⟨w.heap.size+1+1,1,none⟩ (.slice A' (Big.trim p').length c')).heap.size) (j:=k+j) sP lR);rw [hz.out] at hP;have hBf:=(hS5.1.setCell (p:=⟨w.heap.size+1+1,0,none⟩) sO (.bool (false&&decide (0<(Big.trim p').length)))).setCell (p:=⟨w.heap.size+1+1,1,none⟩) sO (.slice A' (Big.trim p').length c');simp only [Bool.false_and] at hP hBf ⊢;clear hcs5 hcs hcs52 hcs2;have hw5:w.heap.size+1+1<w5.heap.size:=oM;go_wp2;refine bodyPost_ret (v:=.agg #[false,.slice A' (Big.trim p').length c']) (by simp [results,results140,go_sem,z0,z1]) rfl ⟨⟨_,rfl,hP.out⟩,hBf⟩
  ·have hlt:=hS'.lt
   go_wp2_with (fail);refine(a3N wr A' B' n' m' c' d' p' q' hl' hq' oM oM hc' oM hL' hQ' hN' hM' hA' hB').mono ?_;rintro e w4 ⟨hB4,A1,n1,c1,Q,A2,n2,c2,R,rfl,hQl,hRl,hn1,hn2,hc1,hc2,hQL,hRL,hQR,hR0,hR1,hAQ,hAR,hfQ,hfR⟩;have HRl:=Z1 hRl;have HQR:=Z1 hQR;clear hQl hRl hQR;go_wp2_with (go_at_call 186;refine(a2Z w4 A2 n2 c2 R HRl.out oM hc2 hAR).mono ?_;rintro e w5 ⟨rfl,rfl⟩);obtain⟨t1,t2,t3,t4⟩:=Big.trim_spec 1000000000 R;have hR0':=hR0
   go_roundg (Big.val 1000000000 (Big.trim R)).toNat
   case measure =>
    rw [HT.out,t1];omega
   case rel =>
    have hrl:=HRl.out;refine⟨B',m',d',q',A2,_,c2,Big.trim R,rfl,rfl,hq',rfl,oM,oM,hd',oM,hQ',Big.trim_lim hRL,hM',t2,hB'.at_ hB4 lR,by rw [t4];exact hAR.take _,hBw',?_,?_,hS'.step hB4,rfl⟩
    ·rcases hfR with⟨rfl,rfl⟩ | hf
     ·rcases hAw' with h | h
      ·left;rw [h];rfl
      ·exact .inr h
     ·exact .inr fun b o e=>.inr (by have:=hf b o e;omega)
    ·rw [t1,<- HG.out];exact b1B _ _ _ _ HQR.out
end
open Tryz Go.RowKit

def twoTo64:Int:=18446744073709551616
theorem b0o (n:Int) (h0:n<0) (h1:-9223372036854775808<=n):IntKind.u64.wrap n=n+twoTo64:=by
 unfold IntKind.wrap twoTo64;simp [IntKind.signed,IntKind.bits];omega
theorem a8v (n:Int) (h0:n<0) (h1:-9223372036854775808<=n):IntKind.u64.wrap (-(n+twoTo64))=-n:=by
 unfold IntKind.wrap twoTo64;simp [IntKind.signed,IntKind.bits];omega
theorem a9h {x:Int} {k:Nat} (h:x<1000000000 ^ (3-k)) (h0:0<x):k<3/\x / 1000000000<1000000000 ^ (3-(k+1)):=by
 have hk:k<3:=by
  rcases Nat.lt_or_ge k 3 with h3 | h3
  ·exact h3
  ·rw [show 3-k=0 by omega,Int.pow_zero] at h;omega
 refine⟨hk,Int.ediv_lt_of_lt_mul oM ?_⟩;rw [<- Int.pow_succ,show(3-(k+1)).succ=3-k by omega];exact h
theorem a9g {P:List Int} {k:Nat} {x a:Int} (hv:Big.val 1000000000 P+1000000000 ^ k*x=a) (hP:P.length=k):Big.val 1000000000 (P++[x % 1000000000])+1000000000 ^ (k+1)*(x / 1000000000)=a:=by
 rw [Big.val_snoc,hP,Int.pow_succ,Int.mul_assoc];have h1:(1000000000:Int) ^ k*(x % 1000000000)+1000000000 ^ k*(1000000000*(x / 1000000000))=1000000000 ^ k*x:=by rw [<- Int.mul_add,Int.emod_add_mul_ediv]
 omega

section
variable (w:World)
theorem b3i (n:Int) (h0:n<0) (h1:-9223372036854775808<=n) :
  Calls prog 44 #[n] w fun e w'=>(∃ r,e=.returned r/\PI w' w'.heap.size 3 r n)/\Below w w w':=by
 obtain⟨i0,hi,hz0,hz1,hz2⟩:=info_parts uinfo;have w1:=b0o n h0 h1;have w2:=a8v n h0 h1;have hB0:=(Below.refl w w).alloc lR (.cells #[false,.slice none 0 0] 41);have hZ0:=heap_alloc_new w (.cells #[false,.slice none 0 0] 41);go_enter func44,ntmps44;go_wp2;clear w1 w2
 go_loopw [3,4] (fun u v wr=>∃(k:Nat) (P:List Int) (x:Int),k<=3/\u=.int .u64 x/\0<=x/\x<=9223372036854775808/\x<1000000000 ^ (3-k)/\P.length=k/\Big.Lim 1000000000 P/\(x=0->Big.Norm P)/\Big.val 1000000000 P+1000000000 ^ k*x=-n /\
  wr.ownsRow (w.heap.size+1) 138 1 v k (P.map (Value.int .u32))/\Below w w wr/\wr.heap[w.heap.size]?=some (.cells #[false,.slice none 0 0] 41 (0,0))) (fun u _ _=>(intOf u).toNat)
 case atStart=>exact⟨0,[],-n,oM,rfl,oM,oM,oM,rfl,Big.Lim.nil,fun _=>Big.Norm.nil,by simp [Big.val],World.ownsRow_nil _ _ _ _,hB0,hZ0⟩
 case round =>
  obtain⟨k,P,x,hk,rfl,hx0,hxm,hx1,hPl,hPL,hPN,hv,hown,hb,hZ⟩:=hrel;obtain⟨HPl,HPL,HPN,Hv,HZ,Hx1⟩:=Z6 hPl hPL hPN hv hZ hx1;have hgr:w.heap.size<wr.heap.size:=(Array.getElem?_eq_some_iff.1 hZ).1;clear hPl hPL hPN hv hZ hZ0 hx1
  by_cases hx:0<x
  ·obtain⟨h3,hd⟩:=a9h Hx1.out hx
   obtain⟨Hd,Hnew,Hown⟩:=Z3 hd (a2w (heap_alloc_new wr (.cells #[.int .u32 (x % 1000000000)] 138))) (hown.alloc (.cells #[.int .u32 (x % 1000000000)] 138));have Hone:Hid (∀ u∈([Value.int .u32 (x % 1000000000)]:List Value),u.oneCell'=true):=by show ∀ u∈_,_;simp [Value.oneCell']
   clear hd;go_wp2_with (at_builtin;refine wpList_append_own _ rfl _ _ 39 rfl (w.heap.size+1) 138 i0 (.int .u32 0) 1 4 underlying39 hi hz0 hz1 hz2 rfl dC _ _ _ rfl Hown.out ⟨wr,0,none⟩ 1 1 [.int .u32 (x % 1000000000)] rfl rfl Hnew.out Hone.out (by unfold maxLen;omega) oM sO ?_);intro v' w9 hown' hgrow _;have hb9:=(hb.alloc hb.size (.cells #[.int .u32 (x % 1000000000)] 138)).grown hgrow sO (fun q hq=>by have:=a0D hown q hq;omega);have hZ9:=(hgrow.block w sO (fun e=>by have:=a0D hown w e.symm;omega)).trans ((Below.heap_alloc wr (.cells #[.int .u32 (x % 1000000000)] 138) _ hgr).trans HZ.out);have HZ9:=Z1 hZ9;clear hZ9;go_wp2;go_roundw
   case rel =>
    refine⟨k+1,P++[x % 1000000000],x / 1000000000,oM,rfl,oM,oM,Hd.out,by have:=HPl.out;simp;omega,Big.Lim.append.2 ⟨HPL.out,fun a ha=>?_⟩,fun h0=>Big.norm_snoc oM,a9g Hv.out HPl.out,by rw [List.map_append];exact hown',hb9,HZ9.out⟩;rw [List.mem_singleton] at ha;subst ha;omega
   case measure=>simp [intOf];omega
  ·obtain rfl:x=0:=oM
   have hN:=HPN.out rfl;have hval:Hid (Big.val 1000000000 P=-n):=by show _=_;have:=Hv.out;rwa [Int.mul_zero,Int.add_zero] at this
   obtain⟨A,c,rfl,hkc,hlim⟩:=a1w hown HPl.out.symm;have hAb:=Z1 (fun b o (e:A=some ⟨b,o,none⟩)=>a0D hown b (by rw [e];rfl));have Hlim:=Z1 hlim;have z0:wr.cell? ⟨w,0,none⟩=some (.bool false):=by rw [cr9 _ HZ.out];rfl
   have z1:wr.cell? ⟨w,1,none⟩=some (.slice none 0 0):=by rw [cr9 _ HZ.out];rfl
   have zf:∀ j,wr.frozen? ⟨w,j,none⟩=false:=fun j=>fr0 _ HZ.out;have hBf:=(hb.setCell (p:=⟨w,0,none⟩) sP (.bool true)).setCell (p:=⟨w,1,none⟩) sP (.slice A k c)
   have HL2:=Z1 ((hlim.other (w':=(wr.setCell ⟨w,0,none⟩ (.bool true)).setCell ⟨w,1,none⟩ (.slice A k c)) (fun b o e=>by
    have:=hAb.out b o e;exact(Below.heap_setCell _ _ _ b (fun e=>by simp at e;omega)).trans (Below.heap_setCell _ _ _ b (fun e=>by simp at e;omega)))).more (C:=((wr.setCell ⟨w,0,none⟩ (.bool true)).setCell ⟨w,1,none⟩ (.slice A k c)).heap.size) sP)
   clear hlim hown;go_wp2;refine bodyPost_ret (v:=.agg #[true,.slice A k c]) (by simp [results,results44,go_sem,z0,z1]) rfl ⟨⟨_,rfl,true,A,k,c,P,rfl,HPl.out,hk,hkc,HPL.out,hN,?_,?_,HL2.out⟩,hBf⟩
   ·intro _
    rcases Nat.eq_zero_or_pos k with h | h
    ·exfalso
     have h2:=HPl.out;rw [h] at h2;have h3:=hval.out;rw [List.length_eq_zero_iff.1 h2] at h3;simp [Big.val] at h3;omega
    ·exact h
   ·rw [hval.out];simp [Big.sgn]
theorem b3h (n:Int) (h0:0<=n) (h1:n<=9223372036854775807) :
  Calls prog 44 #[n] w fun e w'=>(∃ r,e=.returned r/\PI w' w'.heap.size 3 r n)/\Below w w w':=by
 obtain⟨i0,hi,hz0,hz1,hz2⟩:=info_parts uinfo;have hdn:decide (n<0)=false:=decide_eq_false oM;have hB0:=(Below.refl w w).alloc lR (.cells #[false,.slice none 0 0] 41);have hZ0:=heap_alloc_new w (.cells #[false,.slice none 0 0] 41);go_enter func44,ntmps44;go_wp2
 go_loopw [3,4] (fun u v wr=>∃(k:Nat) (P:List Int) (x:Int),k<=3/\u=.int .u64 x/\0<=x/\x<=9223372036854775808/\x<1000000000 ^ (3-k)/\P.length=k/\Big.Lim 1000000000 P/\(x=0->Big.Norm P)/\Big.val 1000000000 P+1000000000 ^ k*x=n /\
  wr.ownsRow (w.heap.size+1) 138 1 v k (P.map (Value.int .u32))/\Below w w wr/\wr.heap[w.heap.size]?=some (.cells #[false,.slice none 0 0] 41 (0,0))) (fun u _ _=>(intOf u).toNat)
 case atStart=>exact⟨0,[],n,oM,rfl,oM,oM,oM,rfl,Big.Lim.nil,fun _=>Big.Norm.nil,by simp [Big.val],World.ownsRow_nil _ _ _ _,hB0,hZ0⟩
 case round =>
  obtain⟨k,P,x,hk,rfl,hx0,hxm,hx1,hPl,hPL,hPN,hv,hown,hb,hZ⟩:=hrel;obtain⟨HPl,HPL,HPN,Hv,HZ,Hx1⟩:=Z6 hPl hPL hPN hv hZ hx1;have hgr:w.heap.size<wr.heap.size:=(Array.getElem?_eq_some_iff.1 hZ).1;clear hPl hPL hPN hv hZ hZ0 hx1
  by_cases hx:0<x
  ·obtain⟨h3,hd⟩:=a9h Hx1.out hx
   obtain⟨Hd,Hnew,Hown⟩:=Z3 hd (a2w (heap_alloc_new wr (.cells #[.int .u32 (x % 1000000000)] 138))) (hown.alloc (.cells #[.int .u32 (x % 1000000000)] 138));have Hone:Hid (∀ u∈([Value.int .u32 (x % 1000000000)]:List Value),u.oneCell'=true):=by show ∀ u∈_,_;simp [Value.oneCell']
   clear hd;go_wp2_with (at_builtin;refine wpList_append_own _ rfl _ _ 39 rfl (w.heap.size+1) 138 i0 (.int .u32 0) 1 4 underlying39 hi hz0 hz1 hz2 rfl dC _ _ _ rfl Hown.out ⟨wr,0,none⟩ 1 1 [.int .u32 (x % 1000000000)] rfl rfl Hnew.out Hone.out (by unfold maxLen;omega) oM sO ?_);intro v' w9 hown' hgrow _;have hb9:=(hb.alloc hb.size (.cells #[.int .u32 (x % 1000000000)] 138)).grown hgrow sO (fun q hq=>by have:=a0D hown q hq;omega);have hZ9:=(hgrow.block w sO (fun e=>by have:=a0D hown w e.symm;omega)).trans ((Below.heap_alloc wr (.cells #[.int .u32 (x % 1000000000)] 138) _ hgr).trans HZ.out);have HZ9:=Z1 hZ9;clear hZ9;go_wp2;go_roundw
   case rel =>
    refine⟨k+1,P++[x % 1000000000],x / 1000000000,oM,rfl,oM,oM,Hd.out,by have:=HPl.out;simp;omega,Big.Lim.append.2 ⟨HPL.out,fun a ha=>?_⟩,fun h0=>Big.norm_snoc oM,a9g Hv.out HPl.out,by rw [List.map_append];exact hown',hb9,HZ9.out⟩;rw [List.mem_singleton] at ha;subst ha;omega
   case measure=>simp [intOf];omega
  ·obtain rfl:x=0:=oM
   have hN:=HPN.out rfl;have hval:Hid (Big.val 1000000000 P=n):=by show _=_;have:=Hv.out;rwa [Int.mul_zero,Int.add_zero] at this
   obtain⟨A,c,rfl,hkc,hlim⟩:=a1w hown HPl.out.symm;have hAb:=Z1 (fun b o (e:A=some ⟨b,o,none⟩)=>a0D hown b (by rw [e];rfl));have Hlim:=Z1 hlim;have z0:wr.cell? ⟨w,0,none⟩=some (.bool false):=by rw [cr9 _ HZ.out];rfl
   have z1:wr.cell? ⟨w,1,none⟩=some (.slice none 0 0):=by rw [cr9 _ HZ.out];rfl
   have zf:∀ j,wr.frozen? ⟨w,j,none⟩=false:=fun j=>fr0 _ HZ.out;have hBf:=(hb.setCell (p:=⟨w,0,none⟩) sP (.bool false)).setCell (p:=⟨w,1,none⟩) sP (.slice A k c)
   have HL2:=Z1 ((hlim.other (w':=(wr.setCell ⟨w,0,none⟩ (.bool false)).setCell ⟨w,1,none⟩ (.slice A k c)) (fun b o e=>by
    have:=hAb.out b o e;exact(Below.heap_setCell _ _ _ b (fun e=>by simp at e;omega)).trans (Below.heap_setCell _ _ _ b (fun e=>by simp at e;omega)))).more (C:=((wr.setCell ⟨w,0,none⟩ (.bool false)).setCell ⟨w,1,none⟩ (.slice A k c)).heap.size) sP)
   clear hlim hown;go_wp2;refine bodyPost_ret (v:=.agg #[false,.slice A k c]) (by simp [results,results44,go_sem,z0,z1]) rfl ⟨⟨_,rfl,false,A,k,c,P,rfl,HPl.out,hk,hkc,HPL.out,hN,?_,?_,HL2.out⟩,hBf⟩
   ·intro h;cases h
   ·rw [hval.out];simp [Big.sgn]
theorem a1M (n:Int) (h1:-9223372036854775808<=n) (h2:n<=9223372036854775807) :
  Calls prog 44 #[n] w fun e w'=>(∃ r,e=.returned r/\PI w' w'.heap.size 3 r n)/\Below w w w':=by
 by_cases h:n<0
 ·exact b3i w n h h1
 ·exact b3h w n oM h2
end
open Tryz Go.RowKit

def RegU (w:World) (X:Array Value) (W':World):Prop:=Below w w W'/\W'.heap[w.heap.size]?=some (.cells X 41 (0,0))
theorem RegU.lt {w W:World} {X:Array Value} (h:RegU w X W):w.heap.size<W.heap.size:=(Array.getElem?_eq_some_iff.1 h.2).1
theorem RegU.step {w W W':World} {X:Array Value} (h:RegU w X W) (hb:Below W W W'):RegU w X W':=⟨h.1.trans (hb.mono h.1.size),(hb.block _ h.lt).trans h.2⟩
theorem RegU.drew {w W:World} {X:Array Value} (h:RegU w X W):RegU w X W.drew:=⟨Vw h.1 1,h.2⟩
theorem RegU.start (w:World) (X:Array Value):RegU w X (w.alloc (.cells X 41)):=⟨bR.alloc lR _,heap_alloc_new w _⟩
theorem a9U {l:List Int} (hL:Big.Lim 1000000000 l) (k:Nat) (hk:k<=l.length):Big.val 1000000000 (l.drop k)<=Big.val 1000000000 l/\0<=Big.val 1000000000 (l.drop k):=by
 have h0:=Big.val_nonneg (B:=1000000000) oM (hL.drop k);have h1:=Big.val_nonneg (B:=1000000000) oM (hL.take k);have h2:=Big.val_split 1000000000 l k hk;have h3:1*Big.val 1000000000 (l.drop k)<=1000000000 ^ k*Big.val 1000000000 (l.drop k):=Int.mul_le_mul_of_nonneg_right (by have:=Big.pow_pos (B:=1000000000) oM k;omega) h0;omega
theorem b2W (v:Int) (h0:0<v) (h1:v<=9223372036854775808):IntKind.u64.wrap (-v)=twoTo64-v:=by
 unfold IntKind.wrap twoTo64;simp [IntKind.signed,IntKind.bits];omega
theorem b2X (v:Int) (h0:0<v) (h1:v<=9223372036854775808):IntKind.i64.wrap (twoTo64-v)=-v:=by
 rw [IntKind.wrap_i64];unfold twoTo64;omega

section
variable (w:World)
theorem b0s (k:Nat) (v:Value) (x:Int) (hk:k<=100000000000) (hx:x < -9223372036854775808) (hv:PI w w k v x) :
  CL 34 #[v] w (.tuple #[(),false]):=by
 have hv':=hv;obtain⟨g,A,n,c,l,rfl,hl,hn,hc,hL,hN,hxv,hA,hsx⟩:=hv.parts;have hS0:=RegU.start w #[g,.slice A n c];obtain⟨W1,hW1⟩:∃ W1,W1=w.alloc (.cells #[g,.slice A n c] 41):=⟨_,rfl⟩;rw [<- hW1] at hS0;have HW:=Z1 hW1;have Hc1:Hid (cm x (-9223372036854775808)=-1):=by show _=_;unfold cm;rw [if_pos hx]
 obtain⟨HX,HS,Hx⟩:=Z3 hxv hsx hx;have hS:=hS0.drew;clear hW1 hxv hsx hx;go_enter func34,ntmps34;go_upto_region 1 with(fail);rw [<- HW.out];refine wp_region_held (S:=RegU w #[g,.slice A n c]) kR ?_;change wpAnyH _ _ _ _ _ _ _ _ (World.drew _);refine jT 0 hS ?_ (v:=.agg #[g,.slice A n c]) (hy:=(yieldsIf_load_mid (by rfl) 41 _ rfl w.heap.size 0 rfl [g,.slice A n c] _ (fun W' hS'=>Xx hS'.2) underlying41 rfl VQ));refine rZ 1 fun K hK=>?_;go_simp;refine(a1M W1.drew (-9223372036854775808) oM oM).mono ?_;rintro e W2 ⟨⟨r2,rfl,hr2⟩,hB2⟩;have hS2:=hS.step hB2;refine jK hK hS2 ?_;clear hK K;refine rZ 2 fun K hK=>?_;go_simp;refine(a2j W2 k 3 _ _ x (-9223372036854775808) hk oM (hv'.at_ hS2.1) hr2).mono ?_;rw [Hc1.out];rintro e W3 ⟨rfl,hB3⟩;have hS3:=hS2.step hB3;refine jK hK hS3 ?_;clear hK K;refine jT 3 hS3 ?_ (v:=.bool true);refine jT 4 hS3 ?_ (v:=.bool true);refine jT 5 hS3 ?_;refine jT 6 hS3 ?_;refine jT 7 hS3 ?_;refine jT 8 hS3 ?_;refine rZ 9 fun K hK=>?_;go_simp;refine hK.out _ _ hS3 (fun _=>?_);clear hK K;refine wpAnyH_done kR ?_ _;go_wp2
 go_ret2
 exact⟨rfl,hS3.1⟩
theorem b0u (k:Nat) (v:Value) (x:Int) (hk:k<=100000000000) (hx:9223372036854775807<x) (hv:PI w w k v x) :
  CL 34 #[v] w (.tuple #[(),false]):=by
 have hv':=hv;obtain⟨g,A,n,c,l,rfl,hl,hn,hc,hL,hN,hxv,hA,hsx⟩:=hv.parts;have hS0:=RegU.start w #[g,.slice A n c];obtain⟨W1,hW1⟩:∃ W1,W1=w.alloc (.cells #[g,.slice A n c] 41):=⟨_,rfl⟩;rw [<- hW1] at hS0;have HW:=Z1 hW1;have Hc1:Hid (cm x (-9223372036854775808)=1):=by show _=_;unfold cm;rw [if_neg oM,if_pos oM]
 have Hc2:Hid (cm x 9223372036854775807=1):=by show _=_;unfold cm;rw [if_neg oM,if_pos hx]
 obtain⟨HX,HS,Hx⟩:=Z3 hxv hsx hx;have hS:=hS0.drew;clear hW1 hxv hsx hx;go_enter func34,ntmps34;go_upto_region 1 with(fail);rw [<- HW.out];refine wp_region_held (S:=RegU w #[g,.slice A n c]) kR ?_;change wpAnyH _ _ _ _ _ _ _ _ (World.drew _);refine jT 0 hS ?_ (v:=.agg #[g,.slice A n c]) (hy:=(yieldsIf_load_mid (by rfl) 41 _ rfl w.heap.size 0 rfl [g,.slice A n c] _ (fun W' hS'=>Xx hS'.2) underlying41 rfl VQ));refine rZ 1 fun K hK=>?_;go_simp;refine(a1M W1.drew (-9223372036854775808) oM oM).mono ?_;rintro e W2 ⟨⟨r2,rfl,hr2⟩,hB2⟩;have hS2:=hS.step hB2;refine jK hK hS2 ?_;clear hK K;refine rZ 2 fun K hK=>?_;go_simp;refine(a2j W2 k 3 _ _ x (-9223372036854775808) hk oM (hv'.at_ hS2.1) hr2).mono ?_;rw [Hc1.out];rintro e W3 ⟨rfl,hB3⟩;have hS3:=hS2.step hB3;refine jK hK hS3 ?_;clear hK K;refine jT 3 hS3 ?_ (v:=.bool false);refine jT 4 hS3 ?_ (v:=.bool false);refine jT 5 hS3 ?_ (v:=.agg #[g,.slice A n c]) (hy:=(yieldsIf_load_mid (by rfl) 41 _ rfl w.heap.size 0 rfl [g,.slice A n c] _ (fun W' hS'=>Xx hS'.2) underlying41 rfl VQ));refine rZ 6 fun K hK=>?_;go_simp;refine(a1M W3 9223372036854775807 oM oM).mono ?_;rintro e W4 ⟨⟨r4,rfl,hr4⟩,hB4⟩;have hS4:=hS3.step hB4;refine jK hK hS4 ?_;clear hK K;refine rZ 7 fun K hK=>?_;go_simp;refine(a2j W4 k 3 _ _ x 9223372036854775807 hk oM (hv'.at_ hS4.1) hr4).mono ?_;rw [Hc2.out];rintro e W5 ⟨rfl,hB5⟩;have hS5:=hS4.step hB5;refine jK hK hS5 ?_;clear hK K;refine jT 8 hS5 ?_ (v:=.bool true);refine rZ 9 fun K hK=>?_;go_simp;refine hK.out _ _ hS5 (fun _=>?_);clear hK K;refine wpAnyH_done kR ?_ _;go_wp2
 go_ret2
 exact⟨rfl,hS5.1⟩
theorem b0t (k:Nat) (v:Value) (x:Int) (hk:k<=100000000000) (hx:-9223372036854775808<=x/\x<=9223372036854775807) (hv:PI w w k v x) :
  CL 34 #[v] w (.tuple #[x,true]):=by
 have hv':=hv;obtain⟨g,A,n,c,l,rfl,hl,hn,hc,hL,hN,hxv,hA,hsx⟩:=hv.parts;have hS0:=RegU.start w #[g,.slice A n c];obtain⟨W1,hW1⟩:∃ W1,W1=w.alloc (.cells #[g,.slice A n c] 41):=⟨_,rfl⟩;rw [<- hW1] at hS0;have HW:=Z1 hW1;obtain⟨y,hy⟩:∃ y,cm x (-9223372036854775808)=y:=⟨_,rfl⟩;obtain⟨z,hz⟩:∃ z,cm x 9223372036854775807=z:=⟨_,rfl⟩;have hy0:0<=y:=by rw [<- hy];unfold cm;rw [if_neg oM];split <;> omega
 have hz0:z<=0:=by rw [<- hz];unfold cm;split;omega;rw [if_neg oM];omega
 have Hc1:=Z1 hy;have Hc2:=Z1 hz;clear hy hz;obtain⟨HX,HS,Hx⟩:=Z3 hxv hsx hx;have hS:=hS0.drew;clear hW1 hxv hsx hx;go_enter func34,ntmps34;go_upto_region 1 with(fail);rw [<- HW.out];refine wp_region_held (S:=RegU w #[g,.slice A n c]) kR ?_;change wpAnyH _ _ _ _ _ _ _ _ (World.drew _);refine jT 0 hS ?_ (v:=.agg #[g,.slice A n c]) (hy:=(yieldsIf_load_mid (by rfl) 41 _ rfl w.heap.size 0 rfl [g,.slice A n c] _ (fun W' hS'=>Xx hS'.2) underlying41 rfl VQ));refine rZ 1 fun K hK=>?_;go_simp;refine(a1M W1.drew (-9223372036854775808) oM oM).mono ?_;rintro e W2 ⟨⟨r2,rfl,hr2⟩,hB2⟩;have hS2:=hS.step hB2;refine jK hK hS2 ?_;clear hK K;refine rZ 2 fun K hK=>?_;go_simp;refine(a2j W2 k 3 _ _ x (-9223372036854775808) hk oM (hv'.at_ hS2.1) hr2).mono ?_;rw [Hc1.out];rintro e W3 ⟨rfl,hB3⟩;have hS3:=hS2.step hB3;refine jK hK hS3 ?_;clear hK K;refine jT 3 hS3 ?_ (v:=.bool false);refine jT 4 hS3 ?_ (v:=.bool false);refine jT 5 hS3 ?_ (v:=.agg #[g,.slice A n c]) (hy:=(yieldsIf_load_mid (by rfl) 41 _ rfl w.heap.size 0 rfl [g,.slice A n c] _ (fun W' hS'=>Xx hS'.2) underlying41 rfl VQ));refine rZ 6 fun K hK=>?_;go_simp;refine(a1M W3 9223372036854775807 oM oM).mono ?_;rintro e W4 ⟨⟨r4,rfl,hr4⟩,hB4⟩;have hS4:=hS3.step hB4;refine jK hK hS4 ?_;clear hK K;refine rZ 7 fun K hK=>?_;go_simp;refine(a2j W4 k 3 _ _ x 9223372036854775807 hk oM (hv'.at_ hS4.1) hr4).mono ?_;rw [Hc2.out];rintro e W5 ⟨rfl,hB5⟩;have hS5:=hS4.step hB5;refine jK hK hS5 ?_;clear hK K;refine jT 8 hS5 ?_ (v:=.bool false);refine rZ 9 fun K hK=>?_;go_simp;refine hK.out _ _ hS5 (fun _=>?_);clear hK K;refine wpAnyH_done kR ?_ _;subst hl;have hA5:=hA.at_ hS5.1 lR;have c0:=cr9 0 hS5.2;have c1:=cr9 1 hS5.2;simp at c0 c1
 have hv63:Big.val 1000000000 l<=9223372036854775808:=by
  have h1:=HX.out;have h2:=Hx.out
  cases g <;> simp [Big.sgn] at h1 <;> omega
 have HL:=Z1 hL;have hlt5:=hS5.lt;clear hL hA hv hv' hS0 hS hS2 hS3 hS4 hB2 hB3 hB4 hB5 hr2 hr4;go_wp2
 go_loopw [4,5] (fun u i wr=>∃ k:Nat,k<=l.length/\i=.int .i64 ((k:Int)-1)/\u=.int .u64 (Big.val 1000000000 (l.drop k))/\W5=wr) (fun _ i _=>(intOf i+1).toNat)
 case atStart=>exact⟨l.length,lR,rfl,by rw [List.drop_length];rfl,rfl⟩
 case round =>
  obtain⟨k',hk',rfl,rfl,rfl⟩:=hrel
  match k',hk' with
  | 0,_ =>
   rw [List.drop_zero];have hv0:=Big.val_nonneg (B:=1000000000) oM HL.out;have h1:=HX.out
   cases hg:g with
   | false =>
    have hxe:Hid (x=Big.val 1000000000 l):=by show _=_;rw [h1,hg];rfl
    have hv2:Big.val 1000000000 l<=9223372036854775807:=by have:=Hx.out;have:=hxe.out;omega
    subst hg;clear h1;go_wp2
    go_ret2
    exact⟨by rw [hxe.out];rfl,hS5.1⟩
   | true =>
    have hxe:Hid (x=-Big.val 1000000000 l):=by show _=_;rw [h1,hg];rfl
    have hv2:0<Big.val 1000000000 l:=by
     have:=hxe.out
     rcases HS.out with⟨_,e,_⟩ | ⟨_,e,_⟩ | ⟨_,_,e⟩
     ·rw [hg] at e;cases e
     ·rw [hg] at e;cases e
     ·omega
    have w1:=b2W _ hv2 hv63;have w2:=b2X _ hv2 hv63;subst hg;clear h1;go_wp2
    go_ret2
    exact⟨by rw [hxe.out];rfl,hS5.1⟩
  | k'+1,hk' =>
   rw [show((k'+1:Nat):Int)-1=(k':Int) by omega];have hkl:k'<l.length:=oM;obtain⟨b,o,rfl,hbB,hx⟩:=hA5.look hkl;have hxl:=HL.out.get k' hkl;have hx0:=hxl.1;have hx1:=hxl.2;have hd1:=a9U HL.out k' oM;have hd2:=a9U HL.out (k'+1) oM;have hde:=Big.val_drop 1000000000 l k' hkl;have hd0:=hd2.2;have hd3:Big.val 1000000000 (l.drop (k'+1))*1000000000+l[k']<=9223372036854775808:=oM;have Hde:Hid (Big.val 1000000000 (l.drop k')=Big.val 1000000000 (l.drop (k'+1))*1000000000+l[k']):=by show _=_;omega
   clear hxl hd1 hd2 hde;go_wp2;go_roundw
   case rel=>exact⟨k',oM,by go_num,by rw [Hde.out],trivial⟩
   case measure=>simp [intOf]
theorem a8I (k:Nat) (v:Value) (x:Int) (hk:k<=100000000000) (hv:PI w w k v x) :
  CL 34 #[v] w (.tuple #[(if -9223372036854775808<=x/\x<=9223372036854775807 then x else 0:Int),.bool (decide (-9223372036854775808<=x/\x<=9223372036854775807))]):=by
 by_cases h:-9223372036854775808<=x/\x<=9223372036854775807
 ·rw [if_pos h,decide_eq_true h];exact b0t w k v x hk h hv
 ·rw [if_neg h,decide_eq_false h]
  by_cases h1:x < -9223372036854775808
  ·exact b0s w k v x hk h1 hv
  ·exact b0u w k v x hk oM hv
end
end Go.Proofs.YtniaimjknmhapaaGreatDoor
