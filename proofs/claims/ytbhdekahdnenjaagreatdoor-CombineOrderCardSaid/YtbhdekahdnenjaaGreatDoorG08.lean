/- Lemmas. -/
import Derived.Deep.LoopGhost
import Derived.Test.YtbhdekahdnenjaaGreatDoorG01
set_option linter.unusedVariables false
set_option linter.unusedSimpArgs false
set_option maxRecDepth 100000
set_option maxHeartbeats 16000000
namespace Go.Proofs.YtbhdekahdnenjaaGreatDoor
open Tryz Go.RowKit
variable (w:World)
def RegT (w:World) (X Y:AV) (a:World):Prop :=
 Below w w a/\a.heap[w.heap.size]?=some (.cells X 50 (0,0))/\a.heap[w.heap.size+1]?=some (.cells Y 50 (0,0)) /\
 (∃i:AV,a.heap[w.heap.size+2]?=some (.cells i 50 (0,0))/\i.size=2)/\∃i:AV,a.heap[w.heap.size+3]?=some (.cells i 50 (0,0))/\i.size=2
theorem RegT.lt {w W} {X Y} (h:RegT w X Y W):(w:Nat)+3<W:=by
 obtain⟨_,_,_,_,a,h,_⟩:=h;exact(Array.getElem?_eq_some_iff.1 h).1
theorem RegT.step {w W W'} {X Y} (h:RegT w X Y W) (a:Below W W W'):RegT w X Y W':=by
 have i:=h.lt;obtain⟨o,I,J,⟨s,L,O⟩,E,Q,S⟩:=h;exact⟨o.trans (a.mono o.size),(a.block _ oM).trans I,(a.block _ oM).trans J,⟨s,(a.block _ oM).trans L,O⟩,E,(a.block _ i).trans Q,S⟩
theorem RegT.store2 {w W} {X Y} (h:RegT w X Y W) (cs) (L:cs.size=2):RegT w X Y (W.setRow (w+2) cs):=by
 obtain⟨i,o,s,⟨O,E,_⟩,a,I,J⟩:=h;exact⟨below_setRow i oM _,(Vl _ _ _ _ oM).trans o,(Vl _ _ _ _ oM).trans s,⟨cs,VC _ _ _ _ _ _ E,L⟩,a,(Vl _ _ _ _ oM).trans I,J⟩
theorem RegT.store3 {w W} {X Y} (h:RegT w X Y W) (cs) (L:cs.size=2):RegT w X Y (W.setRow (w+3) cs):=by
 obtain⟨i,o,s,⟨a,E,I⟩,O,J,_⟩:=h;exact⟨below_setRow i oM _,(Vl _ _ _ _ oM).trans o,(Vl _ _ _ _ oM).trans s,⟨a,(Vl _ _ _ _ oM).trans E,I⟩,cs,VC _ _ _ _ _ _ J,L⟩
theorem RegT.drew {w W} {X Y} (h:RegT w X Y W):RegT w X Y W.drew:=⟨Vw h.1 1,h.2⟩
theorem RegT.start (w) (X Y):RegT w X Y ((((w.alloc (.cells X 50)).alloc (.cells Y 50)).alloc (.cells #[false,.slice none 0 0] 50)).alloc (.cells #[false,.slice none 0 0] 50)):=by
 obtain⟨i,s,E,o,I,J⟩:=RegS.start w X Y;have a:=(RegS.start w X Y).lt;refine⟨i.alloc i.size _,(VD _ _ _ oM).trans s,(VD _ _ _ oM).trans E,⟨o,(VD _ _ _ a).trans I,J⟩,#[false,.slice none 0 0],?_,rfl⟩;have:=Vh (((w.alloc (.cells X 50)).alloc (.cells Y 50)).alloc (.cells #[false,.slice none 0 0] 50)) (.cells #[false,.slice none 0 0] 50)
 rwa [show(((w.alloc (.cells X 50)).alloc (.cells Y 50)).alloc (.cells #[false,.slice none 0 0] 50)).heap.size=w.heap.size+3 by simp] at this
theorem LimbsAt.away {K:IK} {w w'} {B Bk n} {A} {l} (h:LimbsAt K w B A l) (a:Away Bk n A l) (s:∀b,b<Bk∨n<=b->w'.heap[b]?=w.heap[b]?):LimbsAt K w' B A l:=by
 rcases a with i|a
 ·exact .inl i
 ·exact h.other fun b o e=>s b (a b o e)
theorem LimbsAt.drewn {K:IK} {w} {B} {A} {l} (h:LimbsAt K w B A l):LimbsAt K w.drew B A l:=h
theorem a8M {a b Q R} (g h) (J:0<b) (e:a=b*Q+R) (i:0<=R) (o:R<b) (E:0<=a):Big.sgn (g != h) Q=Int.tdiv (Big.sgn g a) (Big.sgn h b):=by
 have s:Q=a / b:=by
  rw[e,QV,Int.add_mul_ediv_left _ _ oM,Int.ediv_eq_zero_of_lt i o,Int.zero_add]
 have I:Int.tdiv a b=a / b:=Yx E
 cases g <;> cases h <;> simp[Big.sgn,Int.neg_tdiv,Int.tdiv_neg,I,s]
theorem a1r (k j) (u v) (x y) (hk:k<=90000000000) (hj:j<=90000000000) (hy:y≠0) (hu:PI w w k u x) (hv:PI w w j v y) :
  Calls prog 206 #[u,v] w fun e w'=>(∃q g' A' n' c',e=.returned (.tuple #[q,.agg #[.bool g',.slice A' n' c'],()])/\PI w' w' k q (Int.tdiv x y))/\Below w w w':=by
 have ba:=hv;obtain⟨g,A,n,c,l,rfl,hl,hn,hc,hL,hN,hx,hA,b9⟩:=hu.parts;obtain⟨h,B,m,d,q,rfl,hq,hm,_,hQ,hM,a8,hB,ap⟩:=hv.parts;have b7:0<m:=by rcases ap with⟨_,_,e⟩|⟨e,_⟩|⟨e,_⟩;exact absurd e hy;exact e;exact e
 have bb:=Big.val_nonneg (B:=1000000000) oM hL;have bc:=Big.val_nonneg (B:=1000000000) oM hQ
 have aq:0<Big.val 1000000000 q:=by
  rcases Int.lt_or_eq_of_le bc with h|h
  ·exact h
  ·exfalso;apply hy;rw[a8,<- h];simp[Big.sgn]
 have bg:(sg y==0)=false:=by simp[a1w.2.2];exact hy
 have E:=RegT.start w #[g,.slice A n c] #[h,.slice B m d];obtain⟨W1,a7⟩:=eX (((((w.alloc (.cells #[g,.slice A n c] 50)).alloc (.cells #[h,.slice B m d] 50)).alloc (.cells #[false,.slice none 0 0] 50)).alloc (.cells #[false,.slice none 0 0] 50)));rw[<- a7] at E;obtain⟨HW,HX,HY⟩:=Z3 a7 hx a8;clear a7 hx a8 b9 ap hy;have b0:=cr9 0 E.2.2.1;have b1:=cr9 1 E.2.2.1;simp at b0 b1;go_enter func206,ntmps206;go_upto_region 1 with(fail);rw[<- HW];go_wp2_with (fail);refine(a0Y W1 j _ y (ba.at_ E.1)).mono ?_;rintro e W2 ⟨rfl,av⟩;have s:=E.step av;have bf:=s.lt;have a1:=cr9 1 s.2.1;have d1:=cr9 1 s.2.2.1;simp at a1 d1;clear b0 b1;go_wp2_with (fail);refine(a4g W2 A B n m c d l q hl hq oM oM hc b7 hL hQ hN hM (hA.at_ s.1 lR) (hB.at_ s.1 lR)).mono ?_;rintro e W3 ⟨aw,I,n1,L,Q,W,n2,X,R,rfl,af,ah,b8,be,ak,b6,ax,_,ae,ay,az,ac,au,aj,_⟩;have b4:=s.step aw;have b5:Away 0 W2 I Q:=.inr fun b o e=>.inr (aj b o e);obtain⟨a9,ar,aa⟩:=Z3 af ah (a8M g h aq ae ay az bb);have J:=b4.drew;clear af ah ae a1 d1;go_upto_region 4 with(fail);refine Vs (S:=RegT w #[g,.slice A n c] #[h,.slice B m d]) kR ?_;change wpAnyH _ _ _ _ _ _ _ _ (World.drew _);refine jT 0 J ?_;refine jT 1 J ?_ (v:=.bool g) (hy:=(.inl ⟨by rfl,fun W' i=>by have hc:=cr9 0 i.2.1;simp at hc;go_simp⟩));refine jT 2 J ?_;refine jT 3 J ?_ (v:=.bool h) (hy:=(.inl ⟨by rfl,fun W' i=>by have hc:=cr9 0 i.2.2.1;simp at hc;go_simp⟩));refine jT 4 J ?_ (v:=.bool (g != h)) (hy:=(.inl ⟨by rfl,fun W' i=>by go_simp;cases g <;> cases h <;> rfl⟩));refine jT 5 J ?_;refine jT 7 J ?_;refine jT 8 J ?_ (v:=.bool g) (hy:=(.inl ⟨by rfl,fun W' i=>by have hc:=cr9 0 i.2.1;simp at hc;go_simp⟩));refine jT 9 J ?_;refine rZ 6 fun K a=>?_;go_simp;refine(a0R W3.drew (g != h) I n1 L Q a9 oM ak ac).mono ?_;rintro e W5 ⟨rfl,a0⟩;have ai:=J.step a0;refine jK a ai ?_;clear a K;refine rZ 10 fun K a=>?_;go_simp;refine(a0R W5 g W n2 X R ar oM b6 (au.drewn.at_ a0 lR)).mono ?_;rintro e W6 ⟨rfl,ad⟩;have a4:=ai.step ad;refine jK a a4 ?_;clear a K;refine rZ 11 fun K a=>?_;rw[Vt (by rfl)];obtain⟨cs,al,am⟩:=a4.2.2.2.1;refine VQ 50 _ _ none rfl rfl (w+2) 50 cs #[.bool ((g != h)&&decide (0<(Big.trim Q).length)),.slice I (Big.trim Q).length L] rfl rfl al am VZ oC ?_;have b2:=VC W6 (w+2) cs #[.bool ((g != h)&&decide (0<(Big.trim Q).length)),.slice I (Big.trim Q).length L] _ _ al;have a5:=a4.store2 #[.bool ((g != h)&&decide (0<(Big.trim Q).length)),.slice I (Big.trim Q).length L] rfl;refine jK a a5 ?_;clear a K;refine rZ 12 fun K a=>?_;rw[Vt (by rfl)];obtain⟨ds,an,ao⟩:=a5.2.2.2.2;refine VQ 50 _ _ none rfl rfl (w+3) 50 ds #[.bool (g&&decide (0<(Big.trim R).length)),.slice W (Big.trim R).length X] rfl rfl an ao VZ oC ?_;have b3:=VC (W6.setRow (w+2) #[.bool ((g != h)&&decide (0<(Big.trim Q).length)),.slice I (Big.trim Q).length L]) (w+3) ds #[.bool (g&&decide (0<(Big.trim R).length)),.slice W (Big.trim R).length X] _ _ an;have ag:=(Vl (W6.setRow (w+2) #[.bool ((g != h)&&decide (0<(Big.trim Q).length)),.slice I (Big.trim Q).length L]) (w+3) (w+2) #[.bool (g&&decide (0<(Big.trim R).length)),.slice W (Big.trim R).length X] oM).trans b2;have a6:=a5.store3 #[.bool (g&&decide (0<(Big.trim R).length)),.slice W (Big.trim R).length X] rfl;refine jK a a6 ?_;clear a K;refine rZ 13 fun K a=>?_;go_simp;refine a.out _ _ a6 (fun _=>?_);clear a K;refine VF kR ?_ _;have ab:=(((ac.drewn.at_ a0 lR).at_ ad lR).away (w':=(W6.setRow (w+2) #[.bool ((g != h)&&decide (0<(Big.trim Q).length)),.slice I (Big.trim Q).length L]).setRow (w+3) #[.bool (g&&decide (0<(Big.trim R).length)),.slice W (Big.trim R).length X]) b5 (fun b hb=>(Vl _ _ _ _ oM).trans (Vl _ _ _ _ oM)));have HP:=Z1 ((PI.mk (neg:=g != h) a9 b8 ak ax ab).more (C:=((W6.setRow (w+2) #[.bool ((g != h)&&decide (0<(Big.trim Q).length)),.slice I (Big.trim Q).length L]).setRow (w+3) #[.bool (g&&decide (0<(Big.trim R).length)),.slice W (Big.trim R).length X]).heap.size) (j:=k) sP oM);have O:=VW (P:=prog) _ _ _ 50 _ _ _ ag Xy rfl VZ;have T:=VW (P:=prog) _ _ _ 50 _ _ _ b3 Xy rfl VZ;clear ab;go_wp2;refine VG (v:=.tuple #[.agg #[.bool ((g != h)&&decide (0<(Big.trim Q).length)),.slice I (Big.trim Q).length L],.agg #[.bool (g&&decide (0<(Big.trim R).length)),.slice W (Big.trim R).length X],()]) (by simp[results,results206,asAddr,O,T]) rfl ⟨⟨_,_,_,_,_,rfl,?_⟩,a6.1⟩;rw[HX,HY,<- aa];exact HP
theorem b2N (a b Q R) (e:a=b*Q+R):Int.gcd b R=Int.gcd a b:=by
 rw[e,QV,Int.gcd_comm _ b];simp
theorem RegS.drewN {w W} {X Y} (h:RegS w X Y W) (q):RegS w X Y (W.drewN q):=⟨Vw h.1 q,h.2⟩
def GcdRelG (w:World) (X Y:AV) (k:Nat) (G:Nat) (t:Nat) (a i:Value) (wr:World):Prop :=
 ∃(A:OA) (n c:Nat) (p:LI) (B:OA) (m d:Nat) (q:LI),a=.slice A n c/\i=.slice B m d/\p.length=n/\q.length=m/\n<=k/\m<=k/\n<=c/\m<=d/\Big.Lim 1000000000 p/\Big.Lim 1000000000 q/\Big.Norm p/\Big.Norm q /\
  LimbsAt .u32 wr wr A p/\LimbsAt .u32 wr wr B q/\Away w (w+3) A p/\Away w (w+3) B q/\Int.gcd (Big.val 1000000000 p) (Big.val 1000000000 q)=G/\RegS w X Y wr/\t=(Big.val 1000000000 q).toNat
theorem a8a (k j) (u v) (x y) (hk:k<=40000000000) (hj:j<=40000000000) (hu:PI w w k u x) (hv:PI w w j v y) :
  Calls prog 233 #[u,v] w fun e w'=>(∃r,e=.returned r/\PI w' w' (k+j) r (Int.gcd x y))/\Below w w w':=by
 obtain⟨g,A,n,c,l,rfl,hl,hn,hc,hL,hN,hx,hA,_⟩:=hu.parts;obtain⟨h,B,m,d,q,rfl,hq,hm,hd,hQ,hM,hy,hB,_⟩:=hv.parts
 have hg:Int.gcd x y=Int.gcd (Big.val 1000000000 l) (Big.val 1000000000 q):=by
  rw[hx,hy];cases g <;> cases h <;> simp[Big.sgn]
 have s:=RegS.start w #[g,.slice A n c] #[h,.slice B m d];obtain⟨W1,W⟩:=eX ((((w.alloc (.cells #[g,.slice A n c] 50)).alloc (.cells #[h,.slice B m d] 50)).alloc (.cells #[false,.slice none 0 0] 50)));rw[<- W] at s;have HW:=Z1 W;have Hg:=Z1 hg;have a1:=cr9 1 s.2.1;have d1:=cr9 1 s.2.2.1;simp at a1 d1
 have am:Hid (Away w (w+3) A l):=by
  show Away _ _ _ _
  rcases hA with h|⟨b,o,e,hb,_⟩
  ·exact .inl h
  ·exact .inr fun b' o' e'=>by rw[e] at e';cases e';exact .inl hb
 have an:Hid (Away w (w+3) B q):=by
  show Away _ _ _ _
  rcases hB with h|⟨b,o,e,hb,_⟩
  ·exact .inl h
  ·exact .inr fun b' o' e'=>by rw[e] at e';cases e';exact .inl hb
 clear W hg hx hy;go_enter func233,ntmps233;go_upto_region 1 with(fail);rw[<- HW];go_quiet (fail);go_wp2
 go_loopg [5,6] (Big.val 1000000000 q).toNat (fun t s5 s6 wr=>GcdRelG w #[g,.slice A n c] #[h,.slice B m d] (k+j) (Int.gcd x y) t s5 s6 wr)
 case atStart=>exact⟨A,n,c,l,B,m,d,q,rfl,rfl,hl,hq,oM,oM,hc,hd,hL,hQ,hN,hM,(hA.at_ (s.drewN nq).1 lR),(hB.at_ (s.drewN nq).1 lR),am,an,Hg.symm,s.drewN _,rfl⟩
 case round =>
  obtain⟨A',n',c',J,B',m',d',q',rfl,rfl,a0,a4,az,b2,X,aw,T,af,ap,ae,S,a8,O,ac,ad,E,al⟩:=hrel;have HG:=Z1 ad;have HT:=Z1 al;clear ad al a1 d1 hA hB
  rcases Y0 m' with h0|h0
  ·have ak:q'=[]:=List.length_eq_zero_iff.1 oM
   have hz:Hid (Big.sgn false (Big.val 1000000000 J)=(Int.gcd x y:Int)):=by
    show _=_;rw[<- HG,ak];have:=Big.val_nonneg (B:=1000000000) oM T;simp[Big.sgn,Big.val];omega
   obtain⟨cs,av,aj⟩:=E.2.2.2;subst h0;have ay:=E.lt;clear a4 ak;go_wp2_with (fail);refine(a0R wr false A' n' c' J a0 oM X S).mono ?_;rintro e L ⟨rfl,aa⟩;have ai:=E.step aa;obtain⟨a6,i,I⟩:=ai.2.2.2
   obtain⟨e0,e1,rfl⟩:∃e0 e1,a6=#[e0,e1]:=by
    obtain⟨l5⟩:=a6
    match l5,I with
    |[a,b],_=>exact⟨a,b,rfl⟩
   have z0:L.cell? ⟨w+1+1,0,none⟩=some e0:=by rw[Jv L (w+1+1) _ _ _ _ i];rfl
   have z1:L.cell? ⟨w+1+1,1,none⟩=some e1:=by rw[Jv L (w+1+1) _ _ _ _ i];rfl
   have zf:∀j,L.frozen? ⟨w+1+1,j,none⟩=false:=fun j=>QR L (w+1+1) _ _ _ i;have hP:=Z1 ((PI.mk (neg:=false) a0 az X T ((S.at_ aa lR).away (w':=(L.setCell ⟨w+1+1,0,none⟩ (.bool (false&&decide (0<(Big.trim J).length)))).setCell ⟨w+1+1,1,none⟩ (.slice A' (Big.trim J).length c')) O (fun b hb=>(VR _ _ _ b (fun e=>by simp at e;omega)).trans (VR _ _ _ b (fun e=>by simp at e;omega))))).more (C:=((L.setCell ⟨w+1+1,0,none⟩ (.bool (false&&decide (0<(Big.trim J).length)))).setCell ⟨w+1+1,1,none⟩ (.slice A' (Big.trim J).length c')).heap.size) (j:=k+j) sP lR);rw[hz.out] at hP;have ab:=(ai.1.setCell (p:=⟨w+1+1,0,none⟩) sO (.bool (false&&decide (0<(Big.trim J).length)))).setCell (p:=⟨w+1+1,1,none⟩) sO (.slice A' (Big.trim J).length c');simp only[Zm] at hP ab⊢;clear i av I aj;go_wp2;refine VG (v:=.agg #[false,.slice A' (Big.trim J).length c']) (by simp[results,results233,go_sem,z0,z1]) rfl ⟨⟨_,rfl,hP.out⟩,ab⟩
  ·have ay:=E.lt
   go_wp2_with (fail);refine(a4g wr A' B' n' m' c' d' J q' a0 a4 oM oM X oM T af ap ae S a8).mono ?_;rintro e w4 ⟨a9,A1,n1,c1,Q,A2,n2,c2,R,rfl,aq,ah,_,b3,_,au,_,ar,ag,b0,b1,_,a7,_,ax⟩;have a5:=Z1 ah;have ao:=Z1 ag;clear aq ah ag;go_wp2_with (go_at_call 93;refine(a3s w4 A2 n2 c2 R a5 oM au a7).mono ?_;rintro e L ⟨rfl,rfl⟩);obtain⟨t1,t2,t3,t4⟩:=Big.trim_spec 1000000000 R
   go_roundg (Big.val 1000000000 (Big.trim R)).toNat
   case measure =>
    rw[HT,t1];omega
   case rel =>
    have b4:=a5.out;refine⟨B',m',d',q',A2,_,c2,Big.trim R,rfl,rfl,a4,rfl,oM,oM,aw,oM,af,Big.trim_lim ar,ae,t2,a8.at_ a9 lR,by rw[t4];exact a7.take _,ac,?_,?_,E.step a9,rfl⟩
    ·rcases ax with⟨rfl,rfl⟩|hf
     ·rcases O with h|h
      ·left;rw[h];rfl
      ·exact .inr h
     ·exact .inr fun b o e=>.inr (by have:=hf b o e;omega)
    ·rw[t1,<- HG];exact b2N _ _ _ _ ao
def twoTo64:Int:=18446744073709551616
theorem b1x (n) (a:n<0) (i:-9223372036854775808<=n):IntKind.u64.wrap n=n+twoTo64:=by
 unfold IntKind.wrap twoTo64;simp[IntKind.signed,IntKind.bits];omega
theorem a9t (n) (a:n<0) (i:-9223372036854775808<=n):IntKind.u64.wrap (-(n+twoTo64))=-n:=by
 unfold IntKind.wrap twoTo64;simp[IntKind.signed,IntKind.bits];omega
theorem b0l {x:Int} {k} (h:x<1000000000 ^ (3-k)) (o:0<x):k<3/\x / 1000000000<1000000000 ^ (3-(k+1)):=by
 have i:k<3:=by
  rcases Zn k 3 with a|a
  ·exact a
  ·rw[show 3-k=0 by omega,Int.pow_zero] at h;omega
 refine⟨i,Z0 oM ?_⟩;rw[<- Zf,show(3-(k+1)).succ=3-k by omega];exact h
theorem b0k {P} {k} {x a} (hv:Big.val 1000000000 P+1000000000 ^ k*x=a) (i:P.length=k):Big.val 1000000000 (P++[x % 1000000000])+1000000000 ^ (k+1)*(x / 1000000000)=a:=by
 rw[Big.val_snoc,i,Zf,YG];have o:(1000000000:Int) ^ k*(x % 1000000000)+1000000000 ^ k*(1000000000*(x / 1000000000))=1000000000 ^ k*x:=by rw[<- XJ,Zj]
 omega
theorem b4E (n:Int) (h0:n<0) (h1:-9223372036854775808<=n) :
  Calls prog 25 #[n] w fun e w'=>(∃r,e=.returned r/\PI w' w'.heap.size 3 r n)/\Below w w w':=by
 obtain⟨i0,hi,ah,ai,aj⟩:=XW uinfo;have w1:=b1x n h0 h1;have w2:=a9t n h0 h1;have ac:=(VM w w).alloc lR (.cells #[false,.slice none 0 0] 50);have a4:=Vh w (.cells #[false,.slice none 0 0] 50);go_enter func25,ntmps25;go_wp2;clear w1 w2
 go_loopw [3,4] (fun u v wr=>∃(k:Nat) (P:LI) (x:Int),k<=3/\u=.int .u64 x/\0<=x/\x<=9223372036854775808/\x<1000000000 ^ (3-k)/\P.length=k/\Big.Lim 1000000000 P/\(x=0->Big.Norm P)/\Big.val 1000000000 P+1000000000 ^ k*x=-n /\
  wr.ownsRow (w+1) 120 1 v k (P.map (Value.int .u32))/\Below w w wr/\wr.heap[w.heap.size]?=some (.cells #[false,.slice none 0 0] 50 (0,0))) (fun u _ _=>(intOf u).toNat)
 case atStart=>exact⟨0,[],-n,oM,rfl,oM,oM,oM,rfl,Big.Lim.nil,fun _=>Big.Norm.nil,by simp[Big.val],Xp _ _ _ _,ac,a4⟩
 case round =>
  obtain⟨k,P,x,hk,rfl,ak,al,a6,a0,W,X,hv,i,hb,hZ⟩:=hrel;obtain⟨s,O,a8,Hv,HZ,aa⟩:=Z6 a0 W X hv hZ a6;have af:(w:Nat)<wr:=(Array.getElem?_eq_some_iff.1 hZ).1;clear a0 W X hv hZ a4 a6
  by_cases hx:0<x
  ·obtain⟨h3,hd⟩:=b0l aa hx
   obtain⟨Hd,Q,T⟩:=Z3 hd (a2m (Vh wr (.cells #[.int .u32 (x % 1000000000)] 120))) (i.alloc (.cells #[.int .u32 (x % 1000000000)] 120));have S:Hid (∀u∈([Value.int .u32 (x % 1000000000)]:List Value),u.oneCell'):=by show∀u∈_,_;simp[Value.oneCell']
   clear hd;go_wp2_with (at_builtin;refine Xd _ rfl _ _ 48 rfl (w+1) 120 i0 (.int .u32 0) 1 4 Zh hi ah ai aj rfl dC _ _ _ rfl T ⟨wr,0,none⟩ 1 1 [.int .u32 (x % 1000000000)] rfl rfl Q S (by unfold maxLen;omega) oM sO ?_);intro v' w9 L E _;have ae:=(hb.alloc hb.size (.cells #[.int .u32 (x % 1000000000)] 120)).grown E sO (fun q hq=>by have:=a0B i q hq;omega);have a5:=(E.block w sO (fun e=>by have:=a0B i w e.symm;omega)).trans ((VD wr (.cells #[.int .u32 (x % 1000000000)] 120) _ af).trans HZ);have a9:=Z1 a5;clear a5;go_wp2;go_roundw
   case rel =>
    refine⟨k+1,P++[x % 1000000000],x / 1000000000,oM,rfl,oM,oM,Hd,by have:=s.out;simp;omega,Big.Lim.append.2 ⟨O,fun a ha=>?_⟩,fun h0=>Big.norm_snoc oM,b0k Hv s,by rw[Xn];exact L,ae,a9⟩;rw[VY] at ha;subst ha;omega
   case measure=>exact mS
  ·obtain rfl:x=0:=oM
   have hN:=a8.out rfl;have J:Hid (Big.val 1000000000 P=-n):=by show _=_;have:=Hv.out;rwa [XR,XP] at this
   obtain⟨A,c,rfl,ag,I⟩:=a1k i s.symm;have ab:=Z1 (fun b o (e:A=some ⟨b,o,none⟩)=>a0B i b (by rw[e];rfl));have z0:wr.cell? ⟨w,0,none⟩=some (.bool false):=by rw[cr9 _ HZ];rfl
   have z1:wr.cell? ⟨w,1,none⟩=some (.slice none 0 0):=by rw[cr9 _ HZ];rfl
   have zf:∀j,wr.frozen? ⟨w,j,none⟩=false:=fun j=>fr0 _ HZ;have ad:=(hb.setCell (p:=⟨w,0,none⟩) sP (.bool true)).setCell (p:=⟨w,1,none⟩) sP (.slice A k c)
   have a7:=Z1 ((I.other (w':=(wr.setCell ⟨w,0,none⟩ (.bool true)).setCell ⟨w,1,none⟩ (.slice A k c)) (fun b o e=>by
    have:=ab.out b o e;exact(VR _ _ _ b (fun e=>by simp at e;omega)).trans (VR _ _ _ b (fun e=>by simp at e;omega)))).more (C:=((wr.setCell ⟨w,0,none⟩ (.bool true)).setCell ⟨w,1,none⟩ (.slice A k c)).heap.size) sP)
   clear I i;go_wp2;refine VG (v:=.agg #[true,.slice A k c]) (by simp[results,results25,go_sem,z0,z1]) rfl ⟨⟨_,rfl,true,A,k,c,P,rfl,s,hk,ag,O,hN,?_,?_,a7⟩,ad⟩
   ·intro _
    rcases Y0 k with h|h
    ·exfalso
     have h2:=s.out;rw[h] at h2;have h3:=J.out;rw[List.length_eq_zero_iff.1 h2] at h3;simp[Big.val] at h3;omega
    ·exact h
   ·rw[J.out];simp[Big.sgn]
theorem b4D (n:Int) (h0:0<=n) (h1:n<=9223372036854775807) :
  Calls prog 25 #[n] w fun e w'=>(∃r,e=.returned r/\PI w' w'.heap.size 3 r n)/\Below w w w':=by
 obtain⟨i0,hi,ah,ai,aj⟩:=XW uinfo;have ak:decide (n<0)=false:=Vr oM;have ac:=(VM w w).alloc lR (.cells #[false,.slice none 0 0] 50);have a0:=Vh w (.cells #[false,.slice none 0 0] 50);go_enter func25,ntmps25;go_wp2
 go_loopw [3,4] (fun u v wr=>∃(k:Nat) (P:LI) (x:Int),k<=3/\u=.int .u64 x/\0<=x/\x<=9223372036854775808/\x<1000000000 ^ (3-k)/\P.length=k/\Big.Lim 1000000000 P/\(x=0->Big.Norm P)/\Big.val 1000000000 P+1000000000 ^ k*x=n /\
  wr.ownsRow (w+1) 120 1 v k (P.map (Value.int .u32))/\Below w w wr/\wr.heap[w.heap.size]?=some (.cells #[false,.slice none 0 0] 50 (0,0))) (fun u _ _=>(intOf u).toNat)
 case atStart=>exact⟨0,[],n,oM,rfl,oM,oM,oM,rfl,Big.Lim.nil,fun _=>Big.Norm.nil,by simp[Big.val],Xp _ _ _ _,ac,a0⟩
 case round =>
  obtain⟨k,P,x,hk,rfl,al,am,a6,X,T,W,hv,i,hb,hZ⟩:=hrel;obtain⟨E,L,a8,Hv,HZ,aa⟩:=Z6 X T W hv hZ a6;have af:(w:Nat)<wr:=(Array.getElem?_eq_some_iff.1 hZ).1;clear X T W hv hZ a0 a6
  by_cases hx:0<x
  ·obtain⟨h3,hd⟩:=b0l aa hx
   obtain⟨Hd,O,S⟩:=Z3 hd (a2m (Vh wr (.cells #[.int .u32 (x % 1000000000)] 120))) (i.alloc (.cells #[.int .u32 (x % 1000000000)] 120));have Q:Hid (∀u∈([Value.int .u32 (x % 1000000000)]:List Value),u.oneCell'):=by show∀u∈_,_;simp[Value.oneCell']
   clear hd;go_wp2_with (at_builtin;refine Xd _ rfl _ _ 48 rfl (w+1) 120 i0 (.int .u32 0) 1 4 Zh hi ah ai aj rfl dC _ _ _ rfl S ⟨wr,0,none⟩ 1 1 [.int .u32 (x % 1000000000)] rfl rfl O Q (by unfold maxLen;omega) oM sO ?_);intro v' w9 J s _;have ae:=(hb.alloc hb.size (.cells #[.int .u32 (x % 1000000000)] 120)).grown s sO (fun q hq=>by have:=a0B i q hq;omega);have a4:=(s.block w sO (fun e=>by have:=a0B i w e.symm;omega)).trans ((VD wr (.cells #[.int .u32 (x % 1000000000)] 120) _ af).trans HZ);have a9:=Z1 a4;clear a4;go_wp2;go_roundw
   case rel =>
    refine⟨k+1,P++[x % 1000000000],x / 1000000000,oM,rfl,oM,oM,Hd,by have:=E.out;simp;omega,Big.Lim.append.2 ⟨L,fun a ha=>?_⟩,fun h0=>Big.norm_snoc oM,b0k Hv E,by rw[Xn];exact J,ae,a9⟩;rw[VY] at ha;subst ha;omega
   case measure=>exact mS
  ·obtain rfl:x=0:=oM
   have hN:=a8.out rfl;have a5:Hid (Big.val 1000000000 P=n):=by show _=_;have:=Hv.out;rwa [XR,XP] at this
   obtain⟨A,c,rfl,ag,I⟩:=a1k i E.symm;have ab:=Z1 (fun b o (e:A=some ⟨b,o,none⟩)=>a0B i b (by rw[e];rfl));have z0:wr.cell? ⟨w,0,none⟩=some (.bool false):=by rw[cr9 _ HZ];rfl
   have z1:wr.cell? ⟨w,1,none⟩=some (.slice none 0 0):=by rw[cr9 _ HZ];rfl
   have zf:∀j,wr.frozen? ⟨w,j,none⟩=false:=fun j=>fr0 _ HZ;have ad:=(hb.setCell (p:=⟨w,0,none⟩) sP (.bool false)).setCell (p:=⟨w,1,none⟩) sP (.slice A k c)
   have a7:=Z1 ((I.other (w':=(wr.setCell ⟨w,0,none⟩ (.bool false)).setCell ⟨w,1,none⟩ (.slice A k c)) (fun b o e=>by
    have:=ab.out b o e;exact(VR _ _ _ b (fun e=>by simp at e;omega)).trans (VR _ _ _ b (fun e=>by simp at e;omega)))).more (C:=((wr.setCell ⟨w,0,none⟩ (.bool false)).setCell ⟨w,1,none⟩ (.slice A k c)).heap.size) sP)
   clear I i;go_wp2;refine VG (v:=.agg #[false,.slice A k c]) (by simp[results,results25,go_sem,z0,z1]) rfl ⟨⟨_,rfl,false,A,k,c,P,rfl,E,hk,ag,L,hN,?_,?_,a7⟩,ad⟩
   ·intro h;cases h
   ·rw[a5.out];simp[Big.sgn]
theorem a1X (n:Int) (a:-9223372036854775808<=n) (i:n<=9223372036854775807) :
  Calls prog 25 #[n] w fun e w'=>(∃r,e=.returned r/\PI w' w'.heap.size 3 r n)/\Below w w w':=by
 by_cases h:n<0
 ·exact b4E w n h a
 ·exact b4D w n oM i
def RegU (w:World) (X:AV) (a:World):Prop:=Below w w a/\a.heap[w.heap.size]?=some (.cells X 50 (0,0))
theorem RegU.lt {w W} {X} (h:RegU w X W):(w:Nat)<W:=(Array.getElem?_eq_some_iff.1 h.2).1
theorem RegU.step {w W W'} {X} (h:RegU w X W) (a:Below W W W'):RegU w X W':=⟨h.1.trans (a.mono h.1.size),(a.block _ h.lt).trans h.2⟩
theorem RegU.drew {w W} {X} (h:RegU w X W):RegU w X W.drew:=⟨Vw h.1 1,h.2⟩
theorem RegU.start (w) (X):RegU w X (w.alloc (.cells X 50)):=⟨bR.alloc lR _,Vh w _⟩
theorem b1c {l} (a:Big.Lim 1000000000 l) (k) (o:k<=l.length):Big.val 1000000000 (l.drop k)<=Big.val 1000000000 l/\0<=Big.val 1000000000 (l.drop k):=by
 have i:=Big.val_nonneg (B:=1000000000) oM (a.drop k);have s:=Big.val_nonneg (B:=1000000000) oM (a.take k);have E:=Big.val_split 1000000000 l k o;have I:1*Big.val 1000000000 (l.drop k)<=1000000000 ^ k*Big.val 1000000000 (l.drop k):=X9 (by have:=Big.pow_pos (B:=1000000000) oM k;omega) i;omega
theorem b4s (v) (a:0<v) (i:v<=9223372036854775808):IntKind.u64.wrap (-v)=twoTo64-v:=by
 unfold IntKind.wrap twoTo64;simp[IntKind.signed,IntKind.bits];omega
theorem b4t (v) (a:0<v) (i:v<=9223372036854775808):IntKind.i64.wrap (twoTo64-v)=-v:=by
 rw[Ks];unfold twoTo64;omega
theorem b1C (k) (v) (x) (hk:k<=100000000000) (hx:x < -9223372036854775808) (hv:PI w w k v x) :
  CL 146 #[v] w (.tuple #[(),false]):=by
 have X:=hv;obtain⟨g,A,n,c,l,rfl,_,_,_,_,_,J,_,I⟩:=hv.parts;have E:=RegU.start w #[g,.slice A n c];obtain⟨W1,s⟩:=eX (w.alloc (.cells #[g,.slice A n c] 50));rw[<- s] at E;have HW:=Z1 s;have L:Hid (cm x (-9223372036854775808)=-1):=by show _=_;unfold cm;rw[Vt hx]
 obtain⟨_,_,_⟩:=Z3 J I hx;have hS:=E.drew;clear s J I hx;go_enter func146,ntmps146;go_upto_region 1 with(fail);rw[<- HW];refine Vs (S:=RegU w #[g,.slice A n c]) kR ?_;change wpAnyH _ _ _ _ _ _ _ _ (World.drew _);refine jT 0 hS ?_ (v:=.agg #[g,.slice A n c]) (hy:=(Vf (by rfl) 50 _ rfl w.heap.size 0 rfl [g,.slice A n c] _ (fun W' T=>Xq T.2) Xy rfl VZ));refine rZ 1 fun K i=>?_;go_simp;refine(a1X W1.drew (-9223372036854775808) oM oM).mono ?_;rintro e W2 ⟨⟨r2,rfl,W⟩,O⟩;have o:=hS.step O;refine jK i o ?_;clear i K;refine rZ 2 fun K i=>?_;go_simp;refine(a2d W2 k 3 _ _ x (-9223372036854775808) hk oM (X.at_ o.1) W).mono ?_;rw[L];rintro e W3 ⟨rfl,Q⟩;have a:=o.step Q;refine jK i a ?_;clear i K;refine jT 3 a ?_ (v:=.bool true);refine jT 4 a ?_ (v:=.bool true);refine jT 5 a ?_;refine jT 6 a ?_;refine jT 7 a ?_;refine jT 8 a ?_;refine rZ 9 fun K i=>?_;go_simp;refine i.out _ _ a (fun _=>?_);clear i K;refine VF kR ?_ _;go_wp2
 go_ret2
 exact⟨rfl,a.1⟩
theorem b1E (k) (v) (x) (hk:k<=100000000000) (hx:9223372036854775807<x) (hv:PI w w k v x) :
  CL 146 #[v] w (.tuple #[(),false]):=by
 have Q:=hv;obtain⟨g,A,n,c,l,rfl,_,_,_,_,_,T,_,O⟩:=hv.parts;have L:=RegU.start w #[g,.slice A n c];obtain⟨W1,J⟩:=eX (w.alloc (.cells #[g,.slice A n c] 50));rw[<- J] at L;have HW:=Z1 J;have W:Hid (cm x (-9223372036854775808)=1):=by show _=_;unfold cm;rw[VB oM,Vt oM]
 have X:Hid (cm x 9223372036854775807=1):=by show _=_;unfold cm;rw[VB oM,Vt hx]
 obtain⟨_,_,_⟩:=Z3 T O hx;have hS:=L.drew;clear J T O hx;go_enter func146,ntmps146;go_upto_region 1 with(fail);rw[<- HW];refine Vs (S:=RegU w #[g,.slice A n c]) kR ?_;change wpAnyH _ _ _ _ _ _ _ _ (World.drew _);refine jT 0 hS ?_ (v:=.agg #[g,.slice A n c]) (hy:=(Vf (by rfl) 50 _ rfl w.heap.size 0 rfl [g,.slice A n c] _ (fun W' s=>Xq s.2) Xy rfl VZ));refine rZ 1 fun K a=>?_;go_simp;refine(a1X W1.drew (-9223372036854775808) oM oM).mono ?_;rintro e W2 ⟨⟨r2,rfl,a7⟩,a0⟩;have E:=hS.step a0;refine jK a E ?_;clear a K;refine rZ 2 fun K a=>?_;go_simp;refine(a2d W2 k 3 _ _ x (-9223372036854775808) hk oM (Q.at_ E.1) a7).mono ?_;rw[W];rintro e W3 ⟨rfl,a4⟩;have i:=E.step a4;refine jK a i ?_;clear a K;refine jT 3 i ?_ (v:=.bool false);refine jT 4 i ?_ (v:=.bool false);refine jT 5 i ?_ (v:=.agg #[g,.slice A n c]) (hy:=(Vf (by rfl) 50 _ rfl w.heap.size 0 rfl [g,.slice A n c] _ (fun W' s=>Xq s.2) Xy rfl VZ));refine rZ 6 fun K a=>?_;go_simp;refine(a1X W3 9223372036854775807 oM oM).mono ?_;rintro e W4 ⟨⟨r4,rfl,a8⟩,a5⟩;have I:=i.step a5;refine jK a I ?_;clear a K;refine rZ 7 fun K a=>?_;go_simp;refine(a2d W4 k 3 _ _ x 9223372036854775807 hk oM (Q.at_ I.1) a8).mono ?_;rw[X];rintro e W5 ⟨rfl,a6⟩;have o:=I.step a6;refine jK a o ?_;clear a K;refine jT 8 o ?_ (v:=.bool true);refine rZ 9 fun K a=>?_;go_simp;refine a.out _ _ o (fun _=>?_);clear a K;refine VF kR ?_ _;go_wp2
 go_ret2
 exact⟨rfl,o.1⟩
theorem b1D (k) (v) (x) (hk:k<=100000000000) (hx:-9223372036854775808<=x/\x<=9223372036854775807) (hv:PI w w k v x) :
  CL 146 #[v] w (.tuple #[x,true]):=by
 have a4:=hv;obtain⟨g,A,n,c,l,rfl,hl,hn,hc,hL,_,ag,hA,af⟩:=hv.parts;have W:=RegU.start w #[g,.slice A n c];obtain⟨W1,X⟩:=eX (w.alloc (.cells #[g,.slice A n c] 50));rw[<- X] at W;have HW:=Z1 X;obtain⟨y,hy⟩:∃y,cm x (-9223372036854775808)=y:=⟨_,rfl⟩;obtain⟨z,hz⟩:∃z,cm x 9223372036854775807=z:=⟨_,rfl⟩;have au:0<=y:=by rw[<- hy];unfold cm;rw[VB oM];split <;> omega
 have av:z<=0:=by rw[<- hz];unfold cm;split;omega;rw[VB oM];omega
 have ah:=Z1 hy;have ai:=Z1 hz;clear hy hz;obtain⟨HX,HS,Hx⟩:=Z3 ag af hx;have hS:=W.drew;clear X ag af hx;go_enter func146,ntmps146;go_upto_region 1 with(fail);rw[<- HW];refine Vs (S:=RegU w #[g,.slice A n c]) kR ?_;change wpAnyH _ _ _ _ _ _ _ _ (World.drew _);refine jT 0 hS ?_ (v:=.agg #[g,.slice A n c]) (hy:=(Vf (by rfl) 50 _ rfl w.heap.size 0 rfl [g,.slice A n c] _ (fun W' T=>Xq T.2) Xy rfl VZ));refine rZ 1 fun K E=>?_;go_simp;refine(a1X W1.drew (-9223372036854775808) oM oM).mono ?_;rintro e W2 ⟨⟨r2,rfl,ad⟩,a7⟩;have L:=hS.step a7;refine jK E L ?_;clear E K;refine rZ 2 fun K E=>?_;go_simp;refine(a2d W2 k 3 _ _ x (-9223372036854775808) hk oM (a4.at_ L.1) ad).mono ?_;rw[ah];rintro e W3 ⟨rfl,a8⟩;have I:=L.step a8;refine jK E I ?_;clear E K;refine jT 3 I ?_ (v:=.bool false);refine jT 4 I ?_ (v:=.bool false);refine jT 5 I ?_ (v:=.agg #[g,.slice A n c]) (hy:=(Vf (by rfl) 50 _ rfl w.heap.size 0 rfl [g,.slice A n c] _ (fun W' T=>Xq T.2) Xy rfl VZ));refine rZ 6 fun K E=>?_;go_simp;refine(a1X W3 9223372036854775807 oM oM).mono ?_;rintro e W4 ⟨⟨r4,rfl,ae⟩,a9⟩;have O:=I.step a9;refine jK E O ?_;clear E K;refine rZ 7 fun K E=>?_;go_simp;refine(a2d W4 k 3 _ _ x 9223372036854775807 hk oM (a4.at_ O.1) ae).mono ?_;rw[ai];rintro e W5 ⟨rfl,aa⟩;have a:=O.step aa;refine jK E a ?_;clear E K;refine jT 8 a ?_ (v:=.bool false);refine rZ 9 fun K E=>?_;go_simp;refine E.out _ _ a (fun _=>?_);clear E K;refine VF kR ?_ _;subst hl;have ak:=hA.at_ a.1 lR;have c0:=cr9 0 a.2;have c1:=cr9 1 a.2;simp at c0 c1
 have Q:Big.val 1000000000 l<=9223372036854775808:=by
  have h1:=HX.out;have h2:=Hx.out
  cases g <;> simp[Big.sgn] at h1 <;> omega
 have HL:=Z1 hL;clear hL hA hv a4 W hS L I O a7 a8 a9 aa ad ae;go_wp2
 go_loopw [4,5] (fun u i wr=>∃k:Nat,k<=l.length/\i=.int .i64 ((k:Int)-1)/\u=.int .u64 (Big.val 1000000000 (l.drop k))/\W5=wr) (fun _ i _=>(intOf i+1).toNat)
 case atStart=>exact⟨l.length,lR,rfl,by rw[Kr];rfl,rfl⟩
 case round =>
  obtain⟨s,ac,rfl,rfl,rfl⟩:=hrel
  match s,ac with
  |0,_ =>
   rw[YX];have ap:=Big.val_nonneg (B:=1000000000) oM HL;have h1:=HX.out
   cases hg:g with
   |false =>
    have J:Hid (x=Big.val 1000000000 l):=by show _=_;rw[h1,hg];rfl
    have a5:Big.val 1000000000 l<=9223372036854775807:=by have:=Hx.out;have:=J.out;omega
    subst hg;clear h1;go_wp2
    go_ret2
    exact⟨by rw[J.out];rfl,a.1⟩
   |true =>
    have J:Hid (x=-Big.val 1000000000 l):=by show _=_;rw[h1,hg];rfl
    have a5:0<Big.val 1000000000 l:=by
     have:=J.out
     rcases HS with⟨_,e,_⟩|⟨_,e,_⟩|⟨_,_,e⟩
     ·rw[hg] at e;cases e
     ·rw[hg] at e;cases e
     ·omega
    have w1:=b4s _ a5 Q;have w2:=b4t _ a5 Q;subst hg;clear h1;go_wp2
    go_ret2
    exact⟨by rw[J.out];rfl,a.1⟩
  |s+1,ac =>
   rw[show((s+1:Nat):Int)-1=(s:Int) by omega];have a0:s<l.length:=oM;obtain⟨b,o,rfl,_,hx⟩:=ak.look a0;have a6:=HL.out.get s a0;have aq:=a6.1;have ar:=a6.2;have al:=b1c HL s oM;have ab:=b1c HL (s+1) oM;have am:=Big.val_drop 1000000000 l s a0;have an:=ab.2;have ao:Big.val 1000000000 (l.drop (s+1))*1000000000+l[s]<=9223372036854775808:=oM;have aj:Hid (Big.val 1000000000 (l.drop s)=Big.val 1000000000 (l.drop (s+1))*1000000000+l[s]):=by show _=_;omega
   clear a6 al ab am;go_wp2;go_roundw
   case rel=>exact⟨s,oM,by go_num,by rw[aj],trivial⟩
   case measure=>simp[intOf]
theorem a9H (k) (v) (x) (a:k<=100000000000) (hv:PI w w k v x) :
  CL 146 #[v] w (.tuple #[(if-9223372036854775808<=x/\x<=9223372036854775807 then x else 0:Int),.bool (decide (-9223372036854775808<=x/\x<=9223372036854775807))]):=by
 by_cases h:-9223372036854775808<=x/\x<=9223372036854775807
 ·rw[Vt h,VT h];exact b1D w k v x a h hv
 ·rw[VB h,Vr h]
  by_cases i:x < -9223372036854775808
  ·exact b1C w k v x a i hv
  ·exact b1E w k v x a oM hv
end Go.Proofs.YtbhdekahdnenjaaGreatDoor
