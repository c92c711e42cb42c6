/- Lemmas. -/
import Derived.Laws.Tables
import Derived.Test.YtbhdekahdnenjaaGreatDoorG06
set_option linter.unusedVariables false
set_option linter.unusedSimpArgs false
set_option maxRecDepth 100000
set_option maxHeartbeats 16000000
namespace Go.Proofs.YtbhdekahdnenjaaGreatDoor
open Go.RowKit
variable (w:World)
theorem a6L (W:World) (cur cs) (t):(W.alloc (.cells cur t)).setRow W cs=W.alloc (.cells cs t):=by
 unfold World.setRow World.alloc
 congr 1
 apply Array.ext
 ·simp
 ·intro i a s
  simp only[Array.getElem_modify,Array.getElem_push]
  by_cases h:W.heap.size=i
  ·subst h;simp
  ·have o:i<W:=by simp at a;omega
   simp[h,o]
theorem a3p {P} (W:World) (ty t) (cur cs) (I:cs.size=cur.size) (E:∀v∈cs.toList,v.oneCell') (s:(P.info? ty).map (·.size)=some cs.size) :
  (storeVar ty ⟨W,0,none⟩ (.agg cs)).run P (W.alloc (.cells cur t))=.ok () (W.alloc (.cells cs t)):=by
 have h:=run_storeCells_from (P:=P) W t cs.toList 0 cur (W.alloc (.cells cur t)) (Vh W _) (by simpa using I) E;simp only[YV,Xr,Array.toArray_toList,a6L] at h
 cases a:P.info? ty with
 |none=>simp[a] at s
 |some i =>
  have o:i.size=cs.size:=by simpa[a] using s
  simp[storeVar,Value.cells,Jz,sizeOf,typeInfo,a,o,h]
theorem a0C {P} {ops} {rest} {o} {a} {W:World} {Q} (i:o.guard=none) (ty) (x v:Operand) (J:o.op=.store ty x v)
  (t) (cur cs) (O:a.eval x=.pointer (some ⟨W,0,none⟩)) (hv:a.eval v=.agg cs) (L:cs.size=cur.size) (s:∀v∈cs.toList,v.oneCell') (I:(P.info? ty).map (·.size)=some cs.size)
  (h:wpList P ops Q rest (a.put o.dst undef) (W.alloc (.cells cs t))):wpList P ops Q (o::rest) a (W.alloc (.cells cur t)):=by
 refine Jt i fun _ E=>?_;unfold Oper.wp execOp;simp only[J,O,hv,Instr.storeAt,Instr.sureAddr,Jz,K7,JZ,a3p W ty t cur cs L s I];exact E _ _ h
theorem a3G {P} {ops} {rest} {o} {a} {W} {Q} (s:o.guard=none) (ty) (parts:Array (Nat × Operand)) (J:o.op=.build ty parts) (ps:Array (Nat × Value)) (E:parts.map (fun(i,x)=>(i,a.eval x))=ps) (v)
  (L:(Instr.build ty ps).run P W=.ok v W)
  (h:wpList P ops Q rest (a.put o.dst v) W):wpList P ops Q (o::rest) a W:=by
 refine Jt s fun _ I=>?_;unfold Oper.wp execOp;simp only[J,E,Jz,JZ,L];exact I _ _ h
theorem VQ {P} {i:Oper} {a} {w} {K} {Q} (ty) (x y:Operand) (d:Option Tmp) (J:i.op=.store ty x y) (s:i.dst=d)
  (b) (t) (old cells) (O:a.eval x=.pointer (some ⟨b,0,none⟩)) (hy:a.eval y=.agg cells)
  (E:w.heap[b]?=some (.cells old t (0,0))) (L:old.size=cells.size) (I:(P.info? ty).map (·.size)=some cells.size) (o:cells.all (·.oneCell'))
  (h:K (a.put d undef) (w.setRow b cells)):i.wp P a w K Q:=by
 subst s;unfold Oper.wp execOp;simp only[J,O,hy,Instr.storeAt,Instr.sureAddr,Jz,K7,JZ,run_storeVar_row w b t ty old cells E I L o];exact h
open Tryz
def RegS (w:World) (X Y:AV) (a:World):Prop :=
 Below w w a/\a.heap[w.heap.size]?=some (.cells X 50 (0,0))/\a.heap[w.heap.size+1]?=some (.cells Y 50 (0,0))/\∃i:AV,a.heap[w.heap.size+2]?=some (.cells i 50 (0,0))/\i.size=2
theorem RegS.lt {w W} {X Y} (h:RegS w X Y W):(w:Nat)+2<W:=by
 obtain⟨_,_,_,a,h,_⟩:=h;exact(Array.getElem?_eq_some_iff.1 h).1
theorem RegS.step {w W W'} {X Y} (h:RegS w X Y W) (a:Below W W W'):RegS w X Y W':=by
 have i:=h.lt;obtain⟨o,E,I,s,J,L⟩:=h;exact⟨o.trans (a.mono o.size),(a.block _ oM).trans E,(a.block _ oM).trans I,s,(a.block _ i).trans J,L⟩
theorem RegS.store {w W} {X Y} (h:RegS w X Y W) (cs) (E:cs.size=2):RegS w X Y (W.setRow (w+2) cs):=by
 obtain⟨a,i,o,I,s,_⟩:=h;exact⟨below_setRow a oM _,(Vl _ _ _ _ oM).trans i,(Vl _ _ _ _ oM).trans o,cs,VC _ _ _ _ _ _ s,E⟩
theorem RegS.start (w) (X Y):RegS w X Y (((w.alloc (.cells X 50)).alloc (.cells Y 50)).alloc (.cells #[false,.slice none 0 0] 50)):=by
 refine⟨((bR.alloc lR _).alloc sP _).alloc sO _,?_,?_,#[false,.slice none 0 0],?_,rfl⟩
 ·rw[VD _ _ _ sO,VD _ _ _ sP];exact Vh w _
 ·rw[VD _ _ _ sP]
  have:=Vh (w.alloc (.cells X 50)) (.cells Y 50)
  rwa [show(w.alloc (.cells X 50)).heap.size=w.heap.size+1 by simp] at this
 ·have:=Vh ((w.alloc (.cells X 50)).alloc (.cells Y 50)) (.cells #[false,.slice none 0 0] 50)
  rwa [show((w.alloc (.cells X 50)).alloc (.cells Y 50)).heap.size=w.heap.size+2 by simp] at this
theorem RegS.drew {w W} {X Y} (h:RegS w X Y W):RegS w X Y W.drew:=⟨Vw h.1 1,h.2⟩
theorem b3q (k j) (g:Bool) (A B) (n m c d) (l q) (hl:l.length=n) (hq:q.length=m) (ak:n<=k) (aj:m<=j) (hk:k<=100000000000-1) (hj:j<=100000000000-1) (hL:Big.Lim 1000000000 l) (hQ:Big.Lim 1000000000 q)
  (hA:LimbsAt .u32 w w A l) (hB:LimbsAt .u32 w w B q) :
  Calls prog 207 #[.agg #[g,.slice A n c],.agg #[g,.slice B m d]] w fun e w'=>(∃u,e=.returned u/\PI w' w' (max k j+1) u (Big.sgn g (Big.val 1000000000 l+Big.val 1000000000 q)))/\Below w w w':=by
 have a4:=RegS.start w #[g,.slice A n c] #[g,.slice B m d];obtain⟨W1,O⟩:=eX ((((w.alloc (.cells #[g,.slice A n c] 50)).alloc (.cells #[g,.slice B m d] 50)).alloc (.cells #[false,.slice none 0 0] 50)));rw[<- O] at a4;have HW:=Z1 O;clear O;go_enter func207,ntmps207;go_upto_region 2 with(fail);rw[<- HW];have s:=a4.drew;refine Vs (S:=RegS w #[g,.slice A n c] #[g,.slice B m d]) kR ?_;change wpAnyH _ _ _ _ _ _ _ _ (World.drew _);refine jT 0 s ?_;refine jT 1 s ?_ (v:=.bool g) (hy:=(.inl ⟨by rfl,fun W' i=>by have hc:=cr9 0 i.2.1;simp at hc;go_simp⟩));refine jT 2 s ?_;refine jT 3 s ?_ (v:=.slice A n c) (hy:=(.inl ⟨by rfl,fun W' i=>by have hc:=cr9 1 i.2.1;simp at hc;go_simp⟩));refine jT 4 s ?_;refine jT 5 s ?_ (v:=.slice B m d) (hy:=(.inl ⟨by rfl,fun W' i=>by have hc:=cr9 1 i.2.2.1;simp at hc;go_simp⟩));refine rZ 6 fun K E=>?_;go_simp;refine(b2d W1.drew A B n m c d l q hl hq oM oM hL hQ (hA.at_ s.1 lR) (hB.at_ s.1 lR)).mono ?_;rintro e W4 ⟨ac,I,n4,J,a,rfl,a9,ah,a7,ad,aa,W,ag⟩;have a5:=s.step ac;refine jK E a5 ?_;clear E K;have ab:=Z1 aa;have T:=Z1 a9;clear aa a9;refine rZ 7 fun K E=>?_;go_simp;refine(a0R W4 g I n4 J a T oM a7 W).mono ?_;rintro e W5 ⟨rfl,a0⟩;have L:=a5.step a0;have ai:=s.lt;refine jK E L ?_;clear E K;refine rZ 8 fun K E=>?_;rw[Vt (by rfl)];obtain⟨cs,a8,af⟩:=L.2.2.2;refine VQ 50 _ _ none rfl rfl (w+2) 50 cs #[.bool (g&&decide (0<(Big.trim a).length)),.slice I (Big.trim a).length J] rfl rfl a8 af VZ oC ?_;have ae:=VC W5 (w+2) cs #[.bool (g&&decide (0<(Big.trim a).length)),.slice I (Big.trim a).length J] _ _ a8;have a6:=L.store #[.bool (g&&decide (0<(Big.trim a).length)),.slice I (Big.trim a).length J] rfl;refine jK E a6 ?_;clear E K;refine VF kR ?_ _;have X:=(W.at_ a0 lR).other (w':=W5.setRow (w+2) #[.bool (g&&decide (0<(Big.trim a).length)),.slice I (Big.trim a).length J]) (fun b o e=>Vl _ _ _ _ (by have:=ag b o e;omega));have HP:=Z1 ((PI.mk (neg:=g) T ah a7 ad X).more (C:=(W5.setRow (w+2) #[.bool (g&&decide (0<(Big.trim a).length)),.slice I (Big.trim a).length J]).heap.size) (j:=max k j+1) sP oM);have Q:=VW (P:=prog) _ _ _ 50 _ _ _ ae Xy rfl VZ;clear X;go_wp2;refine VG (v:=.agg #[.bool (g&&decide (0<(Big.trim a).length)),.slice I (Big.trim a).length J]) (by simp[results,results207,asAddr,Q]) rfl ⟨⟨_,rfl,?_⟩,a6.1⟩;have:=HP.out
 rwa [ab] at this
theorem b4O (k j) (g h:Bool) (A B) (n m c d) (l q) (hl:l.length=n) (hq:q.length=m) (av:n<=k) (au:m<=j) (hk:k<=100000000000-1) (hj:j<=100000000000-1) (hL:Big.Lim 1000000000 l) (hQ:Big.Lim 1000000000 q) (ai:Big.Norm l) (a5:Big.Norm q) (ar:(g==h)=false) (ab:Big.val 1000000000 q<=Big.val 1000000000 l)
  (hA:LimbsAt .u32 w w A l) (hB:LimbsAt .u32 w w B q) :
  Calls prog 207 #[.agg #[g,.slice A n c],.agg #[h,.slice B m d]] w fun e w'=>(∃u,e=.returned u/\PI w' w' (max k j+1) u (Big.sgn g (Big.val 1000000000 l-Big.val 1000000000 q)))/\Below w w w':=by
 have a:=RegS.start w #[g,.slice A n c] #[h,.slice B m d];obtain⟨W1,Q⟩:=eX ((((w.alloc (.cells #[g,.slice A n c] 50)).alloc (.cells #[h,.slice B m d] 50)).alloc (.cells #[false,.slice none 0 0] 50)));rw[<- Q] at a;have HW:=Z1 Q;clear Q;have am:0<=cm (Big.val 1000000000 l) (Big.val 1000000000 q):=by unfold cm;rw[VB oM];split <;> omega
 have ao:m<=n:=by
  rcases Zn n m with hh|hh
  ·have:=Big.longer_lt (B:=1000000000) oM hL hQ a5 oM;omega
  ·exact hh
 have ad:=Z1 ab;clear ab;have c0:=cr9 1 a.2.1;have c1:=cr9 1 a.2.2.1;simp at c0 c1;obtain⟨z,hz⟩:∃z,cm (Big.val 1000000000 l) (Big.val 1000000000 q)=z:=⟨_,rfl⟩;rw[hz] at am;have Hz:=Z1 hz;clear hz;go_enter func207,ntmps207;go_upto_region 3 with(fail);rw[<- HW];go_wp2_with (fail);refine(a0V W1 A B n m c d l q hl hq oM oM hL hQ ai a5 (hA.at_ a.1 lR) (hB.at_ a.1 lR)).mono ?_;rw[Hz];rintro e W3 ⟨rfl,af⟩;have ak:=a.step af;have E:=ak.drew;clear c0 c1;go_upto_region 4 with(fail);refine Vs (S:=RegS w #[g,.slice A n c] #[h,.slice B m d]) kR ?_;change wpAnyH _ _ _ _ _ _ _ _ (World.drew _);refine jT 0 E ?_;refine jT 1 E ?_ (v:=.bool g) (hy:=(.inl ⟨by rfl,fun W' s=>by have hc:=cr9 0 s.2.1;simp at hc;go_simp⟩));refine jT 2 E ?_;refine jT 3 E ?_ (v:=.slice A n c) (hy:=(.inl ⟨by rfl,fun W' s=>by have hc:=cr9 1 s.2.1;simp at hc;go_simp⟩));refine jT 4 E ?_;refine jT 5 E ?_ (v:=.slice B m d) (hy:=(.inl ⟨by rfl,fun W' s=>by have hc:=cr9 1 s.2.2.1;simp at hc;go_simp⟩));refine rZ 6 fun K I=>?_;go_simp;refine(a6j W3.drew A B n m c d l q hl hq ao oM oM hL hQ ad (hA.at_ E.1 lR) (hB.at_ E.1 lR)).mono ?_;rintro e W4 ⟨ag,J,n4,L,i,rfl,aa,ap,a8,ah,ac,X,an⟩;have a6:=E.step ag;refine jK I a6 ?_;clear I K;have ae:=Z1 ac;have W:=Z1 aa;clear ac aa;refine rZ 7 fun K I=>?_;go_simp;refine(a0R W4 g J n4 L i W oM a8 X).mono ?_;rintro e W5 ⟨rfl,a4⟩;have O:=a6.step a4;have aq:=E.lt;refine jK I O ?_;clear I K;refine rZ 8 fun K I=>?_;rw[Vt (by rfl)];obtain⟨cs,a9,al⟩:=O.2.2.2;refine VQ 50 _ _ none rfl rfl (w+2) 50 cs #[.bool (g&&decide (0<(Big.trim i).length)),.slice J (Big.trim i).length L] rfl rfl a9 al VZ oC ?_;have aj:=VC W5 (w+2) cs #[.bool (g&&decide (0<(Big.trim i).length)),.slice J (Big.trim i).length L] _ _ a9;have a7:=O.store #[.bool (g&&decide (0<(Big.trim i).length)),.slice J (Big.trim i).length L] rfl;refine jK I a7 ?_;clear I K;refine VF kR ?_ _;have a0:=(X.at_ a4 lR).other (w':=W5.setRow (w+2) #[.bool (g&&decide (0<(Big.trim i).length)),.slice J (Big.trim i).length L]) (fun b o e=>Vl _ _ _ _ (by have:=an b o e;omega));have HP:=Z1 ((PI.mk (neg:=g) W ap a8 ah a0).more (C:=(W5.setRow (w+2) #[.bool (g&&decide (0<(Big.trim i).length)),.slice J (Big.trim i).length L]).heap.size) (j:=max k j+1) sP oM);have T:=VW (P:=prog) _ _ _ 50 _ _ _ aj Xy rfl VZ;clear a0;go_wp2;refine VG (v:=.agg #[.bool (g&&decide (0<(Big.trim i).length)),.slice J (Big.trim i).length L]) (by simp[results,results207,asAddr,T]) rfl ⟨⟨_,rfl,?_⟩,a7.1⟩;have:=HP.out
 rwa [ae] at this
theorem b4N (k j) (g h:Bool) (A B) (n m c d) (l q) (hl:l.length=n) (hq:q.length=m) (av:n<=k) (au:m<=j) (hk:k<=100000000000-1) (hj:j<=100000000000-1) (hL:Big.Lim 1000000000 l) (hQ:Big.Lim 1000000000 q) (a6:Big.Norm l) (ai:Big.Norm q) (ar:(g==h)=false) (T:Big.val 1000000000 l<Big.val 1000000000 q)
  (hA:LimbsAt .u32 w w A l) (hB:LimbsAt .u32 w w B q) :
  Calls prog 207 #[.agg #[g,.slice A n c],.agg #[h,.slice B m d]] w fun e w'=>(∃u,e=.returned u/\PI w' w' (max k j+1) u (Big.sgn h (Big.val 1000000000 q-Big.val 1000000000 l)))/\Below w w w':=by
 have a:=RegS.start w #[g,.slice A n c] #[h,.slice B m d];obtain⟨W1,Q⟩:=eX ((((w.alloc (.cells #[g,.slice A n c] 50)).alloc (.cells #[h,.slice B m d] 50)).alloc (.cells #[false,.slice none 0 0] 50)));rw[<- Q] at a;have HW:=Z1 Q;clear Q;have am:cm (Big.val 1000000000 l) (Big.val 1000000000 q)<0:=by unfold cm;rw[Vt T];omega
 have ao:n<=m:=by
  rcases Zn m n with hh|hh
  ·have:=Big.longer_lt (B:=1000000000) oM hQ hL a6 oM;omega
  ·exact hh
 have ad:=Z1 T;clear T;have c0:=cr9 1 a.2.1;have c1:=cr9 1 a.2.2.1;simp at c0 c1;obtain⟨z,hz⟩:∃z,cm (Big.val 1000000000 l) (Big.val 1000000000 q)=z:=⟨_,rfl⟩;rw[hz] at am;have Hz:=Z1 hz;clear hz;go_enter func207,ntmps207;go_upto_region 3 with(fail);rw[<- HW];go_wp2_with (fail);refine(a0V W1 A B n m c d l q hl hq oM oM hL hQ a6 ai (hA.at_ a.1 lR) (hB.at_ a.1 lR)).mono ?_;rw[Hz];rintro e W3 ⟨rfl,af⟩;have ak:=a.step af;have E:=ak.drew;clear c0 c1;go_upto_region 5 with(fail);refine Vs (S:=RegS w #[g,.slice A n c] #[h,.slice B m d]) kR ?_;change wpAnyH _ _ _ _ _ _ _ _ (World.drew _);refine jT 0 E ?_;refine jT 1 E ?_ (v:=.bool h) (hy:=(.inl ⟨by rfl,fun W' s=>by have hc:=cr9 0 s.2.2.1;simp at hc;go_simp⟩));refine jT 2 E ?_;refine jT 3 E ?_ (v:=.slice B m d) (hy:=(.inl ⟨by rfl,fun W' s=>by have hc:=cr9 1 s.2.2.1;simp at hc;go_simp⟩));refine jT 4 E ?_;refine jT 5 E ?_ (v:=.slice A n c) (hy:=(.inl ⟨by rfl,fun W' s=>by have hc:=cr9 1 s.2.1;simp at hc;go_simp⟩));refine rZ 6 fun K I=>?_;go_simp;refine(a6j W3.drew B A m n d c q l hq hl ao oM oM hQ hL (YQ ad) (hB.at_ E.1 lR) (hA.at_ E.1 lR)).mono ?_;rintro e W4 ⟨ag,J,n4,L,i,rfl,ab,ap,a9,ah,ac,a0,an⟩;have a7:=E.step ag;refine jK I a7 ?_;clear I K;have ae:=Z1 ac;have X:=Z1 ab;clear ac ab;refine rZ 7 fun K I=>?_;go_simp;refine(a0R W4 h J n4 L i X oM a9 a0).mono ?_;rintro e W5 ⟨rfl,a5⟩;have O:=a7.step a5;have aq:=E.lt;refine jK I O ?_;clear I K;refine rZ 8 fun K I=>?_;rw[Vt (by rfl)];obtain⟨cs,aa,al⟩:=O.2.2.2;refine VQ 50 _ _ none rfl rfl (w+2) 50 cs #[.bool (h&&decide (0<(Big.trim i).length)),.slice J (Big.trim i).length L] rfl rfl aa al VZ oC ?_;have aj:=VC W5 (w+2) cs #[.bool (h&&decide (0<(Big.trim i).length)),.slice J (Big.trim i).length L] _ _ aa;have a8:=O.store #[.bool (h&&decide (0<(Big.trim i).length)),.slice J (Big.trim i).length L] rfl;refine jK I a8 ?_;clear I K;refine VF kR ?_ _;have a4:=(a0.at_ a5 lR).other (w':=W5.setRow (w+2) #[.bool (h&&decide (0<(Big.trim i).length)),.slice J (Big.trim i).length L]) (fun b o e=>Vl _ _ _ _ (by have:=an b o e;omega));have HP:=Z1 ((PI.mk (neg:=h) X ap a9 ah a4).more (C:=(W5.setRow (w+2) #[.bool (h&&decide (0<(Big.trim i).length)),.slice J (Big.trim i).length L]).heap.size) (j:=max k j+1) sP oM);have W:=VW (P:=prog) _ _ _ 50 _ _ _ aj Xy rfl VZ;clear a4;go_wp2;refine VG (v:=.agg #[.bool (h&&decide (0<(Big.trim i).length)),.slice J (Big.trim i).length L]) (by simp[results,results207,asAddr,W]) rfl ⟨⟨_,rfl,?_⟩,a8.1⟩;have:=HP.out
 rwa [ae] at this
theorem b0s (k j) (g h:Bool) (A B) (n m c d) (l q) (hl:l.length=n) (hq:q.length=m) (al:n<=k) (ak:m<=j) (hk:k<=10000000000) (hj:j<=10000000000) (hL:Big.Lim 1000000000 l) (hQ:Big.Lim 1000000000 q)
  (hA:LimbsAt .u32 w w A l) (hB:LimbsAt .u32 w w B q) :
  Calls prog 19 #[.agg #[g,.slice A n c],.agg #[h,.slice B m d]] w fun e w'=>(∃u,e=.returned u/\PI w' w' (k+j) u (Big.sgn (g != h) (Big.val 1000000000 l*Big.val 1000000000 q)))/\Below w w w':=by
 have a5:=RegS.start w #[g,.slice A n c] #[h,.slice B m d];obtain⟨W1,O⟩:=eX ((((w.alloc (.cells #[g,.slice A n c] 50)).alloc (.cells #[h,.slice B m d] 50)).alloc (.cells #[false,.slice none 0 0] 50)));rw[<- O] at a5;have HW:=Z1 O;clear O;go_enter func19,ntmps19;go_upto_region 1 with(fail);rw[<- HW];have i:=a5.drew;refine Vs (S:=RegS w #[g,.slice A n c] #[h,.slice B m d]) kR ?_;change wpAnyH _ _ _ _ _ _ _ _ (World.drew _);refine jT 0 i ?_;refine jT 1 i ?_ (v:=.bool g) (hy:=(.inl ⟨by rfl,fun W' a=>by have Q:=cr9 0 a.2.1;simp at Q;go_simp⟩));refine jT 2 i ?_;refine jT 3 i ?_ (v:=.bool h) (hy:=(.inl ⟨by rfl,fun W' a=>by have Q:=cr9 0 a.2.2.1;simp at Q;go_simp⟩));refine jT 4 i ?_ (v:=.bool (g != h)) (hy:=(.inl ⟨by rfl,fun W' a=>by go_simp;cases g <;> cases h <;> rfl⟩));refine jT 5 i ?_;refine jT 6 i ?_ (v:=.slice A n c) (hy:=(.inl ⟨by rfl,fun W' a=>by have Q:=cr9 1 a.2.1;simp at Q;go_simp⟩));refine jT 7 i ?_;refine jT 8 i ?_ (v:=.slice B m d) (hy:=(.inl ⟨by rfl,fun W' a=>by have Q:=cr9 1 a.2.2.1;simp at Q;go_simp⟩));refine rZ 9 fun K E=>?_;go_simp;refine(a9y W1.drew A B n m c d l q hl hq oM oM hL hQ (hA.at_ i.1 lR) (hB.at_ i.1 lR)).mono ?_;rintro e W4 ⟨ad,I,n4,J,s,rfl,aa,ai,a8,ae,ab,X,ah⟩;have a6:=i.step ad;refine jK E a6 ?_;clear E K;have ac:=Z1 ab;have W:=Z1 aa;clear ab aa;refine rZ 10 fun K E=>?_;go_simp;refine(a0R W4 (g != h) I n4 J s W oM a8 X).mono ?_;rintro e W5 ⟨rfl,a4⟩;have L:=a6.step a4;have aj:=i.lt;refine jK E L ?_;clear E K;refine rZ 11 fun K E=>?_;rw[Vt (by rfl)];obtain⟨cs,a9,ag⟩:=L.2.2.2;refine VQ 50 _ _ none rfl rfl (w+2) 50 cs #[.bool ((g != h)&&decide (0<(Big.trim s).length)),.slice I (Big.trim s).length J] rfl rfl a9 ag VZ oC ?_;have af:=VC W5 (w+2) cs #[.bool ((g != h)&&decide (0<(Big.trim s).length)),.slice I (Big.trim s).length J] _ _ a9;have a7:=L.store #[.bool ((g != h)&&decide (0<(Big.trim s).length)),.slice I (Big.trim s).length J] rfl;refine jK E a7 ?_;clear E K;refine VF kR ?_ _;have a0:=(X.at_ a4 lR).other (w':=W5.setRow (w+2) #[.bool ((g != h)&&decide (0<(Big.trim s).length)),.slice I (Big.trim s).length J]) (fun b o e=>Vl _ _ _ _ (by have:=ah b o e;omega));have HP:=Z1 ((PI.mk (neg:=(g != h)) W ai a8 ae a0).more (C:=(W5.setRow (w+2) #[.bool ((g != h)&&decide (0<(Big.trim s).length)),.slice I (Big.trim s).length J]).heap.size) (j:=k+j) sP oM);have T:=VW (P:=prog) _ _ _ 50 _ _ _ af Xy rfl VZ;clear a0;go_wp2;refine VG (v:=.agg #[.bool ((g != h)&&decide (0<(Big.trim s).length)),.slice I (Big.trim s).length J]) (by simp[results,results19,asAddr,T]) rfl ⟨⟨_,rfl,?_⟩,a7.1⟩;have:=HP.out
 rwa [ac] at this
theorem b1v (k j) (u v) (x y) (J:k<=100000000000-1) (I:j<=100000000000-1) (hu:PI w w k u x) (hv:PI w w j v y) :
  Calls prog 207 #[u,v] w fun e w'=>(∃r,e=.returned r/\PI w' w' (max k j+1) r (x+y))/\Below w w w':=by
 obtain⟨g,A,n,c,l,rfl,L,S,_,s,hN,W,i,_⟩:=hu.parts;obtain⟨h,B,m,d,q,rfl,T,Q,_,E,hM,X,o,_⟩:=hv.parts
 by_cases a:g=h
 ·subst a
  have e:x+y=Big.sgn g (Big.val 1000000000 l+Big.val 1000000000 q):=by rw[W,X];cases g <;> simp[Big.sgn];omega
  rw[e];exact b3q w k j g A B n m c d l q L T S Q J I s E i o
 ·have hb:(g==h)=false:=by simpa using a
  by_cases O:Big.val 1000000000 q<=Big.val 1000000000 l
  ·have e:x+y=Big.sgn g (Big.val 1000000000 l-Big.val 1000000000 q):=by
    rw[W,X];cases g <;> cases h <;> simp[Big.sgn] at a⊢ <;> omega
   rw[e];exact b4O w k j g h A B n m c d l q L T S Q J I s E hN hM hb O i o
  ·have e:x+y=Big.sgn h (Big.val 1000000000 q-Big.val 1000000000 l):=by
    rw[W,X];cases g <;> cases h <;> simp[Big.sgn] at a⊢ <;> omega
   rw[e];exact b4N w k j g h A B n m c d l q L T S Q J I s E hN hM hb oM i o
theorem a1s (k j) (u v) (x y) (I:k<=10000000000) (E:j<=10000000000) (S:PI w w k u x) (hv:PI w w j v y) :
  Calls prog 19 #[u,v] w fun e w'=>(∃r,e=.returned r/\PI w' w' (k+j) r (x*y))/\Below w w w':=by
 obtain⟨g,A,n,c,l,rfl,J,O,_,o,_,T,a,_⟩:=S.parts;obtain⟨h,B,m,d,q,rfl,Q,L,_,s,_,W,i,_⟩:=hv.parts
 have e:x*y=Big.sgn (g != h) (Big.val 1000000000 l*Big.val 1000000000 q):=by
  rw[T,W];cases g <;> cases h <;> simp[Big.sgn,Int.neg_mul,Int.mul_neg]
 rw[e];exact b0s w k j g h A B n m c d l q J Q O L I E o s a i
theorem a8u {B d r x V R n:Int} (h:V=d*R+r) (s:n=r*B+x):x+B*V=d*(n / d+B*R)+n % d:=by
 have a:=Zj n d;rw[h,XJ,XJ];have i:B*(d*R)=d*(B*R):=Zk _ _ _;have o:B*r=r*B:=YS _ _;omega
theorem b1G {d r x n:Int} (s:1<=d) (i:0<=r) (o:r<d) (I:0<=x) (J:x<1000000000) (E:n=r*1000000000+x):0<=n/\0<=n / d/\n / d<1000000000/\0<=n % d/\n % d<d:=by
 have a:0<=n:=oM;refine⟨a,ZW a oM,Z0 oM oM,ZY _ oM,Zr _ oM⟩
def Away (a n:Nat) (A:OA) (l:LI):Prop:=l=[]∨∀b o,A=some ⟨b,o,none⟩->b<a∨n<=b
theorem a5V (A:Option Addr) (n c:Nat) (p:List Int) (d:Int) (hl:p.length=n) (hn:n<=100000000000) (a7:1<=d) (ag:d<1000000000) (hL:Big.Lim 1000000000 p) (hA:LimbsAt .u32 w w A p) :
  Calls prog 282 #[.slice A n c,.int .u32 d] w fun e w'=>Below w w w'/\∃(g g':Nat) (R:List Int) (r:Int),
   e=.returned (.tuple #[.slice (some ⟨g,0,none⟩) n n,.slice (some ⟨g',0,none⟩) 1 1])/\R.length=n/\Big.Lim 1000000000 R/\Big.val 1000000000 p=d*Big.val 1000000000 R+r/\0<=r/\r<d /\
   LimbsAt .u32 w' w' (some ⟨g,0,none⟩) R/\LimbsAt .u32 w' w' (some ⟨g',0,none⟩) [r]/\w.heap.size<=g/\w.heap.size<=g':=by
 subst hl;obtain⟨i0,hi,aa,ab,ac⟩:=XW uinfo;have a4:p.length<=p.length:=Yh _;have a0:p.length<=1000000000000:=oM;go_enter func282,ntmps282;go_upto_region 2 with(refine a0H rfl _ _ 48 rfl .u32 120 i0 4 Zh hi aa ab ac _ _ _ _ p.length p.length rfl rfl rfl rfl a4 dC a0 ?_;intro w1 s);have a5:Below w w w1:=by rw[s.out];exact bR.alloc lR _
 have a:Arr .u32 120 w1 w (List.replicate p.length 0):=by
  unfold Arr;rw[s.out];exact Vh w _
 have HL:=Z1 hL;clear s hL;go_wp2
 go_loopw [7,8] (fun cr ix wr=>∃(k:Nat) (R:List Int) (r:Int),k<=p.length/\ix=.int .i64 ((k:Int)-1)/\cr=.int .u64 r/\0<=r/\r<d/\R.length+k=p.length/\Big.Lim 1000000000 R /\
  Big.val 1000000000 (p.drop k)=d*Big.val 1000000000 R+r/\Arr .u32 120 wr w (List.replicate k 0++R)/\Below w w wr) (fun _ ix _=>(intOf ix+1).toNat)
 case atStart=>exact⟨p.length,[],0,lR,rfl,rfl,oM,oM,sP,Big.Lim.nil,by simp[Big.val],by simpa using a,a5⟩
 case round =>
  obtain⟨k,R,r,hk,rfl,rfl,W,X,S,Q,hv,ha,T⟩:=hrel;obtain⟨J,I,Hv,Ha⟩:=Z4 S Q hv ha;have ai:w.heap.size<wr.heap.size:=ha.lt;clear S Q hv ha a
  match k,hk with
  |0,_ =>
   have hR:=Ha.out;rw[KT,Xr] at hR;have L:=Z1 ((hR.alloc (.cells #[.int .u32 r] 120)).limbs (B:=(wr.alloc (.cells #[.int .u32 r] 120)).heap.size) sO);have ae:r<4294967296:=oM
   have Hr:Hid (LimbsAt .u32 (wr.alloc (.cells #[.int .u32 r] 120)) (wr.alloc (.cells #[.int .u32 r] 120)).heap.size (some ⟨wr,0,none⟩) [r]):=by
    show LimbsAt _ _ _ _ _;exact Arr.limbs (e:=120) (F:=[r]) (Vh wr (.cells #[.int .u32 r] 120)) sP
   clear hR;go_wp2
   go_ret2
   exact⟨T.alloc T.size _,w,wr,R,r,rfl,by have:=J.out;omega,I.out,by have:=Hv.out;rwa [YX] at this,W,X,L.out,Hr.out,lR,T.size⟩
  |k+1,hk =>
   rw[show((k+1:Nat):Int)-1=(k:Int) by omega];have i:k<p.length:=oM;obtain⟨b,o,rfl,af,hx⟩:=(hA.below T lR).look i;have E:=HL.out.get k i;have a8:=E.1;have a9:=E.2;have ad:b<wr.heap.size:=oM;obtain⟨n0,n1,n2,n3,n4⟩:=b1G a7 W X a8 a9 rfl;have O:k<(List.replicate (k+1) (0:Int)++R).length:=sO
   have a6:wr.cell? ⟨w,k,none⟩=some (.int .u32 0):=by
    rw[Ha.out.cell O]
    congr 2
    rw[Jy sP];simp
   have ah:=Ha.out.free k;clear E O;go_wp2;go_roundw
   case rel =>
    refine⟨k,((r*1000000000+p[k]) / d)::R,(r*1000000000+p[k]) % d,oM,by go_num,rfl,n3,n4,by have:=J.out;simp;omega,Big.Lim.cons.2 ⟨⟨n1,n2⟩,I.out⟩,?_,?_,T.setCell lR _⟩
    ·rw[Big.val_drop _ _ _ i,Big.val_cons]
     exact a8u Hv.out rfl
    ·have:=Ha.out.set k ((r*1000000000+p[k]) / d)
     rwa [show(List.replicate (k+1) (0:Int)++R).set k ((r*1000000000+p[k]) / d)=List.replicate k 0++((r*1000000000+p[k]) / d)::R by
      rw[JF,XH,Yv _ _ sP];simp] at this
   case measure=>simp[intOf]
def DivPost (A:OA) (p:LI) (n m:Nat) (a b:Int) (w:World) (e:Ending) (w':World):Prop :=
 Below w w w'/\∃(I:OA) (s J:Nat) (Q:LI) (i:OA) (E L:Nat) (R:LI),e=.returned (.tuple #[.slice I s J,.slice i E L])/\Q.length=s/\R.length=E/\s<=n/\E<=m/\s<=J/\E<=L /\
  Big.Lim 1000000000 Q/\Big.Lim 1000000000 R/\a=b*Big.val 1000000000 Q+Big.val 1000000000 R/\0<=Big.val 1000000000 R/\Big.val 1000000000 R<b /\
  LimbsAt .u32 w' w' I Q/\LimbsAt .u32 w' w' i R/\(∀b o,I=some ⟨b,o,none⟩->w<=b)/\((i=A/\R=p)∨∀b o,i=some ⟨b,o,none⟩->w<=b)
theorem a9k (A B) (n m c d) (p q) (hl:p.length=n) (O:q.length=m) (hn:n<=100000000000) (hm:m<=100000000000) (hc:n<=c) (aj:0<m) (Q:Big.Lim 1000000000 p) (hQ:Big.Lim 1000000000 q) (J:Big.Norm p) (L:Big.Norm q)
  (X:m=1∨Big.val 1000000000 p<Big.val 1000000000 q) (s:LimbsAt .u32 w w A p) (I:LimbsAt .u32 w w B q) :
  Calls prog 250 #[.slice A n c,.slice B m d] w (DivPost A p n m (Big.val 1000000000 p) (Big.val 1000000000 q) w):=by
 have ae:=Big.val_nonneg (B:=1000000000) oM Q
 by_cases i:Big.val 1000000000 p<Big.val 1000000000 q
 ·have E:cm (Big.val 1000000000 p) (Big.val 1000000000 q)=-1:=by unfold cm;rw[Vt i]
  have ad:n<=m:=by
   rcases Zn m n with h|h
   ·have:=Big.longer_lt (B:=1000000000) oM hQ Q J oM;omega
   ·exact h
  have a5:=Z1 E;have a6:=Z1 i;clear E i;go_enter func250,ntmps250;go_wp2_with (fail);refine(a0V w A B n m c d p q hl O hn hm Q hQ J L s I).mono ?_;rw[a5];rintro e w1 ⟨rfl,a⟩;go_wp2
  go_ret2
  exact⟨a,none,0,0,[],A,n,c,p,rfl,rfl,hl,oM,ad,oM,hc,Big.Lim.nil,Q,by simp[Big.val],ae,a6,.inl rfl,s.at_ a lR,fun b o e=>(by cases e),.inl ⟨rfl,rfl⟩⟩
 ·have h1:m=1:=by rcases X with h|h;exact h;exact absurd h i
  have E:0<=cm (Big.val 1000000000 p) (Big.val 1000000000 q):=by unfold cm;rw[VB i];split <;> omega
  obtain⟨z,hz⟩:∃z,cm (Big.val 1000000000 p) (Big.val 1000000000 q)=z:=⟨_,rfl⟩;rw[hz] at E;have Hz:=Z1 hz
  match q,O with
  |[],O=>simp at O;omega
  |x::y::t,O=>simp at O;omega
  |[x],O =>
   have hx:=(Big.Lim.cons.1 hQ).1;have af:x≠0:=by have:=L sP;simpa using this
   obtain⟨b,o,rfl,ah,ag⟩:=I.look (k:=0) sP;simp at ag;have S:Hid (Big.val 1000000000 [x]=x):=Z1 (Big.val_one _ _);have x0:1<=x:=oM;have x1:=hx.2;subst h1;clear hz i hx af;go_enter func250,ntmps250;go_wp2_with (fail);refine(a0V w A _ n 1 c d p [x] hl rfl hn oM Q hQ J L s I).mono ?_;rw[Hz];rintro e w1 ⟨rfl,a⟩;obtain⟨ab,ac⟩:=bcell a;have ak:=a.size;go_wp2_with (fail);refine(a5V w1 A n c p x hl hn x0 x1 Q (s.at_ a lR)).mono ?_;rintro e w2 ⟨a7,g,g',R,r,rfl,T,aa,W,r0,r1,a8,a9,hg,ai⟩;have a4:=Z1 W;have a0:=Z1 T;clear W T ab ac;go_wp2
   go_ret2
   refine⟨a.trans (a7.mono a.size),_,n,n,R,_,1,1,[r],rfl,a0,rfl,lR,lR,lR,lR,aa,Big.Lim.cons.2 ⟨⟨r0,oM⟩,Big.Lim.nil⟩,by rw[S,Big.val_one];exact a4,by rw[Big.val_one];exact r0,by rw[S,Big.val_one];exact r1,a8,a9,?_,?_⟩
   ·exact fun b' o' e'=>by cases e';omega
   ·exact .inr fun b' o' e'=>by cases e';omega
theorem Arr.away {K:IK} {e} {w w'} {g X} {F} (h:Arr K e w g F) (i:w.grownBy w' (some X)) (a:g≠X):Arr K e w' g F :=
 (i.block g h.lt (fun e=>a (XV e))).trans h
theorem LimbsAt.awayG {K:IK} {w w'} {A} {l} {X} (h:LimbsAt K w w A l) (E:w.grownBy w' (some X)) (i:∀b o,A=some ⟨b,o,none⟩->b≠X):LimbsAt K w' w' A l:=by
 rcases h with h|⟨b,o,e,I,L,Q⟩
 ·exact .inl h
 ·have s:=E.block b I (fun J=>i b o e (XV J))
  exact .inr ⟨b,o,e,Xg I E.size,fun k O=>(World.cell?_of_block (w:=w) (a:=⟨b,o+k,none⟩) s).trans (L k O),Q.of_block s⟩
theorem b4x (w:World) (X) (t):Below w w (w.alloc (.cells X t))/\(w.alloc (.cells X t)).heap[w.heap.size]?=some (.cells X t (0,0))/\(w.alloc (.cells X t)).heap.size=w.heap.size+1 :=
 ⟨bR.alloc lR _,Vh w _,sP⟩
theorem a4g (A B) (n m c d) (p q) (hl:p.length=n) (hq:q.length=m) (hn:n<=90000000000) (hm:m<=90000000000) (hc:n<=c) (fj:0<m) (hL:Big.Lim 1000000000 p) (hQ:Big.Lim 1000000000 q) (bg:Big.Norm p) (aa:Big.Norm q)
  (ao:LimbsAt .u32 w w A p) (af:LimbsAt .u32 w w B q) :
  Calls prog 250 #[.slice A n c,.slice B m d] w (DivPost A p n m (Big.val 1000000000 p) (Big.val 1000000000 q) w):=by
 by_cases b5:m=1∨Big.val 1000000000 p<Big.val 1000000000 q
 ·exact a9k w A B n m c d p q hl hq oM oM hc fj hL hQ bg aa b5 ao af
 have fu:Big.val 1000000000 q<=Big.val 1000000000 p:=oM;obtain⟨k,rfl⟩:∃k,m=k+2:=⟨m-2,oM⟩
 have fv:k+2<=n:=by
  rcases Zn n (k+2) with h|h
  ·have:=Big.longer_lt (B:=1000000000) oM hL hQ aa oM;omega
  ·exact h
 obtain⟨e,rfl⟩:∃e,n=k+2+e:=⟨n-(k+2),oM⟩;have fd:0<=cm (Big.val 1000000000 p) (Big.val 1000000000 q):=by unfold cm;rw[VB oM];split <;> omega
 obtain⟨z,hz⟩:∃z,cm (Big.val 1000000000 p) (Big.val 1000000000 q)=z:=⟨_,rfl⟩;rw[hz] at fd;have Hz:=Z1 hz;obtain⟨b,o,rfl,fc,br⟩:=af.look (k:=k+1) oM;obtain⟨top,a8⟩:=eX (q[k+1]);rw[<- a8] at br;have tq:=hQ.get (k+1) oM;have tl:=aa.last oM
 have dx:q[k+1]≠0:=by
  have e:q.length-1=k+1:=oM;simpa only[e] using tl
 rw[<- a8] at tq dx;have tp:1<=top:=oM;obtain⟨s,hs⟩:=eX (1000000000 / (top+1));have sp:=Big.scale_spec tp tq.2;rw[<- hs] at sp;have bx:=sp.2.2;rw[a8] at bx;have Sp:=Z1 bx;have Hs:=Z1 hs;have bw:=sp.1;have fz:=sp.2.1;have g0:=tq.2;obtain⟨HL,HQ,bz,_,_⟩:=Z5 hL hQ aa hl hq;clear hz b5 a8 tl dx hs sp bx tq;go_enter func250,ntmps250;go_wp2_with (fail);refine(a0V w A _ (k+2+e) (k+2) c d p q hl hq oM oM hL hQ bg aa ao af).mono ?_;rw[Hz];rintro e1 w1 ⟨rfl,a9⟩;have fw:=a9.size;have x1:=(a9.cell (p:=⟨b,o+(k+1),none⟩) fc).trans br;have e0:=Z1 (ao.at_ a9 lR);have ee:=Z1 (af.at_ a9 lR);clear hL hQ bg aa ao af br;obtain⟨a5,av,ax⟩:=b4x w1 #[.int .u32 (1000000000 / (top+1))] 120;obtain⟨W2,bo⟩:=eX (w1.alloc (.cells #[.int .u32 (1000000000 / (top+1))] 120));rw[<- bo] at a5 av ax;rw[<- Hs] at av;have ep:=Z1 bo;have bb:=a9.trans (a5.mono a9.size);have e2:=Z1 (e0.at_ a5 lR);have ef:=Z1 (ee.at_ a5 lR);have bs:Arr .u32 120 W2 w1 [s]:=av;have ew:=Z1 bs;have fp:(w1:Nat)<W2:=oM;have c6:=Z1 (bs.limbs (B:=W2.heap.size) oM);have d3:Big.Lim 1000000000 [s]:=Big.Lim.cons.2 ⟨⟨oM,oM⟩,Big.Lim.nil⟩;have c9:=Z1 d3;clear bo av ax bs d3;go_upto_region 6 with(fail);rw[<- ep];go_wp2_with (fail);refine(a3J W2 A _ (k+2+e) 1 c 1 p [s] hl rfl oM oM HL c9 e2 c6).mono ?_;rintro e3 W3 ⟨ah,U0,rfl,d6,d4,bk,bj⟩;rw[Big.val_one] at bk;obtain⟨ek,b7,ce,ej⟩:=Z4 d6 d4 bk bj;have fq:(W2:Nat)<W3:=bj.lt;have eg:=Z1 (ef.at_ ah lR);have eh:=Z1 (c6.at_ ah lR);have b0:=bb.trans (ah.mono bb.size);clear d6 d4 bk bj;go_wp2_with (fail);refine(a3J W3 _ _ (k+2) 1 d 1 q [s] hq rfl oM oM HQ c9 eg eh).mono ?_;rintro e4 W4 ⟨bc,V0,rfl,da,bl,bn,bm⟩;rw[Big.val_one] at bn;have fr:(W3:Nat)<W4:=bm.lt;have ag:=b0.trans (bc.mono b0.size);have cd:=Z1 (ej.below bc fq);have ab:=bm.limbs (B:=W4.heap.size) fr;obtain⟨el,_,en⟩:=Z3 ab bl da;obtain⟨t1,t2,t3,t4⟩:=Big.trim_spec 1000000000 V0;obtain⟨V,hV⟩:=eX (Big.trim V0);have a4:=Big.trim_lim bl;rw[<- hV] at t1 t2 t3 t4 a4;rw[bn] at t1;have d9:=Big.scaled_len hq HQ bz bw Sp.out a4 t2 t1;obtain⟨HV,b8,em,ac,O⟩:=Z5 hV t1 t2 a4 d9;have eo:Hid (LimbsAt .u32 W4 W4 (some ⟨W3,0,none⟩) V):=Z1 (by rw[t4];exact ab.take _);have ei:=Z1 (ew.below (ah.trans (bc.mono ah.size)) fp);clear t1 t2 t3 t4 a4 d9 da bl bn bm ab hV;go_wp2_with (fail);refine(a3s W4 _ (k+2+1) (k+2+1) V0 en oM oM el).mono ?_;rintro e5 w5 ⟨rfl,rfl⟩;rw[<- HV,O];go_upto_region 7 with(fail);have al:=em.out.last (by have:=O.out;omega)
 have dy:1<=V[k+1]'(by have:=O.out;omega):=by
  have e9:V.length-1=k+1:=by have:=O.out;omega
  have h9:=ac.out.get (k+1) (by have:=O.out;omega);have h8:V[k+1]'(by have:=O.out;omega)≠0:=by simpa only[e9] using al
  omega
 have ey:=Z1 dy;clear al dy;go_wp2
 go_loopw [7] (fun uv wr=>uv=.slice (some ⟨W2,0,none⟩) (k+2+e+1) (k+2+e+1)/\W4=wr) (fun _ _=>0)
 case atStart=>exact⟨rfl,rfl⟩
 case round =>
  obtain⟨rfl,rfl⟩:=hrel;obtain⟨i0,hi,fm,fn,ax⟩:=XW uinfo;have fe:e+1<=1000000000000:=oM;go_upto_region 11 with(refine a0H rfl _ _ 48 rfl .u32 120 i0 4 Zh hi fm fn ax _ _ _ _ (e+1) (e+1) rfl rfl oM oM lR dC fe ?_;intro W5 bp);have du:Arr .u32 120 W5 W4 (List.replicate (e+1) 0):=by unfold Arr;rw[bp.out];exact Vh W4 _
  have ap:Below W4 W4 W5:=by rw[bp.out];exact bR.alloc lR _
  obtain⟨c0,ca,cf,c7⟩:=Z4 du (cd.below ap oM) (eo.at_ ap lR) (ei.below ap oM);have cn:=ag.trans (ap.mono ag.size);have fl:(w:Nat)<=W2:=bb.size;have dw:(w:Nat)<=W4:=ag.size;have ar:U0.length=k+3+e:=by rw[ek];omega
  have d5:(U0.drop (e+1)).length=k+2:=by rw[List.length_drop,ar];omega
  have d7:(U0.take (e+1)).length=e+1:=by rw[XF,ar];omega
  have a6:Big.val 1000000000 (U0.drop (e+1))<Big.val 1000000000 V:=by rw[b8];exact Big.first_lt hl hq HL HQ bz bw ar b7 ce
  have cj:Hid (∃(L W E:LI),L.length=e+1/\W.length=k+2/\Big.Lim 1000000000 L/\Big.Lim 1000000000 W/\Big.val 1000000000 W<Big.val 1000000000 V/\E.length+(e+1)=e+1/\Big.Lim 1000000000 E/\Arr .u32 120 W5 W2 (L++W++List.replicate (e+1-(e+1)) 0)/\Arr .u32 120 W5 W4 (List.replicate (e+1) 0++E)/\Big.val 1000000000 (L++W)+1000000000 ^ (e+1)*(Big.val 1000000000 E*Big.val 1000000000 V)=Big.val 1000000000 U0):=Z1 ⟨U0.take (e+1),U0.drop (e+1),[],d7,d5,b7.take _,b7.drop _,a6,sP,Big.Lim.nil,by rw[X7,Kk,KT,XG];exact ca,by rw[XG];exact c0,by rw[X7];simp[Big.val]⟩;clear du bp ar d5 d7 a6;go_wp2
  go_loopw [11] (fun jv wr=>∃(t:Nat) (L W E:LI),t<=e+1/\jv=.int .i64 ((t:Int)-1)/\L.length=t/\W.length=k+2/\Big.Lim 1000000000 L/\Big.Lim 1000000000 W/\Big.val 1000000000 W<Big.val 1000000000 V/\E.length+t=e+1/\Big.Lim 1000000000 E/\Arr .u32 120 wr W2 (L++W++List.replicate (e+1-t) 0)/\Arr .u32 120 wr W4 (List.replicate t 0++E)/\Big.val 1000000000 (L++W)+1000000000 ^ t*(Big.val 1000000000 E*Big.val 1000000000 V)=Big.val 1000000000 U0/\LimbsAt .u32 wr wr (some ⟨W3,0,none⟩) V/\Arr .u32 120 wr w1 [s]/\Below w w wr) (fun jv _=>(intOf jv+1).toNat)
  case atStart =>
   obtain⟨L,W,E,h1,h2,h3,h4,h5,h6,h7,h8,h9,f8⟩:=cj;exact⟨e+1,L,W,E,lR,by first|rfl|(congr 1;omega),h1,h2,h3,h4,h5,h6,h7,h8,h9,f8,cf,c7,cn⟩
  case round =>
   obtain⟨t,L,W,E,ht,rfl,cs,de,Q,dc,dd,cx,cw,a0,T,i,ab,bi,dk⟩:=hrel;obtain⟨am,ad,eb,cg,ch,c4,c3⟩:=Z7 cs de Q dc dd cx cw;obtain⟨cb,c1,az,ay,c8,ae⟩:=Z6 a0 T i ab bi dk;have fg:=T.lt;have fi:=a0.lt;have fh:=bi.lt;clear cs de Q dc dd cx cw a0 T i ab bi dk ca c0 cf c7 cj
   match t,ht with
   |t+1,ht =>
    rw[show((t+1:Nat):Int)-1=(t:Int) by omega];have a4:t<L.length:=by rw[am];omega
    obtain⟨L2,x,aj⟩:∃(L2:LI) (x:Int),L=L2++[x]:=⟨L.take t,L[t],by have h:=tse a4;rwa [Vg (by have:=am.out;omega)] at h⟩;have dr:L2.length=t:=by have h:=am.out;rw[aj,Vc] at h;simpa using h
    have Q:=eb.out;rw[aj,Big.Lim.append] at Q;have hx:=(Big.Lim.cons.1 Q.2).1;have ct:Big.Lim 1000000000 (x::W):=Big.Lim.cons.2 ⟨hx,cg⟩;have cu:(x::W).length=k+3:=by rw[Xl,ad]
    have dt:Big.val 1000000000 (x::W)<1000000000*Big.val 1000000000 V:=by rw[Big.val_cons];have:=ch.out;omega
    have b2:Arr .u32 120 wr W2 (L2++(x::W)++List.replicate (e+1-(t+1)) 0):=by have h:=cb.out;rwa [aj,XH L2,Kc] at h
    obtain⟨b9,ea,_,ec,ed,ev,cc⟩:=Z7 dr Q.1 hx ct cu dt b2;have i:=az.out;rw[aj] at i;have ba:=Z1 i;have fx:(0:Int)<=(t:Int):=oM;clear dr Q hx ct cu dt b2 i aj a4;go_wp2_with (fail);rw[show t+(k+2)+1-t=k+3 by omega];refine(b1d wr W2 t k _ _ L2 (x::W) (List.replicate (e+1-(t+1)) 0) V (some ⟨W3,0,none⟩) b9 oM oM ed O ec ac ey ev cc ay (fun b o h=>by cases h;omega)).mono ?_;rintro e6 W6 ⟨ai,dq,G,rfl,dl,cr,be,cq,bf,cp⟩
    have b1:Big.val 1000000000 G<1000000000 ^ (k+2):=by
     have h1:=Big.val_lt (B:=1000000000) oM ac;rw[O] at h1;omega
    obtain⟨Wn,rfl,df⟩:=Big.top_zero oM be (n:=k+2) cr b1;have b4:=(Big.Lim.append.1 be).1;have dg:Big.val 1000000000 Wn<Big.val 1000000000 V:=by rw[Big.val_snoc,XR,XP] at bf;exact bf
    have aq:=c1.out.away ai oM;have d8:=ay.out.awayG ai (fun b o h=>by cases h;omega);have d2:=c8.out.away ai oM;have di:=ae.out.grown ai ae.size (fun g hg=>by cases hg;exact fl);have a7:=Big.div_round b9 ba cq
    have b3:Arr .u32 120 W6 W2 (L2++Wn++List.replicate (e+1-t) 0):=by
     have h:e+1-t=(e+1-(t+1))+1:=oM;rw[h,Yj];simpa using cp
    have ds:t<(List.replicate (t+1) (0:Int)++E).length:=sO
    have fs:W6.cell? ⟨W4,t,none⟩=some (.int .u32 0):=by
     rw[aq.cell ds]
     congr 2
     rw[Jy sP];simp
    have ft:=aq.free t
    have b6:Arr .u32 120 (W6.setCell ⟨W4,t,none⟩ (.int .u32 dq)) W4 (List.replicate t 0++dq::E):=by
     have h:=aq.set t dq
     rwa [show(List.replicate (t+1) (0:Int)++E).set t dq=List.replicate t 0++dq::E by
      rw[JF,XH,Yv _ _ sP];simp] at h
    have aw:=a1p W6 W4 t (.int .u32 dq);have J:=Z1 (And.intro b6 (And.intro (b3.away aw oM) (And.intro (d8.awayG aw (fun b o h=>by cases h;omega)) (And.intro (d2.away aw oM) (di.setCell (p:=⟨W4,t,none⟩) dw (.int .u32 dq))))));obtain⟨an,eq,ci,er,et⟩:=Z5 a7 df b4 dg dl;clear aq d8 d2 di a7 b3 ds b6 aw ai cr be cq bf cp b1 df b4 dg dl;go_wp2;go_roundw
    case rel=>exact⟨t,L2,Wn,dq::E,oM,by go_num,b9,eq,ea,ci,er,by rw[Xl];have:=c4.out;omega,Big.Lim.cons.2 ⟨et,c3⟩,J.2.1,J.1,an,J.2.2.1,J.2.2.2.1,J.2.2.2.2⟩
    case measure=>simp[intOf]
   |0,ht =>
    have dp:L=[]:=List.length_eq_zero_iff.1 am;have hv:=az.out;have a0:=cb.out;have T:=c1.out;rw[dp,Xr] at a0 hv;rw[KT,Xr] at T;rw[Int.pow_zero,KJ,b8,ce] at hv;have bu:=ch.out;rw[b8] at bu;have ak:=a0.limbs (B:=wr.heap.size) fi;have hW:LimbsAt .u32 wr wr (some ⟨W2,0,none⟩) W:=by have h:=ak.take (k+2);rwa [YB (by rw[ad];exact lR),Vg (by rw[ad];exact lR)] at h
    obtain⟨Hv,f7,HW,c2⟩:=Z4 hv bu hW T;have bt:=c8.out.cell (k:=0) sP;simp at bt;have ex:=Z1 bt;have c5:Hid (E.length=e+1):=Z1 (by have:=c4.out;omega);obtain⟨u1,u2,u3,u4⟩:=Big.trim_spec 1000000000 W;obtain⟨X,hX⟩:=eX (Big.trim W);have uL:=Big.trim_lim cg;rw[<- hX] at u1 u2 u3 u4 uL;rw[ad] at u3;obtain⟨HX,ez,f6⟩:=Z3 hX u1 uL;have dh:LimbsAt .u32 wr wr (some ⟨W2,0,none⟩) X:=by rw[u4];exact hW.take _
    have es:=Z1 dh;obtain⟨xl,bv⟩:=eX X.length;rw[<- bv] at u3;have ck:=Z1 bv;clear hv bu hW ak a0 T dp bt hX u1 u2 u4 uL dh bv;have hS:Below wr wr wr.drew:=Vw bR 1;go_upto_region 15 with(fail);refine Vs (S:=Below wr wr) kR ?_;change wpAnyH _ _ _ _ _ _ _ _ (World.drew wr);obtain⟨WC,au⟩:=eX wr.drew;have fy:(WC:Nat)=wr:=by rw[au];rfl
    have f9:=Z1 (HW.at_ (w':=WC) (by rw[au];exact hS) lR);rw[<- au] at hS⊢;have fa:=Z1 (es.at_ hS lR);clear au;refine jT 0 hS ?_;refine jT 1 hS ?_;refine jT 2 hS ?_ (v:=.slice (some ⟨W2,0,none⟩) (k+2) (k+2+e+1)) (hy:=(.inl ⟨by rfl,fun W' d1=>by(go_simp;rw[Vt oM,show((k:Int)+2).toNat=k+2 by omega])⟩));refine jT 4 hS ?_;refine jT 5 hS ?_;refine jT 6 hS ?_ (v:=.int .u32 s) (hy:=(.inl ⟨by rfl,fun W' d1=>by have hc:=(d1.cell (p:=⟨w1,0,none⟩) fh).trans ex;go_simp⟩));refine rZ 3 fun K hK=>?_;go_simp;refine(a3s WC _ (k+2) (k+2+e+1) W ad oM oM f9.out).mono ?_;rintro e7 W7 ⟨rfl,fb⟩;obtain rfl:=fb;rw[<- HX,<- ck];refine jK hK hS ?_;clear hK K;refine rZ 7 fun K hK=>?_;go_simp;refine(a5V WC _ xl (k+2+e+1) X s ck.symm oM bw oM f6 fa.out).mono ?_;rintro e8 W8 ⟨co,g,g',R,r,rfl,d0,bh,cz,r0,r1,cy,fk,hg,ff⟩;have I:=hS.trans (co.mono hS.size);refine jK hK I ?_;clear hK K;refine jT 8 I ?_;refine jT 9 I ?_;refine jT 10 I ?_;refine rZ 11 fun K hK=>?_;go_simp;refine jK hK I ?_;clear hK K;refine rZ 12 fun K hK=>?_;go_simp;refine jK hK I ?_;clear hK K;refine VF kR ?_ _
    try simp only[z]
    have dm:=Big.div_end Hv f7 (by rw[<- ez];exact cz) r0 r1;have dj:=ae.out.trans (I.mono ae.size);have bq:=c2.out.below I fg;have dv:=Big.val_nonneg (B:=1000000000) oM bh;have a:=Z1 (And.intro dm (And.intro dj (And.intro (bq.limbs bq.lt) (And.intro dv (And.intro d0 (And.intro bh cy))))));have dn:w<=g:=by have:=ae.out.size;omega
    have eu:=Z1 dn;clear dm dj bq dv d0 bh cz cy fk I hS co hg ff dn;go_wp2
    go_ret2
    exact⟨a.2.1,some ⟨W4,0,none⟩,e+1,e+1,E,some ⟨g,0,none⟩,xl,xl,R,rfl,c5,a.2.2.2.2.1,oM,u3,lR,lR,c3,a.2.2.2.2.2.1,a.1.1,a.2.2.2.1,a.1.2,a.2.2.1,a.2.2.2.2.2.2,fun b o h=>(by cases h;exact dw),.inr fun b o h=>(by cases h;exact eu)⟩
structure Rt where
 cur:ByteArray
 kind:Int
 when_:Int
 val:Int
namespace Rt
def v (r:Rt):Value:=.agg #[.string r.cur,r.kind,r.when_,r.val]
def at_ (r:Rt) (c:BA) (k d:Int):Bool:=r.cur.toList==c.toList&&r.kind==k&&r.when_==d
def same (a b:Rt):Bool:=a.at_ b.cur b.kind b.when_
def zero:Rt:=⟨ByteArray.empty,0,0,0⟩
theorem at_iff (r:Rt) (c) (k d):r.at_ c k d ↔ (r.cur.toList=c.toList/\r.kind=k/\r.when_=d):=by
 simp[at_,and_assoc]
theorem toList_inj {a b:ByteArray} (h:a.toList=b.toList):a=b:=by
 rw[JS,JS] at h;exact QC (Array.toList_inj.mp h)
end Rt
namespace Rates
def find (l:List Rt) (c:BA) (k d:Int):Option Int:=(l.find? fun r=>r.at_ c k d).map (·.val)
def upper (b:UInt8):Bool:=decide (65<=(b.toNat:Int)/\(b.toNat:Int)<=90)
def allUp (s:BA):Bool:=s.data.toList.all upper
def isCur (s:BA):Bool:=allUp s&&s.size==3
def dateB (d:Int):Bool:=decide (-25567<=d/\d<=84005)
def proper (g:BA) (r:Rt):Bool :=
 isCur r.cur&&!(r.cur.toList==g.toList)&&decide (1<=r.val/\r.val<=1000000000000) &&
  ((r.kind==1&&dateB r.when_)||(r.kind==2&&decide (0<=r.when_/\r.when_<120)))
def fresh:List Rt->Bool
 |[]=>true
 |r::l=>l.all (fun x=>!(r.same x))&&fresh l
def valid (g:BA) (l:List Rt):Bool:=l.all (proper g)&&fresh l&&isCur g&&decide (l.length<=1000)
def Fresh (l:List Rt):Prop:=l.Pairwise fun a b=>a.same b=false
theorem a4b (l):fresh l ↔ Fresh l:=by
 unfold Fresh
 induction l with
 |nil=>simp[fresh]
 |cons r l a=>rw[Qw,fresh,Vp,a,Xb];simp
def Pre (g:BA) (l:List Rt) (k:Nat):Prop:=(l.take k).all (proper g)/\Fresh (l.take k)
theorem pre_zero (g) (l):Pre g l 0:=⟨rfl,by simp[Fresh]⟩
theorem pre_succ (g) (l) (k) (h:k<l.length) (s:Pre g l k) (E:proper g l[k]) (i:(l.take k).any (fun r=>r.same l[k])=false):Pre g l (k+1):=by
 unfold Pre;rw[tse h];refine⟨?_,?_⟩
 ·rw[Yp,s.1];simp[E]
 ·unfold Fresh
  rw[List.pairwise_append];refine⟨s.2,sP,fun a I b o=>?_⟩;simp only[VY] at o;subst o;rw[Z9] at i;simpa using i a I
theorem pre_end (g) (l) (a:Pre g l l.length):valid g l=(isCur g&&decide (l.length<=1000)):=by
 unfold Pre at a;rw[Xs] at a;unfold valid;rw[a.1,(a4b l).2 a.2];simp
theorem valid_improper (g) (l) (k) (h:k<l.length) (a:proper g l[k]=false):valid g l=false:=by
 have:l.all (proper g)=false:=by rw[Yb];exact⟨l[k],Vm h,by simp[a]⟩
 unfold valid;rw[this];rfl
theorem a6S (g) (l) (k j) (h:k<l.length) (o:j<k) (a:(l[j]' oM).same l[k]):valid g l=false:=by
 have:fresh l=false:=by
  rw[Zv];intro i;rw[a4b,Fresh,YN] at i;rw[i j k oM h o] at a;cases a
 unfold valid;rw[this];simp
theorem valid_twice' (g) (l) (k) (h:k<l.length) (a:(l.take k).any (fun r=>r.same l[k])):valid g l=false:=by
 rw[YY] at a;obtain⟨x,o,i⟩:=a;obtain⟨j,s,e⟩:=XT.1 o;subst e;exact a6S g l k j h oM i
theorem any_take_succ (l:List Rt) (p:Rt->Bool) (j) (h:j<l.length):(l.take (j+1)).any p=((l.take j).any p||p l[j]):=by
 rw[tse h,YD];simp
theorem valid_iff (g) (l):valid g l ↔ ((∀r∈l,proper g r)/\Fresh l/\isCur g/\l.length<=1000):=by
 unfold valid;simp only[Vp,Xb,a4b,Xm,and_assoc]
theorem a4x (l:List Rt) (c) (k d) (n) (h:n<l.length) :
  find (l.take (n+1)) c k d=((find (l.take n) c k d).or (if l[n].at_ c k d then some l[n].val else none)):=by
 unfold find;rw[tse h,List.find?_append]
 cases(l.take n).find? (fun r=>r.at_ c k d) with
 |some x=>simp
 |none=>by_cases a:l[n].at_ c k d <;> simp[a]
theorem find_hit (l) (c) (k d) (n) (h:n<l.length) (a:find (l.take n) c k d=none) (i:l[n].at_ c k d):find l c k d=some l[n].val:=by
 have e:l=l.take n++(l[n]::l.drop (n+1)):=by rw[Kw,X7]
 unfold find at a⊢;rw[Option.map_eq_none_iff] at a
 conv=>lhs;rw[e]
 rw[List.find?_append,a];simp only[Option.none_or,List.find?_cons,i];rfl
theorem find_miss (l:List Rt) (c) (k d) (n) (h:n<l.length) (a:find (l.take n) c k d=none) (i:l[n].at_ c k d=false):find (l.take (n+1)) c k d=none:=by
 rw[a4x l c k d n h,a,i];rfl
end Rates
namespace Rates
def sel (c:BA) (a b:Int) (r:Rt):Bool:=r.cur.toList==c.toList&&r.kind==1&&decide (a<=r.when_)&&decide (r.when_<=b)
theorem sel_iff (c) (a b) (r):sel c a b r ↔ (r.at_ c 1 r.when_=true/\a<=r.when_/\r.when_<=b):=by
 unfold sel Rt.at_;simp[and_assoc]
theorem a3f {c} {k d} {r:Rt} (h:r.at_ c k d):r.when_=d:=((Rt.at_iff r c k d).1 h).2.2
theorem b1t {c:ByteArray} {k d:Int} {r:Rt} (h:r.at_ c k d=true):r=⟨c,k,d,r.val⟩:=by
 obtain⟨i,o,s⟩:=(Rt.at_iff r c k d).1 h;obtain⟨a,b,e,f⟩:=r;simp only at i o s;rw[Rt.toList_inj i,o,s]
def see (acc:Option Rt) (r:Rt):Option Rt :=
 match acc with
 |none=>some r
 |some x=>if x.when_<r.when_ then some r else some x
def which (l:List Rt) (c:BA) (d:Int):Option Rt:=(l.filter (sel c (d-40) d)).foldl see none
def back (l:List Rt) (c:BA) (d:Int):Nat->Option Rt
 |0=>none
 |k+1=>match find l c 1 d with
  |some v=>some ⟨c,1,d,v⟩
  |none=>back l c (d-1) k
theorem a6K (l) (c):∀(k:Nat) (d:Int),back l c d k=none ↔ ∀j:Nat,j<k->find l c 1 (d-j)=none
 |0,d=>by simp[back]
 |k+1,d=>by
  unfold back
  cases a:find l c 1 d with
  |some v =>
   simp only[reduceCtorEq,false_iff];intro h;have:=h 0 oM;simp[a] at this
  |none =>
   simp only;rw[a6K l c k (d-1)]
   constructor
   ·intro h j i
    cases j with
    |zero=>simpa using a
    |succ j=>have:=h j oM;rwa [show d-1-(j:Int)=d-((j+1:Nat):Int) by omega] at this
   ·intro h j i
    have:=h (j+1) oM
    rwa [show d-1-(j:Int)=d-((j+1:Nat):Int) by omega]
theorem a6J (l) (c) (r):∀(k:Nat) (d:Int),back l c d k=some r ↔ ∃j:Nat,j<k/\(∀i:Nat,i<j->find l c 1 (d-i)=none)/\find l c 1 (d-j)=some r.val/\r=⟨c,1,d-j,r.val⟩
 |0,d=>by simp[back]
 |k+1,d=>by
  unfold back
  cases o:find l c 1 d with
  |some v =>
   simp only[Option.some.injEq]
   constructor
   ·rintro rfl;exact⟨0,oM,sP,by simpa using o,sP⟩
   ·rintro⟨j,s,a,hv,e⟩
    cases j with
    |zero =>
     simp only[Int.natCast_zero,QZ] at hv e;rw[o] at hv;simp only[Option.some.injEq] at hv;rw[e,hv]
    |succ j=>have:=a 0 oM;simp[o] at this
  |none =>
   simp only;rw[a6J l c r k (d-1)]
   constructor
   ·rintro⟨j,s,a,hv,e⟩
    refine⟨j+1,oM,fun i E=>?_,?_,?_⟩
    ·cases i with
     |zero=>simpa using o
     |succ i=>have:=a i oM;rwa [show d-1-(i:Int)=d-((i+1:Nat):Int) by omega] at this
    ·rwa [show d-1-(j:Int)=d-((j+1:Nat):Int) by omega] at hv
    ·rwa [show d-1-(j:Int)=d-((j+1:Nat):Int) by omega] at e
   ·rintro⟨j,s,a,hv,e⟩
    cases j with
    |zero=>simp[o] at hv
    |succ j =>
     refine⟨j,oM,fun i E=>?_,?_,?_⟩
     ·have:=a (i+1) oM;rwa [show d-1-(i:Int)=d-((i+1:Nat):Int) by omega]
     ·rwa [show d-1-(j:Int)=d-((j+1:Nat):Int) by omega]
     ·rwa [show d-1-(j:Int)=d-((j+1:Nat):Int) by omega]
theorem a4c (l) (c) (k d):find l c k d=none ↔ ∀r∈l,r.at_ c k d=false:=by
 unfold find;simp
theorem find_some (l) (c) (k d v) (h:find l c k d=some v):∃r∈l,r.at_ c k d/\r.val=v:=by
 unfold find at h;rw[Option.map_eq_some_iff] at h;obtain⟨r,a,e⟩:=h;exact⟨r,List.mem_of_find?_eq_some a,List.find?_some (p:=fun r:Rt=>r.at_ c k d) a,e⟩
theorem a5k {P:List Rt->Prop} (i:P []) (o:∀l r,P l->P (l++[r])) (l):P l:=by
 rw[<- KY l]
 induction l.reverse with
 |nil=>exact i
 |cons a t s=>rw[Qk];exact o _ _ s
theorem a8n (c) (a b):∀(l:List Rt),
  ((l.filter (sel c a b)).foldl see none=none/\∀r∈l,sel c a b r=false) ∨
  ∃x,(l.filter (sel c a b)).foldl see none=some x/\sel c a b x/\(∀r∈l,sel c a b r->r.when_<=x.when_)/\find l c 1 x.when_=some x.val:=by
 refine a5k ?_ ?_
 ·left;simp
 ·intro l r ih
  rw[Yq,YH]
  by_cases I:sel c a b r
  ·rw[Jh I,ZF]
   obtain⟨hat,W,X⟩:=(sel_iff c a b r).1 I
   right
   rcases ih with⟨E,S⟩|⟨x,E,T,L,s⟩
   ·refine⟨r,by rw[E];rfl,I,?_,?_⟩
    ·intro y i o
     rw[V9,VY] at i
     rcases i with i|rfl
     ·rw[S y i] at o;cases o
     ·exact J7 _
    ·unfold find
     rw[List.find?_append,List.find?_eq_none.2 (fun y i=>?_)]
     ·simp[hat]
     ·intro h
      have:=S y i;rw[Zv] at this;exact this ((sel_iff c a b y).2 (by rw[a3f h];exact⟨h,W,X⟩))
   ·rw[E]
    show∃y,see (some x) r=some y/\_
    by_cases J:x.when_<r.when_
    ·refine⟨r,by simp[see,J],I,?_,?_⟩
     ·intro y i o
      rw[V9,VY] at i
      rcases i with i|rfl
      ·have:=L y i o;omega
      ·exact J7 _
     ·unfold find
      rw[List.find?_append,List.find?_eq_none.2 (fun y i=>?_)]
      ·simp[hat]
      ·intro h
       have:=L y i ((sel_iff c a b y).2 (by rw[a3f h];exact⟨h,W,X⟩));rw[a3f h] at this;omega
    ·refine⟨x,by simp[see,J],T,?_,?_⟩
     ·intro y i o
      rw[V9,VY] at i
      rcases i with i|rfl
      ·exact L y i o
      ·omega
     ·unfold find at s⊢
      rw[List.find?_append]
      cases O:List.find? (fun r=>r.at_ c 1 x.when_) l with
      |none=>rw[O] at s;cases s
      |some z=>rw[O] at s;simpa using s
  ·have Q:sel c a b r=false:=by simpa using I
   rw[Jg I,ZF,QB]
   rcases ih with⟨E,S⟩|⟨x,E,T,L,s⟩
   ·left;refine⟨E,fun y i=>?_⟩
    rw[V9,VY] at i
    rcases i with i|rfl
    ·exact S y i
    ·exact Q
   ·right;refine⟨x,E,T,fun y i o=>?_,?_⟩
    ·rw[V9,VY] at i
     rcases i with i|rfl
     ·exact L y i o
     ·rw[Q] at o;cases o
    ·unfold find at s⊢
     rw[List.find?_append]
     cases O:List.find? (fun r=>r.at_ c 1 x.when_) l with
     |none=>rw[O] at s;cases s
     |some z=>rw[O] at s;simpa using s
theorem a2D (l) (c) (d):which l c d=back l c d 41:=by
 unfold which
 rcases a8n c (d-40) d l with⟨a,J⟩|⟨x,a,L,I,E⟩
 ·rw[a];symm
  rw[a6K];intro j T;rw[a4c];intro r o;rw[Zv];intro h;have:=J r o;rw[Zv] at this;exact this ((sel_iff _ _ _ _).2 (by rw[a3f h];exact⟨h,oM,oM⟩))
 ·rw[a];symm
  obtain⟨hat,O,Q⟩:=(sel_iff _ _ _ _).1 L;rw[a6J];refine⟨(d-x.when_).toNat,oM,fun i S=>?_,?_,?_⟩
  ·rw[a4c]
   intro r o;rw[Zv];intro h;have s:=a3f h;have:=I r o ((sel_iff _ _ _ _).2 (by rw[s];exact⟨h,oM,oM⟩));omega
  ·rw[show d-((d-x.when_).toNat:Int)=x.when_ by omega];exact E
  ·rw[show d-((d-x.when_).toNat:Int)=x.when_ by omega];exact b1t hat
def daily (l:List Rt) (c:BA) (a:Int):Nat->List Rt
 |0=>[]
 |k+1=>daily l c a k++(match find l c 1 (a+k) with|some v=>[⟨c,1,a+k,v⟩]|none=>[])
def days (l:List Rt) (c:BA) (a b:Int):List Rt:=daily l c a (b-a+1).toNat
theorem a5z (l) (c) (a):∀k,(∀r∈daily l c a k,a<=r.when_/\r.when_<a+k)/\(daily l c a k).length<=k
 |0=>by simp[daily]
 |k+1=>by
  obtain⟨h,s⟩:=a5z l c a k;unfold daily;refine⟨fun r i=>?_,?_⟩
  ·rw[V9] at i
   rcases i with i|i
   ·have:=h r i;omega
   ·cases o:find l c 1 (a+k) with
    |none=>rw[o] at i;simp at i
    |some v=>rw[o] at i;simp at i;subst i;simp;omega
  ·rw[Vc]
   cases o:find l c 1 (a+k) <;> simp<;> omega
theorem a3m (l) (c) (a):∀k,(daily l c a k).Pairwise (fun x y=>x.when_<y.when_)
 |0=>List.Pairwise.nil
 |k+1=>by
  unfold daily;rw[List.pairwise_append];refine⟨a3m l c a k,?_,fun x s y i=>?_⟩
  ·cases find l c 1 (a+k) <;> simp
  ·have:=(a5z l c a k).1 x s
   cases o:find l c 1 (a+k) with
   |none=>rw[o] at i;simp at i
   |some v=>rw[o] at i;simp at i;subst i;simp;omega
theorem a6y (l) (c) (a) (r):∀k,r∈daily l c a k ↔ ∃j:Nat,j<k/\find l c 1 (a+j)=some r.val/\r=⟨c,1,a+j,r.val⟩
 |0=>by simp[daily]
 |k+1=>by
  unfold daily;rw[V9,a6y l c a r k]
  constructor
  ·rintro(⟨j,J,h⟩|h)
   ·exact⟨j,oM,h⟩
   ·cases i:find l c 1 (a+k) with
    |none=>rw[i] at h;simp at h
    |some v=>rw[i] at h;simp at h;subst h;exact⟨k,oM,i,rfl⟩
  ·rintro⟨j,J,s,E⟩
   rcases Zn j k with o|I
   ·exact .inl ⟨j,o,s,E⟩
   ·obtain rfl:j=k:=oM
    right;rw[s];simp only[VY];exact E
theorem a2q (l) (i:Fresh l) (r) (c) (k d) (a:r∈l) (h:r.at_ c k d):find l c k d=some r.val:=by
 induction l with
 |nil=>cases a
 |cons x l ih =>
  unfold Fresh at i;rw[Qw] at i;unfold find;rw[List.find?_cons]
  cases o:x.at_ c k d with
  |true =>
   simp only[JR,Option.some.injEq]
   rcases Yt.1 a with rfl|a
   ·rfl
   ·have:=i.1 r a
    obtain⟨a1,a2,a3⟩:=(Rt.at_iff _ _ _ _).1 o;obtain⟨s,E,I⟩:=(Rt.at_iff _ _ _ _).1 h;rw[Zv] at this;exact absurd ((Rt.at_iff x r.cur r.kind r.when_).2 ⟨a1.trans s.symm,a2.trans E.symm,a3.trans I.symm⟩) this
  |false =>
   rcases Yt.1 a with rfl|a
   ·rw[h] at o;cases o
   ·exact ih i.2 a
theorem a8f (l) (s:Fresh l) (c) (a b) (r):r∈days l c a b ↔ r∈l.filter (sel c a b):=by
 unfold days;rw[a6y,Yw,sel_iff]
 constructor
 ·rintro⟨j,Q,i,o⟩
  obtain⟨x,J,hat,hv⟩:=find_some _ _ _ _ _ i;have e:x=r:=by rw[b1t hat,o,hv]
  subst e;have I:=a3f hat;exact⟨J,by rw[I];exact hat,oM,oM⟩
 ·rintro⟨E,hat,L,O⟩
  refine⟨(r.when_-a).toNat,oM,?_,?_⟩
  ·rw[show a+((r.when_-a).toNat:Int)=r.when_ by omega];exact a2q l s r c 1 r.when_ E hat
  ·rw[show a+((r.when_-a).toNat:Int)=r.when_ by omega];exact b1t hat
theorem a6t (l) (o:Fresh l) (p:Rt->Bool):(l.filter p).Nodup:=by
 have i:(l.filter p).Pairwise (fun a b=>a.same b=false):=List.Pairwise.filter p o;exact i.imp fun{a b} h e=>by subst e;rw[Zv] at h;exact h ((Rt.at_iff _ _ _ _).2 ⟨rfl,rfl,rfl⟩)
theorem a2J:∀(a b:List Rt),a.Pairwise (fun x y=>x.when_<y.when_)->b.Pairwise (fun x y=>x.when_<y.when_)->(∀r,r∈a ↔ r∈b)->a=b
 |[],[],_,_,_=>rfl
 |[],y::b,_,_,h=>by have:=(h y).2 sP;cases this
 |x::a,[],_,_,h=>by have:=(h x).1 sP;cases this
 |x::a,y::b,ha,hb,h=>by
  rw[Qw] at ha hb
  have e:x=y:=by
   have s:=(h x).1 sP;have E:=(h y).2 sP
   rcases Yt.1 s with e|s
   ·exact e
   ·rcases Yt.1 E with e|E
    ·exact e.symm
    ·have:=ha.1 y E;have:=hb.1 x s;omega
  subst e;rw[a2J a b ha.2 hb.2 (fun r=>?_)]
  constructor
  ·intro o
   rcases Yt.1 ((h r).1 (XZ _ o)) with e|i
   ·subst e;have:=ha.1 r o;omega
   ·exact i
  ·intro o
   rcases Yt.1 ((h r).2 (XZ _ o)) with e|i
   ·subst e;have:=hb.1 r o;omega
   ·exact i
theorem sorted_days (l) (I:Fresh l) (c) (a b) (s) (J:s.Perm (l.filter (sel c a b))) (W:s.Pairwise (fun x y=>x.when_<=y.when_)):s=days l c a b:=by
 refine a2J _ _ ?_ (a3m _ _ _ _) (fun r=>by rw[J.mem_iff,a8f l I]);have T:s.Nodup:=J.nodup_iff.2 (a6t l I _);have E:=W.and T;refine List.Pairwise.imp_of_mem (fun{x y} hx hy h=>?_) E;obtain⟨L,Q⟩:=h
 rcases Int.lt_or_eq_of_le L with O|S
 ·exact O
 ·exfalso
  have i:=J.mem_iff.1 hx;have o:=J.mem_iff.1 hy;rw[Yw,sel_iff] at i o;have f1:=a2q l I x c 1 x.when_ i.1 i.2.1;have f2:=a2q l I y c 1 y.when_ o.1 o.2.1;rw[S,f2] at f1;apply Q;rw[b1t i.2.1,b1t o.2.1,S];simp at f1;rw[f1]
theorem b3g (l) (c) (a b):((days l c a b).length:Int)<=max 0 (b-a+1):=by
 have:=(a5z l c a (b-a+1).toNat).2;unfold days;omega
end Rates
end Go.Proofs.YtbhdekahdnenjaaGreatDoor
