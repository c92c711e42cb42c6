/- Lemmas. -/
import Derived.IntWalk
import Derived.Test.YtbhdekahdnenjaaGreatDoorRows
import Derived.LaidMore
import Derived.LaidLaws
import Derived.OpenShut
import Derived.Test.YtbhdekahdnenjaaGreatDoorG11
set_option linter.unusedVariables false
set_option linter.unusedSimpArgs false
set_option maxRecDepth 100000
set_option maxHeartbeats 16000000
namespace Go.Proofs.YtbhdekahdnenjaaGreatDoor
open Go.Proofs.Tryz Go.RowKit
variable (w:World)
def ClimbPost (l:List Acc) (a:Int) (w:World) (e:Ending) (w':World):Prop :=
 Below w w w'/\∃(p:LI) (c:Int) (A:OA) (n i:Nat),e=.returned (.slice A n i)/\p.length=n/\Ch.Up l a p c/\Ch.Ends l p c/\LimbsAt .i64 w' w' A p
def UpRel (l:List Acc) (a:Int) (w:World) (t:Nat) (i o:Value) (wr:World):Prop :=
 ∃(p:LI) (c:Int),i=c/\(Lit.int .i64 c).wf/\Ch.Up l a p c/\wr.ownsRow (w+1) 3 1 o p.length (p.map (Value.int .i64))/\SetAt wr w p/\Below w w wr/\t=l.length-p.length
theorem a7X {l} {c} (h:Ch.has l c):Ch.find l c=some (Ch.found l c):=by
 unfold Ch.has at h;unfold Ch.found
 cases i:Ch.find l c with
 |none=>rw[i] at h;cases h
 |some a=>rfl
theorem a7Y {l} {c} (h:Ch.has l c=false):Ch.find l c=none:=by
 unfold Ch.has at h
 cases i:Ch.find l c with
 |none=>rfl
 |some a=>rw[i] at h;cases h
theorem a6g {a b} {C base} {e} {size n} {v} {xs} (h:a.ownsRow base e size v n xs) (O:Below C a b) (L:a<=C):b.ownsRow base e size v n xs:=by
 refine⟨h.1,?_⟩
 rcases h.2 with E|⟨g,i,cur,s,I,o,J⟩
 ·exact .inl E
 ·exact .inr ⟨g,i,cur,s,I,(O.block g (Xg (Array.getElem?_eq_some_iff.1 o).1 L)).trans o,J⟩
theorem a5a (A) (n c) (l) (code) (hl:l.length=n) (hn:n<=100000) (hc:(Lit.int .i64 code).wf=true) (b1:∀a∈l,a.wf) (h:AccsAt w w A l) :
  Calls prog 286 #[.slice A n c,code] w (ClimbPost l code w):=by
 have az:=@ZS prog;obtain⟨i0,hi,b2,b3,b4⟩:=XW (show(prog.info? 3).map (fun i=>(i.zero,i.size,i.bytes))=some (some (.int .i64 0),1,8) by kernel_rfl);have aq:=(VM w w).alloc lR (.map #[] 0);go_enter func286,ntmps286;go_wp2
 go_step3
 go_wp2
 go_step3
 go_wp2
 go_loopg [1,5] l.length (fun t s1 s5 wr=>UpRel l code w t s1 s5 wr)
 case atStart=>exact⟨[],code,rfl,hc,.nil,Xp _ _ _ _,SetAt.made w,aq,sP⟩
 case round =>
  obtain⟨p,x,rfl,hx,ae,L,S,hb,rfl⟩:=hrel;have aa:=Z1 ae;have av:=S.lt;have b6:=ae.length;have b0:=Z1 L.lt;clear ae az;go_wp2_with (fail);refine(a0Q wr A n c l x hl hn ((h.below hb lR).more hb.size)).mono ?_;rintro e w4 ⟨rfl,a0⟩;have aj:=hb.trans (a0.mono hb.size);have b8:=a0.size;have T:=S.below a0 av;have Q:=a6g L a0 lR;obtain⟨q,hq⟩:=eX (Ch.found l x);rw[<- hq];have Hq:=Z1 hq;have a4:=aj.alloc aj.size (.cells q 113);have W:=T.alloc (.cells q 113);have o:=Q.alloc (.cells q 113);have a5:=W.look x hx;have b5:w.heap.size<w4.heap.size:=oM;clear hq S T L Q
  by_cases hh:Ch.has l x=true
  ·have hf:=a7X hh
   rw[hh]
   by_cases hm:x∈p
   ·have hd:decide (x∈p)=true:=VT hm
    rw[hd] at a5;obtain⟨A5,c5,rfl,au,J⟩:=a1k o rfl;have a8:=Z1 J;have hE:Hid (Ch.Ends l p x):=.inr hm;clear hf hm hh hd o J;go_wp2;rw[Exit.noGoto_ret];go_ret;exact⟨a4,p,x,A5,p.length,c5,rfl,rfl,aa.out,hE.out,a8.out⟩
   ·have hd:decide (x∈p)=false:=Vr hm
    rw[hd] at a5;obtain⟨f,al,ak⟩:=W;have aw:=Qj (P:=prog) YM hx;have an:=Z1 (a7K ak x);have a6:=Z1 (Hq.out ▸ Ch.Up.snoc aa.out hf hm);have ao:=Z1 (b1 q (by rw[Hq.out];exact(Ch.find_some hf).1)).2.2.2;clear hf hm hh hd ak;go_upto_region 6 with(at_mapUpdate;refine Xv rfl _ _ _ rfl al intLaw JQ rfl (by unfold maxLen;omega) _ _ _ rfl rfl aw ?_;intro w7 ay ac);have ab:=a4.grown ac a4.size (fun j e=>by cases e;exact lR);have E:=o.kept ac (.inr (fun e=>by have:=a0B o _ e;omega));have I:=(ac.block w4 sP (fun e=>by simp at e;omega)).trans (Vh w4 (.cells q 113));have b7:=ab.size;have a7:w4.heap.size<w7.heap.size:=Vq I;have x3:=cr9 3 ((VD w7 (.cells #[x] 3) _ a7).trans I);simp at x3;have af:=Z1 (a2m (Vh w7 (.cells #[x] 3)));have ah:=Z1 (E.alloc (.cells #[x] 3));have ag:Hid (∀u∈([Value.int .i64 x]:List Value),u.oneCell'=true):=by show∀u∈_,_;simp[Value.oneCell']
    have ai:=Z1 I;clear a5 al o;go_upto_region 7 with(at_builtin;refine Xd _ rfl _ _ 108 rfl (w.heap.size+1) 3 i0 (.int .i64 0) 1 8 ZT hi b2 b3 b4 rfl dC _ _ _ rfl ah.out ⟨w7,0,none⟩ 1 1 [x] rfl rfl af.out ag.out (by unfold maxLen;omega) oM sO ?_;intro v' w9 O s _);have ar:=(ab.alloc ab.size (.cells #[x] 3)).grown s sO (fun q hq=>by have:=a0B E q hq;omega)
    have X:SetAt w9 w (p++[x]):=by
     have hM:=(ay.alloc (.cells #[x] 3)).kept s (fun e=>by have:=a0B E _ e.symm;omega);exact⟨_,by rw[Vc];exact hM,an.out⟩
    have am:=(s.block w4 sO (fun e=>by have:=b0.out _ e.symm;omega)).trans ((VD w7 (.cells #[x] 3) _ a7).trans ai.out);have x3:=cr9 3 am;simp at x3;have ax:=(Ch.Up.length a6.out);rw[Vc,Zy] at ax;have ap:=Z1 X;have a9:=Z1 O;clear am X O I;go_wp2
    go_roundg (l.length-(p++[x]).length)
    case measure=>simp;omega
    case rel=>exact⟨p++[x],q.parent,rfl,ao.out,a6.out,by rw[Xn,Vc];exact a9.out,ap.out,ar,rfl⟩
  ·have ad:Ch.has l x=false:=by simpa using hh
   rw[ad];obtain⟨A5,c5,rfl,au,J⟩:=a1k o rfl;have a8:=Z1 J;have hE:Hid (Ch.Ends l p x):=.inl (a7Y ad);clear hh ad o J a5;go_wp2;rw[Exit.noGoto_ret];go_ret;exact⟨a4,p,x,A5,p.length,c5,rfl,rfl,aa.out,hE.out,a8.out⟩
theorem a4Z (A:Option Addr) (n c:Nat) (l:List Acc) (code:Int) (hl:l.length=n) (hn:n<=100000) (h:AccsAt w w A l) :
  Calls prog 157 #[.slice A n c,code] w fun e w'=>(∃ A' cap,e=.returned (.slice A' (Ch.climb l (l.length+1) code) cap))/\Below w w w':=by
 subst hl;obtain⟨i0,hi,hz0,hz1,hz2⟩:=info_parts (show(prog.info? 3).map (fun i=>(i.zero,i.size,i.bytes))=some (some (.int .i64 0),1,8) by kernel_rfl);go_enter func157,ntmps157;go_wp2
 go_loopw [1,5,6] (fun s1 s5 s6 wr=>∃(k:Nat) (x:Int) (p:List Int),k<=l.length+1/\s6=.int .i64 k/\s1=.int .i64 x/\wr.ownsRow w.heap.size 3 1 s5 k (p.map (Value.int .i64))/\p.length=k/\Ch.climb l (l.length+1) code=k+Ch.climb l (l.length+1-k) x/\Below w w wr) (fun _ _ s6 _=>l.length+1-(intOf s6).toNat)
 case atStart=>exact⟨0,code,[],Nat.zero_le _,rfl,rfl,World.ownsRow_nil _ _ _ _,rfl,sP,bR⟩
 case round =>
  obtain⟨k,x,p,hk,rfl,rfl,hown,hp,hcl,hb⟩:=hrel;have Hp:=Z1 hp;have Hcl:=Z1 hcl;have hwb:=hb.size;clear hp hcl
  by_cases hlt:k<=l.length
  ·go_wp2_with (fail)
   refine(a1u wr A l.length c l x rfl hn ((h.below hb lR).more hb.size)).mono ?_;rintro e w4 ⟨rfl,hB4⟩;have hb4:=hb.trans (hB4.mono hb.size);have hown4:=a6g hown hB4 lR;have hol:=Z1 hown.lt;have hz4:=hB4.size;obtain⟨q,hq⟩:∃ q,q=Ch.found l x:=⟨_,rfl⟩;rw [<- hq];have Hq:=Z1 hq;have hb5:=hb4.alloc hb4.size (.cells q 113);have hown5:=hown4.alloc (.cells q 113);clear hq hown4
   by_cases hh:Ch.has l x=true
   ·have hf:=a7X hh
    rw [hh];have Hf:=Z1 hf;have Hnew:=Z1 (a2m (heap_alloc_new (w4.alloc (.cells q 113)) (.cells #[x] 3)));rw [show(w4.alloc (.cells q 113)).heap.size=w4.heap.size+1 by simp] at Hnew;have Hown:=Z1 (hown5.alloc (.cells #[x] 3));have Hone:Hid (∀ u∈([Value.int .i64 x]:List Value),u.oneCell'=true):=by show ∀ u∈_,_;simp [Value.oneCell']
    clear hh hf;go_upto_region 8 with(at_builtin;refine wpList_append_own _ rfl _ _ 108 rfl w.heap.size 3 i0 (.int .i64 0) 1 8 underlying108 hi hz0 hz1 hz2 rfl dC _ _ _ rfl Hown.out ⟨w4.heap.size+1,0,none⟩ 1 1 [x] rfl rfl Hnew.out Hone.out (by unfold maxLen;omega) oM sO ?_;intro v' w9 hown' hgrow _);have hb9:=(hb5.alloc hb5.size (.cells #[x] 3)).grown hgrow sO (fun q hq=>by have:=a0B hown5 q hq;omega);have hr9:=(hgrow.block w4 sO (fun e=>by have:=hol.out _ e.symm;omega)).trans ((Below.heap_alloc (w4.alloc (.cells #[.int .i64 (q).code,.int .i64 (q).kind,.int .i64 (q).basis,.int .i64 (q).parent] 113)) (.cells #[x] 3) _ sP).trans (heap_alloc_new w4 (.cells #[.int .i64 (q).code,.int .i64 (q).kind,.int .i64 (q).basis,.int .i64 (q).parent] 113)));have x3:=cr9 3 hr9;simp at x3;have hlt9:w4.heap.size<w9.heap.size:=Vq hr9;have Hown9:=Z1 hown';clear hr9 hown';go_wp2;go_roundw
    case rel =>
     refine⟨k+1,q.parent,p++[x],oM,by go_num,rfl,by rw [List.map_append];exact Hown9.out,by rw [List.length_append,Hp.out];rfl,?_,hb9⟩;rw [Hcl.out,show l.length+1-k=(l.length+1-(k+1))+1 by omega];simp only [Ch.climb,Hf.out,<- Hq.out];omega
    case measure=>simp [intOf];omega
   ·have hh':Ch.has l x=false:=by simpa using hh
    rw [hh'];have hE:Hid (Ch.climb l (l.length+1) code=k):=by show _=_;rw [Hcl.out,Ch.climb_none (a7Y hh')];rfl
    obtain⟨A5,c5,rfl,hc5,hl5⟩:=a1k hown5 Hp.out.symm;clear hh hh' hown5 hl5;go_wp2;go_ret;exact⟨⟨A5,c5,by rw [hE.out];rfl⟩,hb5⟩
  ·obtain rfl:k=l.length+1:=oM
   have hE:Hid (Ch.climb l (l.length+1) code=l.length+1):=by show _=_;rw [Hcl.out,Nat.sub_self];rfl
   obtain⟨A5,c5,rfl,hc5,hl5⟩:=a1k hown Hp.out.symm;clear hown hl5;go_wp2;go_ret;exact⟨⟨A5,c5,by rw [hE.out];rfl⟩,hb⟩
def ProperPost (gr:Bool) (l:List Acc) (a:Acc) (w:World) (e:Ending) (w':World):Prop :=
 Below w w w'/\∃b:Bool,e=.returned (.bool b)/\((Ch.basic gr l a=false/\b=false)∨(Ch.basic gr l a/\a.parent=0/\b) ∨
  (Ch.basic gr l a/\∃p c,Ch.Up l a.code p c/\Ch.Ends l p c/\b=decide (c=0)))
theorem a1y {gr} {l} {a} (s:¬ a.code<1) (E:¬ 99999<a.code) (I:¬ a.kind<1) (J:¬ 5<a.kind) (i:if gr=true then 1<=a.basis/\a.basis<=3 else a.basis=0) :
  Ch.basic gr l a=(decide (a.parent=0)||(Ch.has l a.parent&&decide ((Ch.found l a.parent).code≠a.code)&&decide ((Ch.found l a.parent).kind=a.kind))):=by
 unfold Ch.basic Ch.has Ch.found;rw[VT (show 1<=a.code by omega),VT (show a.code<=99999 by omega),VT (show 1<=a.kind by omega),VT (show a.kind<=5 by omega)]
 have o:(if gr=true then decide (1<=a.basis)&&decide (a.basis<=3) else decide (a.basis=0))=true:=by
  cases gr
  ·simp at i;simp[i]
  ·simp at i;simp[i]
 rw[o]
 cases Ch.find l a.parent with
 |none=>simp
 |some p=>simp
theorem a0M {gr:Bool} {l} {a} (h:a.code<1∨99999<a.code∨a.kind<1∨5<a.kind∨(gr/\(a.basis<1∨3<a.basis))∨(gr=false/\a.basis≠0)):Ch.basic gr l a=false:=by
 unfold Ch.basic
 rcases h with h|h|h|h|⟨rfl,h⟩|⟨rfl,h⟩
 ·rw[Vr (show¬ 1<=a.code by omega)];simp
 ·rw[Vr (show¬ a.code<=99999 by omega)];simp
 ·rw[Vr (show¬ 1<=a.kind by omega)];simp
 ·rw[Vr (show¬ a.kind<=5 by omega)];simp
 ·rcases h with h|h
  ·rw[Vr (show¬ 1<=a.basis by omega)];simp
  ·rw[Vr (show¬ a.basis<=3 by omega)];simp
 ·simp[h]
theorem a7k (A) (n c) (l) (a:Acc) (gr:Bool) (hl:l.length=n) (hn:n<=100000) (h:AccsAt w w A l) :
  CL 156 #[.slice A n c,a,gr] w (Ch.basic gr l a):=by
 have s:=(VM w w).alloc lR (.cells a 113)
 by_cases h1:a.code<1
 ·have o:=Z1 (a0M (gr:=gr) (l:=l) (a:=a) (.inl h1))
  clear h;go_enter func156,ntmps156;go_wp2;go_ret;exact⟨by rw[o.out];rfl,s⟩
 by_cases h2:99999<a.code
 ·have o:=Z1 (a0M (gr:=gr) (l:=l) (a:=a) (.inr (.inl h2)))
  clear h;go_enter func156,ntmps156;go_wp2;go_ret;exact⟨by rw[o.out];rfl,s⟩
 by_cases h3:a.kind<1
 ·have o:=Z1 (a0M (gr:=gr) (l:=l) (a:=a) (.inr (.inr (.inl h3))))
  clear h;go_enter func156,ntmps156;go_wp2;go_ret;exact⟨by rw[o.out];rfl,s⟩
 by_cases h4:5<a.kind
 ·have o:=Z1 (a0M (gr:=gr) (l:=l) (a:=a) (.inr (.inr (.inr (.inl h4)))))
  clear h;go_enter func156,ntmps156;go_wp2;go_ret;exact⟨by rw[o.out];rfl,s⟩
 cases gr
 ·by_cases X:a.basis=0
  ·have a7:(a.basis != 0)=false:=by simp[X]
   have Hb:=Z1 (a1y (gr:=false) (l:=l) h1 h2 h3 h4 (by simp[X]));clear X
   by_cases Q:a.parent=0
   ·have a4:(a.parent==0)=true:=by simp[Q]
    have i:=Hb.out;rw[VT Q,QX] at i;have J:=Z1 i;clear Q i h;go_enter func156,ntmps156;go_wp2;go_ret;exact⟨by rw[J.out];rfl,s⟩
   ·have a4:(a.parent==0)=false:=by simp[Q]
    have i:=Hb.out;rw[Vr Q,Qc] at i;have J:=Z1 i;have H0:=Z1 (RowsAt.at_ h s);clear Q i h;go_enter func156,ntmps156;go_wp2_with (fail);refine(a1u _ A n c l a.parent hl hn H0.out).mono ?_;rintro e w4 ⟨rfl,L⟩;obtain⟨a8,a9⟩:=bcell L;have a5:=L.size;simp at a5;have a6:w.heap.size<w4.heap.size:=oM;have S:=s.trans (L.mono sP);obtain⟨q,hq⟩:=eX (Ch.found l a.parent);rw[<- hq] at J⊢;clear hq;have O:=S.alloc S.size (.cells q 113)
    by_cases T:Ch.has l a.parent=true
    ·rw[T] at J⊢
     by_cases E:q.code=a.code
     ·have a0:(q.code != a.code)=false:=by simp[E]
      have i:=J.out;simp only[E,Q5,Kh,JM,Yc,Zm] at i;have I:=Z1 i;clear i E T;go_wp2;go_ret;exact⟨by rw[I.out];rfl,O⟩
     ·have a0:(q.code != a.code)=true:=by simp[E]
      have i:=J.out;simp only[E,Q5,Kg,QN,Y7] at i;have I:=Z1 i;clear i E T;go_wp2;go_ret;exact⟨by rw[I.out];rfl,O⟩
    ·have W:Ch.has l a.parent=false:=by simpa using T
     rw[W] at J⊢;have i:=J.out;simp only[Zm] at i;have I:=Z1 i;clear i T W;go_wp2;go_ret;exact⟨by rw[I.out];rfl,O⟩
  ·have a7:(a.basis != 0)=true:=by simp[X]
   have o:=Z1 (a0M (gr:=false) (l:=l) (a:=a) (.inr (.inr (.inr (.inr (.inr ⟨rfl,X⟩))))));clear X h;go_enter func156,ntmps156;go_wp2;go_ret;exact⟨by rw[o.out];rfl,s⟩
 ·by_cases X:a.basis<1
  ·have o:=Z1 (a0M (gr:=true) (l:=l) (a:=a) (.inr (.inr (.inr (.inr (.inl ⟨rfl,.inl X⟩))))))
   clear h;go_enter func156,ntmps156;go_wp2;go_ret;exact⟨by rw[o.out];rfl,s⟩
  by_cases h6:3<a.basis
  ·have o:=Z1 (a0M (gr:=true) (l:=l) (a:=a) (.inr (.inr (.inr (.inr (.inl ⟨rfl,.inr h6⟩))))))
   clear h;go_enter func156,ntmps156;go_wp2;go_ret;exact⟨by rw[o.out];rfl,s⟩
  have Hb:=Z1 (a1y (gr:=true) (l:=l) h1 h2 h3 h4 sO)
  by_cases Q:a.parent=0
  ·have a4:(a.parent==0)=true:=by simp[Q]
   have i:=Hb.out;rw[VT Q,QX] at i;have J:=Z1 i;clear Q i h;go_enter func156,ntmps156;go_wp2;go_ret;exact⟨by rw[J.out];rfl,s⟩
  ·have a4:(a.parent==0)=false:=by simp[Q]
   have i:=Hb.out;rw[Vr Q,Qc] at i;have J:=Z1 i;have H0:=Z1 (RowsAt.at_ h s);clear Q i h;go_enter func156,ntmps156;go_wp2_with (fail);refine(a1u _ A n c l a.parent hl hn H0.out).mono ?_;rintro e w4 ⟨rfl,L⟩;obtain⟨a8,a9⟩:=bcell L;have a5:=L.size;simp at a5;have a6:w.heap.size<w4.heap.size:=oM;have S:=s.trans (L.mono sP);obtain⟨q,hq⟩:=eX (Ch.found l a.parent);rw[<- hq] at J⊢;clear hq;have O:=S.alloc S.size (.cells q 113)
   by_cases T:Ch.has l a.parent=true
   ·rw[T] at J⊢
    by_cases E:q.code=a.code
    ·have a0:(q.code != a.code)=false:=by simp[E]
     have i:=J.out;simp only[E,Q5,Kh,JM,Yc,Zm] at i;have I:=Z1 i;clear i E T;go_wp2;go_ret;exact⟨by rw[I.out];rfl,O⟩
    ·have a0:(q.code != a.code)=true:=by simp[E]
     have i:=J.out;simp only[E,Q5,Kg,QN,Y7] at i;have I:=Z1 i;clear i E T;go_wp2;go_ret;exact⟨by rw[I.out];rfl,O⟩
   ·have W:Ch.has l a.parent=false:=by simpa using T
    rw[W] at J⊢;have i:=J.out;simp only[Zm] at i;have I:=Z1 i;clear i T W;go_wp2;go_ret;exact⟨by rw[I.out];rfl,O⟩
theorem a3P (A) (n c) (l) (a:Acc) (gr:Bool) (hl:l.length=n) (hn:n<=100000) (av:∀a∈l,a.wf) (ao:a∈l) (h:AccsAt w w A l) :
  Calls prog 257 #[.slice A n c,a,gr] w (ProperPost gr l a w):=by
 have J:=(VM w w).alloc lR (.cells a 113);obtain⟨ai,Hw,az⟩:=Z3 av (av a ao) ao;clear av ao
 by_cases h1:a.code<1
 ·have I:=Z1 (a0M (gr:=gr) (l:=l) (a:=a) (.inl h1))
  clear h;go_enter func257,ntmps257;go_wp2;go_ret;exact⟨J,false,rfl,.inl ⟨I.out,rfl⟩⟩
 by_cases h2:99999<a.code
 ·have I:=Z1 (a0M (gr:=gr) (l:=l) (a:=a) (.inr (.inl h2)))
  clear h;go_enter func257,ntmps257;go_wp2;go_ret;exact⟨J,false,rfl,.inl ⟨I.out,rfl⟩⟩
 by_cases h3:a.kind<1
 ·have I:=Z1 (a0M (gr:=gr) (l:=l) (a:=a) (.inr (.inr (.inl h3))))
  clear h;go_enter func257,ntmps257;go_wp2;go_ret;exact⟨J,false,rfl,.inl ⟨I.out,rfl⟩⟩
 by_cases h4:5<a.kind
 ·have I:=Z1 (a0M (gr:=gr) (l:=l) (a:=a) (.inr (.inr (.inr (.inl h4)))))
  clear h;go_enter func257,ntmps257;go_wp2;go_ret;exact⟨J,false,rfl,.inl ⟨I.out,rfl⟩⟩
 cases gr
 ·by_cases h5:a.basis=0
  ·have b2:(a.basis != 0)=false:=by simp[h5]
   have Hb:=Z1 (a1y (gr:=false) (l:=l) h1 h2 h3 h4 (by simp[h5]));clear h5
   by_cases h0:a.parent=0
   ·have ar:(a.parent==0)=true:=by simp[h0]
    have i:=Hb.out;rw[VT h0,QX] at i;have S:=Z1 i;have aj:=Z1 h0;clear h0 i h;go_enter func257,ntmps257;go_wp2;go_ret;exact⟨J,true,rfl,.inr (.inl ⟨S.out,aj.out,rfl⟩)⟩
   ·have ar:(a.parent==0)=false:=by simp[h0]
    have i:=Hb.out;rw[Vr h0,Qc] at i;have S:=Z1 i;have H0:=Z1 (RowsAt.at_ h J);clear h0 i h;go_enter func257,ntmps257;go_wp2_with (fail);refine(a0Q _ A n c l a.parent hl hn H0.out).mono ?_;rintro e w4 ⟨rfl,T⟩;obtain⟨b3,b4⟩:=bcell T;have ax:=T.size;simp at ax;have b1:w.heap.size<w4.heap.size:=oM;have af:=J.trans (T.mono sP);have h4:=RowsAt.at_ H0.out T;obtain⟨q,hq⟩:=eX (Ch.found l a.parent);rw[<- hq] at S⊢;clear hq;have Q:=af.alloc af.size (.cells q 113)
    by_cases hh:Ch.has l a.parent=true
    ·rw[hh] at S⊢
     by_cases E:q.code=a.code
     ·have al:(q.code==a.code)=true:=by simp[E]
      have i:=S.out;simp only[E,Q5,Kh,JM,Yc,Zm] at i;have s:=Z1 i;clear i E hh h4;go_wp2;go_ret;exact⟨Q,false,rfl,.inl ⟨s.out,rfl⟩⟩
     ·have al:(q.code==a.code)=false:=by simp[E]
      by_cases O:q.kind=a.kind
      ·have am:(q.kind != a.kind)=false:=by simp[O]
       have i:=S.out;simp only[E,O,Q5,Kg,QN,Y7] at i;have s:=Z1 i;have a8:=RowsAt.at_ h4 ((VM w4 w4).alloc lR (.cells q 113));clear i E O hh h4;go_wp2_with (fail);refine(a5a _ A n c l a.code hl hn Hw.out.1 ai.out a8).mono ?_;rintro e w5 ⟨ab,p,x,A5,n5,c5,rfl,au,hu,W,ap⟩;have a0:=Q.trans (ab.mono Q.size)
       have a6:0<p.length:=by
        rcases hu.start with⟨e1,e2⟩|hm
        ·obtain⟨b,hf⟩:=Ch.find_mem az.out
         rcases W with W|W
         ·rw[e2,hf] at W;cases W
         ·rw[e1] at W;cases W
        ·exact Jc hm
       obtain⟨b6,X,ah⟩:=hu.last a6;obtain⟨bk,o,rfl,b0,a9⟩:=ap.look (show p.length-1<p.length by omega)
       have aw:(Lit.int .i64 (p[p.length-1]' oM)).wf=true:=by
        rw[<- (Ch.find_some X).2];exact(ai.out b6 (Ch.find_some X).1).1
       have ad:Hid (Ch.found l (p[p.length-1]' oM)=b6):=by show _=_;unfold Ch.found;rw[X];rfl
       obtain⟨ay,a5⟩:=eX (p[p.length-1]' oM);rw[<- a5] at a9 ad;have Hu:=Z1 hu;have HE:=Z1 W;have aq:n5=p.length-1+1:=oM;subst aq;have aa:=Z1 ah;have an:((p.length-1:Nat):Int)=(p.length:Int)-1:=oM;have h6:=RowsAt.at_ a8 ab;clear hu W X ah a5 au aw;obtain⟨m,hm⟩:=eX (p.length-1);rw[<- hm] at a9⊢;have b5:m<=100000:=by have:=Hu.out.length;omega
       clear hm an a6;go_wp2_with (fail);refine(a0Q w5 A n c l ay hl hn h6).mono ?_;rintro e w6 ⟨rfl,ak⟩;rw[ad.out];have a4:=a0.trans (ak.mono a0.size);have ac:=a4.alloc a4.size (.cells b6 113);clear a9 a8 h6
       by_cases L:b6.parent=0
       ·have ae:(b6.parent==0)=true:=by simp[L]
        have a7:=Z1 L;clear L;go_wp2;go_ret;exact⟨ac,true,rfl,.inr (.inr ⟨s.out,p,x,Hu.out,HE.out,by rw[<- aa.out,a7.out];rfl⟩)⟩
       ·have ae:(b6.parent==0)=false:=by simp[L]
        have a7:=Z1 L;clear L;go_wp2;go_ret;exact⟨ac,false,rfl,.inr (.inr ⟨s.out,p,x,Hu.out,HE.out,by rw[Vr (by rw[<- aa.out];exact a7.out)]⟩)⟩
      ·have am:(q.kind != a.kind)=true:=by simp[O]
       have i:=S.out;simp only[O,JM,Yc] at i;have s:=Z1 i;clear i E O hh h4;go_wp2;go_ret;exact⟨Q,false,rfl,.inl ⟨s.out,rfl⟩⟩
    ·have ag:Ch.has l a.parent=false:=by simpa using hh
     rw[ag] at S⊢;have i:=S.out;simp only[Zm] at i;have s:=Z1 i;clear i hh ag h4;go_wp2;go_ret;exact⟨Q,false,rfl,.inl ⟨s.out,rfl⟩⟩
  ·have b2:(a.basis != 0)=true:=by simp[h5]
   have I:=Z1 (a0M (gr:=false) (l:=l) (a:=a) (.inr (.inr (.inr (.inr (.inr ⟨rfl,h5⟩))))));clear h5 h;go_enter func257,ntmps257;go_wp2;go_ret;exact⟨J,false,rfl,.inl ⟨I.out,rfl⟩⟩
 ·by_cases h5:a.basis<1
  ·have I:=Z1 (a0M (gr:=true) (l:=l) (a:=a) (.inr (.inr (.inr (.inr (.inl ⟨rfl,.inl h5⟩))))))
   clear h;go_enter func257,ntmps257;go_wp2;go_ret;exact⟨J,false,rfl,.inl ⟨I.out,rfl⟩⟩
  by_cases h6:3<a.basis
  ·have I:=Z1 (a0M (gr:=true) (l:=l) (a:=a) (.inr (.inr (.inr (.inr (.inl ⟨rfl,.inr h6⟩))))))
   clear h;go_enter func257,ntmps257;go_wp2;go_ret;exact⟨J,false,rfl,.inl ⟨I.out,rfl⟩⟩
  have Hb:=Z1 (a1y (gr:=true) (l:=l) h1 h2 h3 h4 sO)
  by_cases h0:a.parent=0
  ·have ar:(a.parent==0)=true:=by simp[h0]
   have i:=Hb.out;rw[VT h0,QX] at i;have S:=Z1 i;have aj:=Z1 h0;clear h0 i h;go_enter func257,ntmps257;go_wp2;go_ret;exact⟨J,true,rfl,.inr (.inl ⟨S.out,aj.out,rfl⟩)⟩
  ·have ar:(a.parent==0)=false:=by simp[h0]
   have i:=Hb.out;rw[Vr h0,Qc] at i;have S:=Z1 i;have H0:=Z1 (RowsAt.at_ h J);clear h0 i h;go_enter func257,ntmps257;go_wp2_with (fail);refine(a0Q _ A n c l a.parent hl hn H0.out).mono ?_;rintro e w4 ⟨rfl,T⟩;obtain⟨b3,b4⟩:=bcell T;have ax:=T.size;simp at ax;have b1:w.heap.size<w4.heap.size:=oM;have af:=J.trans (T.mono sP);have h4:=RowsAt.at_ H0.out T;obtain⟨q,hq⟩:=eX (Ch.found l a.parent);rw[<- hq] at S⊢;clear hq;have Q:=af.alloc af.size (.cells q 113)
   by_cases hh:Ch.has l a.parent=true
   ·rw[hh] at S⊢
    by_cases E:q.code=a.code
    ·have al:(q.code==a.code)=true:=by simp[E]
     have i:=S.out;simp only[E,Q5,Kh,JM,Yc,Zm] at i;have s:=Z1 i;clear i E hh h4;go_wp2;go_ret;exact⟨Q,false,rfl,.inl ⟨s.out,rfl⟩⟩
    ·have al:(q.code==a.code)=false:=by simp[E]
     by_cases O:q.kind=a.kind
     ·have am:(q.kind != a.kind)=false:=by simp[O]
      have i:=S.out;simp only[E,O,Q5,Kg,QN,Y7] at i;have s:=Z1 i;have a8:=RowsAt.at_ h4 ((VM w4 w4).alloc lR (.cells q 113));clear i E O hh h4;go_wp2_with (fail);refine(a5a _ A n c l a.code hl hn Hw.out.1 ai.out a8).mono ?_;rintro e w5 ⟨ab,p,x,A5,n5,c5,rfl,au,hu,W,ap⟩;have a0:=Q.trans (ab.mono Q.size)
      have a6:0<p.length:=by
       rcases hu.start with⟨e1,e2⟩|hm
       ·obtain⟨b,hf⟩:=Ch.find_mem az.out
        rcases W with W|W
        ·rw[e2,hf] at W;cases W
        ·rw[e1] at W;cases W
       ·exact Jc hm
      obtain⟨b6,X,ah⟩:=hu.last a6;obtain⟨bk,o,rfl,b0,a9⟩:=ap.look (show p.length-1<p.length by omega)
      have aw:(Lit.int .i64 (p[p.length-1]' oM)).wf=true:=by
       rw[<- (Ch.find_some X).2];exact(ai.out b6 (Ch.find_some X).1).1
      have ad:Hid (Ch.found l (p[p.length-1]' oM)=b6):=by show _=_;unfold Ch.found;rw[X];rfl
      obtain⟨ay,a5⟩:=eX (p[p.length-1]' oM);rw[<- a5] at a9 ad;have Hu:=Z1 hu;have HE:=Z1 W;have aq:n5=p.length-1+1:=oM;subst aq;have aa:=Z1 ah;have an:((p.length-1:Nat):Int)=(p.length:Int)-1:=oM;have h6:=RowsAt.at_ a8 ab;clear hu W X ah a5 au aw;obtain⟨m,hm⟩:=eX (p.length-1);rw[<- hm] at a9⊢;have b5:m<=100000:=by have:=Hu.out.length;omega
      clear hm an a6;go_wp2_with (fail);refine(a0Q w5 A n c l ay hl hn h6).mono ?_;rintro e w6 ⟨rfl,ak⟩;rw[ad.out];have a4:=a0.trans (ak.mono a0.size);have ac:=a4.alloc a4.size (.cells b6 113);clear a9 a8 h6
      by_cases L:b6.parent=0
      ·have ae:(b6.parent==0)=true:=by simp[L]
       have a7:=Z1 L;clear L;go_wp2;go_ret;exact⟨ac,true,rfl,.inr (.inr ⟨s.out,p,x,Hu.out,HE.out,by rw[<- aa.out,a7.out];rfl⟩)⟩
      ·have ae:(b6.parent==0)=false:=by simp[L]
       have a7:=Z1 L;clear L;go_wp2;go_ret;exact⟨ac,false,rfl,.inr (.inr ⟨s.out,p,x,Hu.out,HE.out,by rw[Vr (by rw[<- aa.out];exact a7.out)]⟩)⟩
     ·have am:(q.kind != a.kind)=true:=by simp[O]
      have i:=S.out;simp only[O,JM,Yc] at i;have s:=Z1 i;clear i E O hh h4;go_wp2;go_ret;exact⟨Q,false,rfl,.inl ⟨s.out,rfl⟩⟩
   ·have ag:Ch.has l a.parent=false:=by simpa using hh
    rw[ag] at S⊢;have i:=S.out;simp only[Zm] at i;have s:=Z1 i;clear i hh ag h4;go_wp2;go_ret;exact⟨Q,false,rfl,.inl ⟨s.out,rfl⟩⟩
def GoodAt (gr:Bool) (l:List Acc) (i:Nat):Prop :=
 Ch.basic gr l (Ch.at_ l i)/\(i=0∨(Ch.at_ l (i-1)).code<(Ch.at_ l i).code) /\
  ((Ch.at_ l i).parent=0∨∃p,Ch.Up l (Ch.at_ l i).code p 0/\Ch.Ends l p 0)
def BadAt (gr:Bool) (l:List Acc) (i:Nat):Prop :=
 Ch.basic gr l (Ch.at_ l i)=false∨(0<i/\(Ch.at_ l i).code<=(Ch.at_ l (i-1)).code)∨∃p c,Ch.Up l (Ch.at_ l i).code p c/\Ch.Ends l p c/\c≠0
theorem a6T {gr} {l} (h:Ch.valid gr l):l.length<=200/\∀i,i<l.length->Ch.okAt gr l i:=by
 unfold Ch.valid at h;simp only[Vp,Xm] at h;refine⟨h.1,fun i a=>?_⟩;exact Xb.1 h.2 i (XK.2 a)
theorem a6M {gr} {l} (h:∀i,i<l.length->Ch.basic gr l (Ch.at_ l i)):∀a∈l,Ch.basic gr l a:=by
 intro a s;obtain⟨i,o,rfl⟩:=XD s;have:=h i o
 rwa [Ch.at_lt o] at this
theorem a5e {l} {i} (h:i<l.length):Ch.at_ l i∈l:=by rw[Ch.at_lt h];exact Vm h
theorem a4p {gr} {l} {i} (o:i<l.length) (h:BadAt gr l i):Ch.valid gr l=false:=by
 cases hv:Ch.valid gr l with
 |false=>rfl
 |true =>
  exfalso;obtain⟨_,J⟩:=a6T hv
  have I:∀j,j<l.length->Ch.basic gr l (Ch.at_ l j):=fun j O=>by
   have:=J j O;unfold Ch.okAt at this;simp only[Vp] at this;exact this.1.1
  have a:=J i o;unfold Ch.okAt at a;simp only[Vp,QK,Xm] at a
  rcases h with h|⟨s,E⟩|⟨p,c,s,E,L⟩
  ·rw[I i o] at h;cases h
  ·omega
  ·exact L ((Ch.top_iff (a6M I) (a5e o) s E).2 a.2)
theorem a5A {l:List Acc} (o:∀i,i<l.length->i=0∨(Ch.at_ l (i-1)).code<(Ch.at_ l i).code):∀(d i:Nat),i+d+1<l.length->(Ch.at_ l i).code<(Ch.at_ l (i+d+1)).code
 |0,i,h=>by
  rcases o (i+1) h with a|a
  ·omega
  ·simpa using a
 |d+1,i,h=>by
  have a:=a5A o d i oM
  rcases o (i+(d+1)+1) h with s|s
  ·omega
  ·have:i+(d+1)+1-1=i+d+1:=oM
   rw[this] at s;omega
theorem b0T {l} (J:∀i,i<l.length->i=0∨(Ch.at_ l (i-1)).code<(Ch.at_ l i).code) {a} (o:a∈l):Ch.find l a.code=some a:=by
 obtain⟨b,s⟩:=Ch.find_mem o;obtain⟨L,O⟩:=Ch.find_some s;obtain⟨i,E,rfl⟩:=XD o;obtain⟨j,I,rfl⟩:=XD L
 have e:i=j:=by
  rcases Kz i j with h|h|h
  ·have:=a5A J (j-i-1) i oM
   rw[show i+(j-i-1)+1=j by omega,Ch.at_lt E,Ch.at_lt I] at this;omega
  ·exact h
  ·have:=a5A J (i-j-1) j oM
   rw[show j+(i-j-1)+1=i by omega,Ch.at_lt E,Ch.at_lt I] at this;omega
 subst e;exact s
theorem a9e {gr} {l} (h:∀i,i<l.length->GoodAt gr l i):Ch.valid gr l=decide (l.length<=200):=by
 have Q:∀j,j<l.length->Ch.basic gr l (Ch.at_ l j):=fun j J=>(h j J).1;have s:=a6M Q;unfold Ch.valid;rw[Ch.all_of (fun i I=>?_),Qn];obtain⟨L,a,o⟩:=h i I
 have E:Ch.climb l (l.length+1) (Ch.at_ l i).code<=l.length:=by
  rcases o with o|⟨p,o,O⟩
  ·have W:=b0T (fun j J=>(h j J).2.1) (a5e I)
   have hn:Ch.find l 0=none:=by
    cases T:Ch.find l 0 with
    |none=>rfl
    |some b =>
     obtain⟨X,S⟩:=Ch.find_some T;have:=s b X;rw[Ch.basic,S] at this;simp at this
   simp only[Ch.climb,W,o,Ch.climb_none hn];omega
  ·exact(Ch.top_iff s (a5e I) o O).1 rfl
 unfold Ch.okAt;rw[L,VT E]
 rcases a with a|a
 ·simp[a]
 ·simp[a]
theorem a0T {w:World} {b} {cs} {t} {fr} (h:w.heap[b]?=some (.cells cs.toArray t fr)):w.rangeAt b 0 cs:=by
 intro j v a;rw[VN,cr9 _ h];simpa using a
theorem VK {a b} {C B o} {cs} (h:a.rangeAt B o cs) (s:Below C a b) (i:B<C):b.rangeAt B o cs:=fun j v E=>(s.cell (p:=⟨B,_,none⟩) i).trans (h j v E)
theorem a2V (A) (n c) (l) (gr:Bool) (hl:l.length=n) (hn:n<=100000) (aj:∀a∈l,a.wf) (h:AccsAt w w A l) :
  CL 214 #[.slice A n c,gr] w (Ch.valid gr l):=by
 subst hl;have ac:=Z1 aj;clear aj;go_enter func214,ntmps214;go_wp2
 go_loopw [9] (fun i wr=>∃k:Nat,k<=l.length/\i=k/\(∀i,i<k->GoodAt gr l i)/\Below w w wr) (fun i _=>l.length-(intOf i).toNat)
 case atStart=>exact⟨0,Vb _,rfl,fun i hi=>oM,bR⟩
 case round =>
  obtain⟨k,hk,rfl,hg,hb⟩:=hrel;have Hg:=Z1 hg;clear hg
  by_cases W:k<l.length
  ·obtain⟨b,o,rfl,am,c0,c1,c2,c3⟩:=AccsAt.four (RowsAt.below h hb lR) W
   have ar:b<wr.heap.size:=Xg am hb.size;obtain⟨Q,ad,al,ai,ay⟩:=nw1 wr (l[k]) 113;have HW:=Z1 ad;have E:=hb.trans (al.mono hb.size);have a8:=RowsAt.below h E lR;have s:Below Q Q Q.drew:=Vw bR 1;have a5:wr.heap.size<Q.heap.size:=Vq ai;have ah:b<Q.heap.size:=oM;have hx:=a0T (cs:=(l[k])) ai;have a6:=Z1 (Vm W);have X:=Z1 (Ch.at_lt W);have au:(0:Int)<=(k:Int):=oM;clear ad;go_upto_region 4 with(fail);rw[<- HW];clear c1 c2 c3
   by_cases hz:k=0
   ·have ao:¬ (0:Int)<(k:Int):=oM
    have a0:Hid (k=0∨(Ch.at_ l (k-1)).code<l[k].code):=.inl hz;have Hz:=Z1 hz;clear hz;refine Vs (S:=Below Q Q) kR ?_;change wpAnyH _ _ _ _ _ _ _ _ (World.drew _);refine jT 0 s ?_;refine jT 1 s ?_ (v:=.bool false) (hy:=(.inl ⟨by rfl,fun W' L=>by go_simp;exact Hz⟩));refine jT 2 s ?_ (v:=.bool false);refine jT 3 s ?_;refine jT 4 s ?_;refine jT 5 s ?_;refine jT 6 s ?_;refine jT 7 s ?_;refine jT 8 s ?_;refine jT 9 s ?_;refine jT 10 s ?_;refine jT 11 s ?_;refine jT 12 s ?_ (v:=.bool false);refine jT 13 s ?_ (v:=.bool false);refine jT 14 s ?_;refine jT 15 s ?_ (v:=(l[k])) (hy:=(Vf (by rfl) 113 _ rfl wr.heap.size 0 rfl (l[k]) _ (fun W' L=>VK hx L a5) YK rfl a0F));refine jT 16 s ?_ (v:=.bool gr);refine rZ 17 fun K hK=>?_;go_simp;refine(a3P Q.drew (some ⟨b,o,none⟩) l.length c l l[k] gr rfl hn ac a6 ((RowsAt.below a8 s (by have:=E.size;omega)).more (by have:=E.size;show _<=Q.heap.size;omega))).mono ?_;rintro e W2 ⟨a9,q,rfl,hq⟩;have I:Below Q Q W2:=s.trans (a9.mono lR);refine jK hK I ?_;clear hK K
    cases q
    ·skip
     refine jT 18 I ?_ (v:=.bool true);refine jT 19 I ?_ (v:=.bool true);refine VF kR ?_ _
     have J:BadAt gr l k:=by
      rw[BadAt,X]
      rcases hq with⟨T,_⟩|⟨_,_,h3⟩|⟨_,p,cc,h3,h4,h5⟩
      ·exact .inl T
      ·cases h3
      ·exact .inr (.inr ⟨p,cc,h3,h4,by simpa using h5.symm⟩)
     have Hf:=Z1 (a4p W J);clear J hq;go_wp2;go_ret;exact⟨by rw[Hf];rfl,E.trans (I.mono E.size)⟩
    ·skip
     refine jT 18 I ?_ (v:=.bool false);refine jT 19 I ?_ (v:=.bool false);refine VF kR ?_ _
     have O:GoodAt gr l k:=by
      rw[GoodAt,X];refine⟨?_,a0,?_⟩
      ·rcases hq with⟨_,h2⟩|⟨T,_⟩|⟨T,_⟩
       ·cases h2
       ·exact T
       ·exact T
      ·rcases hq with⟨_,h2⟩|⟨_,h2,_⟩|⟨_,p,cc,h3,h4,h5⟩
       ·cases h2
       ·exact .inl h2
       ·have h6:cc=0:=by simpa using h5.symm
        subst h6;exact .inr ⟨p,h3,h4⟩
     have HG:Hid (∀i,i<k+1->GoodAt gr l i):=by
      show∀i,_->_;intro i hi
      rcases Zn i k with T|T
      ·exact Hg i T
      ·obtain rfl:i=k:=oM
       exact O
     clear O hq;go_wp2;go_roundw
     case rel=>exact⟨k+1,oM,by go_num,HG,E.trans (I.mono E.size)⟩
     case measure=>exact mS
   ·have ao:(0:Int)<(k:Int):=oM
    obtain⟨m,hm⟩:=eX (k-1);have ae:(k:Int)-1=(m:Int):=oM;have af:m<l.length:=oM;have aw:(m:Int)<(l.length:Int):=oM;have av:(0:Int)<=(m:Int):=oM;have ax:IntKind.i64.wrap ((k:Int)-1)=(m:Int):=by rw[ae];exact QG _ oM
    obtain⟨b',o',ak,_,aa,_⟩:=AccsAt.four a8 af
    cases ak
    have ab:Hid (Ch.at_ l (k-1)=l[m]):=by show _=_;rw[<- hm];exact Ch.at_lt af
    obtain⟨pc,a4⟩:=eX (l[m].code);rw[<- a4] at aa;have a7:=Z1 a4;have ap:0<k:=oM;clear hm ae hz a4
    by_cases ag:pc<l[k].code
    ·have aq:¬ l[k].code<=pc:=oM
     have a0:Hid (k=0∨(Ch.at_ l (k-1)).code<l[k].code):=.inr (by rw[ab,<- a7];exact ag);refine Vs (S:=Below Q Q) kR ?_;change wpAnyH _ _ _ _ _ _ _ _ (World.drew _);refine jT 0 s ?_;refine jT 1 s ?_ (v:=.bool true);refine jT 2 s ?_ (v:=.bool true);refine jT 3 s ?_;refine jT 4 s ?_;refine jT 5 s ?_;refine jT 6 s ?_;refine jT 7 s ?_;refine jT 8 s ?_ (v:=.int .i64 pc) (hy:=(.inl ⟨by rfl,fun W' L=>by have hc:=(L.cell (p:=⟨b,o+m*4,none⟩) ah).trans aa;go_simp⟩));refine jT 9 s ?_;refine jT 10 s ?_ (v:=.int .i64 l[k].code) (hy:=(.inl ⟨by rfl,fun W' L=>by have hc:=(L.cell (p:=⟨wr,0,none⟩) a5).trans (hx 0 _ rfl);go_simp⟩));refine jT 11 s ?_ (v:=.bool false);refine jT 12 s ?_ (v:=.bool false);refine jT 13 s ?_ (v:=.bool false);refine jT 14 s ?_;refine jT 15 s ?_ (v:=(l[k])) (hy:=(Vf (by rfl) 113 _ rfl wr.heap.size 0 rfl (l[k]) _ (fun W' L=>VK hx L a5) YK rfl a0F));refine jT 16 s ?_ (v:=.bool gr);refine rZ 17 fun K hK=>?_;go_simp;refine(a3P Q.drew (some ⟨b,o,none⟩) l.length c l l[k] gr rfl hn ac a6 ((RowsAt.below a8 s (by have:=E.size;omega)).more (by have:=E.size;show _<=Q.heap.size;omega))).mono ?_;rintro e W2 ⟨a9,q,rfl,hq⟩;have I:Below Q Q W2:=s.trans (a9.mono lR);refine jK hK I ?_;clear hK K
     cases q
     ·skip
      refine jT 18 I ?_ (v:=.bool true);refine jT 19 I ?_ (v:=.bool true);refine VF kR ?_ _
      have J:BadAt gr l k:=by
       rw[BadAt,X]
       rcases hq with⟨T,_⟩|⟨_,_,h3⟩|⟨_,p,cc,h3,h4,h5⟩
       ·exact .inl T
       ·cases h3
       ·exact .inr (.inr ⟨p,cc,h3,h4,by simpa using h5.symm⟩)
      have Hf:=Z1 (a4p W J);clear J hq;go_wp2;go_ret;exact⟨by rw[Hf];rfl,E.trans (I.mono E.size)⟩
     ·skip
      refine jT 18 I ?_ (v:=.bool false);refine jT 19 I ?_ (v:=.bool false);refine VF kR ?_ _
      have O:GoodAt gr l k:=by
       rw[GoodAt,X];refine⟨?_,a0,?_⟩
       ·rcases hq with⟨_,h2⟩|⟨T,_⟩|⟨T,_⟩
        ·cases h2
        ·exact T
        ·exact T
       ·rcases hq with⟨_,h2⟩|⟨_,h2,_⟩|⟨_,p,cc,h3,h4,h5⟩
        ·cases h2
        ·exact .inl h2
        ·have h6:cc=0:=by simpa using h5.symm
         subst h6;exact .inr ⟨p,h3,h4⟩
      have HG:Hid (∀i,i<k+1->GoodAt gr l i):=by
       show∀i,_->_;intro i hi
       rcases Zn i k with T|T
       ·exact Hg i T
       ·obtain rfl:i=k:=oM
        exact O
      clear O hq;go_wp2;go_roundw
      case rel=>exact⟨k+1,oM,by go_num,HG,E.trans (I.mono E.size)⟩
      case measure=>exact mS
    ·have an:l[k].code<=pc:=oM
     have J:BadAt gr l k:=.inr (.inl ⟨ap,by rw[X,ab,<- a7];exact an⟩);have Hf:=Z1 (a4p W J);clear J;refine Vs (S:=Below Q Q) kR ?_;change wpAnyH _ _ _ _ _ _ _ _ (World.drew _);refine jT 0 s ?_;refine jT 1 s ?_ (v:=.bool true);refine jT 2 s ?_ (v:=.bool true);refine jT 3 s ?_;refine jT 4 s ?_;refine jT 5 s ?_;refine jT 6 s ?_;refine jT 7 s ?_;refine jT 8 s ?_ (v:=.int .i64 pc) (hy:=(.inl ⟨by rfl,fun W' L=>by have hc:=(L.cell (p:=⟨b,o+m*4,none⟩) ah).trans aa;go_simp⟩));refine jT 9 s ?_;refine jT 10 s ?_ (v:=.int .i64 l[k].code) (hy:=(.inl ⟨by rfl,fun W' L=>by have hc:=(L.cell (p:=⟨wr,0,none⟩) a5).trans (hx 0 _ rfl);go_simp⟩));refine jT 11 s ?_ (v:=.bool true);refine jT 12 s ?_ (v:=.bool true);refine jT 13 s ?_ (v:=.bool true);refine jT 14 s ?_;refine jT 15 s ?_;refine jT 16 s ?_;refine jT 17 s ?_;refine jT 18 s ?_;refine jT 19 s ?_ (v:=.bool true);refine VF kR ?_ _;go_wp2;go_ret;exact⟨by rw[Hf];rfl,E.trans (s.mono E.size)⟩
  ·obtain rfl:k=l.length:=oM
   have hf:=Z1 (a9e Hg);clear h;go_wp2;go_ret;exact⟨VV (by rw[hf.out];rw[XX];simp;omega),hb⟩
open Go.ChangeShapes Go.WideShapes Go.ChangeAt
abbrev laid3 : List (String × DataW Unit) := [("math/bits.deBruijn32tab", Rows.laid_math_bits_deBruijn32tab), ("math/bits.deBruijn64tab", Rows.laid_math_bits_deBruijn64tab), ("internal/strconv.uint64pow10", Rows.laid_internal_strconv_uint64pow10)]
theorem b3a (os:Os) (args):laidMetH Tryz.prog laid3 ((World.doorLaid Tryz.prog 24 os).forCall (fun _ _=>0) ⟨#[],args,[]⟩).memory:=by
 rw[MakeChecks.laidMetH_plain _ _ _ kR];exact laidMet_of_run' 8 kR kR
theorem b2a : (Tryz.prog.globalNamed "internal/strconv.uint64pow10").map (fun g => (Tryz.prog.globals[g]?).map (·.type)) = some (some 326) := by kernel_rfl
theorem b2b:(Rows.laid_internal_strconv_uint64pow10:DataW Unit)=Lib.tabData .u64 Lib.pow10Tab:=by rfl
theorem a6W {W} (h : laidMetH Tryz.prog laid3 W) : Lib.TabIs Tryz.prog W "internal/strconv.uint64pow10" .u64 Lib.pow10Tab := by
 rw[MakeChecks.laidMetH_plain _ _ _ kR] at h;obtain⟨ps,⟨L,t0,E,f0,S,q0,_,_,_,_,⟨O,t1,I,f1,T,q1,_,_,_,_,⟨Q,t2,J,f2,X,q2,i,o,s,a,_,_⟩,_⟩,_⟩,_,_⟩:=h;have e:=b2a;rw[i] at e;simp only[JR,Option.some.injEq] at e;obtain rfl:=XV (e.symm.trans o);rw[b2b] at a;unfold Lib.TabIs;rw[s,<- Lib.cells_of_tab Tryz.underlying326 Tryz.underlying119 kR kR a]
end Go.Proofs.YtbhdekahdnenjaaGreatDoor
