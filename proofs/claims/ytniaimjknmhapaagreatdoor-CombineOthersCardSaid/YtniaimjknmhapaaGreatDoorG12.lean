/- My texts ChartUp, ChartP, ChartV, LaidT. -/
import Derived.IntWalk
import Derived.Test.YtniaimjknmhapaaGreatDoorRows
import Derived.LaidMore
import Derived.LaidLaws
import Derived.OpenShut
import Derived.Test.YtniaimjknmhapaaGreatDoorG11
set_option linter.unusedVariables false
set_option linter.unusedSimpArgs false
set_option maxRecDepth 100000
set_option maxHeartbeats 16000000
namespace Go.Proofs.YtniaimjknmhapaaGreatDoor
open Go.Proofs.Tryz Go.RowKit

def ClimbPost (l:List Acc) (code:Int) (w:World) (e:Ending) (w':World):Prop :=
 Below w w w'/\∃(p:List Int) (c:Int) (A:Option Addr) (n cap:Nat),e=.returned (.slice A n cap)/\p.length=n/\Ch.Up l code p c/\Ch.Ends l p c/\LimbsAt .i64 w' w' A p
def UpRel (l:List Acc) (code:Int) (w:World) (t:Nat) (s1 s5:Value) (wr:World):Prop :=
 ∃(p:List Int) (c:Int),s1=.int .i64 c/\(Lit.int .i64 c).wf=true/\Ch.Up l code p c/\wr.ownsRow (w.heap.size+1) 3 1 s5 p.length (p.map (Value.int .i64))/\SetAt wr w p/\Below w w wr/\t=l.length-p.length
theorem b1y {l:List Acc} {c:Int} (h:Ch.has l c=true):Ch.find l c=some (Ch.found l c):=by
 unfold Ch.has at h;unfold Ch.found
 cases hf:Ch.find l c with
 | none=>rw [hf] at h;cases h
 | some a=>rfl
theorem b1z {l:List Acc} {c:Int} (h:Ch.has l c=false):Ch.find l c=none:=by
 unfold Ch.has at h
 cases hf:Ch.find l c with
 | none=>rfl
 | some a=>rw [hf] at h;cases h
theorem a9d {a b:World} {C base:Nat} {e:TypeId} {size n:Nat} {v:Value} {xs:List Value} (h:a.ownsRow base e size v n xs) (hb:Below C a b) (hC:a.heap.size<=C):b.ownsRow base e size v n xs:=by
 refine⟨h.1,?_⟩
 rcases h.2 with h2 | ⟨g,cap,cur,h1,h3,h4,h5⟩
 ·exact .inl h2
 ·exact .inr ⟨g,cap,cur,h1,h3,(hb.block g (Nat.lt_of_lt_of_le (Array.getElem?_eq_some_iff.1 h4).1 hC)).trans h4,h5⟩
section
variable (w:World)
theorem a4I (A:Option Addr) (n c:Nat) (l:List Acc) (code:Int) (hl:l.length=n) (hn:n<=100000) (hc:(Lit.int .i64 code).wf=true) (hwf:∀ a∈l,a.wf) (h:AccsAt w w A l) :
  Calls prog 313 #[.slice A n c,code] w (ClimbPost l code w):=by
 have hmm:=@run_makeMap prog;obtain⟨i0,hi,hz0,hz1,hz2⟩:=info_parts (show(prog.info? 3).map (fun i=>(i.zero,i.size,i.bytes))=some (some (.int .i64 0),1,8) by kernel_rfl);have hB0:=(Below.refl w w).alloc lR (.map #[] 0);go_enter func313,ntmps313;go_wp2
 go_step3
 go_wp2
 go_step3
 go_wp2
 go_loopg [1,5] l.length (fun t s1 s5 wr=>UpRel l code w t s1 s5 wr)
 case atStart=>exact⟨[],code,rfl,hc,.nil,World.ownsRow_nil _ _ _ _,SetAt.made w,hB0,sP⟩
 case round =>
  obtain⟨p,x,rfl,hx,hup,hown,hset,hb,rfl⟩:=hrel;have Hup:=Z1 hup;have hgr:=hset.lt;have hpl:=hup.length;have hol:=Z1 hown.lt;clear hup hmm;go_wp2_with (fail);refine(a0M wr A n c l x hl hn ((h.below hb lR).more hb.size)).mono ?_;rintro e w4 ⟨rfl,hB4⟩;have hb4:=hb.trans (hB4.mono hb.size);have hz4:=hB4.size;have hset4:=hset.below hB4 hgr;have hown4:=a9d hown hB4 lR;obtain⟨q,hq⟩:∃ q,q=Ch.found l x:=⟨_,rfl⟩;rw [<- hq];have Hq:=Z1 hq;have hb5:=hb4.alloc hb4.size (.cells q 87);have hset5:=hset4.alloc (.cells q 87);have hown5:=hown4.alloc (.cells q 87);have hlk:=hset5.look x hx;have hg4:w.heap.size<w4.heap.size:=oM;clear hq hset hset4 hown hown4
  by_cases hh:Ch.has l x=true
  ·have hf:=b1y hh
   rw [hh]
   by_cases hm:x∈p
   ·have hd:decide (x∈p)=true:=decide_eq_true hm
    rw [hd] at hlk;obtain⟨A5,c5,rfl,hc5,hl5⟩:=a1w hown5 rfl;have Hl5:=Z1 hl5;have hE:Hid (Ch.Ends l p x):=.inr hm;clear hf hm hh hd hown5 hl5;go_wp2;rw [Exit.noGoto_ret];go_ret;exact⟨hb5,p,x,A5,p.length,c5,rfl,rfl,Hup.out,hE.out,Hl5.out⟩
   ·have hd:decide (x∈p)=false:=decide_eq_false hm
    rw [hd] at hlk;obtain⟨f,hfm,hff⟩:=hset5;have hkl:=Maps.keyOf_int_mk (P:=prog) underlying3 hx;have Hff:=Z1 (a7b hff x);have Hup':=Z1 (Hq.out ▸ Ch.Up.snoc Hup.out hf hm);have Hqw:=Z1 (hwf q (by rw [Hq.out];exact(Ch.find_some hf).1)).2.2.2;have Hf2:=Z1 hf;clear hf hm hh hd hff;go_upto_region 6 with(at_mapUpdate;refine Xk rfl _ _ _ rfl hfm intLaw underlying224 rfl (by unfold maxLen;omega) _ _ _ rfl rfl hkl ?_;intro w7 hm7 hg7);have hb7:=hb5.grown hg7 hb5.size (fun j e=>by cases e;exact lR);have hown7:=hown5.kept hg7 (.inr (fun e=>by have:=a0D hown5 _ e;omega));have hrow:=(hg7.block w4 sP (fun e=>by simp at e;omega)).trans (heap_alloc_new w4 (.cells q 87));have hw7:=hb7.size;have hlt7:w4.heap.size<w7.heap.size:=Vq hrow;have x3:=cr9 3 ((Below.heap_alloc w7 (.cells #[x] 3) _ hlt7).trans hrow);simp at x3;have Hnew:=Z1 (a2w (heap_alloc_new w7 (.cells #[x] 3)));have Hown:=Z1 (hown7.alloc (.cells #[x] 3));have Hone:Hid (∀ u∈([Value.int .i64 x]:List Value),u.oneCell'=true):=by show ∀ u∈_,_;simp [Value.oneCell']
    have Hrow:=Z1 hrow;clear hlk hfm hown5;go_upto_region 7 with(at_builtin;refine wpList_append_own _ rfl _ _ 128 rfl (w.heap.size+1) 3 i0 (.int .i64 0) 1 8 underlying128 hi hz0 hz1 hz2 rfl dC _ _ _ rfl Hown.out ⟨w7,0,none⟩ 1 1 [x] rfl rfl Hnew.out Hone.out (by unfold maxLen;omega) oM sO ?_;intro v' w9 hown' hgrow _);have hb9:=(hb7.alloc hb7.size (.cells #[x] 3)).grown hgrow sO (fun q hq=>by have:=a0D hown7 q hq;omega)
    have hset9:SetAt w9 w (p++[x]):=by
     have hM:=(hm7.alloc (.cells #[x] 3)).kept hgrow (fun e=>by have:=a0D hown7 _ e.symm;omega);exact⟨_,by rw [List.length_append];exact hM,Hff.out⟩
    have hr9:=(hgrow.block w4 sO (fun e=>by have:=hol.out _ e.symm;omega)).trans ((Below.heap_alloc w7 (.cells #[x] 3) _ hlt7).trans Hrow.out);have x3:=cr9 3 hr9;simp at x3;have hlt9:w4.heap.size<w9.heap.size:=Vq hr9;have hl1:=(Ch.Up.length Hup'.out);rw [List.length_append,List.length_singleton] at hl1;have Hs9:=Z1 hset9;have Hown9:=Z1 hown';clear hr9 hset9 hown' hrow;go_wp2
    go_roundg (l.length-(p++[x]).length)
    case measure=>simp;omega
    case rel=>exact⟨p++[x],q.parent,rfl,Hqw.out,Hup'.out,by rw [List.map_append,List.length_append];exact Hown9.out,Hs9.out,hb9,rfl⟩
  ·have hh':Ch.has l x=false:=by simpa using hh
   rw [hh'];obtain⟨A5,c5,rfl,hc5,hl5⟩:=a1w hown5 rfl;have Hl5:=Z1 hl5;have hE:Hid (Ch.Ends l p x):=.inl (b1z hh');clear hh hh' hown5 hl5 hlk;go_wp2;rw [Exit.noGoto_ret];go_ret;exact⟨hb5,p,x,A5,p.length,c5,rfl,rfl,Hup.out,hE.out,Hl5.out⟩
end
open Go.Proofs.Tryz Go.RowKit
def ProperPost (gr:Bool) (l:List Acc) (a:Acc) (w:World) (e:Ending) (w':World):Prop :=
 Below w w w'/\∃ b:Bool,e=.returned (.bool b)/\((Ch.basic gr l a=false/\b=false)∨(Ch.basic gr l a=true/\a.parent=0/\b=true) ∨
  (Ch.basic gr l a=true/\∃ p c,Ch.Up l a.code p c/\Ch.Ends l p c/\b=decide (c=0)))
theorem a2U {gr:Bool} {l:List Acc} {a:Acc} (h1:¬ a.code<1) (h2:¬ 99999<a.code) (h3:¬ a.kind<1) (h4:¬ 5<a.kind) (h5:if gr=true then 1<=a.basis/\a.basis<=3 else a.basis=0) :
  Ch.basic gr l a=(decide (a.parent=0)||(Ch.has l a.parent&&decide ((Ch.found l a.parent).code≠a.code)&&decide ((Ch.found l a.parent).kind=a.kind))):=by
 unfold Ch.basic Ch.has Ch.found;rw [decide_eq_true (show 1<=a.code by omega),decide_eq_true (show a.code<=99999 by omega),decide_eq_true (show 1<=a.kind by omega),decide_eq_true (show a.kind<=5 by omega)]
 have h6:(if gr=true then decide (1<=a.basis)&&decide (a.basis<=3) else decide (a.basis=0))=true:=by
  cases gr
  ·simp at h5;simp [h5]
  ·simp at h5;simp [h5]
 rw [h6]
 cases Ch.find l a.parent with
 | none=>simp
 | some p=>simp
theorem a1D {gr:Bool} {l:List Acc} {a:Acc} (h:a.code<1∨99999<a.code∨a.kind<1∨5<a.kind∨(gr=true/\(a.basis<1∨3<a.basis))∨(gr=false/\a.basis≠0)):Ch.basic gr l a=false:=by
 unfold Ch.basic
 rcases h with h | h | h | h | ⟨rfl,h⟩ | ⟨rfl,h⟩
 ·rw [decide_eq_false (show ¬ 1<=a.code by omega)];simp
 ·rw [decide_eq_false (show ¬ a.code<=99999 by omega)];simp
 ·rw [decide_eq_false (show ¬ 1<=a.kind by omega)];simp
 ·rw [decide_eq_false (show ¬ a.kind<=5 by omega)];simp
 ·rcases h with h | h
  ·rw [decide_eq_false (show ¬ 1<=a.basis by omega)];simp
  ·rw [decide_eq_false (show ¬ a.basis<=3 by omega)];simp
 ·simp [h]
section
variable (w:World)
theorem a3v (A:Option Addr) (n c:Nat) (l:List Acc) (a:Acc) (gr:Bool) (hl:l.length=n) (hn:n<=100000) (hwf:∀ a∈l,a.wf) (hin:a∈l) (h:AccsAt w w A l) :
  Calls prog 279 #[.slice A n c,a,gr] w (ProperPost gr l a w):=by
 have hB0:=(Below.refl w w).alloc lR (.cells a 87);obtain⟨Hwf,Hw,Hin⟩:=Z3 hwf (hwf a hin) hin;have hup:=True.intro;clear hwf hin
 by_cases h1:a.code<1
 ·have Hno:=Z1 (a1D (gr:=gr) (l:=l) (a:=a) (.inl h1))
  clear h;go_enter func279,ntmps279;go_wp2;go_ret;exact⟨hB0,false,rfl,.inl ⟨Hno.out,rfl⟩⟩
 by_cases h2:99999<a.code
 ·have Hno:=Z1 (a1D (gr:=gr) (l:=l) (a:=a) (.inr (.inl h2)))
  clear h;go_enter func279,ntmps279;go_wp2;go_ret;exact⟨hB0,false,rfl,.inl ⟨Hno.out,rfl⟩⟩
 by_cases h3:a.kind<1
 ·have Hno:=Z1 (a1D (gr:=gr) (l:=l) (a:=a) (.inr (.inr (.inl h3))))
  clear h;go_enter func279,ntmps279;go_wp2;go_ret;exact⟨hB0,false,rfl,.inl ⟨Hno.out,rfl⟩⟩
 by_cases h4:5<a.kind
 ·have Hno:=Z1 (a1D (gr:=gr) (l:=l) (a:=a) (.inr (.inr (.inr (.inl h4)))))
  clear h;go_enter func279,ntmps279;go_wp2;go_ret;exact⟨hB0,false,rfl,.inl ⟨Hno.out,rfl⟩⟩
 cases gr
 ·by_cases h5:a.basis=0
  ·have hb5:(a.basis != 0)=false:=by simp [h5]
   have Hb:=Z1 (a2U (gr:=false) (l:=l) h1 h2 h3 h4 (by simp [h5]));clear h5
   by_cases h0:a.parent=0
   ·have hp0:(a.parent==0)=true:=by simp [h0]
    have Hv:=Hb.out;rw [decide_eq_true h0,Bool.true_or] at Hv;have HV:=Z1 Hv;have H00:=Z1 h0;clear h0 Hv h hup;go_enter func279,ntmps279;go_wp2;go_ret;exact⟨hB0,true,rfl,.inr (.inl ⟨HV.out,H00.out,rfl⟩)⟩
   ·have hp0:(a.parent==0)=false:=by simp [h0]
    have Hv:=Hb.out;rw [decide_eq_false h0,Bool.false_or] at Hv;have HV:=Z1 Hv;have H0:=Z1 (RowsAt.at_ h hB0);clear h0 Hv h;go_enter func279,ntmps279;go_wp2_with (fail);refine(a0M _ A n c l a.parent hl hn H0.out).mono ?_;rintro e w4 ⟨rfl,hB4⟩;obtain⟨hc4,hf4⟩:=bcell hB4;have hz4:=hB4.size;simp at hz4;have hz4':w.heap.size<w4.heap.size:=oM;have hbw:=hB0.trans (hB4.mono sP);have h4:=RowsAt.at_ H0.out hB4;obtain⟨q,hq⟩:∃ q,q=Ch.found l a.parent:=⟨_,rfl⟩;rw [<- hq] at HV ⊢;clear hq;have hBF:=hbw.alloc hbw.size (.cells q 87)
    by_cases hh:Ch.has l a.parent=true
    ·rw [hh] at HV ⊢
     by_cases hqc:q.code=a.code
     ·have hbe:(q.code==a.code)=true:=by simp [hqc]
      have Hv:=HV.out;simp only [hqc,ne_eq,not_true_eq_false,decide_false,Bool.and_false,Bool.false_and] at Hv;have HV':=Z1 Hv;clear Hv hqc hh hup h4;go_wp2;go_ret;exact⟨hBF,false,rfl,.inl ⟨HV'.out,rfl⟩⟩
     ·have hbe:(q.code==a.code)=false:=by simp [hqc]
      by_cases hqk:q.kind=a.kind
      ·have hbk:(q.kind != a.kind)=false:=by simp [hqk]
       have Hv:=HV.out;simp only [hqc,hqk,ne_eq,not_false_eq_true,decide_true,Bool.true_and] at Hv;have HV':=Z1 Hv;have h5':=RowsAt.at_ h4 ((Below.refl w4 w4).alloc lR (.cells q 87));clear Hv hqc hqk hh h4;go_wp2_with (fail);refine(a4I _ A n c l a.code hl hn Hw.out.1 Hwf.out h5').mono ?_;rintro e w5 ⟨hB5,p,x,A5,n5,c5,rfl,hpl,hu,hE,hl5⟩;have hbw5:=hBF.trans (hB5.mono hBF.size)
       have hpos:0<p.length:=by
        rcases hu.start with⟨e1,e2⟩ | hm
        ·obtain⟨b,hf⟩:=Ch.find_mem Hin.out
         rcases hE with hE | hE
         ·rw [e2,hf] at hE;cases hE
         ·rw [e1] at hE;cases hE
        ·exact List.length_pos_of_mem hm
       obtain⟨b6,hf6,hp6⟩:=hu.last hpos;obtain⟨bk,o,rfl,hbk5,hc5⟩:=hl5.look (show p.length-1<p.length by omega)
       have hxw:(Lit.int .i64 (p[p.length-1]' oM)).wf=true:=by
        rw [<- (Ch.find_some hf6).2];exact(Hwf.out b6 (Ch.find_some hf6).1).1
       have hF6:Hid (Ch.found l (p[p.length-1]' oM)=b6):=by show _=_;unfold Ch.found;rw [hf6];rfl
       obtain⟨lst,hlst⟩:∃ lst,lst=p[p.length-1]' oM:=⟨_,rfl⟩;rw [<- hlst] at hc5 hF6;have Hu:=Z1 hu;have HE:=Z1 hE;have hnn:n5=p.length-1+1:=oM;subst hnn;have Hp6:=Z1 hp6;have hi1:(0:Int)<=(p.length:Int)-1:=oM;have hi2:((p.length-1:Nat):Int)=(p.length:Int)-1:=oM;have h6:=RowsAt.at_ h5' hB5;clear hu hE hf6 hp6 hlst hpl hxw;obtain⟨m,hm⟩:∃ m,m=p.length-1:=⟨_,rfl⟩;rw [<- hm] at hc5 ⊢;have hm9:m<=100000:=by have:=Hu.out.length;omega
       clear hm hi1 hi2 hpos;go_wp2_with (fail);refine(a0M w5 A n c l lst hl hn h6).mono ?_;rintro e w6 ⟨rfl,hB6⟩;rw [hF6.out];have hbw6:=hbw5.trans (hB6.mono hbw5.size);have hBG:=hbw6.alloc hbw6.size (.cells b6 87);clear hc5 h5' h6
       by_cases hb6:b6.parent=0
       ·have hb60:(b6.parent==0)=true:=by simp [hb6]
        have Hb6:=Z1 hb6;clear hb6;go_wp2;go_ret;exact⟨hBG,true,rfl,.inr (.inr ⟨HV'.out,p,x,Hu.out,HE.out,by rw [<- Hp6.out,Hb6.out];rfl⟩)⟩
       ·have hb60:(b6.parent==0)=false:=by simp [hb6]
        have Hb6:=Z1 hb6;clear hb6;go_wp2;go_ret;exact⟨hBG,false,rfl,.inr (.inr ⟨HV'.out,p,x,Hu.out,HE.out,by rw [decide_eq_false (by rw [<- Hp6.out];exact Hb6.out)]⟩)⟩
      ·have hbk:(q.kind != a.kind)=true:=by simp [hqk]
       have Hv:=HV.out;simp only [hqk,decide_false,Bool.and_false] at Hv;have HV':=Z1 Hv;clear Hv hqc hqk hh hup h4;go_wp2;go_ret;exact⟨hBF,false,rfl,.inl ⟨HV'.out,rfl⟩⟩
    ·have hh':Ch.has l a.parent=false:=by simpa using hh
     rw [hh'] at HV ⊢;have Hv:=HV.out;simp only [Bool.false_and] at Hv;have HV':=Z1 Hv;clear Hv hh hh' hup h4;go_wp2;go_ret;exact⟨hBF,false,rfl,.inl ⟨HV'.out,rfl⟩⟩
  ·have hb5:(a.basis != 0)=true:=by simp [h5]
   have Hno:=Z1 (a1D (gr:=false) (l:=l) (a:=a) (.inr (.inr (.inr (.inr (.inr ⟨rfl,h5⟩))))));clear h5 h;go_enter func279,ntmps279;go_wp2;go_ret;exact⟨hB0,false,rfl,.inl ⟨Hno.out,rfl⟩⟩
 ·by_cases h5:a.basis<1
  ·have Hno:=Z1 (a1D (gr:=true) (l:=l) (a:=a) (.inr (.inr (.inr (.inr (.inl ⟨rfl,.inl h5⟩))))))
   clear h;go_enter func279,ntmps279;go_wp2;go_ret;exact⟨hB0,false,rfl,.inl ⟨Hno.out,rfl⟩⟩
  by_cases h6:3<a.basis
  ·have Hno:=Z1 (a1D (gr:=true) (l:=l) (a:=a) (.inr (.inr (.inr (.inr (.inl ⟨rfl,.inr h6⟩))))))
   clear h;go_enter func279,ntmps279;go_wp2;go_ret;exact⟨hB0,false,rfl,.inl ⟨Hno.out,rfl⟩⟩
  have Hb:=Z1 (a2U (gr:=true) (l:=l) h1 h2 h3 h4 sO)
  by_cases h0:a.parent=0
  ·have hp0:(a.parent==0)=true:=by simp [h0]
   have Hv:=Hb.out;rw [decide_eq_true h0,Bool.true_or] at Hv;have HV:=Z1 Hv;have H00:=Z1 h0;clear h0 Hv h hup;go_enter func279,ntmps279;go_wp2;go_ret;exact⟨hB0,true,rfl,.inr (.inl ⟨HV.out,H00.out,rfl⟩)⟩
  ·have hp0:(a.parent==0)=false:=by simp [h0]
   have Hv:=Hb.out;rw [decide_eq_false h0,Bool.false_or] at Hv;have HV:=Z1 Hv;have H0:=Z1 (RowsAt.at_ h hB0);clear h0 Hv h;go_enter func279,ntmps279;go_wp2_with (fail);refine(a0M _ A n c l a.parent hl hn H0.out).mono ?_;rintro e w4 ⟨rfl,hB4⟩;obtain⟨hc4,hf4⟩:=bcell hB4;have hz4:=hB4.size;simp at hz4;have hz4':w.heap.size<w4.heap.size:=oM;have hbw:=hB0.trans (hB4.mono sP);have h4:=RowsAt.at_ H0.out hB4;obtain⟨q,hq⟩:∃ q,q=Ch.found l a.parent:=⟨_,rfl⟩;rw [<- hq] at HV ⊢;clear hq;have hBF:=hbw.alloc hbw.size (.cells q 87)
   by_cases hh:Ch.has l a.parent=true
   ·rw [hh] at HV ⊢
    by_cases hqc:q.code=a.code
    ·have hbe:(q.code==a.code)=true:=by simp [hqc]
     have Hv:=HV.out;simp only [hqc,ne_eq,not_true_eq_false,decide_false,Bool.and_false,Bool.false_and] at Hv;have HV':=Z1 Hv;clear Hv hqc hh hup h4;go_wp2;go_ret;exact⟨hBF,false,rfl,.inl ⟨HV'.out,rfl⟩⟩
    ·have hbe:(q.code==a.code)=false:=by simp [hqc]
     by_cases hqk:q.kind=a.kind
     ·have hbk:(q.kind != a.kind)=false:=by simp [hqk]
      have Hv:=HV.out;simp only [hqc,hqk,ne_eq,not_false_eq_true,decide_true,Bool.true_and] at Hv;have HV':=Z1 Hv;have h5':=RowsAt.at_ h4 ((Below.refl w4 w4).alloc lR (.cells q 87));clear Hv hqc hqk hh h4;go_wp2_with (fail);refine(a4I _ A n c l a.code hl hn Hw.out.1 Hwf.out h5').mono ?_;rintro e w5 ⟨hB5,p,x,A5,n5,c5,rfl,hpl,hu,hE,hl5⟩;have hbw5:=hBF.trans (hB5.mono hBF.size)
      have hpos:0<p.length:=by
       rcases hu.start with⟨e1,e2⟩ | hm
       ·obtain⟨b,hf⟩:=Ch.find_mem Hin.out
        rcases hE with hE | hE
        ·rw [e2,hf] at hE;cases hE
        ·rw [e1] at hE;cases hE
       ·exact List.length_pos_of_mem hm
      obtain⟨b6,hf6,hp6⟩:=hu.last hpos;obtain⟨bk,o,rfl,hbk5,hc5⟩:=hl5.look (show p.length-1<p.length by omega)
      have hxw:(Lit.int .i64 (p[p.length-1]' oM)).wf=true:=by
       rw [<- (Ch.find_some hf6).2];exact(Hwf.out b6 (Ch.find_some hf6).1).1
      have hF6:Hid (Ch.found l (p[p.length-1]' oM)=b6):=by show _=_;unfold Ch.found;rw [hf6];rfl
      obtain⟨lst,hlst⟩:∃ lst,lst=p[p.length-1]' oM:=⟨_,rfl⟩;rw [<- hlst] at hc5 hF6;have Hu:=Z1 hu;have HE:=Z1 hE;have hnn:n5=p.length-1+1:=oM;subst hnn;have Hp6:=Z1 hp6;have hi1:(0:Int)<=(p.length:Int)-1:=oM;have hi2:((p.length-1:Nat):Int)=(p.length:Int)-1:=oM;have h6:=RowsAt.at_ h5' hB5;clear hu hE hf6 hp6 hlst hpl hxw;obtain⟨m,hm⟩:∃ m,m=p.length-1:=⟨_,rfl⟩;rw [<- hm] at hc5 ⊢;have hm9:m<=100000:=by have:=Hu.out.length;omega
      clear hm hi1 hi2 hpos;go_wp2_with (fail);refine(a0M w5 A n c l lst hl hn h6).mono ?_;rintro e w6 ⟨rfl,hB6⟩;rw [hF6.out];have hbw6:=hbw5.trans (hB6.mono hbw5.size);have hBG:=hbw6.alloc hbw6.size (.cells b6 87);clear hc5 h5' h6
      by_cases hb6:b6.parent=0
      ·have hb60:(b6.parent==0)=true:=by simp [hb6]
       have Hb6:=Z1 hb6;clear hb6;go_wp2;go_ret;exact⟨hBG,true,rfl,.inr (.inr ⟨HV'.out,p,x,Hu.out,HE.out,by rw [<- Hp6.out,Hb6.out];rfl⟩)⟩
      ·have hb60:(b6.parent==0)=false:=by simp [hb6]
       have Hb6:=Z1 hb6;clear hb6;go_wp2;go_ret;exact⟨hBG,false,rfl,.inr (.inr ⟨HV'.out,p,x,Hu.out,HE.out,by rw [decide_eq_false (by rw [<- Hp6.out];exact Hb6.out)]⟩)⟩
     ·have hbk:(q.kind != a.kind)=true:=by simp [hqk]
      have Hv:=HV.out;simp only [hqk,decide_false,Bool.and_false] at Hv;have HV':=Z1 Hv;clear Hv hqc hqk hh hup h4;go_wp2;go_ret;exact⟨hBF,false,rfl,.inl ⟨HV'.out,rfl⟩⟩
   ·have hh':Ch.has l a.parent=false:=by simpa using hh
    rw [hh'] at HV ⊢;have Hv:=HV.out;simp only [Bool.false_and] at Hv;have HV':=Z1 Hv;clear Hv hh hh' hup h4;go_wp2;go_ret;exact⟨hBF,false,rfl,.inl ⟨HV'.out,rfl⟩⟩
end
open Go.Proofs.Tryz Go.RowKit

def GoodAt (gr:Bool) (l:List Acc) (i:Nat):Prop :=
 Ch.basic gr l (Ch.at_ l i)=true/\(i=0∨(Ch.at_ l (i-1)).code<(Ch.at_ l i).code) /\
  ((Ch.at_ l i).parent=0∨∃ p,Ch.Up l (Ch.at_ l i).code p 0/\Ch.Ends l p 0)
def BadAt (gr:Bool) (l:List Acc) (i:Nat):Prop :=
 Ch.basic gr l (Ch.at_ l i)=false∨(0<i/\(Ch.at_ l i).code<=(Ch.at_ l (i-1)).code)∨∃ p c,Ch.Up l (Ch.at_ l i).code p c/\Ch.Ends l p c/\c≠0
theorem a6r {gr:Bool} {l:List Acc} (h:Ch.valid gr l=true):l.length<=200/\∀ i,i<l.length->Ch.okAt gr l i=true:=by
 unfold Ch.valid at h;simp only [Bool.and_eq_true,decide_eq_true_eq] at h;refine⟨h.1,fun i hi=>?_⟩;exact List.all_eq_true.1 h.2 i (List.mem_range.2 hi)
theorem a6m {gr:Bool} {l:List Acc} (h:∀ i,i<l.length->Ch.basic gr l (Ch.at_ l i)=true):∀ a∈l,Ch.basic gr l a=true:=by
 intro a ha;obtain⟨i,hi,rfl⟩:=List.getElem_of_mem ha;have:=h i hi
 rwa [Ch.at_lt hi] at this
theorem b0l {l:List Acc} {i:Nat} (h:i<l.length):Ch.at_ l i∈l:=by rw [Ch.at_lt h];exact List.getElem_mem h
theorem a3V {gr:Bool} {l:List Acc} {i:Nat} (hi:i<l.length) (h:BadAt gr l i):Ch.valid gr l=false:=by
 cases hv:Ch.valid gr l with
 | false=>rfl
 | true =>
  exfalso;obtain⟨_,ho⟩:=a6r hv
  have hb:∀ j,j<l.length->Ch.basic gr l (Ch.at_ l j)=true:=fun j hj=>by
   have:=ho j hj;unfold Ch.okAt at this;simp only [Bool.and_eq_true] at this;exact this.1.1
  have hoi:=ho i hi;unfold Ch.okAt at hoi;simp only [Bool.and_eq_true,Bool.or_eq_true,decide_eq_true_eq] at hoi
  rcases h with h | ⟨h1,h2⟩ | ⟨p,c,h1,h2,h3⟩
  ·rw [hb i hi] at h;cases h
  ·omega
  ·exact h3 ((Ch.top_iff (a6m hb) (b0l hi) h1 h2).2 hoi.2)
theorem a5g {l:List Acc} (ho:∀ i,i<l.length->i=0∨(Ch.at_ l (i-1)).code<(Ch.at_ l i).code):∀(d i:Nat),i+d+1<l.length->(Ch.at_ l i).code<(Ch.at_ l (i+d+1)).code
 | 0,i,h=>by
  rcases ho (i+1) h with h1 | h1
  ·omega
  ·simpa using h1
 | d+1,i,h=>by
  have h1:=a5g ho d i oM
  rcases ho (i+(d+1)+1) h with h2 | h2
  ·omega
  ·have:i+(d+1)+1-1=i+d+1:=oM
   rw [this] at h2;omega
theorem a9M {l:List Acc} (ho:∀ i,i<l.length->i=0∨(Ch.at_ l (i-1)).code<(Ch.at_ l i).code) {a:Acc} (ha:a∈l):Ch.find l a.code=some a:=by
 obtain⟨b,hb⟩:=Ch.find_mem ha;obtain⟨hm,hc⟩:=Ch.find_some hb;obtain⟨i,hi,rfl⟩:=List.getElem_of_mem ha;obtain⟨j,hj,rfl⟩:=List.getElem_of_mem hm
 have e:i=j:=by
  rcases Nat.lt_trichotomy i j with h | h | h
  ·have:=a5g ho (j-i-1) i oM
   rw [show i+(j-i-1)+1=j by omega,Ch.at_lt hi,Ch.at_lt hj] at this;omega
  ·exact h
  ·have:=a5g ho (i-j-1) j oM
   rw [show j+(i-j-1)+1=i by omega,Ch.at_lt hi,Ch.at_lt hj] at this;omega
 subst e;exact hb
theorem a8j {gr:Bool} {l:List Acc} (h:∀ i,i<l.length->GoodAt gr l i):Ch.valid gr l=decide (l.length<=200):=by
 have hb:∀ j,j<l.length->Ch.basic gr l (Ch.at_ l j)=true:=fun j hj=>(h j hj).1;have hba:=a6m hb;unfold Ch.valid;rw [Ch.all_of (fun i hi=>?_),Bool.and_true];obtain⟨h1,h2,h3⟩:=h i hi
 have hcl:Ch.climb l (l.length+1) (Ch.at_ l i).code<=l.length:=by
  rcases h3 with h3 | ⟨p,h3,h4⟩
  ·have hf:=a9M (fun j hj=>(h j hj).2.1) (b0l hi)
   have hn:Ch.find l 0=none:=by
    cases he:Ch.find l 0 with
    | none=>rfl
    | some b =>
     obtain⟨hm,hc⟩:=Ch.find_some he;have:=hba b hm;rw [Ch.basic,hc] at this;simp at this
   simp only [Ch.climb,hf,h3,Ch.climb_none hn];omega
  ·exact(Ch.top_iff hba (b0l hi) h3 h4).1 rfl
 unfold Ch.okAt;rw [h1,decide_eq_true hcl]
 rcases h2 with h2 | h2
 ·simp [h2]
 ·simp [h2]
theorem a0R {w:World} {b:Nat} {cs:List Value} {t:TypeId} {fr:Nat × Nat} (h:w.heap[b]?=some (.cells cs.toArray t fr)):w.rangeAt b 0 cs:=by
 intro j v hj;rw [Nat.zero_add,cr9 _ h];simpa using hj
theorem VV {a b:World} {C B o:Nat} {cs:List Value} (h:a.rangeAt B o cs) (hb:Below C a b) (hB:B<C):b.rangeAt B o cs:=fun j v hj=>(hb.cell (p:=⟨B,_,none⟩) hB).trans (h j v hj)
section
variable (w:World)
theorem a2F (A:Option Addr) (n c:Nat) (l:List Acc) (gr:Bool) (hl:l.length=n) (hn:n<=100000) (hwf:∀ a∈l,a.wf) (h:AccsAt w w A l) :
  CL 234 #[.slice A n c,gr] w (Ch.valid gr l):=by
 subst hl;have Hwf:=Z1 hwf;clear hwf;go_enter func234,ntmps234;go_wp2
 go_loopw [9] (fun i wr=>∃ k:Nat,k<=l.length/\i=.int .i64 k/\(∀ i,i<k->GoodAt gr l i)/\Below w w wr) (fun i _=>l.length-(intOf i).toNat)
 case atStart=>exact⟨0,Nat.zero_le _,rfl,fun i hi=>oM,bR⟩
 case round =>
  obtain⟨k,hk,rfl,hg,hb⟩:=hrel;have Hg:=Z1 hg;clear hg
  by_cases hlt:k<l.length
  ·obtain⟨b,o,rfl,hbB,c0,c1,c2,c3⟩:=AccsAt.four (RowsAt.below h hb lR) hlt
   have hbw:b<wr.heap.size:=Nat.lt_of_lt_of_le hbB hb.size;obtain⟨W1,hW1,hBa,hra,hza⟩:=nw1 wr (l[k]) 87;have HW:=Z1 hW1;have hBw1:=hb.trans (hBa.mono hb.size);have hA1:=RowsAt.below h hBw1 lR;have hS:Below W1 W1 W1.drew:=Vw bR 1;have hq1:wr.heap.size<W1.heap.size:=Vq hra;have hqb:b<W1.heap.size:=oM;have hx:=a0R (cs:=(l[k])) hra;have Hmem:=Z1 (List.getElem_mem hlt);have Hat:=Z1 (Ch.at_lt hlt);have hk0:(0:Int)<=(k:Int):=oM;clear hW1;go_upto_region 4 with(fail);rw [<- HW.out];clear c1 c2 c3
   by_cases hz:k=0
   ·have hgt:¬ (0:Int)<(k:Int):=oM
    have Hord:Hid (k=0∨(Ch.at_ l (k-1)).code<l[k].code):=.inl hz;have Hz:=Z1 hz;clear hz;refine wp_region_held (S:=Below W1 W1) kR ?_;change wpAnyH _ _ _ _ _ _ _ _ (World.drew _);refine jT 0 hS ?_;refine jT 1 hS ?_ (v:=.bool false) (hy:=(.inl ⟨by rfl,fun W' hS'=>by go_simp;exact Hz.out⟩));refine jT 2 hS ?_ (v:=.bool false);refine jT 3 hS ?_;refine jT 4 hS ?_;refine jT 5 hS ?_;refine jT 6 hS ?_;refine jT 7 hS ?_;refine jT 8 hS ?_;refine jT 9 hS ?_;refine jT 10 hS ?_;refine jT 11 hS ?_;refine jT 12 hS ?_ (v:=.bool false);refine jT 13 hS ?_ (v:=.bool false);refine jT 14 hS ?_;refine jT 15 hS ?_ (v:=(l[k])) (hy:=(yieldsIf_load_mid (by rfl) 87 _ rfl wr.heap.size 0 rfl (l[k]) _ (fun W' hS'=>VV hx hS' hq1) underlying87 rfl a0W));refine jT 16 hS ?_ (v:=.bool gr);refine rZ 17 fun K hK=>?_;go_simp;refine(a3v W1.drew (some ⟨b,o,none⟩) l.length c l l[k] gr rfl hn Hwf.out Hmem.out ((RowsAt.below hA1 hS (by have:=hBw1.size;omega)).more (by have:=hBw1.size;show _<=W1.heap.size;omega))).mono ?_;rintro e W2 ⟨hB2,q,rfl,hq⟩;have hS2:Below W1 W1 W2:=hS.trans (hB2.mono lR);refine jK hK hS2 ?_;clear hK K
    cases q
    ·skip
     refine jT 18 hS2 ?_ (v:=.bool true);refine jT 19 hS2 ?_ (v:=.bool true);refine wpAnyH_done kR ?_ _
     have hBad:BadAt gr l k:=by
      rw [BadAt,Hat.out]
      rcases hq with⟨h1,_⟩ | ⟨_,_,h3⟩ | ⟨_,p,cc,h3,h4,h5⟩
      ·exact .inl h1
      ·cases h3
      ·exact .inr (.inr ⟨p,cc,h3,h4,by simpa using h5.symm⟩)
     have Hf:=Z1 (a3V hlt hBad);clear hBad hq;go_wp2;go_ret;exact⟨by rw [Hf.out];rfl,hBw1.trans (hS2.mono hBw1.size)⟩
    ·skip
     refine jT 18 hS2 ?_ (v:=.bool false);refine jT 19 hS2 ?_ (v:=.bool false);refine wpAnyH_done kR ?_ _
     have hGood:GoodAt gr l k:=by
      rw [GoodAt,Hat.out];refine⟨?_,Hord.out,?_⟩
      ·rcases hq with⟨_,h2⟩ | ⟨h1,_⟩ | ⟨h1,_⟩
       ·cases h2
       ·exact h1
       ·exact h1
      ·rcases hq with⟨_,h2⟩ | ⟨_,h2,_⟩ | ⟨_,p,cc,h3,h4,h5⟩
       ·cases h2
       ·exact .inl h2
       ·have h6:cc=0:=by simpa using h5.symm
        subst h6;exact .inr ⟨p,h3,h4⟩
     have HG:Hid (∀ i,i<k+1->GoodAt gr l i):=by
      show ∀ i,_->_;intro i hi
      rcases Nat.lt_or_ge i k with h1 | h1
      ·exact Hg.out i h1
      ·obtain rfl:i=k:=oM
       exact hGood
     clear hGood hq;go_wp2;go_roundw
     case rel=>exact⟨k+1,oM,by go_num,HG.out,hBw1.trans (hS2.mono hBw1.size)⟩
     case measure=>simp [intOf];omega
   ·have hgt:(0:Int)<(k:Int):=oM
    obtain⟨m,hm⟩:∃ m,m=k-1:=⟨_,rfl⟩;have hmk:(k:Int)-1=(m:Int):=oM;have hml:m<l.length:=oM;have hmi:(m:Int)<(l.length:Int):=oM;have hm0:(0:Int)<=(m:Int):=oM;have hwr:IntKind.i64.wrap ((k:Int)-1)=(m:Int):=by rw [hmk];exact IntWalk.i64_in _ oM
    obtain⟨b',o',hA',_,hpc,_⟩:=AccsAt.four hA1 hml
    cases hA'
    have Hpa:Hid (Ch.at_ l (k-1)=l[m]):=by show _=_;rw [<- hm];exact Ch.at_lt hml
    obtain⟨pc,hpce⟩:∃ pc,pc=l[m].code:=⟨_,rfl⟩;rw [<- hpce] at hpc;have Hpce:=Z1 hpce;have hkp:0<k:=oM;clear hm hmk hz hpce
    by_cases hord:pc<l[k].code
    ·have hnge:¬ l[k].code<=pc:=oM
     have Hord:Hid (k=0∨(Ch.at_ l (k-1)).code<l[k].code):=.inr (by rw [Hpa.out,<- Hpce.out];exact hord);refine wp_region_held (S:=Below W1 W1) kR ?_;change wpAnyH _ _ _ _ _ _ _ _ (World.drew _);refine jT 0 hS ?_;refine jT 1 hS ?_ (v:=.bool true);refine jT 2 hS ?_ (v:=.bool true);refine jT 3 hS ?_;refine jT 4 hS ?_;refine jT 5 hS ?_;refine jT 6 hS ?_;refine jT 7 hS ?_;refine jT 8 hS ?_ (v:=.int .i64 pc) (hy:=(.inl ⟨by rfl,fun W' hS'=>by have hc:=(hS'.cell (p:=⟨b,o+m*4,none⟩) hqb).trans hpc;go_simp⟩));refine jT 9 hS ?_;refine jT 10 hS ?_ (v:=.int .i64 l[k].code) (hy:=(.inl ⟨by rfl,fun W' hS'=>by have hc:=(hS'.cell (p:=⟨wr,0,none⟩) hq1).trans (hx 0 _ rfl);go_simp⟩));refine jT 11 hS ?_ (v:=.bool false);refine jT 12 hS ?_ (v:=.bool false);refine jT 13 hS ?_ (v:=.bool false);refine jT 14 hS ?_;refine jT 15 hS ?_ (v:=(l[k])) (hy:=(yieldsIf_load_mid (by rfl) 87 _ rfl wr.heap.size 0 rfl (l[k]) _ (fun W' hS'=>VV hx hS' hq1) underlying87 rfl a0W));refine jT 16 hS ?_ (v:=.bool gr);refine rZ 17 fun K hK=>?_;go_simp;refine(a3v W1.drew (some ⟨b,o,none⟩) l.length c l l[k] gr rfl hn Hwf.out Hmem.out ((RowsAt.below hA1 hS (by have:=hBw1.size;omega)).more (by have:=hBw1.size;show _<=W1.heap.size;omega))).mono ?_;rintro e W2 ⟨hB2,q,rfl,hq⟩;have hS2:Below W1 W1 W2:=hS.trans (hB2.mono lR);refine jK hK hS2 ?_;clear hK K
     cases q
     ·skip
      refine jT 18 hS2 ?_ (v:=.bool true);refine jT 19 hS2 ?_ (v:=.bool true);refine wpAnyH_done kR ?_ _
      have hBad:BadAt gr l k:=by
       rw [BadAt,Hat.out]
       rcases hq with⟨h1,_⟩ | ⟨_,_,h3⟩ | ⟨_,p,cc,h3,h4,h5⟩
       ·exact .inl h1
       ·cases h3
       ·exact .inr (.inr ⟨p,cc,h3,h4,by simpa using h5.symm⟩)
      have Hf:=Z1 (a3V hlt hBad);clear hBad hq;go_wp2;go_ret;exact⟨by rw [Hf.out];rfl,hBw1.trans (hS2.mono hBw1.size)⟩
     ·skip
      refine jT 18 hS2 ?_ (v:=.bool false);refine jT 19 hS2 ?_ (v:=.bool false);refine wpAnyH_done kR ?_ _
      have hGood:GoodAt gr l k:=by
       rw [GoodAt,Hat.out];refine⟨?_,Hord.out,?_⟩
       ·rcases hq with⟨_,h2⟩ | ⟨h1,_⟩ | ⟨h1,_⟩
        ·cases h2
        ·exact h1
        ·exact h1
       ·rcases hq with⟨_,h2⟩ | ⟨_,h2,_⟩ | ⟨_,p,cc,h3,h4,h5⟩
        ·cases h2
        ·exact .inl h2
        ·have h6:cc=0:=by simpa using h5.symm
         subst h6;exact .inr ⟨p,h3,h4⟩
      have HG:Hid (∀ i,i<k+1->GoodAt gr l i):=by
       show ∀ i,_->_;intro i hi
       rcases Nat.lt_or_ge i k with h1 | h1
       ·exact Hg.out i h1
       ·obtain rfl:i=k:=oM
        exact hGood
      clear hGood hq;go_wp2;go_roundw
      case rel=>exact⟨k+1,oM,by go_num,HG.out,hBw1.trans (hS2.mono hBw1.size)⟩
      case measure=>simp [intOf];omega
    ·have hge:l[k].code<=pc:=oM
     have hBad:BadAt gr l k:=.inr (.inl ⟨hkp,by rw [Hat.out,Hpa.out,<- Hpce.out];exact hge⟩);have Hf:=Z1 (a3V hlt hBad);clear hBad;refine wp_region_held (S:=Below W1 W1) kR ?_;change wpAnyH _ _ _ _ _ _ _ _ (World.drew _);refine jT 0 hS ?_;refine jT 1 hS ?_ (v:=.bool true);refine jT 2 hS ?_ (v:=.bool true);refine jT 3 hS ?_;refine jT 4 hS ?_;refine jT 5 hS ?_;refine jT 6 hS ?_;refine jT 7 hS ?_;refine jT 8 hS ?_ (v:=.int .i64 pc) (hy:=(.inl ⟨by rfl,fun W' hS'=>by have hc:=(hS'.cell (p:=⟨b,o+m*4,none⟩) hqb).trans hpc;go_simp⟩));refine jT 9 hS ?_;refine jT 10 hS ?_ (v:=.int .i64 l[k].code) (hy:=(.inl ⟨by rfl,fun W' hS'=>by have hc:=(hS'.cell (p:=⟨wr,0,none⟩) hq1).trans (hx 0 _ rfl);go_simp⟩));refine jT 11 hS ?_ (v:=.bool true);refine jT 12 hS ?_ (v:=.bool true);refine jT 13 hS ?_ (v:=.bool true);refine jT 14 hS ?_;refine jT 15 hS ?_;refine jT 16 hS ?_;refine jT 17 hS ?_;refine jT 18 hS ?_;refine jT 19 hS ?_ (v:=.bool true);refine wpAnyH_done kR ?_ _;go_wp2;go_ret;exact⟨by rw [Hf.out];rfl,hBw1.trans (hS.mono hBw1.size)⟩
  ·obtain rfl:k=l.length:=oM
   have hf:=Z1 (a8j Hg.out);clear h;go_wp2;go_ret;exact⟨VZ (by rw [hf.out];rw [Bool.eq_iff_iff];simp;omega),hb⟩
end
open Go.ChangeShapes Go.WideShapes Go.ChangeAt Go.RowKit
abbrev laid3 : List (String × DataW Unit) := [("math/bits.deBruijn32tab", Rows.laid_math_bits_deBruijn32tab), ("math/bits.deBruijn64tab", Rows.laid_math_bits_deBruijn64tab), ("internal/strconv.uint64pow10", Rows.laid_internal_strconv_uint64pow10)]
theorem a5e (os:Os) (args:Array Value):laidMetH Tryz.prog laid3 ((World.doorLaid Tryz.prog 24 os).forCall (fun _ _=>0) ⟨#[],args,[]⟩).memory:=by
 rw [MakeChecks.laidMetH_plain _ _ _ kR];exact laidMet_of_run' 8 kR kR
theorem b0P : (Tryz.prog.globalNamed "internal/strconv.uint64pow10").map (fun g => (Tryz.prog.globals[g]?).map (·.type)) = some (some 346) := by kernel_rfl
theorem b0Q:(Rows.laid_internal_strconv_uint64pow10:DataW Unit)=Lib.tabData .u64 Lib.pow10Tab:=by rfl
theorem a2g {W : World} (h : laidMetH Tryz.prog laid3 W) : Lib.TabIs Tryz.prog W "internal/strconv.uint64pow10" .u64 Lib.pow10Tab := by
 rw [MakeChecks.laidMetH_plain _ _ _ kR] at h;obtain⟨ps,⟨g0,t0,cs0,f0,p0,q0,hg0,ht0,hv0,hd0,⟨g1,t1,cs1,f1,p1,q1,hg1,ht1,hv1,hd1,⟨g2,t2,cs2,f2,p2,q2,hg2,ht2,hv2,hd2,_,_⟩,_⟩,_⟩,_,_⟩:=h;have e:=b0P;rw [hg2] at e;simp only [Option.map_some,Option.some.injEq] at e;obtain rfl:=Option.some.inj (e.symm.trans ht2);rw [b0Q] at hd2;unfold Lib.TabIs;rw [hv2,<- Lib.cells_of_tab Tryz.underlying346 Tryz.underlying137 kR kR hd2]
end Go.Proofs.YtniaimjknmhapaaGreatDoor
