/- My texts Store, IntOps, IntDiv, DivW, RatePlain, QuotePlain. -/
import Derived.Laws.Tables
import Derived.Test.YtniaimjknmhapaaGreatDoorG06
set_option linter.unusedVariables false
set_option linter.unusedSimpArgs false
set_option maxRecDepth 100000
set_option maxHeartbeats 16000000
namespace Go.Proofs.YtniaimjknmhapaaGreatDoor
open Go.RowKit
theorem a6l (W:World) (cur cs:Array Value) (t:TypeId):(W.alloc (.cells cur t)).setRow W cs=W.alloc (.cells cs t):=by
 unfold World.setRow World.alloc
 congr 1
 apply Array.ext
 ·simp
 ·intro i h1 h2
  simp only [Array.getElem_modify,Array.getElem_push]
  by_cases h:W.heap.size=i
  ·subst h;simp
  ·have hi:i<W.heap.size:=by simp at h1;omega
   simp [h,hi]
theorem a2W {P:Program} (W:World) (ty t:TypeId) (cur cs:Array Value) (hs:cs.size=cur.size) (h1:∀ v∈cs.toList,v.oneCell'=true) (hi:(P.info? ty).map (·.size)=some cs.size) :
  (storeVar ty ⟨W,0,none⟩ (.agg cs)).run P (W.alloc (.cells cur t))=.ok () (W.alloc (.cells cs t)):=by
 have h:=run_storeCells_from (P:=P) W t cs.toList 0 cur (W.alloc (.cells cur t)) (heap_alloc_new W _) (by simpa using hs) h1;simp only [List.take_zero,List.nil_append,Array.toArray_toList,a6l] at h
 cases hq:P.info? ty with
 | none=>simp [hq] at hi
 | some i =>
  have hsz:i.size=cs.size:=by simpa [hq] using hi
  simp [storeVar,Value.cells,Sem.run_bind,sizeOf,typeInfo,hq,hsz,h]
theorem Xw {P:Program} {ops:Array Oper} {rest:List Oper} {o:Oper} {a:Act} {W:World} {Q:Exit->Act->World->Prop} (hgd:o.guard=none) (ty:TypeId) (x v:Operand) (ho:o.op=.store ty x v)
  (t:TypeId) (cur cs:Array Value) (hx:a.eval x=.pointer (some ⟨W,0,none⟩)) (hv:a.eval v=.agg cs) (hs:cs.size=cur.size) (h1:∀ v∈cs.toList,v.oneCell'=true) (hi:(P.info? ty).map (·.size)=some cs.size)
  (h:wpList P ops Q rest (a.put o.dst undef) (W.alloc (.cells cs t))):wpList P ops Q (o::rest) a (W.alloc (.cells cur t)):=by
 refine wpList_plain hgd fun _ hK=>?_;unfold Oper.wp execOp;simp only [ho,hx,hv,Instr.storeAt,Instr.sureAddr,Sem.run_bind,Sem.run_pure,Result.andThen_ok,a2W W ty t cur cs hs h1 hi];exact hK _ _ h
theorem a3j {P:Program} {ops:Array Oper} {rest:List Oper} {o:Oper} {a:Act} {W:World} {Q:Exit->Act->World->Prop} (hgd:o.guard=none) (ty:TypeId) (parts:Array (Nat × Operand)) (ho:o.op=.build ty parts) (ps:Array (Nat × Value)) (hps:parts.map (fun(i,x)=>(i,a.eval x))=ps) (v:Value)
  (hr:(Instr.build ty ps).run P W=.ok v W)
  (h:wpList P ops Q rest (a.put o.dst v) W):wpList P ops Q (o::rest) a W:=by
 refine wpList_plain hgd fun _ hK=>?_;unfold Oper.wp execOp;simp only [ho,hps,Sem.run_bind,Result.andThen_ok,hr];exact hK _ _ h
theorem VX {P:Program} {op:Oper} {a:Act} {w:World} {K:Act->World->Prop} {Q:Exit->Act->World->Prop} (ty:TypeId) (x y:Operand) (d:Option Tmp) (ho:op.op=.store ty x y) (hd:op.dst=d)
  (b:Nat) (t:TypeId) (old cells:Array Value) (hx:a.eval x=.pointer (some ⟨b,0,none⟩)) (hy:a.eval y=.agg cells)
  (hg:w.heap[b]?=some (.cells old t (0,0))) (hs:old.size=cells.size) (hi:(P.info? ty).map (·.size)=some cells.size) (h1:cells.all (·.oneCell')=true)
  (h:K (a.put d undef) (w.setRow b cells)):op.wp P a w K Q:=by
 subst hd;unfold Oper.wp execOp;simp only [ho,hx,hy,Instr.storeAt,Instr.sureAddr,Sem.run_bind,Sem.run_pure,Result.andThen_ok,run_storeVar_row w b t ty old cells hg hi hs h1];exact h
open Tryz Go.RowKit

def RegS (w:World) (X Y:Array Value) (W':World):Prop :=
 Below w w W'/\W'.heap[w.heap.size]?=some (.cells X 41 (0,0))/\W'.heap[w.heap.size+1]?=some (.cells Y 41 (0,0))/\∃ cs:Array Value,W'.heap[w.heap.size+2]?=some (.cells cs 41 (0,0))/\cs.size=2
theorem RegS.lt {w W:World} {X Y:Array Value} (h:RegS w X Y W):w.heap.size+2<W.heap.size:=by
 obtain⟨_,_,_,cs,h,_⟩:=h;exact(Array.getElem?_eq_some_iff.1 h).1
theorem RegS.step {w W W':World} {X Y:Array Value} (h:RegS w X Y W) (hb:Below W W W'):RegS w X Y W':=by
 have hlt:=h.lt;obtain⟨h1,h2,h3,cs,h4,h5⟩:=h;exact⟨h1.trans (hb.mono h1.size),(hb.block _ oM).trans h2,(hb.block _ oM).trans h3,cs,(hb.block _ hlt).trans h4,h5⟩
theorem RegS.store {w W:World} {X Y:Array Value} (h:RegS w X Y W) (cs:Array Value) (hc:cs.size=2):RegS w X Y (W.setRow (w.heap.size+2) cs):=by
 obtain⟨h1,h2,h3,ds,h4,h5⟩:=h;exact⟨below_setRow h1 oM _,(setRow_other _ _ _ _ oM).trans h2,(setRow_other _ _ _ _ oM).trans h3,cs,setRow_heap _ _ _ _ _ _ h4,hc⟩
theorem RegS.start (w:World) (X Y:Array Value):RegS w X Y (((w.alloc (.cells X 41)).alloc (.cells Y 41)).alloc (.cells #[false,.slice none 0 0] 41)):=by
 refine⟨((bR.alloc lR _).alloc sP _).alloc sO _,?_,?_,#[false,.slice none 0 0],?_,rfl⟩
 ·rw [Below.heap_alloc _ _ _ sO,Below.heap_alloc _ _ _ sP];exact heap_alloc_new w _
 ·rw [Below.heap_alloc _ _ _ sP]
  have:=heap_alloc_new (w.alloc (.cells X 41)) (.cells Y 41)
  rwa [show(w.alloc (.cells X 41)).heap.size=w.heap.size+1 by simp] at this
 ·have:=heap_alloc_new ((w.alloc (.cells X 41)).alloc (.cells Y 41)) (.cells #[false,.slice none 0 0] 41)
  rwa [show((w.alloc (.cells X 41)).alloc (.cells Y 41)).heap.size=w.heap.size+2 by simp] at this

theorem RegS.drew {w W:World} {X Y:Array Value} (h:RegS w X Y W):RegS w X Y W.drew:=⟨Vw h.1 1,h.2⟩

section
variable (w:World)
theorem b2e (k j:Nat) (g:Bool) (A B:Option Addr) (n m c d:Nat) (l q:List Int) (hl:l.length=n) (hq:q.length=m) (hnk:n<=k) (hmj:m<=j) (hk:k<=100000000000-1) (hj:j<=100000000000-1) (hL:Big.Lim 1000000000 l) (hQ:Big.Lim 1000000000 q)
  (hA:LimbsAt .u32 w w A l) (hB:LimbsAt .u32 w w B q) :
  Calls prog 74 #[.agg #[g,.slice A n c],.agg #[g,.slice B m d]] w fun e w'=>(∃ u,e=.returned u/\PI w' w' (max k j+1) u (Big.sgn g (Big.val 1000000000 l+Big.val 1000000000 q)))/\Below w w w':=by
 have hS0:=RegS.start w #[g,.slice A n c] #[g,.slice B m d];obtain⟨W1,hW1⟩:∃ W1,W1=(((w.alloc (.cells #[g,.slice A n c] 41)).alloc (.cells #[g,.slice B m d] 41)).alloc (.cells #[false,.slice none 0 0] 41)):=⟨_,rfl⟩;rw [<- hW1] at hS0;have HW:=Z1 hW1;clear hW1;have hgg:(g==g)=true:=sP;go_enter func74,ntmps74;go_upto_region 2 with(fail);rw [<- HW.out];have hS:=hS0.drew;refine wp_region_held (S:=RegS w #[g,.slice A n c] #[g,.slice B m d]) kR ?_;change wpAnyH _ _ _ _ _ _ _ _ (World.drew _);refine jT 0 hS ?_;refine jT 1 hS ?_ (v:=.bool g) (hy:=(.inl ⟨by rfl,fun W' hS'=>by have hc:=cr9 0 hS'.2.1;simp at hc;go_simp⟩));refine jT 2 hS ?_;refine jT 3 hS ?_ (v:=.slice A n c) (hy:=(.inl ⟨by rfl,fun W' hS'=>by have hc:=cr9 1 hS'.2.1;simp at hc;go_simp⟩));refine jT 4 hS ?_;refine jT 5 hS ?_ (v:=.slice B m d) (hy:=(.inl ⟨by rfl,fun W' hS'=>by have hc:=cr9 1 hS'.2.2.1;simp at hc;go_simp⟩));refine rZ 6 fun K hK=>?_;go_simp;refine(b0S W1.drew A B n m c d l q hl hq oM oM hL hQ (hA.at_ hS.1 lR) (hB.at_ hS.1 lR)).mono ?_;rintro e W4 ⟨hB4,A4,n4,c4,l4,rfl,hl4,hn4,hc4,hL4,hv4,hA4,hf4⟩;have hS4:=hS.step hB4;refine jK hK hS4 ?_;clear hK K;have Hv4:=Z1 hv4;have Hl4:=Z1 hl4;clear hv4 hl4;refine rZ 7 fun K hK=>?_;go_simp;refine(a0N W4 g A4 n4 c4 l4 Hl4.out oM hc4 hA4).mono ?_;rintro e W5 ⟨rfl,hB5⟩;have hS5:=hS4.step hB5;have hlt1:=hS.lt;refine jK hK hS5 ?_;clear hK K;refine rZ 8 fun K hK=>?_;rw [if_pos (by rfl)];obtain⟨cs,hcs,hc2⟩:=hS5.2.2.2;refine VX 41 _ _ none rfl rfl (w.heap.size+2) 41 cs #[.bool (g&&decide (0<(Big.trim l4).length)),.slice A4 (Big.trim l4).length c4] rfl rfl hcs hc2 VQ oC ?_;have hR6:=setRow_heap W5 (w.heap.size+2) cs #[.bool (g&&decide (0<(Big.trim l4).length)),.slice A4 (Big.trim l4).length c4] _ _ hcs;have hS6:=hS5.store #[.bool (g&&decide (0<(Big.trim l4).length)),.slice A4 (Big.trim l4).length c4] rfl;refine jK hK hS6 ?_;clear hK K;refine wpAnyH_done kR ?_ _;have hA6:=(hA4.at_ hB5 lR).other (w':=W5.setRow (w.heap.size+2) #[.bool (g&&decide (0<(Big.trim l4).length)),.slice A4 (Big.trim l4).length c4]) (fun b o e=>setRow_other _ _ _ _ (by have:=hf4 b o e;omega));have HP:=Z1 ((PI.mk (neg:=g) Hl4.out hn4 hc4 hL4 hA6).more (C:=(W5.setRow (w.heap.size+2) #[.bool (g&&decide (0<(Big.trim l4).length)),.slice A4 (Big.trim l4).length c4]).heap.size) (j:=max k j+1) sP oM);have hload:=run_loadVar_row (P:=prog) _ _ _ 41 _ _ _ hR6 underlying41 rfl VQ;clear hA6;go_wp2;refine bodyPost_ret (v:=.agg #[.bool (g&&decide (0<(Big.trim l4).length)),.slice A4 (Big.trim l4).length c4]) (by simp [results,results74,asAddr,hload]) rfl ⟨⟨_,rfl,?_⟩,hS6.1⟩;have:=HP.out
 rwa [Hv4.out] at this
theorem b3s (k j:Nat) (g h:Bool) (A B:Option Addr) (n m c d:Nat) (l q:List Int) (hl:l.length=n) (hq:q.length=m) (hnk:n<=k) (hmj:m<=j) (hk:k<=100000000000-1) (hj:j<=100000000000-1) (hL:Big.Lim 1000000000 l) (hQ:Big.Lim 1000000000 q) (hNl:Big.Norm l) (hNq:Big.Norm q) (hgh:(g==h)=false) (hle:Big.val 1000000000 q<=Big.val 1000000000 l)
  (hA:LimbsAt .u32 w w A l) (hB:LimbsAt .u32 w w B q) :
  Calls prog 74 #[.agg #[g,.slice A n c],.agg #[h,.slice B m d]] w fun e w'=>(∃ u,e=.returned u/\PI w' w' (max k j+1) u (Big.sgn g (Big.val 1000000000 l-Big.val 1000000000 q)))/\Below w w w':=by
 have hS0:=RegS.start w #[g,.slice A n c] #[h,.slice B m d];obtain⟨W1,hW1⟩:∃ W1,W1=(((w.alloc (.cells #[g,.slice A n c] 41)).alloc (.cells #[h,.slice B m d] 41)).alloc (.cells #[false,.slice none 0 0] 41)):=⟨_,rfl⟩;rw [<- hW1] at hS0;have HW:=Z1 hW1;clear hW1;have hcm:0<=cm (Big.val 1000000000 l) (Big.val 1000000000 q):=by unfold cm;rw [if_neg oM];split <;> omega
 have hmn:m<=n:=by
  rcases Nat.lt_or_ge n m with hh | hh
  ·have:=Big.longer_lt (B:=1000000000) oM hL hQ hNq oM;omega
  ·exact hh
 have Hle:=Z1 hle;clear hle;have hq0:=hS0.lt;have c0:=cr9 1 hS0.2.1;have c1:=cr9 1 hS0.2.2.1;simp at c0 c1;obtain⟨z,hz⟩:∃ z,cm (Big.val 1000000000 l) (Big.val 1000000000 q)=z:=⟨_,rfl⟩;rw [hz] at hcm;have Hz:=Z1 hz;clear hz;go_enter func74,ntmps74;go_upto_region 3 with(fail);rw [<- HW.out];go_wp2_with (fail);refine(a0V W1 A B n m c d l q hl hq oM oM hL hQ hNl hNq (hA.at_ hS0.1 lR) (hB.at_ hS0.1 lR)).mono ?_;rw [Hz.out];rintro e W3 ⟨rfl,hB3⟩;have hS3:=hS0.step hB3;have hS:=hS3.drew;clear c0 c1;go_upto_region 4 with(fail);refine wp_region_held (S:=RegS w #[g,.slice A n c] #[h,.slice B m d]) kR ?_;change wpAnyH _ _ _ _ _ _ _ _ (World.drew _);refine jT 0 hS ?_;refine jT 1 hS ?_ (v:=.bool g) (hy:=(.inl ⟨by rfl,fun W' hS'=>by have hc:=cr9 0 hS'.2.1;simp at hc;go_simp⟩));refine jT 2 hS ?_;refine jT 3 hS ?_ (v:=.slice A n c) (hy:=(.inl ⟨by rfl,fun W' hS'=>by have hc:=cr9 1 hS'.2.1;simp at hc;go_simp⟩));refine jT 4 hS ?_;refine jT 5 hS ?_ (v:=.slice B m d) (hy:=(.inl ⟨by rfl,fun W' hS'=>by have hc:=cr9 1 hS'.2.2.1;simp at hc;go_simp⟩));refine rZ 6 fun K hK=>?_;go_simp;refine(a5L W3.drew A B n m c d l q hl hq hmn oM oM hL hQ Hle.out (hA.at_ hS.1 lR) (hB.at_ hS.1 lR)).mono ?_;rintro e W4 ⟨hB4,A4,n4,c4,l4,rfl,hl4,hn4,hc4,hL4,hv4,hA4,hf4⟩;have hS4:=hS.step hB4;refine jK hK hS4 ?_;clear hK K;have Hv4:=Z1 hv4;have Hl4:=Z1 hl4;clear hv4 hl4;refine rZ 7 fun K hK=>?_;go_simp;refine(a0N W4 g A4 n4 c4 l4 Hl4.out oM hc4 hA4).mono ?_;rintro e W5 ⟨rfl,hB5⟩;have hS5:=hS4.step hB5;have hlt1:=hS.lt;refine jK hK hS5 ?_;clear hK K;refine rZ 8 fun K hK=>?_;rw [if_pos (by rfl)];obtain⟨cs,hcs,hc2⟩:=hS5.2.2.2;refine VX 41 _ _ none rfl rfl (w.heap.size+2) 41 cs #[.bool (g&&decide (0<(Big.trim l4).length)),.slice A4 (Big.trim l4).length c4] rfl rfl hcs hc2 VQ oC ?_;have hR6:=setRow_heap W5 (w.heap.size+2) cs #[.bool (g&&decide (0<(Big.trim l4).length)),.slice A4 (Big.trim l4).length c4] _ _ hcs;have hS6:=hS5.store #[.bool (g&&decide (0<(Big.trim l4).length)),.slice A4 (Big.trim l4).length c4] rfl;refine jK hK hS6 ?_;clear hK K;refine wpAnyH_done kR ?_ _;have hA6:=(hA4.at_ hB5 lR).other (w':=W5.setRow (w.heap.size+2) #[.bool (g&&decide (0<(Big.trim l4).length)),.slice A4 (Big.trim l4).length c4]) (fun b o e=>setRow_other _ _ _ _ (by have:=hf4 b o e;omega));have HP:=Z1 ((PI.mk (neg:=g) Hl4.out hn4 hc4 hL4 hA6).more (C:=(W5.setRow (w.heap.size+2) #[.bool (g&&decide (0<(Big.trim l4).length)),.slice A4 (Big.trim l4).length c4]).heap.size) (j:=max k j+1) sP oM);have hload:=run_loadVar_row (P:=prog) _ _ _ 41 _ _ _ hR6 underlying41 rfl VQ;clear hA6;go_wp2;refine bodyPost_ret (v:=.agg #[.bool (g&&decide (0<(Big.trim l4).length)),.slice A4 (Big.trim l4).length c4]) (by simp [results,results74,asAddr,hload]) rfl ⟨⟨_,rfl,?_⟩,hS6.1⟩;have:=HP.out
 rwa [Hv4.out] at this
theorem b3r (k j:Nat) (g h:Bool) (A B:Option Addr) (n m c d:Nat) (l q:List Int) (hl:l.length=n) (hq:q.length=m) (hnk:n<=k) (hmj:m<=j) (hk:k<=100000000000-1) (hj:j<=100000000000-1) (hL:Big.Lim 1000000000 l) (hQ:Big.Lim 1000000000 q) (hNl:Big.Norm l) (hNq:Big.Norm q) (hgh:(g==h)=false) (hle:Big.val 1000000000 l<Big.val 1000000000 q)
  (hA:LimbsAt .u32 w w A l) (hB:LimbsAt .u32 w w B q) :
  Calls prog 74 #[.agg #[g,.slice A n c],.agg #[h,.slice B m d]] w fun e w'=>(∃ u,e=.returned u/\PI w' w' (max k j+1) u (Big.sgn h (Big.val 1000000000 q-Big.val 1000000000 l)))/\Below w w w':=by
 have hS0:=RegS.start w #[g,.slice A n c] #[h,.slice B m d];obtain⟨W1,hW1⟩:∃ W1,W1=(((w.alloc (.cells #[g,.slice A n c] 41)).alloc (.cells #[h,.slice B m d] 41)).alloc (.cells #[false,.slice none 0 0] 41)):=⟨_,rfl⟩;rw [<- hW1] at hS0;have HW:=Z1 hW1;clear hW1;have hcm:cm (Big.val 1000000000 l) (Big.val 1000000000 q)<0:=by unfold cm;rw [if_pos hle];omega
 have hmn:n<=m:=by
  rcases Nat.lt_or_ge m n with hh | hh
  ·have:=Big.longer_lt (B:=1000000000) oM hQ hL hNl oM;omega
  ·exact hh
 have Hle:=Z1 hle;clear hle;have hq0:=hS0.lt;have c0:=cr9 1 hS0.2.1;have c1:=cr9 1 hS0.2.2.1;simp at c0 c1;obtain⟨z,hz⟩:∃ z,cm (Big.val 1000000000 l) (Big.val 1000000000 q)=z:=⟨_,rfl⟩;rw [hz] at hcm;have Hz:=Z1 hz;clear hz;go_enter func74,ntmps74;go_upto_region 3 with(fail);rw [<- HW.out];go_wp2_with (fail);refine(a0V W1 A B n m c d l q hl hq oM oM hL hQ hNl hNq (hA.at_ hS0.1 lR) (hB.at_ hS0.1 lR)).mono ?_;rw [Hz.out];rintro e W3 ⟨rfl,hB3⟩;have hS3:=hS0.step hB3;have hS:=hS3.drew;clear c0 c1;go_upto_region 5 with(fail);refine wp_region_held (S:=RegS w #[g,.slice A n c] #[h,.slice B m d]) kR ?_;change wpAnyH _ _ _ _ _ _ _ _ (World.drew _);refine jT 0 hS ?_;refine jT 1 hS ?_ (v:=.bool h) (hy:=(.inl ⟨by rfl,fun W' hS'=>by have hc:=cr9 0 hS'.2.2.1;simp at hc;go_simp⟩));refine jT 2 hS ?_;refine jT 3 hS ?_ (v:=.slice B m d) (hy:=(.inl ⟨by rfl,fun W' hS'=>by have hc:=cr9 1 hS'.2.2.1;simp at hc;go_simp⟩));refine jT 4 hS ?_;refine jT 5 hS ?_ (v:=.slice A n c) (hy:=(.inl ⟨by rfl,fun W' hS'=>by have hc:=cr9 1 hS'.2.1;simp at hc;go_simp⟩));refine rZ 6 fun K hK=>?_;go_simp;refine(a5L W3.drew B A m n d c q l hq hl hmn oM oM hQ hL (Int.le_of_lt Hle.out) (hB.at_ hS.1 lR) (hA.at_ hS.1 lR)).mono ?_;rintro e W4 ⟨hB4,A4,n4,c4,l4,rfl,hl4,hn4,hc4,hL4,hv4,hA4,hf4⟩;have hS4:=hS.step hB4;refine jK hK hS4 ?_;clear hK K;have Hv4:=Z1 hv4;have Hl4:=Z1 hl4;clear hv4 hl4;refine rZ 7 fun K hK=>?_;go_simp;refine(a0N W4 h A4 n4 c4 l4 Hl4.out oM hc4 hA4).mono ?_;rintro e W5 ⟨rfl,hB5⟩;have hS5:=hS4.step hB5;have hlt1:=hS.lt;refine jK hK hS5 ?_;clear hK K;refine rZ 8 fun K hK=>?_;rw [if_pos (by rfl)];obtain⟨cs,hcs,hc2⟩:=hS5.2.2.2;refine VX 41 _ _ none rfl rfl (w.heap.size+2) 41 cs #[.bool (h&&decide (0<(Big.trim l4).length)),.slice A4 (Big.trim l4).length c4] rfl rfl hcs hc2 VQ oC ?_;have hR6:=setRow_heap W5 (w.heap.size+2) cs #[.bool (h&&decide (0<(Big.trim l4).length)),.slice A4 (Big.trim l4).length c4] _ _ hcs;have hS6:=hS5.store #[.bool (h&&decide (0<(Big.trim l4).length)),.slice A4 (Big.trim l4).length c4] rfl;refine jK hK hS6 ?_;clear hK K;refine wpAnyH_done kR ?_ _;have hA6:=(hA4.at_ hB5 lR).other (w':=W5.setRow (w.heap.size+2) #[.bool (h&&decide (0<(Big.trim l4).length)),.slice A4 (Big.trim l4).length c4]) (fun b o e=>setRow_other _ _ _ _ (by have:=hf4 b o e;omega));have HP:=Z1 ((PI.mk (neg:=h) Hl4.out hn4 hc4 hL4 hA6).more (C:=(W5.setRow (w.heap.size+2) #[.bool (h&&decide (0<(Big.trim l4).length)),.slice A4 (Big.trim l4).length c4]).heap.size) (j:=max k j+1) sP oM);have hload:=run_loadVar_row (P:=prog) _ _ _ 41 _ _ _ hR6 underlying41 rfl VQ;clear hA6;go_wp2;refine bodyPost_ret (v:=.agg #[.bool (h&&decide (0<(Big.trim l4).length)),.slice A4 (Big.trim l4).length c4]) (by simp [results,results74,asAddr,hload]) rfl ⟨⟨_,rfl,?_⟩,hS6.1⟩;have:=HP.out
 rwa [Hv4.out] at this
theorem a9m (k j:Nat) (g h:Bool) (A B:Option Addr) (n m c d:Nat) (l q:List Int) (hl:l.length=n) (hq:q.length=m) (hnk:n<=k) (hmj:m<=j) (hk:k<=10000000000) (hj:j<=10000000000) (hL:Big.Lim 1000000000 l) (hQ:Big.Lim 1000000000 q)
  (hA:LimbsAt .u32 w w A l) (hB:LimbsAt .u32 w w B q) :
  Calls prog 75 #[.agg #[g,.slice A n c],.agg #[h,.slice B m d]] w fun e w'=>(∃ u,e=.returned u/\PI w' w' (k+j) u (Big.sgn (g != h) (Big.val 1000000000 l*Big.val 1000000000 q)))/\Below w w w':=by
 have hS0:=RegS.start w #[g,.slice A n c] #[h,.slice B m d];obtain⟨W1,hW1⟩:∃ W1,W1=(((w.alloc (.cells #[g,.slice A n c] 41)).alloc (.cells #[h,.slice B m d] 41)).alloc (.cells #[false,.slice none 0 0] 41)):=⟨_,rfl⟩;rw [<- hW1] at hS0;have HW:=Z1 hW1;clear hW1;go_enter func75,ntmps75;go_upto_region 1 with(fail);rw [<- HW.out];have hS:=hS0.drew;refine wp_region_held (S:=RegS w #[g,.slice A n c] #[h,.slice B m d]) kR ?_;change wpAnyH _ _ _ _ _ _ _ _ (World.drew _);refine jT 0 hS ?_;refine jT 1 hS ?_ (v:=.bool g) (hy:=(.inl ⟨by rfl,fun W' hS'=>by have hc:=cr9 0 hS'.2.1;simp at hc;go_simp⟩));refine jT 2 hS ?_;refine jT 3 hS ?_ (v:=.bool h) (hy:=(.inl ⟨by rfl,fun W' hS'=>by have hc:=cr9 0 hS'.2.2.1;simp at hc;go_simp⟩));refine jT 4 hS ?_ (v:=.bool (g != h)) (hy:=(.inl ⟨by rfl,fun W' hS'=>by go_simp;cases g <;> cases h <;> rfl⟩));refine jT 5 hS ?_;refine jT 6 hS ?_ (v:=.slice A n c) (hy:=(.inl ⟨by rfl,fun W' hS'=>by have hc:=cr9 1 hS'.2.1;simp at hc;go_simp⟩));refine jT 7 hS ?_;refine jT 8 hS ?_ (v:=.slice B m d) (hy:=(.inl ⟨by rfl,fun W' hS'=>by have hc:=cr9 1 hS'.2.2.1;simp at hc;go_simp⟩));refine rZ 9 fun K hK=>?_;go_simp;refine(a8z W1.drew A B n m c d l q hl hq oM oM hL hQ (hA.at_ hS.1 lR) (hB.at_ hS.1 lR)).mono ?_;rintro e W4 ⟨hB4,A4,n4,c4,l4,rfl,hl4,hn4,hc4,hL4,hv4,hA4,hf4⟩;have hS4:=hS.step hB4;refine jK hK hS4 ?_;clear hK K;have Hv4:=Z1 hv4;have Hl4:=Z1 hl4;clear hv4 hl4;refine rZ 10 fun K hK=>?_;go_simp;refine(a0N W4 (g != h) A4 n4 c4 l4 Hl4.out oM hc4 hA4).mono ?_;rintro e W5 ⟨rfl,hB5⟩;have hS5:=hS4.step hB5;have hlt1:=hS.lt;refine jK hK hS5 ?_;clear hK K;refine rZ 11 fun K hK=>?_;rw [if_pos (by rfl)];obtain⟨cs,hcs,hc2⟩:=hS5.2.2.2;refine VX 41 _ _ none rfl rfl (w.heap.size+2) 41 cs #[.bool ((g != h)&&decide (0<(Big.trim l4).length)),.slice A4 (Big.trim l4).length c4] rfl rfl hcs hc2 VQ oC ?_;have hR6:=setRow_heap W5 (w.heap.size+2) cs #[.bool ((g != h)&&decide (0<(Big.trim l4).length)),.slice A4 (Big.trim l4).length c4] _ _ hcs;have hS6:=hS5.store #[.bool ((g != h)&&decide (0<(Big.trim l4).length)),.slice A4 (Big.trim l4).length c4] rfl;refine jK hK hS6 ?_;clear hK K;refine wpAnyH_done kR ?_ _;have hA6:=(hA4.at_ hB5 lR).other (w':=W5.setRow (w.heap.size+2) #[.bool ((g != h)&&decide (0<(Big.trim l4).length)),.slice A4 (Big.trim l4).length c4]) (fun b o e=>setRow_other _ _ _ _ (by have:=hf4 b o e;omega));have HP:=Z1 ((PI.mk (neg:=(g != h)) Hl4.out hn4 hc4 hL4 hA6).more (C:=(W5.setRow (w.heap.size+2) #[.bool ((g != h)&&decide (0<(Big.trim l4).length)),.slice A4 (Big.trim l4).length c4]).heap.size) (j:=k+j) sP oM);have hload:=run_loadVar_row (P:=prog) _ _ _ 41 _ _ _ hR6 underlying41 rfl VQ;clear hA6;go_wp2;refine bodyPost_ret (v:=.agg #[.bool ((g != h)&&decide (0<(Big.trim l4).length)),.slice A4 (Big.trim l4).length c4]) (by simp [results,results75,asAddr,hload]) rfl ⟨⟨_,rfl,?_⟩,hS6.1⟩;have:=HP.out
 rwa [Hv4.out] at this

theorem b0n (k j:Nat) (u v:Value) (x y:Int) (hk:k<=100000000000-1) (hj:j<=100000000000-1) (hu:PI w w k u x) (hv:PI w w j v y) :
  Calls prog 74 #[u,v] w fun e w'=>(∃ r,e=.returned r/\PI w' w' (max k j+1) r (x+y))/\Below w w w':=by
 obtain⟨g,A,n,c,l,rfl,hl,hn,hc,hL,hN,hx,hA,_⟩:=hu.parts;obtain⟨h,B,m,d,q,rfl,hq,hm,hd,hQ,hM,hy,hB,_⟩:=hv.parts
 by_cases hgh:g=h
 ·subst hgh
  have e:x+y=Big.sgn g (Big.val 1000000000 l+Big.val 1000000000 q):=by rw [hx,hy];cases g <;> simp [Big.sgn];omega
  rw [e];exact b2e w k j g A B n m c d l q hl hq hn hm hk hj hL hQ hA hB
 ·have hb:(g==h)=false:=by simpa using hgh
  by_cases hle:Big.val 1000000000 q<=Big.val 1000000000 l
  ·have e:x+y=Big.sgn g (Big.val 1000000000 l-Big.val 1000000000 q):=by
    rw [hx,hy];cases g <;> cases h <;> simp [Big.sgn] at hgh ⊢ <;> omega
   rw [e];exact b3s w k j g h A B n m c d l q hl hq hn hm hk hj hL hQ hN hM hb hle hA hB
  ·have e:x+y=Big.sgn h (Big.val 1000000000 q-Big.val 1000000000 l):=by
    rw [hx,hy];cases g <;> cases h <;> simp [Big.sgn] at hgh ⊢ <;> omega
   rw [e];exact b3r w k j g h A B n m c d l q hl hq hn hm hk hj hL hQ hN hM hb oM hA hB
theorem a1z (k j:Nat) (u v:Value) (x y:Int) (hk:k<=10000000000) (hj:j<=10000000000) (hu:PI w w k u x) (hv:PI w w j v y) :
  Calls prog 75 #[u,v] w fun e w'=>(∃ r,e=.returned r/\PI w' w' (k+j) r (x*y))/\Below w w w':=by
 obtain⟨g,A,n,c,l,rfl,hl,hn,hc,hL,hN,hx,hA,_⟩:=hu.parts;obtain⟨h,B,m,d,q,rfl,hq,hm,hd,hQ,hM,hy,hB,_⟩:=hv.parts
 have e:x*y=Big.sgn (g != h) (Big.val 1000000000 l*Big.val 1000000000 q):=by
  rw [hx,hy];cases g <;> cases h <;> simp [Big.sgn,Int.neg_mul,Int.mul_neg]
 rw [e];exact a9m w k j g h A B n m c d l q hl hq hn hm hk hj hL hQ hA hB
end
open Tryz Go.RowKit

theorem a7D {B d r x V R n:Int} (h:V=d*R+r) (hn:n=r*B+x):x+B*V=d*(n / d+B*R)+n % d:=by
 have h1:=Int.emod_add_mul_ediv n d;rw [h,Int.mul_add,Int.mul_add];have h2:B*(d*R)=d*(B*R):=Int.mul_left_comm _ _ _;have h3:B*r=r*B:=Int.mul_comm _ _;omega
theorem b0w {d r x n:Int} (hd:1<=d) (h0:0<=r) (h1:r<d) (x0:0<=x) (x1:x<1000000000) (hn:n=r*1000000000+x):0<=n/\0<=n / d/\n / d<1000000000/\0<=n % d/\n % d<d:=by
 have hn0:0<=n:=oM;refine⟨hn0,Int.ediv_nonneg hn0 oM,Int.ediv_lt_of_lt_mul oM oM,Int.emod_nonneg _ oM,Int.emod_lt_of_pos _ oM⟩

def Away (Bk n:Nat) (A:Option Addr) (l:List Int):Prop:=l=[]∨∀ b o,A=some ⟨b,o,none⟩->b<Bk∨n<=b

section
variable (w:World)
theorem a5z (A:Option Addr) (n c:Nat) (p:List Int) (d:Int) (hl:p.length=n) (hn:n<=100000000000) (hd0:1<=d) (hd1:d<1000000000) (hL:Big.Lim 1000000000 p) (hA:LimbsAt .u32 w w A p) :
  Calls prog 187 #[.slice A n c,.int .u32 d] w fun e w'=>Below w w w'/\∃(g g':Nat) (R:List Int) (r:Int),
   e=.returned (.tuple #[.slice (some ⟨g,0,none⟩) n n,.slice (some ⟨g',0,none⟩) 1 1])/\R.length=n/\Big.Lim 1000000000 R/\Big.val 1000000000 p=d*Big.val 1000000000 R+r/\0<=r/\r<d /\
   LimbsAt .u32 w' w' (some ⟨g,0,none⟩) R/\LimbsAt .u32 w' w' (some ⟨g',0,none⟩) [r]/\w.heap.size<=g/\w.heap.size<=g':=by
 subst hl;obtain⟨i0,hi,hz0,hz1,hz2⟩:=info_parts uinfo;have Hnp:p.length<=p.length:=Nat.le_refl _;have Hb2:p.length<=1000000000000:=oM;go_enter func187,ntmps187;go_upto_region 2 with(refine a0G rfl _ _ 39 rfl .u32 138 i0 4 underlying39 hi hz0 hz1 hz2 _ _ _ _ p.length p.length rfl rfl rfl rfl Hnp dC Hb2 ?_;intro w1 hw1);have hB1:Below w w w1:=by rw [hw1.out];exact bR.alloc lR _
 have hArr:Arr .u32 138 w1 w (List.replicate p.length 0):=by
  unfold Arr;rw [hw1.out];exact heap_alloc_new w _
 have HL:=Z1 hL;clear hw1 hL;go_wp2
 go_loopw [7,8] (fun cr ix wr=>∃(k:Nat) (R:List Int) (r:Int),k<=p.length/\ix=.int .i64 ((k:Int)-1)/\cr=.int .u64 r/\0<=r/\r<d/\R.length+k=p.length/\Big.Lim 1000000000 R /\
  Big.val 1000000000 (p.drop k)=d*Big.val 1000000000 R+r/\Arr .u32 138 wr w (List.replicate k 0++R)/\Below w w wr) (fun _ ix _=>(intOf ix+1).toNat)
 case atStart=>exact⟨p.length,[],0,lR,rfl,rfl,oM,oM,sP,Big.Lim.nil,by simp [Big.val],by simpa using hArr,hB1⟩
 case round =>
  obtain⟨k,R,r,hk,rfl,rfl,hr0,hr1,hRl,hRL,hv,ha,hb⟩:=hrel;obtain⟨HRl,HRL,Hv,Ha⟩:=Z4 hRl hRL hv ha;have hgr:w.heap.size<wr.heap.size:=ha.lt;clear hRl hRL hv ha hArr
  match k,hk with
  | 0,_ =>
   have hR:=Ha.out;rw [List.replicate_zero,List.nil_append] at hR;have Hlim:=Z1 ((hR.alloc (.cells #[.int .u32 r] 138)).limbs (B:=(wr.alloc (.cells #[.int .u32 r] 138)).heap.size) sO);have hr1':r<4294967296:=oM
   have Hr:Hid (LimbsAt .u32 (wr.alloc (.cells #[.int .u32 r] 138)) (wr.alloc (.cells #[.int .u32 r] 138)).heap.size (some ⟨wr,0,none⟩) [r]):=by
    show LimbsAt _ _ _ _ _;exact Arr.limbs (e:=138) (F:=[r]) (heap_alloc_new wr (.cells #[.int .u32 r] 138)) sP
   clear hR;go_wp2
   go_ret2
   exact⟨hb.alloc hb.size _,w,wr,R,r,rfl,by have:=HRl.out;omega,HRL.out,by have:=Hv.out;rwa [List.drop_zero] at this,hr0,hr1,Hlim.out,Hr.out,lR,hb.size⟩
  | k+1,hk =>
   rw [show((k+1:Nat):Int)-1=(k:Int) by omega];have hkl:k<p.length:=oM;obtain⟨b,o,rfl,hbB,hx⟩:=(hA.below hb lR).look hkl;have hxl:=HL.out.get k hkl;have hx0:=hxl.1;have hx1:=hxl.2;have hbwr:b<wr.heap.size:=oM;obtain⟨n0,n1,n2,n3,n4⟩:=b0w hd0 hr0 hr1 hx0 hx1 rfl;have hFl:k<(List.replicate (k+1) (0:Int)++R).length:=sO
   have hcell:wr.cell? ⟨w,k,none⟩=some (.int .u32 0):=by
    rw [Ha.out.cell hFl]
    congr 2
    rw [List.getElem_append_left sP];simp
   have hfz:=Ha.out.free k;clear hxl hFl;go_wp2;go_roundw
   case rel =>
    refine⟨k,((r*1000000000+p[k]) / d)::R,(r*1000000000+p[k]) % d,oM,by go_num,rfl,n3,n4,by have:=HRl.out;simp;omega,Big.Lim.cons.2 ⟨⟨n1,n2⟩,HRL.out⟩,?_,?_,hb.setCell lR _⟩
    ·rw [Big.val_drop _ _ _ hkl,Big.val_cons]
     exact a7D Hv.out rfl
    ·have:=Ha.out.set k ((r*1000000000+p[k]) / d)
     rwa [show(List.replicate (k+1) (0:Int)++R).set k ((r*1000000000+p[k]) / d)=List.replicate k 0++((r*1000000000+p[k]) / d)::R by
      rw [List.replicate_succ',List.append_assoc,List.set_append_right _ _ sP];simp] at this
   case measure=>simp [intOf]

def DivPost (A:Option Addr) (p:List Int) (n m:Nat) (a b:Int) (w:World) (e:Ending) (w':World):Prop :=
 Below w w w'/\∃(A1:Option Addr) (n1 c1:Nat) (Q:List Int) (A2:Option Addr) (n2 c2:Nat) (R:List Int),e=.returned (.tuple #[.slice A1 n1 c1,.slice A2 n2 c2])/\Q.length=n1/\R.length=n2/\n1<=n/\n2<=m/\n1<=c1/\n2<=c2 /\
  Big.Lim 1000000000 Q/\Big.Lim 1000000000 R/\a=b*Big.val 1000000000 Q+Big.val 1000000000 R/\0<=Big.val 1000000000 R/\Big.val 1000000000 R<b /\
  LimbsAt .u32 w' w' A1 Q/\LimbsAt .u32 w' w' A2 R/\(∀ b o,A1=some ⟨b,o,none⟩->w.heap.size<=b)/\((A2=A/\R=p)∨∀ b o,A2=some ⟨b,o,none⟩->w.heap.size<=b)

theorem a8p (A B:Option Addr) (n m c d:Nat) (p q:List Int) (hl:p.length=n) (hq:q.length=m) (hn:n<=100000000000) (hm:m<=100000000000) (hc:n<=c) (hm0:0<m) (hL:Big.Lim 1000000000 p) (hQ:Big.Lim 1000000000 q) (hNp:Big.Norm p) (hNq:Big.Norm q)
  (hone:m=1∨Big.val 1000000000 p<Big.val 1000000000 q) (hA':LimbsAt .u32 w w A p) (hB':LimbsAt .u32 w w B q) :
  Calls prog 136 #[.slice A n c,.slice B m d] w (DivPost A p n m (Big.val 1000000000 p) (Big.val 1000000000 q) w):=by
 have hvp:=Big.val_nonneg (B:=1000000000) oM hL
 by_cases hlt:Big.val 1000000000 p<Big.val 1000000000 q
 ·have hcm:cm (Big.val 1000000000 p) (Big.val 1000000000 q)=-1:=by unfold cm;rw [if_pos hlt]
  have hnm:n<=m:=by
   rcases Nat.lt_or_ge m n with h | h
   ·have:=Big.longer_lt (B:=1000000000) oM hQ hL hNp oM;omega
   ·exact h
  have Hcm:=Z1 hcm;have Hlt:=Z1 hlt;clear hcm hlt;go_enter func136,ntmps136;go_wp2_with (fail);refine(a0V w A B n m c d p q hl hq hn hm hL hQ hNp hNq hA' hB').mono ?_;rw [Hcm.out];rintro e w1 ⟨rfl,hB1⟩;go_wp2
  go_ret2
  exact⟨hB1,none,0,0,[],A,n,c,p,rfl,rfl,hl,oM,hnm,oM,hc,Big.Lim.nil,hL,by simp [Big.val],hvp,Hlt.out,.inl rfl,hA'.at_ hB1 lR,fun b o e=>(by cases e),.inl ⟨rfl,rfl⟩⟩
 ·have h1:m=1:=by rcases hone with h | h;exact h;exact absurd h hlt
  have hcm:0<=cm (Big.val 1000000000 p) (Big.val 1000000000 q):=by unfold cm;rw [if_neg hlt];split <;> omega
  obtain⟨z,hz⟩:∃ z,cm (Big.val 1000000000 p) (Big.val 1000000000 q)=z:=⟨_,rfl⟩;rw [hz] at hcm;have Hz:=Z1 hz
  match q,hq with
  | [],hq=>simp at hq;omega
  | x::y::t,hq=>simp at hq;omega
  | [x],hq =>
   have hx:=(Big.Lim.cons.1 hQ).1;have hx0:x≠0:=by have:=hNq sP;simpa using this
   obtain⟨b,o,rfl,hbB,hxc⟩:=hB'.look (k:=0) sP;simp at hxc;have HBe:Hid (Big.val 1000000000 [x]=x):=Z1 (Big.val_one _ _);have x0:1<=x:=oM;have x1:=hx.2;subst h1;clear hz hlt hx hx0;go_enter func136,ntmps136;go_wp2_with (fail);refine(a0V w A _ n 1 c d p [x] hl rfl hn oM hL hQ hNp hNq hA' hB').mono ?_;rw [Hz.out];rintro e w1 ⟨rfl,hB1⟩;obtain⟨hc1,hf1⟩:=bcell hB1;have hq1:=hB1.size;have hbw1:b<w1.heap.size:=oM;go_wp2_with (fail);refine(a5z w1 A n c p x hl hn x0 x1 hL (hA'.at_ hB1 lR)).mono ?_;rintro e w2 ⟨hB2,g,g',R,r,rfl,hRl,hRL,hRv,r0,r1,hR1,hR2,hg,hg'⟩;have HRv:=Z1 hRv;have HRl:=Z1 hRl;clear hRv hRl hc1 hf1;go_wp2
   go_ret2
   refine⟨hB1.trans (hB2.mono hB1.size),_,n,n,R,_,1,1,[r],rfl,HRl.out,rfl,lR,lR,lR,lR,hRL,Big.Lim.cons.2 ⟨⟨r0,oM⟩,Big.Lim.nil⟩,by rw [HBe.out,Big.val_one];exact HRv.out,by rw [Big.val_one];exact r0,by rw [HBe.out,Big.val_one];exact r1,hR1,hR2,?_,?_⟩
   ·exact fun b' o' e'=>by cases e';omega
   ·exact .inr fun b' o' e'=>by cases e';omega
end
open Tryz Go.RowKit
theorem Arr.away {K:IntKind} {e:TypeId} {w w':World} {g X:Nat} {F:List Int} (h:Arr K e w g F) (hg:w.grownBy w' (some X)) (hne:g≠X):Arr K e w' g F :=
 (hg.block g h.lt (fun e=>hne (Option.some.inj e))).trans h
theorem LimbsAt.awayG {K:IntKind} {w w':World} {A:Option Addr} {l:List Int} {X:Nat} (h:LimbsAt K w w A l) (hg:w.grownBy w' (some X)) (hne:∀ b o,A=some ⟨b,o,none⟩->b≠X):LimbsAt K w' w' A l:=by
 rcases h with h | ⟨b,o,e,hl,hc,ht⟩
 ·exact .inl h
 ·have hb:=hg.block b hl (fun e'=>hne b o e (Option.some.inj e'))
  exact .inr ⟨b,o,e,Nat.lt_of_lt_of_le hl hg.size,fun k hk=>(World.cell?_of_block (w:=w) (a:=⟨b,o+k,none⟩) hb).trans (hc k hk),ht.of_block hb⟩
theorem b3b (w:World) (X:Array Value) (t:TypeId):Below w w (w.alloc (.cells X t))/\(w.alloc (.cells X t)).heap[w.heap.size]?=some (.cells X t (0,0))/\(w.alloc (.cells X t)).heap.size=w.heap.size+1 :=
 ⟨bR.alloc lR _,heap_alloc_new w _,sP⟩
section
variable (w:World)
theorem a3N (A B:Option Addr) (n m c d:Nat) (p q:List Int) (hl:p.length=n) (hq:q.length=m) (hn:n<=90000000000) (hm:m<=90000000000) (hc:n<=c) (hm0:0<m) (hL:Big.Lim 1000000000 p) (hQ:Big.Lim 1000000000 q) (hNp:Big.Norm p) (hNq:Big.Norm q)
  (hA':LimbsAt .u32 w w A p) (hB':LimbsAt .u32 w w B q) :
  Calls prog 136 #[.slice A n c,.slice B m d] w (DivPost A p n m (Big.val 1000000000 p) (Big.val 1000000000 q) w):=by
 by_cases hone:m=1∨Big.val 1000000000 p<Big.val 1000000000 q
 ·exact a8p w A B n m c d p q hl hq oM oM hc hm0 hL hQ hNp hNq hone hA' hB'
 have hge:Big.val 1000000000 q<=Big.val 1000000000 p:=oM;obtain⟨k,rfl⟩:∃ k,m=k+2:=⟨m-2,oM⟩
 have hnm:k+2<=n:=by
  rcases Nat.lt_or_ge n (k+2) with h | h
  ·have:=Big.longer_lt (B:=1000000000) oM hL hQ hNq oM;omega
  ·exact h
 obtain⟨e,rfl⟩:∃ e,n=k+2+e:=⟨n-(k+2),oM⟩;have hcm:0<=cm (Big.val 1000000000 p) (Big.val 1000000000 q):=by unfold cm;rw [if_neg oM];split <;> omega
 obtain⟨z,hz⟩:∃ z,cm (Big.val 1000000000 p) (Big.val 1000000000 q)=z:=⟨_,rfl⟩;rw [hz] at hcm;have Hz:=Z1 hz;obtain⟨b,o,rfl,hbB,hqc⟩:=hB'.look (k:=k+1) oM;obtain⟨top,htop⟩:∃ x,x=q[k+1]:=⟨_,rfl⟩;rw [<- htop] at hqc;have tq:=hQ.get (k+1) oM;have tl:=hNq.last oM
 have tl':q[k+1]≠0:=by
  have e:q.length-1=k+1:=oM;simpa only [e] using tl
 rw [<- htop] at tq tl';have tp:1<=top:=oM;obtain⟨s,hs⟩:∃ s,s=1000000000 / (top+1):=⟨_,rfl⟩;have sp:=Big.scale_spec tp tq.2;rw [<- hs] at sp;have sp3:=sp.2.2;rw [htop] at sp3;have Sp:=Z1 sp3;have Hs:=Z1 hs;have sp1:=sp.1;have sp2:=sp.2.1;have tq2:=tq.2;obtain⟨HL,HQ,HNq,Hl,Hq⟩:=Z5 hL hQ hNq hl hq;clear hz hone htop tl tl' hs sp sp3 tq;go_enter func136,ntmps136;go_wp2_with (fail);refine(a0V w A _ (k+2+e) (k+2) c d p q hl hq oM oM hL hQ hNp hNq hA' hB').mono ?_;rw [Hz.out];rintro e1 w1 ⟨rfl,hB1⟩;have hq1:=hB1.size;have hbw1:b<w1.heap.size:=oM;have x1:=(hB1.cell (p:=⟨b,o+(k+1),none⟩) hbB).trans hqc;have HA1:=Z1 (hA'.at_ hB1 lR);have HQ1:=Z1 (hB'.at_ hB1 lR);clear hL hQ hNp hNq hA' hB' hqc;obtain⟨hB2',hb2,hz2⟩:=b3b w1 #[.int .u32 (1000000000 / (top+1))] 138;obtain⟨W2,hW2⟩:∃ W2,W2=w1.alloc (.cells #[.int .u32 (1000000000 / (top+1))] 138):=⟨_,rfl⟩;rw [<- hW2] at hB2' hb2 hz2;rw [<- Hs.out] at hb2;have HW2:=Z1 hW2;have hB2:=hB1.trans (hB2'.mono hB1.size);have HA2:=Z1 (HA1.out.at_ hB2' lR);have HQ2:=Z1 (HQ1.out.at_ hB2' lR);have hs2:Arr .u32 138 W2 w1 [s]:=hb2;have Hs2:=Z1 hs2;have sz2:w1.heap.size<W2.heap.size:=oM;have HS2:=Z1 (hs2.limbs (B:=W2.heap.size) oM);have hSL:Big.Lim 1000000000 [s]:=Big.Lim.cons.2 ⟨⟨oM,oM⟩,Big.Lim.nil⟩;have HSL:=Z1 hSL;clear hW2 hb2 hz2 hs2 hSL;go_upto_region 6 with(fail);rw [<- HW2.out];go_wp2_with (fail);refine(a3n W2 A _ (k+2+e) 1 c 1 p [s] hl rfl oM oM HL.out HSL.out HA2.out HS2.out).mono ?_;rintro e3 W3 ⟨hB3,U0,rfl,hUl,hUL,hUv,hUa⟩;rw [Big.val_one] at hUv;obtain⟨HUl,HUL,HUv,HUa⟩:=Z4 hUl hUL hUv hUa;have sz3:W2.heap.size<W3.heap.size:=hUa.lt;have HQ3:=Z1 (HQ2.out.at_ hB3 lR);have HS3:=Z1 (HS2.out.at_ hB3 lR);have hB03:=hB2.trans (hB3.mono hB2.size);clear hUl hUL hUv hUa;go_wp2_with (fail);refine(a3n W3 _ _ (k+2) 1 d 1 q [s] hq rfl oM oM HQ.out HSL.out HQ3.out HS3.out).mono ?_;rintro e4 W4 ⟨hB4,V0,rfl,hVl,hVL,hVv,hVa⟩;rw [Big.val_one] at hVv;have sz4:W3.heap.size<W4.heap.size:=hVa.lt;have hB04:=hB03.trans (hB4.mono hB03.size);have HUa4:=Z1 (HUa.out.below hB4 sz3);have hVA:=hVa.limbs (B:=W4.heap.size) sz4;obtain⟨HVA,HVL,HVl⟩:=Z3 hVA hVL hVl;obtain⟨t1,t2,t3,t4⟩:=Big.trim_spec 1000000000 V0;obtain⟨V,hV⟩:∃ V,V=Big.trim V0:=⟨_,rfl⟩;have htl:=Big.trim_lim hVL;rw [<- hV] at t1 t2 t3 t4 htl;rw [hVv] at t1;have hVk:=Big.scaled_len hq HQ.out HNq.out sp1 Sp.out htl t2 t1;obtain⟨HV,HVv,HVN,HVLt,HVk⟩:=Z5 hV t1 t2 htl hVk;have HVt:Hid (LimbsAt .u32 W4 W4 (some ⟨W3,0,none⟩) V):=Z1 (by rw [t4];exact hVA.take _);have HS4:=Z1 (Hs2.out.below (hB3.trans (hB4.mono hB3.size)) sz2);clear t1 t2 t3 t4 htl hVk hVl hVL hVv hVa hVA hV;go_wp2_with (fail);refine(a2Z W4 _ (k+2+1) (k+2+1) V0 HVl.out oM oM HVA.out).mono ?_;rintro e5 w5 ⟨rfl,rfl⟩;rw [<- HV.out,HVk.out];go_upto_region 7 with(fail);have tlast:=HVN.out.last (by have:=HVk.out;omega)
 have tl1:1<=V[k+1]'(by have:=HVk.out;omega):=by
  have e9:V.length-1=k+1:=by have:=HVk.out;omega
  have h9:=HVLt.out.get (k+1) (by have:=HVk.out;omega);have h8:V[k+1]'(by have:=HVk.out;omega)≠0:=by simpa only [e9] using tlast
  omega
 have Ht1:=Z1 tl1;clear tlast tl1;go_wp2
 go_loopw [7] (fun uv wr=>uv=.slice (some ⟨W2,0,none⟩) (k+2+e+1) (k+2+e+1)/\W4=wr) (fun _ _=>0)
 case atStart=>exact⟨rfl,rfl⟩
 case round =>
  obtain⟨rfl,rfl⟩:=hrel;obtain⟨i0,hi,hz0,hz1,hz2⟩:=info_parts uinfo;have he1:e+1<=1000000000000:=oM;go_upto_region 11 with(refine a0G rfl _ _ 39 rfl .u32 138 i0 4 underlying39 hi hz0 hz1 hz2 _ _ _ _ (e+1) (e+1) rfl rfl oM oM lR dC he1 ?_;intro W5 hW5);have hq5:Arr .u32 138 W5 W4 (List.replicate (e+1) 0):=by unfold Arr;rw [hW5.out];exact heap_alloc_new W4 _
  have hB5:Below W4 W4 W5:=by rw [hW5.out];exact bR.alloc lR _
  obtain⟨HQ5,HU5,HV5,HS5⟩:=Z4 hq5 (HUa4.out.below hB5 oM) (HVt.out.at_ hB5 lR) (HS4.out.below hB5 oM);have hB05:=hB04.trans (hB5.mono hB04.size);have hw2:w.heap.size<=W2.heap.size:=hB2.size;have hw4:w.heap.size<=W4.heap.size:=hB04.size;have hU1:U0.length=k+3+e:=by rw [HUl.out];omega
  have hUd:(U0.drop (e+1)).length=k+2:=by rw [List.length_drop,hU1];omega
  have hUt:(U0.take (e+1)).length=e+1:=by rw [List.length_take,hU1];omega
  have hfirst:Big.val 1000000000 (U0.drop (e+1))<Big.val 1000000000 V:=by rw [HVv.out];exact Big.first_lt hl hq HL.out HQ.out HNq.out sp1 hU1 HUL.out HUv.out
  have Hst:Hid (∃(L W Qs:List Int),L.length=e+1/\W.length=k+2/\Big.Lim 1000000000 L/\Big.Lim 1000000000 W/\Big.val 1000000000 W<Big.val 1000000000 V/\Qs.length+(e+1)=e+1/\Big.Lim 1000000000 Qs/\Arr .u32 138 W5 W2 (L++W++List.replicate (e+1-(e+1)) 0)/\Arr .u32 138 W5 W4 (List.replicate (e+1) 0++Qs)/\Big.val 1000000000 (L++W)+1000000000 ^ (e+1)*(Big.val 1000000000 Qs*Big.val 1000000000 V)=Big.val 1000000000 U0):=Z1 ⟨U0.take (e+1),U0.drop (e+1),[],hUt,hUd,HUL.out.take _,HUL.out.drop _,hfirst,sP,Big.Lim.nil,by rw [List.take_append_drop,Nat.sub_self,List.replicate_zero,List.append_nil];exact HU5.out,by rw [List.append_nil];exact HQ5.out,by rw [List.take_append_drop];simp [Big.val]⟩;clear hq5 hW5 hU1 hUd hUt hfirst;go_wp2
  go_loopw [11] (fun jv wr=>∃(t:Nat) (L W Qs:List Int),t<=e+1/\jv=.int .i64 ((t:Int)-1)/\L.length=t/\W.length=k+2/\Big.Lim 1000000000 L/\Big.Lim 1000000000 W/\Big.val 1000000000 W<Big.val 1000000000 V/\Qs.length+t=e+1/\Big.Lim 1000000000 Qs/\Arr .u32 138 wr W2 (L++W++List.replicate (e+1-t) 0)/\Arr .u32 138 wr W4 (List.replicate t 0++Qs)/\Big.val 1000000000 (L++W)+1000000000 ^ t*(Big.val 1000000000 Qs*Big.val 1000000000 V)=Big.val 1000000000 U0/\LimbsAt .u32 wr wr (some ⟨W3,0,none⟩) V/\Arr .u32 138 wr w1 [s]/\Below w w wr) (fun jv _=>(intOf jv+1).toNat)
  case atStart =>
   obtain⟨L,W,Qs,h1,h2,h3,h4,h5,h6,h7,h8,h9,h10⟩:=Hst.out;exact⟨e+1,L,W,Qs,lR,by first | rfl | (congr 1;omega),h1,h2,h3,h4,h5,h6,h7,h8,h9,h10,HV5.out,HS5.out,hB05⟩
  case round =>
   obtain⟨t,L,W,Qs,ht,rfl,hLl,hWl,hLL,hWL,hWV,hQl,hQL,hUA,hQA,hval,hVA,hSA,hbr⟩:=hrel;obtain⟨HLl,HWl,HLL,HWL,HWV,HQl,HQL⟩:=Z7 hLl hWl hLL hWL hWV hQl hQL;obtain⟨HUA,HQA,Hval,HVA2,HSA,Hbr⟩:=Z6 hUA hQA hval hVA hSA hbr;have hgq:=hQA.lt;have hgu:=hUA.lt;have hgs:=hSA.lt;clear hLl hWl hLL hWL hWV hQl hQL hUA hQA hval hVA hSA hbr HU5 HQ5 HV5 HS5 Hst
   match t,ht with
   | t+1,ht =>
    rw [show((t+1:Nat):Int)-1=(t:Int) by omega];have htl:t<L.length:=by rw [HLl.out];omega
    obtain⟨L2,x,hLx⟩:∃(L2:List Int) (x:Int),L=L2++[x]:=⟨L.take t,L[t],by have h:=tse htl;rwa [List.take_of_length_le (by have:=HLl.out;omega)] at h⟩;have hl2:L2.length=t:=by have h:=HLl.out;rw [hLx,List.length_append] at h;simpa using h
    have hLL:=HLL.out;rw [hLx,Big.Lim.append] at hLL;have hx:=(Big.Lim.cons.1 hLL.2).1;have hOL:Big.Lim 1000000000 (x::W):=Big.Lim.cons.2 ⟨hx,HWL.out⟩;have hOl:(x::W).length=k+3:=by rw [List.length_cons,HWl.out]
    have hlt:Big.val 1000000000 (x::W)<1000000000*Big.val 1000000000 V:=by rw [Big.val_cons];have:=HWV.out;omega
    have hUA2:Arr .u32 138 wr W2 (L2++(x::W)++List.replicate (e+1-(t+1)) 0):=by have h:=HUA.out;rwa [hLx,List.append_assoc L2,List.singleton_append] at h
    obtain⟨Hl2,HL2,Hx,HOL,HOl,Hlt,HUA2⟩:=Z7 hl2 hLL.1 hx hOL hOl hlt hUA2;have hval:=Hval.out;rw [hLx] at hval;have Hval2:=Z1 hval;have ht0:(0:Int)<=(t:Int):=oM;have hte:t<=e:=oM;clear hl2 hLL hx hOL hOl hlt hUA2 hval hLx htl;go_wp2_with (fail);rw [show t+(k+2)+1-t=k+3 by omega];refine(a9V wr W2 t k _ _ L2 (x::W) (List.replicate (e+1-(t+1)) 0) V (some ⟨W3,0,none⟩) Hl2.out oM oM HOl.out HVk.out HOL.out HVLt.out Ht1.out Hlt.out HUA2.out HVA2.out (fun b o h=>by cases h;omega)).mono ?_;rintro e6 W6 ⟨hG6,dq,G,rfl,hdq,hGl,hGL,hGe,hGV,hGA⟩;have hsz6:=hG6.size
    have hGlt:Big.val 1000000000 G<1000000000 ^ (k+2):=by
     have h1:=Big.val_lt (B:=1000000000) oM HVLt.out;rw [HVk.out] at h1;omega
    obtain⟨Wn,rfl,hWn⟩:=Big.top_zero oM hGL (n:=k+2) hGl hGlt;have hWnL:=(Big.Lim.append.1 hGL).1;have hWv:Big.val 1000000000 Wn<Big.val 1000000000 V:=by rw [Big.val_snoc,Int.mul_zero,Int.add_zero] at hGV;exact hGV
    have hQ6:=HQA.out.away hG6 oM;have hV6:=HVA2.out.awayG hG6 (fun b o h=>by cases h;omega);have hS6:=HSA.out.away hG6 oM;have hb6:=Hbr.out.grown hG6 Hbr.out.size (fun g hg=>by cases hg;exact hw2);have hround:=Big.div_round Hl2.out Hval2.out hGe
    have hUA6:Arr .u32 138 W6 W2 (L2++Wn++List.replicate (e+1-t) 0):=by
     have h:e+1-t=(e+1-(t+1))+1:=oM;rw [h,List.replicate_succ];simpa using hGA
    have hlq:t<(List.replicate (t+1) (0:Int)++Qs).length:=sO
    have hc6:W6.cell? ⟨W4,t,none⟩=some (.int .u32 0):=by
     rw [hQ6.cell hlq]
     congr 2
     rw [List.getElem_append_left sP];simp
    have hf6:=hQ6.free t;have hg6:=hQ6.lt
    have hset:Arr .u32 138 (W6.setCell ⟨W4,t,none⟩ (.int .u32 dq)) W4 (List.replicate t 0++dq::Qs):=by
     have h:=hQ6.set t dq
     rwa [show(List.replicate (t+1) (0:Int)++Qs).set t dq=List.replicate t 0++dq::Qs by
      rw [List.replicate_succ',List.append_assoc,List.set_append_right _ _ sP];simp] at h
    have hg7:=a1k W6 W4 t (.int .u32 dq);have HREL:=Z1 (And.intro hset (And.intro (hUA6.away hg7 oM) (And.intro (hV6.awayG hg7 (fun b o h=>by cases h;omega)) (And.intro (hS6.away hg7 oM) (hb6.setCell (p:=⟨W4,t,none⟩) hw4 (.int .u32 dq))))));obtain⟨Hround,HWn,HWnL,HWv,Hdq⟩:=Z5 hround hWn hWnL hWv hdq;have hdq0:=hdq.1;have hdq1:=hdq.2;clear hQ6 hV6 hS6 hb6 hround hUA6 hlq hset hg7 hG6 hGl hGL hGe hGV hGA hGlt hWn hWnL hWv hdq;go_wp2;go_roundw
    case rel=>exact⟨t,L2,Wn,dq::Qs,oM,by go_num,Hl2.out,HWn.out,HL2.out,HWnL.out,HWv.out,by rw [List.length_cons];have:=HQl.out;omega,Big.Lim.cons.2 ⟨Hdq.out,HQL.out⟩,HREL.out.2.1,HREL.out.1,Hround.out,HREL.out.2.2.1,HREL.out.2.2.2.1,HREL.out.2.2.2.2⟩
    case measure=>simp [intOf]
   | 0,ht =>
    have hl0:L=[]:=List.length_eq_zero_iff.1 HLl.out;have hv:=Hval.out;have hUA:=HUA.out;have hQA:=HQA.out;rw [hl0,List.nil_append] at hUA hv;rw [List.replicate_zero,List.nil_append] at hQA;rw [Int.pow_zero,Int.one_mul,HVv.out,HUv.out] at hv;have hwl:=HWV.out;rw [HVv.out] at hwl;have hlimb:=hUA.limbs (B:=wr.heap.size) hgu;have hW:LimbsAt .u32 wr wr (some ⟨W2,0,none⟩) W:=by have h:=hlimb.take (k+2);rwa [List.take_append_of_le_length (by rw [HWl.out];exact lR),List.take_of_length_le (by rw [HWl.out];exact lR)] at h
    obtain⟨Hv,Hwl,HW,HQA0⟩:=Z4 hv hwl hW hQA;have hsc:=HSA.out.cell (k:=0) sP;simp at hsc;have Hsc:=Z1 hsc;have HQl0:Hid (Qs.length=e+1):=Z1 (by have:=HQl.out;omega);obtain⟨u1,u2,u3,u4⟩:=Big.trim_spec 1000000000 W;obtain⟨X,hX⟩:∃ X,X=Big.trim W:=⟨_,rfl⟩;have uL:=Big.trim_lim HWL.out;rw [<- hX] at u1 u2 u3 u4 uL;rw [HWl.out] at u3;obtain⟨HX,Hu1,HuL⟩:=Z3 hX u1 uL;have hXA:LimbsAt .u32 wr wr (some ⟨W2,0,none⟩) X:=by rw [u4];exact hW.take _
    have HXA:=Z1 hXA;obtain⟨xl,hxl⟩:∃ xl,xl=X.length:=⟨_,rfl⟩;rw [<- hxl] at u3;have Hxl:=Z1 hxl;clear hv hwl hW hlimb hUA hQA hl0 hsc hX u1 u2 u4 uL hXA hxl;have hS:Below wr wr wr.drew:=Vw bR 1;go_upto_region 15 with(fail);refine wp_region_held (S:=Below wr wr) kR ?_;change wpAnyH _ _ _ _ _ _ _ _ (World.drew wr);obtain⟨WC,hWd⟩:∃ W0,W0=wr.drew:=⟨_,rfl⟩;have hzc:WC.heap.size=wr.heap.size:=by rw [hWd];rfl
    have hHW:=Z1 (HW.out.at_ (w':=WC) (by rw [hWd];exact hS) lR);rw [<- hWd] at hS ⊢;have hHX:=Z1 (HXA.out.at_ hS lR);clear hWd;refine jT 0 hS ?_;refine jT 1 hS ?_;refine jT 2 hS ?_ (v:=.slice (some ⟨W2,0,none⟩) (k+2) (k+2+e+1)) (hy:=(.inl ⟨by rfl,fun W' hS'=>by(go_simp;rw [if_pos oM,show((k:Int)+2).toNat=k+2 by omega])⟩));refine jT 4 hS ?_;refine jT 5 hS ?_;refine jT 6 hS ?_ (v:=.int .u32 s) (hy:=(.inl ⟨by rfl,fun W' hS'=>by have hc:=(hS'.cell (p:=⟨w1,0,none⟩) hgs).trans Hsc.out;have hl9:=Nat.lt_of_lt_of_le hgs hS'.size;go_simp⟩));refine rZ 3 fun K hK=>?_;go_simp;refine(a2Z WC _ (k+2) (k+2+e+1) W HWl.out oM oM hHW.out).mono ?_;rintro e7 W7 ⟨rfl,hW7⟩;obtain rfl:=hW7;rw [<- HX.out,<- Hxl.out];refine jK hK hS ?_;clear hK K;refine rZ 7 fun K hK=>?_;go_simp;refine(a5z WC _ xl (k+2+e+1) X s Hxl.out.symm oM sp1 oM HuL.out hHX.out).mono ?_;rintro e8 W8 ⟨hB8,g,g',R,r,rfl,hRl,hRL,hRe,r0,r1,hRA,hrA,hg,hg'⟩;have hS8:=hS.trans (hB8.mono hS.size);refine jK hK hS8 ?_;clear hK K;refine jT 8 hS8 ?_;refine jT 9 hS8 ?_;refine jT 10 hS8 ?_;refine rZ 11 fun K hK=>?_;go_simp;refine jK hK hS8 ?_;clear hK K;refine rZ 12 fun K hK=>?_;go_simp;refine jK hK hS8 ?_;clear hK K;refine wpAnyH_done kR ?_ _
    try simp only [z]
    have hdv:=Big.div_end Hv.out Hwl.out (by rw [<- Hu1.out];exact hRe) r0 r1;have hb8:=Hbr.out.trans (hS8.mono Hbr.out.size);have hq8:=HQA0.out.below hS8 hgq;have hrv:=Big.val_nonneg (B:=1000000000) oM hRL;have HFIN:=Z1 (And.intro hdv (And.intro hb8 (And.intro (hq8.limbs hq8.lt) (And.intro hrv (And.intro hRl (And.intro hRL hRA))))));have hgw:w.heap.size<=g:=by have:=Hbr.out.size;omega
    have Hgw:=Z1 hgw;clear hdv hb8 hq8 hrv hRl hRL hRe hRA hrA hS8 hS hB8 hg hg' hgw;go_wp2
    go_ret2
    exact⟨HFIN.out.2.1,some ⟨W4,0,none⟩,e+1,e+1,Qs,some ⟨g,0,none⟩,xl,xl,R,rfl,HQl0.out,HFIN.out.2.2.2.2.1,oM,u3,lR,lR,HQL.out,HFIN.out.2.2.2.2.2.1,HFIN.out.1.1,HFIN.out.2.2.2.1,HFIN.out.1.2,HFIN.out.2.2.1,HFIN.out.2.2.2.2.2.2,fun b o h=>(by cases h;exact hw4),.inr fun b o h=>(by cases h;exact Hgw.out)⟩
end
structure Rt where
 cur:ByteArray
 kind:Int
 when_:Int
 val:Int

namespace Rt
def v (r:Rt):Value:=.agg #[.string r.cur,r.kind,r.when_,r.val]
def at_ (r:Rt) (c:ByteArray) (k d:Int):Bool:=r.cur.toList==c.toList&&r.kind==k&&r.when_==d
def same (a b:Rt):Bool:=a.at_ b.cur b.kind b.when_
def zero:Rt:=⟨ByteArray.empty,0,0,0⟩
theorem at_iff (r:Rt) (c:ByteArray) (k d:Int):r.at_ c k d=true ↔ (r.cur.toList=c.toList/\r.kind=k/\r.when_=d):=by
 simp [at_,and_assoc]
theorem toList_inj {a b:ByteArray} (h:a.toList=b.toList):a=b:=by
 rw [ByteArray.toList_eq,ByteArray.toList_eq] at h;exact ByteArray.ext (Array.toList_inj.mp h)
end Rt

namespace Rates
def find (l:List Rt) (c:ByteArray) (k d:Int):Option Int:=(l.find? fun r=>r.at_ c k d).map (·.val)
def upper (b:UInt8):Bool:=decide (65<=(b.toNat:Int)/\(b.toNat:Int)<=90)
def allUp (s:ByteArray):Bool:=s.data.toList.all upper
def isCur (s:ByteArray):Bool:=allUp s&&s.size==3
def dateB (d:Int):Bool:=decide (-25567<=d/\d<=84005)
def proper (g:ByteArray) (r:Rt):Bool :=
 isCur r.cur&&!(r.cur.toList==g.toList)&&decide (1<=r.val/\r.val<=1000000000000) &&
  ((r.kind==1&&dateB r.when_)||(r.kind==2&&decide (0<=r.when_/\r.when_<120)))
def fresh:List Rt->Bool
 | []=>true
 | r::l=>l.all (fun x=>!(r.same x))&&fresh l
def valid (g:ByteArray) (l:List Rt):Bool:=l.all (proper g)&&fresh l&&isCur g&&decide (l.length<=1000)

def Fresh (l:List Rt):Prop:=l.Pairwise fun a b=>a.same b=false
theorem a3I (l:List Rt):fresh l=true ↔ Fresh l:=by
 unfold Fresh
 induction l with
 | nil=>simp [fresh]
 | cons r l ih=>rw [List.pairwise_cons,fresh,Bool.and_eq_true,ih,List.all_eq_true];simp
def Pre (g:ByteArray) (l:List Rt) (k:Nat):Prop:=(l.take k).all (proper g)=true/\Fresh (l.take k)
theorem pre_zero (g:ByteArray) (l:List Rt):Pre g l 0:=⟨rfl,by simp [Fresh]⟩
theorem pre_succ (g:ByteArray) (l:List Rt) (k:Nat) (h:k<l.length) (hp:Pre g l k) (h1:proper g l[k]=true) (h2:(l.take k).any (fun r=>r.same l[k])=false):Pre g l (k+1):=by
 unfold Pre;rw [tse h];refine⟨?_,?_⟩
 ·rw [List.all_append,hp.1];simp [h1]
 ·unfold Fresh
  rw [List.pairwise_append];refine⟨hp.2,sP,fun a ha b hb=>?_⟩;simp only [List.mem_singleton] at hb;subst hb;rw [List.any_eq_false] at h2;simpa using h2 a ha
theorem pre_end (g:ByteArray) (l:List Rt) (hp:Pre g l l.length):valid g l=(isCur g&&decide (l.length<=1000)):=by
 unfold Pre at hp;rw [List.take_length] at hp;unfold valid;rw [hp.1,(a3I l).2 hp.2];simp
theorem valid_improper (g:ByteArray) (l:List Rt) (k:Nat) (h:k<l.length) (h1:proper g l[k]=false):valid g l=false:=by
 have:l.all (proper g)=false:=by rw [List.all_eq_false];exact⟨l[k],List.getElem_mem h,by simp [h1]⟩
 unfold valid;rw [this];rfl
theorem a6q (g:ByteArray) (l:List Rt) (k j:Nat) (h:k<l.length) (hj:j<k) (h1:(l[j]' oM).same l[k]=true):valid g l=false:=by
 have:fresh l=false:=by
  rw [Bool.eq_false_iff];intro hf;rw [a3I,Fresh,List.pairwise_iff_getElem] at hf;rw [hf j k oM h hj] at h1;cases h1
 unfold valid;rw [this];simp
theorem valid_twice' (g:ByteArray) (l:List Rt) (k:Nat) (h:k<l.length) (h1:(l.take k).any (fun r=>r.same l[k])=true):valid g l=false:=by
 rw [List.any_eq_true] at h1;obtain⟨x,hx,hs⟩:=h1;obtain⟨j,hj,e⟩:=List.mem_take_iff_getElem.1 hx;subst e;exact a6q g l k j h oM hs
theorem any_take_succ (l:List Rt) (p:Rt->Bool) (j:Nat) (h:j<l.length):(l.take (j+1)).any p=((l.take j).any p||p l[j]):=by
 rw [tse h,List.any_append];simp
theorem valid_iff (g:ByteArray) (l:List Rt):valid g l=true ↔ ((∀ r∈l,proper g r=true)/\Fresh l/\isCur g=true/\l.length<=1000):=by
 unfold valid;simp only [Bool.and_eq_true,List.all_eq_true,a3I,decide_eq_true_eq,and_assoc]

theorem a4e (l:List Rt) (c:ByteArray) (k d:Int) (n:Nat) (h:n<l.length) :
  find (l.take (n+1)) c k d=((find (l.take n) c k d).or (if l[n].at_ c k d=true then some l[n].val else none)):=by
 unfold find;rw [tse h,List.find?_append]
 cases (l.take n).find? (fun r=>r.at_ c k d) with
 | some x=>simp
 | none=>by_cases hb:l[n].at_ c k d=true <;> simp [hb]
theorem find_hit (l:List Rt) (c:ByteArray) (k d:Int) (n:Nat) (h:n<l.length) (hno:find (l.take n) c k d=none) (ha:l[n].at_ c k d=true):find l c k d=some l[n].val:=by
 have e:l=l.take n++(l[n]::l.drop (n+1)):=by rw [List.getElem_cons_drop,List.take_append_drop]
 unfold find at hno ⊢;rw [Option.map_eq_none_iff] at hno
 conv=>lhs;rw [e]
 rw [List.find?_append,hno];simp only [Option.none_or,List.find?_cons,ha];rfl
theorem find_miss (l:List Rt) (c:ByteArray) (k d:Int) (n:Nat) (h:n<l.length) (hno:find (l.take n) c k d=none) (ha:l[n].at_ c k d=false):find (l.take (n+1)) c k d=none:=by
 rw [a4e l c k d n h,hno,ha];rfl
end Rates
namespace Rates

def sel (c:ByteArray) (a b:Int) (r:Rt):Bool:=r.cur.toList==c.toList&&r.kind==1&&decide (a<=r.when_)&&decide (r.when_<=b)
theorem sel_iff (c:ByteArray) (a b:Int) (r:Rt):sel c a b r=true ↔ (r.at_ c 1 r.when_=true/\a<=r.when_/\r.when_<=b):=by
 unfold sel Rt.at_;simp [and_assoc]
theorem b2U {c:ByteArray} {k d:Int} {r:Rt} (h:r.at_ c k d=true):r.when_=d:=((Rt.at_iff r c k d).1 h).2.2
theorem b2c {c:ByteArray} {k d:Int} {r:Rt} (h:r.at_ c k d=true):r=⟨c,k,d,r.val⟩:=by
 obtain⟨h1,h2,h3⟩:=(Rt.at_iff r c k d).1 h;obtain⟨a,b,e,f⟩:=r;simp only at h1 h2 h3;rw [Rt.toList_inj h1,h2,h3]

def see (acc:Option Rt) (r:Rt):Option Rt :=
 match acc with
 | none=>some r
 | some x=>if x.when_<r.when_ then some r else some x
def which (l:List Rt) (c:ByteArray) (d:Int):Option Rt:=(l.filter (sel c (d-40) d)).foldl see none
theorem find_some (l:List Rt) (c:ByteArray) (k d v:Int) (h:find l c k d=some v):∃ r∈l,r.at_ c k d=true/\r.val=v:=by
 unfold find at h;rw [Option.map_eq_some_iff] at h;obtain⟨r,hr,e⟩:=h;exact⟨r,List.mem_of_find?_eq_some hr,List.find?_some (p:=fun r:Rt=>r.at_ c k d) hr,e⟩

theorem a7a {P:List Rt->Prop} (h0:P []) (hs:∀ l r,P l->P (l++[r])) (l:List Rt):P l:=by
 rw [<- List.reverse_reverse l]
 induction l.reverse with
 | nil=>exact h0
 | cons a t ih=>rw [List.reverse_cons];exact hs _ _ ih

def daily (l:List Rt) (c:ByteArray) (a:Int):Nat->List Rt
 | 0=>[]
 | k+1=>daily l c a k++(match find l c 1 (a+k) with | some v=>[⟨c,1,a+k,v⟩] | none=>[])
def days (l:List Rt) (c:ByteArray) (a b:Int):List Rt:=daily l c a (b-a+1).toNat

theorem a5f (l:List Rt) (c:ByteArray) (a:Int):∀ k,(∀ r∈daily l c a k,a<=r.when_/\r.when_<a+k)/\(daily l c a k).length<=k
 | 0=>by simp [daily]
 | k+1=>by
  obtain⟨h,hl⟩:=a5f l c a k;unfold daily;refine⟨fun r hr=>?_,?_⟩
  ·rw [List.mem_append] at hr
   rcases hr with hr | hr
   ·have:=h r hr;omega
   ·cases hf:find l c 1 (a+k) with
    | none=>rw [hf] at hr;simp at hr
    | some v=>rw [hf] at hr;simp at hr;subst hr;simp;omega
  ·rw [List.length_append]
   cases hf:find l c 1 (a+k) <;> simp <;> omega
theorem a2S (l:List Rt) (c:ByteArray) (a:Int):∀ k,(daily l c a k).Pairwise (fun x y=>x.when_<y.when_)
 | 0=>List.Pairwise.nil
 | k+1=>by
  unfold daily;rw [List.pairwise_append];refine⟨a2S l c a k,?_,fun x hx y hy=>?_⟩
  ·cases find l c 1 (a+k) <;> simp
  ·have:=(a5f l c a k).1 x hx
   cases hf:find l c 1 (a+k) with
   | none=>rw [hf] at hy;simp at hy
   | some v=>rw [hf] at hy;simp at hy;subst hy;simp;omega
theorem a6b (l:List Rt) (c:ByteArray) (a:Int) (r:Rt):∀ k,r∈daily l c a k ↔ ∃ j:Nat,j<k/\find l c 1 (a+j)=some r.val/\r=⟨c,1,a+j,r.val⟩
 | 0=>by simp [daily]
 | k+1=>by
  unfold daily;rw [List.mem_append,a6b l c a r k]
  constructor
  ·rintro(⟨j,hj,h⟩ | h)
   ·exact⟨j,oM,h⟩
   ·cases hf:find l c 1 (a+k) with
    | none=>rw [hf] at h;simp at h
    | some v=>rw [hf] at h;simp at h;subst h;exact⟨k,oM,hf,rfl⟩
  ·rintro⟨j,hj,h1,h2⟩
   rcases Nat.lt_or_ge j k with hlt | hge
   ·exact .inl ⟨j,hlt,h1,h2⟩
   ·obtain rfl:j=k:=oM
    right;rw [h1];simp only [List.mem_singleton];exact h2
theorem a2J (l:List Rt) (hf:Fresh l) (r:Rt) (c:ByteArray) (k d:Int) (hr:r∈l) (h:r.at_ c k d=true):find l c k d=some r.val:=by
 induction l with
 | nil=>cases hr
 | cons x l ih =>
  unfold Fresh at hf;rw [List.pairwise_cons] at hf;unfold find;rw [List.find?_cons]
  cases hx:x.at_ c k d with
  | true =>
   simp only [Option.map_some,Option.some.injEq]
   rcases List.mem_cons.1 hr with rfl | hr
   ·rfl
   ·have:=hf.1 r hr
    obtain⟨a1,a2,a3⟩:=(Rt.at_iff _ _ _ _).1 hx;obtain⟨b1,b2,b3⟩:=(Rt.at_iff _ _ _ _).1 h;rw [Bool.eq_false_iff] at this;exact absurd ((Rt.at_iff x r.cur r.kind r.when_).2 ⟨a1.trans b1.symm,a2.trans b2.symm,a3.trans b3.symm⟩) this
  | false =>
   rcases List.mem_cons.1 hr with rfl | hr
   ·rw [h] at hx;cases hx
   ·exact ih hf.2 hr
theorem a7q (l:List Rt) (hf:Fresh l) (c:ByteArray) (a b:Int) (r:Rt):r∈days l c a b ↔ r∈l.filter (sel c a b):=by
 unfold days;rw [a6b,List.mem_filter,sel_iff]
 constructor
 ·rintro⟨j,hj,h1,h2⟩
  obtain⟨x,hx,hat,hv⟩:=find_some _ _ _ _ _ h1;have e:x=r:=by rw [b2c hat,h2,hv]
  subst e;have hw:=b2U hat;exact⟨hx,by rw [hw];exact hat,oM,oM⟩
 ·rintro⟨hr,hat,ha,hb⟩
  refine⟨(r.when_-a).toNat,oM,?_,?_⟩
  ·rw [show a+((r.when_-a).toNat:Int)=r.when_ by omega];exact a2J l hf r c 1 r.when_ hr hat
  ·rw [show a+((r.when_-a).toNat:Int)=r.when_ by omega];exact b2c hat
theorem a5W (l:List Rt) (hf:Fresh l) (p:Rt->Bool):(l.filter p).Nodup:=by
 have h2:(l.filter p).Pairwise (fun a b=>a.same b=false):=List.Pairwise.filter p hf;exact h2.imp fun {a b} h e=>by subst e;rw [Bool.eq_false_iff] at h;exact h ((Rt.at_iff _ _ _ _).2 ⟨rfl,rfl,rfl⟩)
theorem a2s:∀(a b:List Rt),a.Pairwise (fun x y=>x.when_<y.when_)->b.Pairwise (fun x y=>x.when_<y.when_)->(∀ r,r∈a ↔ r∈b)->a=b
 | [],[],_,_,_=>rfl
 | [],y::b,_,_,h=>by have:=(h y).2 sP;cases this
 | x::a,[],_,_,h=>by have:=(h x).1 sP;cases this
 | x::a,y::b,ha,hb,h=>by
  rw [List.pairwise_cons] at ha hb
  have e:x=y:=by
   have h1:=(h x).1 sP;have h2:=(h y).2 sP
   rcases List.mem_cons.1 h1 with e | h1
   ·exact e
   ·rcases List.mem_cons.1 h2 with e | h2
    ·exact e.symm
    ·have:=ha.1 y h2;have:=hb.1 x h1;omega
  subst e;rw [a2s a b ha.2 hb.2 (fun r=>?_)]
  constructor
  ·intro hr
   rcases List.mem_cons.1 ((h r).1 (List.mem_cons_of_mem _ hr)) with e | hr'
   ·subst e;have:=ha.1 r hr;omega
   ·exact hr'
  ·intro hr
   rcases List.mem_cons.1 ((h r).2 (List.mem_cons_of_mem _ hr)) with e | hr'
   ·subst e;have:=hb.1 r hr;omega
   ·exact hr'
theorem sorted_days (l:List Rt) (hf:Fresh l) (c:ByteArray) (a b:Int) (s:List Rt) (hp:s.Perm (l.filter (sel c a b))) (hs:s.Pairwise (fun x y=>x.when_<=y.when_)):s=days l c a b:=by
 refine a2s _ _ ?_ (a2S _ _ _ _) (fun r=>by rw [hp.mem_iff,a7q l hf]);have hn:s.Nodup:=hp.nodup_iff.2 (a5W l hf _);have hboth:=hs.and hn;refine List.Pairwise.imp_of_mem (fun {x y} hx hy h=>?_) hboth;obtain⟨hle,hne⟩:=h
 rcases Int.lt_or_eq_of_le hle with hlt | he
 ·exact hlt
 ·exfalso
  have hx':=hp.mem_iff.1 hx;have hy':=hp.mem_iff.1 hy;rw [List.mem_filter,sel_iff] at hx' hy';have f1:=a2J l hf x c 1 x.when_ hx'.1 hx'.2.1;have f2:=a2J l hf y c 1 y.when_ hy'.1 hy'.2.1;rw [he,f2] at f1;apply hne;rw [b2c hx'.2.1,b2c hy'.2.1,he];simp at f1;rw [f1]
theorem b1S (l:List Rt) (c:ByteArray) (a b:Int):((days l c a b).length:Int)<=max 0 (b-a+1):=by
 have:=(a5f l c a (b-a+1).toNat).2;unfold days;omega
end Rates
end Go.Proofs.YtniaimjknmhapaaGreatDoor
