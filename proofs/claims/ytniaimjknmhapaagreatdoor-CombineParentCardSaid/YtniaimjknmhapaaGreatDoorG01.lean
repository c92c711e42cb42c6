/- My texts Store, IntOps, IntDiv, DivW. -/
import Derived.WalkKit
import Derived.Laws.Tables
import Derived.Test.YtniaimjknmhapaaGreatDoorG06
import Derived.Test.YtniaimjknmhapaaGreatDoorG07
set_option linter.unusedVariables false
set_option linter.unusedSimpArgs false
set_option maxRecDepth 100000
set_option maxHeartbeats 16000000
namespace Go.Proofs.YtniaimjknmhapaaGreatDoor
open Go.RowKit
theorem alloc_setRow (W:World) (cur cs:Array Value) (t:TypeId):(W.alloc (.cells cur t)).setRow W.heap.size cs=W.alloc (.cells cs t):=by
 unfold World.setRow World.alloc
 congr 1
 apply Array.ext
 ·simp
 ·intro i h1 h2
  simp only [Array.getElem_modify,Array.getElem_push]
  by_cases h:W.heap.size=i
  ·subst h;simp
  ·have hi:i<W.heap.size:=by simp at h1;omega
   simp [h,hi]
theorem run_storeVar_new {P:Program} (W:World) (ty t:TypeId) (cur cs:Array Value) (hs:cs.size=cur.size) (h1:∀ v∈cs.toList,v.oneCell'=true) (hi:(P.info? ty).map (·.size)=some cs.size) :
  (storeVar ty ⟨W.heap.size,0,none⟩ (.agg cs)).run P (W.alloc (.cells cur t))=.ok () (W.alloc (.cells cs t)):=by
 have h:=run_storeCells_from (P:=P) W.heap.size t cs.toList 0 cur (W.alloc (.cells cur t)) (heap_alloc_new W _) (by simpa using hs) h1
 simp only [List.take_zero,List.nil_append,Array.toArray_toList,alloc_setRow] at h
 cases hq:P.info? ty with
 | none=>simp [hq] at hi
 | some i =>
  have hsz:i.size=cs.size:=by simpa [hq] using hi
  simp [storeVar,Value.cells,Sem.run_bind,sizeOf,typeInfo,hq,hsz,h]
theorem wpList_store_new {P:Program} {ops:Array Oper} {rest:List Oper} {o:Oper} {a:Act} {W:World} {Q:Exit->Act->World->Prop} (hgd:o.guard=none) (ty:TypeId) (x v:Operand) (ho:o.op=.store ty x v)
  (t:TypeId) (cur cs:Array Value) (hx:a.eval x=.pointer (some ⟨W.heap.size,0,none⟩)) (hv:a.eval v=.agg cs) (hs:cs.size=cur.size) (h1:∀ v∈cs.toList,v.oneCell'=true) (hi:(P.info? ty).map (·.size)=some cs.size)
  (h:wpList P ops Q rest (a.put o.dst undef) (W.alloc (.cells cs t))):wpList P ops Q (o::rest) a (W.alloc (.cells cur t)):=by
 refine wpList_plain hgd fun _ hK=>?_
 unfold Oper.wp execOp
 simp only [ho,hx,hv,Instr.storeAt,Instr.sureAddr,Sem.run_bind,Sem.run_pure,Result.andThen_ok,run_storeVar_new W ty t cur cs hs h1 hi]
 exact hK _ _ h
theorem wpList_build_is {P:Program} {ops:Array Oper} {rest:List Oper} {o:Oper} {a:Act} {W:World} {Q:Exit->Act->World->Prop} (hgd:o.guard=none) (ty:TypeId) (parts:Array (Nat × Operand)) (ho:o.op=.build ty parts) (ps:Array (Nat × Value)) (hps:parts.map (fun(i,x)=>(i,a.eval x))=ps) (v:Value)
  (hr:(Instr.build ty ps).run P W=.ok v W)
  (h:wpList P ops Q rest (a.put o.dst v) W):wpList P ops Q (o::rest) a W:=by
 refine wpList_plain hgd fun _ hK=>?_
 unfold Oper.wp execOp
 simp only [ho,hps,Sem.run_bind,Result.andThen_ok,hr]
 exact hK _ _ h
theorem wp_store_row {P:Program} {op:Oper} {a:Act} {w:World} {K:Act->World->Prop} {Q:Exit->Act->World->Prop} (ty:TypeId) (x y:Operand) (d:Option Tmp) (ho:op.op=.store ty x y) (hd:op.dst=d)
  (b:Nat) (t:TypeId) (old cells:Array Value) (hx:a.eval x=.pointer (some ⟨b,0,none⟩)) (hy:a.eval y=.agg cells)
  (hg:w.heap[b]?=some (.cells old t (0,0))) (hs:old.size=cells.size) (hi:(P.info? ty).map (·.size)=some cells.size) (h1:cells.all (·.oneCell')=true)
  (h:K (a.put d undef) (w.setRow b cells)):op.wp P a w K Q:=by
 subst hd
 unfold Oper.wp execOp
 simp only [ho,hx,hy,Instr.storeAt,Instr.sureAddr,Sem.run_bind,Sem.run_pure,Result.andThen_ok,run_storeVar_row w b t ty old cells hg hi hs h1]
 exact h
end Go.Proofs.YtniaimjknmhapaaGreatDoor
namespace Go.Proofs.YtniaimjknmhapaaGreatDoor
open Go.RowKit

def RegS (w:World) (X Y:Array Value) (W':World):Prop :=
 Below w.heap.size w W'/\W'.heap[w.heap.size]?=some (.cells X 41 (0,0))/\W'.heap[w.heap.size+1]?=some (.cells Y 41 (0,0))/\∃ cs:Array Value,W'.heap[w.heap.size+2]?=some (.cells cs 41 (0,0))/\cs.size=2
theorem RegS.lt {w W:World} {X Y:Array Value} (h:RegS w X Y W):w.heap.size+2<W.heap.size:=by
 obtain⟨_,_,_,cs,h,_⟩:=h
 exact(Array.getElem?_eq_some_iff.1 h).1
theorem RegS.step {w W W':World} {X Y:Array Value} (h:RegS w X Y W) (hb:Below W.heap.size W W'):RegS w X Y W':=by
 have hlt:=h.lt
 obtain⟨h1,h2,h3,cs,h4,h5⟩:=h
 exact⟨h1.trans (hb.mono h1.size),(hb.block _ (by omega)).trans h2,(hb.block _ (by omega)).trans h3,cs,(hb.block _ hlt).trans h4,h5⟩
theorem RegS.store {w W:World} {X Y:Array Value} (h:RegS w X Y W) (cs:Array Value) (hc:cs.size=2):RegS w X Y (W.setRow (w.heap.size+2) cs):=by
 obtain⟨h1,h2,h3,ds,h4,h5⟩:=h
 exact⟨below_setRow h1 (by omega) _,(setRow_other _ _ _ _ (by omega)).trans h2,(setRow_other _ _ _ _ (by omega)).trans h3,cs,setRow_heap _ _ _ _ _ _ h4,hc⟩
theorem RegS.start (w:World) (X Y:Array Value):RegS w X Y (((w.alloc (.cells X 41)).alloc (.cells Y 41)).alloc (.cells #[.bool false,.slice none 0 0] 41)):=by
 refine⟨(((Below.refl _ _).alloc (Nat.le_refl _) _).alloc (by simp) _).alloc (by simp;omega) _,?_,?_,#[.bool false,.slice none 0 0],?_,rfl⟩
 ·rw [Below.heap_alloc _ _ _ (by simp;omega),Below.heap_alloc _ _ _ (by simp)];exact heap_alloc_new w _
 ·rw [Below.heap_alloc _ _ _ (by simp)]
  have:=heap_alloc_new (w.alloc (.cells X 41)) (.cells Y 41)
  rwa [show(w.alloc (.cells X 41)).heap.size=w.heap.size+1 by simp] at this
 ·have:=heap_alloc_new ((w.alloc (.cells X 41)).alloc (.cells Y 41)) (.cells #[.bool false,.slice none 0 0] 41)
  rwa [show((w.alloc (.cells X 41)).alloc (.cells Y 41)).heap.size=w.heap.size+2 by simp] at this

theorem RegS.drew {w W:World} {X Y:Array Value} (h:RegS w X Y W):RegS w X Y W.drew:=⟨below_drawn h.1 1,h.2⟩

section
variable (w:World)
end
end Go.Proofs.YtniaimjknmhapaaGreatDoor
namespace Go.Proofs.YtniaimjknmhapaaGreatDoor
open Tryz Go.RowKit

theorem short_step {B d r x V R n:Int} (h:V=d*R+r) (hn:n=r*B+x):x+B*V=d*(n / d+B*R)+n % d:=by
 have h1:=Int.emod_add_mul_ediv n d
 rw [h,Int.mul_add,Int.mul_add]
 have h2:B*(d*R)=d*(B*R):=Int.mul_left_comm _ _ _
 have h3:B*r=r*B:=Int.mul_comm _ _
 omega
theorem short_bd {d r x n:Int} (hd:1<=d) (h0:0<=r) (h1:r<d) (x0:0<=x) (x1:x<1000000000) (hn:n=r*1000000000+x):0<=n/\0<=n / d/\n / d<1000000000/\0<=n % d/\n % d<d:=by
 have hn0:0<=n:=by omega
 refine⟨hn0,Int.ediv_nonneg hn0 (by omega),Int.ediv_lt_of_lt_mul (by omega) (by omega),Int.emod_nonneg _ (by omega),Int.emod_lt_of_pos _ (by omega)⟩

def Away (Bk n:Nat) (A:Option Addr) (l:List Int):Prop:=l=[]∨∀ b o,A=some ⟨b,o,none⟩->b<Bk∨n<=b

section
variable (w:World)
theorem short_any (A:Option Addr) (n c:Nat) (p:List Int) (d:Int) (hl:p.length=n) (hn:n<=100000000000) (hd0:1<=d) (hd1:d<1000000000) (hL:Big.Lim 1000000000 p) (hA:LimbsAt .u32 w w.heap.size A p) :
  Calls prog 187 #[.slice A n c,.int .u32 d] w fun e w'=>Below w.heap.size w w'/\∃(g g':Nat) (R:List Int) (r:Int),
   e=.returned (.tuple #[.slice (some ⟨g,0,none⟩) n n,.slice (some ⟨g',0,none⟩) 1 1])/\R.length=n/\Big.Lim 1000000000 R/\Big.val 1000000000 p=d*Big.val 1000000000 R+r/\0<=r/\r<d /\
   LimbsAt .u32 w' w'.heap.size (some ⟨g,0,none⟩) R/\LimbsAt .u32 w' w'.heap.size (some ⟨g',0,none⟩) [r]/\w.heap.size<=g/\w.heap.size<=g':=by
 subst hl
 obtain⟨i0,hi,hz0,hz1,hz2⟩:=info_parts uinfo
 have Hnp:p.length<=p.length:=Nat.le_refl _
 have Hb2:p.length<=1000000000000:=by omega
 go_enter func187,ntmps187
 go_upto_region 2 with(refine wpList_make_arr rfl _ _ 39 rfl .u32 138 i0 4 underlying39 hi hz0 hz1 hz2 _ _ _ _ p.length p.length rfl rfl rfl rfl Hnp (by decide) Hb2 ?_;intro w1 hw1)
 have hB1:Below w.heap.size w w1:=by rw [hw1.out];exact(Below.refl _ _).alloc (Nat.le_refl _) _
 have hArr:Arr .u32 138 w1 w.heap.size (List.replicate p.length 0):=by
  unfold Arr;rw [hw1.out];exact heap_alloc_new w _
 have HL:=Z1 hL
 clear hw1 hL
 go_wp2
 go_loopw [7,8] (fun cr ix wr=>∃(k:Nat) (R:List Int) (r:Int),k<=p.length/\ix=.int .i64 ((k:Int)-1)/\cr=.int .u64 r/\0<=r/\r<d/\R.length+k=p.length/\Big.Lim 1000000000 R /\
  Big.val 1000000000 (p.drop k)=d*Big.val 1000000000 R+r/\Arr .u32 138 wr w.heap.size (List.replicate k 0++R)/\Below w.heap.size w wr) (fun _ ix _=>(intOf ix+1).toNat)
 case atStart=>exact⟨p.length,[],0,Nat.le_refl _,rfl,rfl,by omega,by omega,by simp,Big.Lim.nil,by simp [Big.val],by simpa using hArr,hB1⟩
 case round =>
  obtain⟨k,R,r,hk,rfl,rfl,hr0,hr1,hRl,hRL,hv,ha,hb⟩:=hrel
  have HRl:=Z1 hRl
  have HRL:=Z1 hRL
  have Hv:=Z1 hv
  have Ha:=Z1 ha
  have hgr:w.heap.size<wr.heap.size:=ha.lt
  clear hRl hRL hv ha hArr
  match k,hk with
  | 0,_ =>
   have hR:=Ha.out
   rw [List.replicate_zero,List.nil_append] at hR
   have Hlim:=Z1 ((hR.alloc (.cells #[.int .u32 r] 138)).limbs (B:=(wr.alloc (.cells #[.int .u32 r] 138)).heap.size) (by simp;omega))
   have hr1':r<4294967296:=by omega
   have Hr:Hid (LimbsAt .u32 (wr.alloc (.cells #[.int .u32 r] 138)) (wr.alloc (.cells #[.int .u32 r] 138)).heap.size (some ⟨wr.heap.size,0,none⟩) [r]):=by
    show LimbsAt _ _ _ _ _
    exact Arr.limbs (e:=138) (F:=[r]) (heap_alloc_new wr (.cells #[.int .u32 r] 138)) (by simp)
   clear hR
   go_wp2
   go_ret2
   exact⟨hb.alloc hb.size _,w.heap.size,wr.heap.size,R,r,rfl,by have:=HRl.out;omega,HRL.out,by have:=Hv.out;rwa [List.drop_zero] at this,hr0,hr1,Hlim.out,Hr.out,Nat.le_refl _,hb.size⟩
  | k+1,hk =>
   rw [show((k+1:Nat):Int)-1=(k:Int) by omega]
   have hkl:k<p.length:=by omega
   obtain⟨b,o,rfl,hbB,hx⟩:=(hA.below hb (Nat.le_refl _)).look hkl
   have hxl:=HL.out.get k hkl
   have hx0:=hxl.1
   have hx1:=hxl.2
   have hbwr:b<wr.heap.size:=by omega
   obtain⟨n0,n1,n2,n3,n4⟩:=short_bd hd0 hr0 hr1 hx0 hx1 rfl
   have hFl:k<(List.replicate (k+1) (0:Int)++R).length:=by simp;omega
   have hcell:wr.cell? ⟨w.heap.size,k,none⟩=some (.int .u32 0):=by
    rw [Ha.out.cell hFl]
    congr 2
    rw [List.getElem_append_left (by simp)];simp
   have hfz:=Ha.out.free k
   clear hxl hFl
   go_wp2
   go_roundw
   case rel =>
    refine⟨k,((r*1000000000+p[k]) / d)::R,(r*1000000000+p[k]) % d,by omega,by go_num,rfl,n3,n4,by have:=HRl.out;simp;omega,Big.Lim.cons.2 ⟨⟨n1,n2⟩,HRL.out⟩,?_,?_,hb.setCell (Nat.le_refl _) _⟩
    ·rw [Big.val_drop _ _ _ hkl,Big.val_cons]
     exact short_step Hv.out rfl
    ·have:=Ha.out.set k ((r*1000000000+p[k]) / d)
     rwa [show(List.replicate (k+1) (0:Int)++R).set k ((r*1000000000+p[k]) / d)=List.replicate k 0++((r*1000000000+p[k]) / d)::R by
      rw [List.replicate_succ',List.append_assoc,List.set_append_right _ _ (by simp)];simp] at this
   case measure=>simp [intOf]

def DivPost (A:Option Addr) (p:List Int) (n m:Nat) (a b:Int) (w:World) (e:Ending) (w':World):Prop :=
 Below w.heap.size w w'/\∃(A1:Option Addr) (n1 c1:Nat) (Q:List Int) (A2:Option Addr) (n2 c2:Nat) (R:List Int),e=.returned (.tuple #[.slice A1 n1 c1,.slice A2 n2 c2])/\Q.length=n1/\R.length=n2/\n1<=n/\n2<=m/\n1<=c1/\n2<=c2 /\
  Big.Lim 1000000000 Q/\Big.Lim 1000000000 R/\a=b*Big.val 1000000000 Q+Big.val 1000000000 R/\0<=Big.val 1000000000 R/\Big.val 1000000000 R<b /\
  LimbsAt .u32 w' w'.heap.size A1 Q/\LimbsAt .u32 w' w'.heap.size A2 R/\(∀ b o,A1=some ⟨b,o,none⟩->w.heap.size<=b)/\((A2=A/\R=p)∨∀ b o,A2=some ⟨b,o,none⟩->w.heap.size<=b)

theorem divide_any (A B:Option Addr) (n m c d:Nat) (p q:List Int) (hl:p.length=n) (hq:q.length=m) (hn:n<=100000000000) (hm:m<=100000000000) (hc:n<=c) (hm0:0<m) (hL:Big.Lim 1000000000 p) (hQ:Big.Lim 1000000000 q) (hNp:Big.Norm p) (hNq:Big.Norm q)
  (hone:m=1∨Big.val 1000000000 p<Big.val 1000000000 q) (hA':LimbsAt .u32 w w.heap.size A p) (hB':LimbsAt .u32 w w.heap.size B q) :
  Calls prog 136 #[.slice A n c,.slice B m d] w (DivPost A p n m (Big.val 1000000000 p) (Big.val 1000000000 q) w):=by
 have hvp:=Big.val_nonneg (B:=1000000000) (by omega) hL
 by_cases hlt:Big.val 1000000000 p<Big.val 1000000000 q
 ·have hcm:cm (Big.val 1000000000 p) (Big.val 1000000000 q)=-1:=by unfold cm;rw [if_pos hlt]
  have hnm:n<=m:=by
   rcases Nat.lt_or_ge m n with h | h
   ·have:=Big.longer_lt (B:=1000000000) (by omega) hQ hL hNp (by omega);omega
   ·exact h
  have Hcm:=Z1 hcm
  have Hlt:=Z1 hlt
  clear hcm hlt
  go_enter func136,ntmps136
  go_wp2_with (fail)
  refine(compare_any w A B n m c d p q hl hq hn hm hL hQ hNp hNq hA' hB').mono ?_
  rw [Hcm.out]
  rintro e w1 ⟨rfl,hB1⟩
  go_wp2
  go_ret2
  exact⟨hB1,none,0,0,[],A,n,c,p,rfl,rfl,hl,by omega,hnm,by omega,hc,Big.Lim.nil,hL,by simp [Big.val],hvp,Hlt.out,.inl rfl,hA'.at_ hB1 (Nat.le_refl _),fun b o e=>(by cases e),.inl ⟨rfl,rfl⟩⟩
 ·have h1:m=1:=by rcases hone with h | h;exact h;exact absurd h hlt
  have hcm:0<=cm (Big.val 1000000000 p) (Big.val 1000000000 q):=by unfold cm;rw [if_neg hlt];split <;> omega
  obtain⟨z,hz⟩:∃ z,cm (Big.val 1000000000 p) (Big.val 1000000000 q)=z:=⟨_,rfl⟩
  rw [hz] at hcm
  have Hz:=Z1 hz
  match q,hq with
  | [],hq=>simp at hq;omega
  | x::y::t,hq=>simp at hq;omega
  | [x],hq =>
   have hx:=(Big.Lim.cons.1 hQ).1
   have hx0:x≠0:=by have:=hNq (by simp);simpa using this
   obtain⟨b,o,rfl,hbB,hxc⟩:=hB'.look (k:=0) (by simp)
   simp at hxc
   have HBe:Hid (Big.val 1000000000 [x]=x):=Z1 (Big.val_one _ _)
   have x0:1<=x:=by omega
   have x1:=hx.2
   subst h1
   clear hz hlt hx hx0
   go_enter func136,ntmps136
   go_wp2_with (fail)
   refine(compare_any w A _ n 1 c d p [x] hl rfl hn (by omega) hL hQ hNp hNq hA' hB').mono ?_
   rw [Hz.out]
   rintro e w1 ⟨rfl,hB1⟩
   obtain⟨hc1,hf1⟩:=bcell hB1
   have hq1:=hB1.size
   have hbw1:b<w1.heap.size:=by omega
   go_wp2_with (fail)
   refine(short_any w1 A n c p x hl hn x0 x1 hL (hA'.at_ hB1 (Nat.le_refl _))).mono ?_
   rintro e w2 ⟨hB2,g,g',R,r,rfl,hRl,hRL,hRv,r0,r1,hR1,hR2,hg,hg'⟩
   have HRv:=Z1 hRv
   have HRl:=Z1 hRl
   clear hRv hRl hc1 hf1
   go_wp2
   go_ret2
   refine⟨hB1.trans (hB2.mono hB1.size),_,n,n,R,_,1,1,[r],rfl,HRl.out,rfl,Nat.le_refl _,Nat.le_refl _,Nat.le_refl _,Nat.le_refl _,hRL,Big.Lim.cons.2 ⟨⟨r0,by omega⟩,Big.Lim.nil⟩,by rw [HBe.out,Big.val_one];exact HRv.out,by rw [Big.val_one];exact r0,by rw [HBe.out,Big.val_one];exact r1,hR1,hR2,?_,?_⟩
   ·exact fun b' o' e'=>by cases e';omega
   ·exact .inr fun b' o' e'=>by cases e';omega
end
end Go.Proofs.YtniaimjknmhapaaGreatDoor
namespace Go.Proofs.YtniaimjknmhapaaGreatDoor
open Tryz Go.RowKit
theorem Arr.away {K:IntKind} {e:TypeId} {w w':World} {g X:Nat} {F:List Int} (h:Arr K e w g F) (hg:w.grownBy w' (some X)) (hne:g≠X):Arr K e w' g F :=
 (hg.block g h.lt (fun e=>hne (Option.some.inj e))).trans h
theorem LimbsAt.awayG {K:IntKind} {w w':World} {A:Option Addr} {l:List Int} {X:Nat} (h:LimbsAt K w w.heap.size A l) (hg:w.grownBy w' (some X)) (hne:∀ b o,A=some ⟨b,o,none⟩->b≠X):LimbsAt K w' w'.heap.size A l:=by
 rcases h with h | ⟨b,o,e,hl,hc,ht⟩
 ·exact .inl h
 ·have hb:=hg.block b hl (fun e'=>hne b o e (Option.some.inj e'))
  exact .inr ⟨b,o,e,Nat.lt_of_lt_of_le hl hg.size,fun k hk=>(World.cell?_of_block (w:=w) (a:=⟨b,o+k,none⟩) hb).trans (hc k hk),ht.of_block hb⟩
theorem row_nw (w:World) (X:Array Value) (t:TypeId):Below w.heap.size w (w.alloc (.cells X t))/\(w.alloc (.cells X t)).heap[w.heap.size]?=some (.cells X t (0,0))/\(w.alloc (.cells X t)).heap.size=w.heap.size+1 :=
 ⟨(Below.refl _ _).alloc (Nat.le_refl _) _,heap_alloc_new w _,by simp⟩
section
variable (w:World)
theorem divideg_any (A B:Option Addr) (n m c d:Nat) (p q:List Int) (hl:p.length=n) (hq:q.length=m) (hn:n<=90000000000) (hm:m<=90000000000) (hc:n<=c) (hm0:0<m) (hL:Big.Lim 1000000000 p) (hQ:Big.Lim 1000000000 q) (hNp:Big.Norm p) (hNq:Big.Norm q)
  (hA':LimbsAt .u32 w w.heap.size A p) (hB':LimbsAt .u32 w w.heap.size B q) :
  Calls prog 136 #[.slice A n c,.slice B m d] w (DivPost A p n m (Big.val 1000000000 p) (Big.val 1000000000 q) w):=by
 by_cases hone:m=1∨Big.val 1000000000 p<Big.val 1000000000 q
 ·exact divide_any w A B n m c d p q hl hq (by omega) (by omega) hc hm0 hL hQ hNp hNq hone hA' hB'
 have hge:Big.val 1000000000 q<=Big.val 1000000000 p:=by omega
 obtain⟨k,rfl⟩:∃ k,m=k+2:=⟨m-2,by omega⟩
 have hnm:k+2<=n:=by
  rcases Nat.lt_or_ge n (k+2) with h | h
  ·have:=Big.longer_lt (B:=1000000000) (by omega) hL hQ hNq (by omega);omega
  ·exact h
 obtain⟨e,rfl⟩:∃ e,n=k+2+e:=⟨n-(k+2),by omega⟩
 have hcm:0<=cm (Big.val 1000000000 p) (Big.val 1000000000 q):=by unfold cm;rw [if_neg (by omega)];split <;> omega
 obtain⟨z,hz⟩:∃ z,cm (Big.val 1000000000 p) (Big.val 1000000000 q)=z:=⟨_,rfl⟩
 rw [hz] at hcm
 have Hz:=Z1 hz
 obtain⟨b,o,rfl,hbB,hqc⟩:=hB'.look (k:=k+1) (by omega)
 obtain⟨top,htop⟩:∃ x,x=q[k+1]:=⟨_,rfl⟩
 rw [<- htop] at hqc
 have tq:=hQ.get (k+1) (by omega)
 have tl:=hNq.last (by omega)
 have tl':q[k+1]≠0:=by
  have e:q.length-1=k+1:=by omega
  simpa only [e] using tl
 rw [<- htop] at tq tl'
 have tp:1<=top:=by omega
 obtain⟨s,hs⟩:∃ s,s=1000000000 / (top+1):=⟨_,rfl⟩
 have sp:=Big.scale_spec tp tq.2
 rw [<- hs] at sp
 have sp3:=sp.2.2
 rw [htop] at sp3
 have Sp:=Z1 sp3
 have Hs:=Z1 hs
 have sp1:=sp.1
 have sp2:=sp.2.1
 have tq2:=tq.2
 have HL:=Z1 hL
 have HQ:=Z1 hQ
 have HNq:=Z1 hNq
 have Hl:=Z1 hl
 have Hq:=Z1 hq
 clear hz hone htop tl tl' hs sp sp3 tq
 go_enter func136,ntmps136
 go_wp2_with (fail)
 refine(compare_any w A _ (k+2+e) (k+2) c d p q hl hq (by omega) (by omega) hL hQ hNp hNq hA' hB').mono ?_
 rw [Hz.out]
 rintro e1 w1 ⟨rfl,hB1⟩
 have hq1:=hB1.size
 have hbw1:b<w1.heap.size:=by omega
 have x1:=(hB1.cell (p:=⟨b,o+(k+1),none⟩) hbB).trans hqc
 have HA1:=Z1 (hA'.at_ hB1 (Nat.le_refl _))
 have HQ1:=Z1 (hB'.at_ hB1 (Nat.le_refl _))
 clear hL hQ hNp hNq hA' hB' hqc
 obtain⟨hB2',hb2,hz2⟩:=row_nw w1 #[.int .u32 (1000000000 / (top+1))] 138
 obtain⟨W2,hW2⟩:∃ W2,W2=w1.alloc (.cells #[.int .u32 (1000000000 / (top+1))] 138):=⟨_,rfl⟩
 rw [<- hW2] at hB2' hb2 hz2
 rw [<- Hs.out] at hb2
 have HW2:=Z1 hW2
 have hB2:=hB1.trans (hB2'.mono hB1.size)
 have HA2:=Z1 (HA1.out.at_ hB2' (Nat.le_refl _))
 have HQ2:=Z1 (HQ1.out.at_ hB2' (Nat.le_refl _))
 have hs2:Arr .u32 138 W2 w1.heap.size [s]:=hb2
 have Hs2:=Z1 hs2
 have sz2:w1.heap.size<W2.heap.size:=by omega
 have HS2:=Z1 (hs2.limbs (B:=W2.heap.size) (by omega))
 have hSL:Big.Lim 1000000000 [s]:=Big.Lim.cons.2 ⟨⟨by omega,by omega⟩,Big.Lim.nil⟩
 have HSL:=Z1 hSL
 clear hW2 hb2 hz2 hs2 hSL
 go_upto_region 6 with(fail)
 rw [<- HW2.out]
 go_wp2_with (fail)
 refine(times_arr W2 A _ (k+2+e) 1 c 1 p [s] hl rfl (by omega) (by omega) HL.out HSL.out HA2.out HS2.out).mono ?_
 rintro e3 W3 ⟨hB3,U0,rfl,hUl,hUL,hUv,hUa⟩
 rw [Big.val_one] at hUv
 have HUl:=Z1 hUl
 have HUL:=Z1 hUL
 have HUv:=Z1 hUv
 have HUa:=Z1 hUa
 have sz3:W2.heap.size<W3.heap.size:=hUa.lt
 have HQ3:=Z1 (HQ2.out.at_ hB3 (Nat.le_refl _))
 have HS3:=Z1 (HS2.out.at_ hB3 (Nat.le_refl _))
 have hB03:=hB2.trans (hB3.mono hB2.size)
 clear hUl hUL hUv hUa
 go_wp2_with (fail)
 refine(times_arr W3 _ _ (k+2) 1 d 1 q [s] hq rfl (by omega) (by omega) HQ.out HSL.out HQ3.out HS3.out).mono ?_
 rintro e4 W4 ⟨hB4,V0,rfl,hVl,hVL,hVv,hVa⟩
 rw [Big.val_one] at hVv
 have sz4:W3.heap.size<W4.heap.size:=hVa.lt
 have hB04:=hB03.trans (hB4.mono hB03.size)
 have HUa4:=Z1 (HUa.out.below hB4 sz3)
 have hVA:=hVa.limbs (B:=W4.heap.size) sz4
 have HVA:=Z1 hVA
 have HVL:=Z1 hVL
 have HVl:=Z1 hVl
 obtain⟨t1,t2,t3,t4⟩:=Big.trim_spec 1000000000 V0
 obtain⟨V,hV⟩:∃ V,V=Big.trim V0:=⟨_,rfl⟩
 have htl:=Big.trim_lim hVL
 rw [<- hV] at t1 t2 t3 t4 htl
 rw [hVv] at t1
 have hVk:=Big.scaled_len hq HQ.out HNq.out sp1 Sp.out htl t2 t1
 have HV:=Z1 hV
 have HVv:=Z1 t1
 have HVN:=Z1 t2
 have HVLt:=Z1 htl
 have HVk:=Z1 hVk
 have HVt:Hid (LimbsAt .u32 W4 W4.heap.size (some ⟨W3.heap.size,0,none⟩) V):=Z1 (by rw [t4];exact hVA.take _)
 have HS4:=Z1 (Hs2.out.below (hB3.trans (hB4.mono hB3.size)) sz2)
 clear t1 t2 t3 t4 htl hVk hVl hVL hVv hVa hVA hV
 go_wp2_with (fail)
 refine(trim_any W4 _ (k+2+1) (k+2+1) V0 HVl.out (by omega) (by omega) HVA.out).mono ?_
 rintro e5 w5 ⟨rfl,rfl⟩
 rw [<- HV.out,HVk.out]
 go_upto_region 7 with(fail)
 have tlast:=HVN.out.last (by have:=HVk.out;omega)
 have tl1:1<=V[k+1]'(by have:=HVk.out;omega):=by
  have e9:V.length-1=k+1:=by have:=HVk.out;omega
  have h9:=HVLt.out.get (k+1) (by have:=HVk.out;omega)
  have h8:V[k+1]'(by have:=HVk.out;omega)≠0:=by simpa only [e9] using tlast
  omega
 have Ht1:=Z1 tl1
 clear tlast tl1
 go_wp2
 go_loopw [7] (fun uv wr=>uv=.slice (some ⟨W2.heap.size,0,none⟩) (k+2+e+1) (k+2+e+1)/\W4=wr) (fun _ _=>0)
 case atStart=>exact⟨rfl,rfl⟩
 case round =>
  obtain⟨rfl,rfl⟩:=hrel
  obtain⟨i0,hi,hz0,hz1,hz2⟩:=info_parts uinfo
  have he1:e+1<=1000000000000:=by omega
  go_upto_region 11 with(refine wpList_make_arr rfl _ _ 39 rfl .u32 138 i0 4 underlying39 hi hz0 hz1 hz2 _ _ _ _ (e+1) (e+1) rfl rfl (by omega) (by omega) (Nat.le_refl _) (by decide) he1 ?_;intro W5 hW5)
  have hq5:Arr .u32 138 W5 W4.heap.size (List.replicate (e+1) 0):=by unfold Arr;rw [hW5.out];exact heap_alloc_new W4 _
  have hB5:Below W4.heap.size W4 W5:=by rw [hW5.out];exact(Below.refl _ _).alloc (Nat.le_refl _) _
  have HQ5:=Z1 hq5
  have HU5:=Z1 (HUa4.out.below hB5 (by omega))
  have HV5:=Z1 (HVt.out.at_ hB5 (Nat.le_refl _))
  have HS5:=Z1 (HS4.out.below hB5 (by omega))
  have hB05:=hB04.trans (hB5.mono hB04.size)
  have hw2:w.heap.size<=W2.heap.size:=hB2.size
  have hw4:w.heap.size<=W4.heap.size:=hB04.size
  have hU1:U0.length=k+3+e:=by rw [HUl.out];omega
  have hUd:(U0.drop (e+1)).length=k+2:=by rw [List.length_drop,hU1];omega
  have hUt:(U0.take (e+1)).length=e+1:=by rw [List.length_take,hU1];omega
  have hfirst:Big.val 1000000000 (U0.drop (e+1))<Big.val 1000000000 V:=by rw [HVv.out];exact Big.first_lt hl hq HL.out HQ.out HNq.out sp1 hU1 HUL.out HUv.out
  have Hst:Hid (∃(L W Qs:List Int),L.length=e+1/\W.length=k+2/\Big.Lim 1000000000 L/\Big.Lim 1000000000 W/\Big.val 1000000000 W<Big.val 1000000000 V/\Qs.length+(e+1)=e+1/\Big.Lim 1000000000 Qs/\Arr .u32 138 W5 W2.heap.size (L++W++List.replicate (e+1-(e+1)) 0)/\Arr .u32 138 W5 W4.heap.size (List.replicate (e+1) 0++Qs)/\Big.val 1000000000 (L++W)+1000000000 ^ (e+1)*(Big.val 1000000000 Qs*Big.val 1000000000 V)=Big.val 1000000000 U0):=Z1 ⟨U0.take (e+1),U0.drop (e+1),[],hUt,hUd,HUL.out.take _,HUL.out.drop _,hfirst,by simp,Big.Lim.nil,by rw [List.take_append_drop,Nat.sub_self,List.replicate_zero,List.append_nil];exact HU5.out,by rw [List.append_nil];exact HQ5.out,by rw [List.take_append_drop];simp [Big.val]⟩
  clear hq5 hW5 hU1 hUd hUt hfirst
  go_wp2
  go_loopw [11] (fun jv wr=>∃(t:Nat) (L W Qs:List Int),t<=e+1/\jv=.int .i64 ((t:Int)-1)/\L.length=t/\W.length=k+2/\Big.Lim 1000000000 L/\Big.Lim 1000000000 W/\Big.val 1000000000 W<Big.val 1000000000 V/\Qs.length+t=e+1/\Big.Lim 1000000000 Qs/\Arr .u32 138 wr W2.heap.size (L++W++List.replicate (e+1-t) 0)/\Arr .u32 138 wr W4.heap.size (List.replicate t 0++Qs)/\Big.val 1000000000 (L++W)+1000000000 ^ t*(Big.val 1000000000 Qs*Big.val 1000000000 V)=Big.val 1000000000 U0/\LimbsAt .u32 wr wr.heap.size (some ⟨W3.heap.size,0,none⟩) V/\Arr .u32 138 wr w1.heap.size [s]/\Below w.heap.size w wr) (fun jv _=>(intOf jv+1).toNat)
  case atStart =>
   obtain⟨L,W,Qs,h1,h2,h3,h4,h5,h6,h7,h8,h9,h10⟩:=Hst.out
   exact⟨e+1,L,W,Qs,Nat.le_refl _,by first | rfl | (congr 1;omega),h1,h2,h3,h4,h5,h6,h7,h8,h9,h10,HV5.out,HS5.out,hB05⟩
  case round =>
   obtain⟨t,L,W,Qs,ht,rfl,hLl,hWl,hLL,hWL,hWV,hQl,hQL,hUA,hQA,hval,hVA,hSA,hbr⟩:=hrel
   have HLl:=Z1 hLl
   have HWl:=Z1 hWl
   have HLL:=Z1 hLL
   have HWL:=Z1 hWL
   have HWV:=Z1 hWV
   have HQl:=Z1 hQl
   have HQL:=Z1 hQL
   have HUA:=Z1 hUA
   have HQA:=Z1 hQA
   have Hval:=Z1 hval
   have HVA2:=Z1 hVA
   have HSA:=Z1 hSA
   have Hbr:=Z1 hbr
   have hgq:=hQA.lt
   have hgu:=hUA.lt
   have hgs:=hSA.lt
   clear hLl hWl hLL hWL hWV hQl hQL hUA hQA hval hVA hSA hbr HU5 HQ5 HV5 HS5 Hst
   match t,ht with
   | t+1,ht =>
    rw [show((t+1:Nat):Int)-1=(t:Int) by omega]
    have htl:t<L.length:=by rw [HLl.out];omega
    obtain⟨L2,x,hLx⟩:∃(L2:List Int) (x:Int),L=L2++[x]:=⟨L.take t,L[t],by have h:=List.take_succ_eq_append_getElem htl;rwa [List.take_of_length_le (by have:=HLl.out;omega)] at h⟩
    have hl2:L2.length=t:=by have h:=HLl.out;rw [hLx,List.length_append] at h;simpa using h
    have hLL:=HLL.out
    rw [hLx,Big.Lim.append] at hLL
    have hx:=(Big.Lim.cons.1 hLL.2).1
    have hOL:Big.Lim 1000000000 (x::W):=Big.Lim.cons.2 ⟨hx,HWL.out⟩
    have hOl:(x::W).length=k+3:=by rw [List.length_cons,HWl.out]
    have hlt:Big.val 1000000000 (x::W)<1000000000*Big.val 1000000000 V:=by rw [Big.val_cons];have:=HWV.out;omega
    have hUA2:Arr .u32 138 wr W2.heap.size (L2++(x::W)++List.replicate (e+1-(t+1)) 0):=by have h:=HUA.out;rwa [hLx,List.append_assoc L2,List.singleton_append] at h
    have Hl2:=Z1 hl2
    have HL2:=Z1 hLL.1
    have Hx:=Z1 hx
    have HOL:=Z1 hOL
    have HOl:=Z1 hOl
    have Hlt:=Z1 hlt
    have HUA2:=Z1 hUA2
    have hval:=Hval.out
    rw [hLx] at hval
    have Hval2:=Z1 hval
    have ht0:(0:Int)<=(t:Int):=by omega
    have hte:t<=e:=by omega
    clear hl2 hLL hx hOL hOl hlt hUA2 hval hLx htl
    go_wp2_with (fail)
    rw [show t+(k+2)+1-t=k+3 by omega]
    refine(digit_any wr W2.heap.size t k _ _ L2 (x::W) (List.replicate (e+1-(t+1)) 0) V (some ⟨W3.heap.size,0,none⟩) Hl2.out (by omega) (by omega) HOl.out HVk.out HOL.out HVLt.out Ht1.out Hlt.out HUA2.out HVA2.out (fun b o h=>by cases h;omega)).mono ?_
    rintro e6 W6 ⟨hG6,dq,G,rfl,hdq,hGl,hGL,hGe,hGV,hGA⟩
    have hsz6:=hG6.size
    have hGlt:Big.val 1000000000 G<1000000000 ^ (k+2):=by
     have h1:=Big.val_lt (B:=1000000000) (by omega) HVLt.out
     rw [HVk.out] at h1
     omega
    obtain⟨Wn,rfl,hWn⟩:=Big.top_zero (by omega) hGL (n:=k+2) hGl hGlt
    have hWnL:=(Big.Lim.append.1 hGL).1
    have hWv:Big.val 1000000000 Wn<Big.val 1000000000 V:=by rw [Big.val_snoc,Int.mul_zero,Int.add_zero] at hGV;exact hGV
    have hQ6:=HQA.out.away hG6 (by omega)
    have hV6:=HVA2.out.awayG hG6 (fun b o h=>by cases h;omega)
    have hS6:=HSA.out.away hG6 (by omega)
    have hb6:=Hbr.out.grown hG6 Hbr.out.size (fun g hg=>by cases hg;exact hw2)
    have hround:=Big.div_round Hl2.out Hval2.out hGe
    have hUA6:Arr .u32 138 W6 W2.heap.size (L2++Wn++List.replicate (e+1-t) 0):=by
     have h:e+1-t=(e+1-(t+1))+1:=by omega
     rw [h,List.replicate_succ]
     simpa using hGA
    have hlq:t<(List.replicate (t+1) (0:Int)++Qs).length:=by simp;omega
    have hc6:W6.cell? ⟨W4.heap.size,t,none⟩=some (.int .u32 0):=by
     rw [hQ6.cell hlq]
     congr 2
     rw [List.getElem_append_left (by simp)];simp
    have hf6:=hQ6.free t
    have hg6:=hQ6.lt
    have hset:Arr .u32 138 (W6.setCell ⟨W4.heap.size,t,none⟩ (.int .u32 dq)) W4.heap.size (List.replicate t 0++dq::Qs):=by
     have h:=hQ6.set t dq
     rwa [show(List.replicate (t+1) (0:Int)++Qs).set t dq=List.replicate t 0++dq::Qs by
      rw [List.replicate_succ',List.append_assoc,List.set_append_right _ _ (by simp)];simp] at h
    have hg7:=win_grown W6 W4.heap.size t (.int .u32 dq)
    have HREL:=Z1 (And.intro hset (And.intro (hUA6.away hg7 (by omega)) (And.intro (hV6.awayG hg7 (fun b o h=>by cases h;omega)) (And.intro (hS6.away hg7 (by omega)) (hb6.setCell (p:=⟨W4.heap.size,t,none⟩) hw4 (.int .u32 dq))))))
    have Hround:=Z1 hround
    have HWn:=Z1 hWn
    have HWnL:=Z1 hWnL
    have HWv:=Z1 hWv
    have Hdq:=Z1 hdq
    have hdq0:=hdq.1
    have hdq1:=hdq.2
    clear hQ6 hV6 hS6 hb6 hround hUA6 hlq hset hg7 hG6 hGl hGL hGe hGV hGA hGlt hWn hWnL hWv hdq
    go_wp2
    go_roundw
    case rel=>exact⟨t,L2,Wn,dq::Qs,by omega,by go_num,Hl2.out,HWn.out,HL2.out,HWnL.out,HWv.out,by rw [List.length_cons];have:=HQl.out;omega,Big.Lim.cons.2 ⟨Hdq.out,HQL.out⟩,HREL.out.2.1,HREL.out.1,Hround.out,HREL.out.2.2.1,HREL.out.2.2.2.1,HREL.out.2.2.2.2⟩
    case measure=>simp [intOf]
   | 0,ht =>
    have hl0:L=[]:=List.length_eq_zero_iff.1 HLl.out
    have hv:=Hval.out
    have hUA:=HUA.out
    have hQA:=HQA.out
    rw [hl0,List.nil_append] at hUA hv
    rw [List.replicate_zero,List.nil_append] at hQA
    rw [Int.pow_zero,Int.one_mul,HVv.out,HUv.out] at hv
    have hwl:=HWV.out
    rw [HVv.out] at hwl
    have hlimb:=hUA.limbs (B:=wr.heap.size) hgu
    have hW:LimbsAt .u32 wr wr.heap.size (some ⟨W2.heap.size,0,none⟩) W:=by have h:=hlimb.take (k+2);rwa [List.take_append_of_le_length (by rw [HWl.out];exact Nat.le_refl _),List.take_of_length_le (by rw [HWl.out];exact Nat.le_refl _)] at h
    have Hv:=Z1 hv
    have Hwl:=Z1 hwl
    have HW:=Z1 hW
    have HQA0:=Z1 hQA
    have hsc:=HSA.out.cell (k:=0) (by simp)
    simp at hsc
    have Hsc:=Z1 hsc
    have HQl0:Hid (Qs.length=e+1):=Z1 (by have:=HQl.out;omega)
    obtain⟨u1,u2,u3,u4⟩:=Big.trim_spec 1000000000 W
    obtain⟨X,hX⟩:∃ X,X=Big.trim W:=⟨_,rfl⟩
    have uL:=Big.trim_lim HWL.out
    rw [<- hX] at u1 u2 u3 u4 uL
    rw [HWl.out] at u3
    have HX:=Z1 hX
    have Hu1:=Z1 u1
    have HuL:=Z1 uL
    have hXA:LimbsAt .u32 wr wr.heap.size (some ⟨W2.heap.size,0,none⟩) X:=by rw [u4];exact hW.take _
    have HXA:=Z1 hXA
    obtain⟨xl,hxl⟩:∃ xl,xl=X.length:=⟨_,rfl⟩
    rw [<- hxl] at u3
    have Hxl:=Z1 hxl
    clear hv hwl hW hlimb hUA hQA hl0 hsc hX u1 u2 u4 uL hXA hxl
    have hS:Below wr.heap.size wr wr.drew:=below_drawn (Below.refl _ _) 1
    go_upto_region 15 with(fail)
    refine wp_region_held (S:=Below wr.heap.size wr) (by kernel_rfl) ?_
    change wpAnyH _ _ _ _ _ _ _ _ (World.drew wr)
    obtain⟨WC,hWd⟩:∃ W0,W0=wr.drew:=⟨_,rfl⟩
    have hzc:WC.heap.size=wr.heap.size:=by rw [hWd];rfl
    have hHW:=Z1 (HW.out.at_ (w':=WC) (by rw [hWd];exact hS) (Nat.le_refl _))
    rw [<- hWd] at hS ⊢
    have hHX:=Z1 (HXA.out.at_ hS (Nat.le_refl _))
    clear hWd
    refine tk (i:=0) (v:=.slice (some ⟨W2.heap.size,0,none⟩) (k+2+e+1) (k+2+e+1)) rfl (.inl ⟨by rfl,fun W' hS'=>by go_simp⟩) hS ?_
    try simp only [z]
    refine tk (i:=1) (v:=.int .i64 ((k:Int)+2)) rfl (.inl ⟨by rfl,fun W' hS'=>by go_simp⟩) hS ?_
    try simp only [z]
    refine tk (i:=2) (v:=.slice (some ⟨W2.heap.size,0,none⟩) (k+2) (k+2+e+1)) rfl (.inl ⟨by rfl,fun W' hS'=>by(go_simp;rw [if_pos (by omega),show((k:Int)+2).toNat=k+2 by omega])⟩) hS ?_
    try simp only [z]
    refine tk (i:=4) (v:=.slice (some ⟨w1.heap.size,0,none⟩) 1 1) rfl (.inl ⟨by rfl,fun W' hS'=>by go_simp⟩) hS ?_
    try simp only [z]
    refine tk (i:=5) (v:=.pointer (some ⟨w1.heap.size,0,none⟩)) rfl (.inl ⟨by rfl,fun W' hS'=>by go_simp⟩) hS ?_
    try simp only [z]
    refine tk (i:=6) (v:=.int .u32 s) rfl (.inl ⟨by rfl,fun W' hS'=>by have hc:=(hS'.cell (p:=⟨w1.heap.size,0,none⟩) hgs).trans Hsc.out;have hl9:=Nat.lt_of_lt_of_le hgs hS'.size;go_simp⟩) hS ?_
    try simp only [z]
    refine rd9 3 (by kernel_rfl) rfl (fun K hK=>?_)
    go_simp
    refine(trim_any WC _ (k+2) (k+2+e+1) W HWl.out (by omega) (by omega) hHW.out).mono ?_
    rintro e7 W7 ⟨rfl,hW7⟩
    obtain rfl:=hW7
    rw [<- HX.out,<- Hxl.out]
    refine hK.out _ _ hS (fun _=>?_)
    clear hK K
    try simp only [z]
    refine rd9 7 (by kernel_rfl) rfl (fun K hK=>?_)
    go_simp
    refine(short_any WC _ xl (k+2+e+1) X s Hxl.out.symm (by omega) sp1 (by omega) HuL.out hHX.out).mono ?_
    rintro e8 W8 ⟨hB8,g,g',R,r,rfl,hRl,hRL,hRe,r0,r1,hRA,hrA,hg,hg'⟩
    have hS8:=hS.trans (hB8.mono hS.size)
    refine hK.out _ _ hS8 (fun _=>?_)
    clear hK K
    try simp only [z]
    refine tk (i:=8) (v:=.tuple #[.slice (some ⟨g,0,none⟩) xl xl,.slice (some ⟨g',0,none⟩) 1 1]) rfl (.inl ⟨by rfl,fun W' hS'=>by go_simp⟩) hS8 ?_
    try simp only [z]
    refine tk (i:=9) (v:=.slice (some ⟨g,0,none⟩) xl xl) rfl (.inl ⟨by rfl,fun W' hS'=>by go_simp⟩) hS8 ?_
    try simp only [z]
    refine tk (i:=10) (v:=.slice (some ⟨g',0,none⟩) 1 1) rfl (.inl ⟨by rfl,fun W' hS'=>by go_simp⟩) hS8 ?_
    try simp only [z]
    refine rd9 11 (by kernel_rfl) rfl (fun K hK=>?_)
    go_simp
    refine hK.out _ _ hS8 (fun _=>?_)
    clear hK K
    try simp only [z]
    refine rd9 12 (by kernel_rfl) rfl (fun K hK=>?_)
    go_simp
    refine hK.out _ _ hS8 (fun _=>?_)
    clear hK K
    try simp only [z]
    refine wpAnyH_done (by kernel_rfl) ?_ _
    try simp only [z]
    have hdv:=Big.div_end Hv.out Hwl.out (by rw [<- Hu1.out];exact hRe) r0 r1
    have hb8:=Hbr.out.trans (hS8.mono Hbr.out.size)
    have hq8:=HQA0.out.below hS8 hgq
    have hrv:=Big.val_nonneg (B:=1000000000) (by omega) hRL
    have HFIN:=Z1 (And.intro hdv (And.intro hb8 (And.intro (hq8.limbs hq8.lt) (And.intro hrv (And.intro hRl (And.intro hRL hRA))))))
    have hgw:w.heap.size<=g:=by have:=Hbr.out.size;omega
    have Hgw:=Z1 hgw
    clear hdv hb8 hq8 hrv hRl hRL hRe hRA hrA hS8 hS hB8 hg hg' hgw
    go_wp2
    go_ret2
    exact⟨HFIN.out.2.1,some ⟨W4.heap.size,0,none⟩,e+1,e+1,Qs,some ⟨g,0,none⟩,xl,xl,R,rfl,HQl0.out,HFIN.out.2.2.2.2.1,by omega,u3,Nat.le_refl _,Nat.le_refl _,HQL.out,HFIN.out.2.2.2.2.2.1,HFIN.out.1.1,HFIN.out.2.2.2.1,HFIN.out.1.2,HFIN.out.2.2.1,HFIN.out.2.2.2.2.2.2,fun b o h=>(by cases h;exact hw4),.inr fun b o h=>(by cases h;exact Hgw.out)⟩
end
end Go.Proofs.YtniaimjknmhapaaGreatDoor
