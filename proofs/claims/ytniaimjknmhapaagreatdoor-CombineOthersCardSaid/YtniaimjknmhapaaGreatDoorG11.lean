/- My texts RatMul, Reg, Rows2, ChartW, EntW, Let, RatMulG, TextD, PartsZD, TextQD. -/
import Derived.Test.YtniaimjknmhapaaGreatDoorShelf
import Derived.Lib.AppendIntMem
import Derived.Test.YtniaimjknmhapaaGreatDoorG09
set_option linter.unusedVariables false
set_option linter.unusedSimpArgs false
set_option maxRecDepth 100000
set_option maxHeartbeats 16000000
namespace Go.Proofs.YtniaimjknmhapaaGreatDoor
open Go.RowKit

def RegM (w:World) (B p1 p2 p3 p4:Nat) (X1 X2 X3 X4:Array Value) (W':World):Prop :=
 Below B w W'/\W'.heap[p1]?=some (.cells X1 41 (0,0))/\W'.heap[p2]?=some (.cells X2 41 (0,0))/\W'.heap[p3]?=some (.cells X3 41 (0,0))/\W'.heap[p4]?=some (.cells X4 41 (0,0))
theorem Vq {w:World} {b:Nat} {O:Obj} (h:w.heap[b]?=some O):b<w.heap.size:=(Array.getElem?_eq_some_iff.1 h).1
theorem RegM.step {w W W':World} {B p1 p2 p3 p4:Nat} {X1 X2 X3 X4:Array Value} (h:RegM w B p1 p2 p3 p4 X1 X2 X3 X4 W) (hBw:B<=w.heap.size) (hb:Below W W W'):RegM w B p1 p2 p3 p4 X1 X2 X3 X4 W':=by
 obtain⟨h0,h1,h2,h3,h4⟩:=h;exact⟨h0.trans (hb.mono (Nat.le_trans hBw h0.size)),(hb.block _ (Vq h1)).trans h1,(hb.block _ (Vq h2)).trans h2,(hb.block _ (Vq h3)).trans h3,(hb.block _ (Vq h4)).trans h4⟩
theorem RegM.drew {w W:World} {B p1 p2 p3 p4:Nat} {X1 X2 X3 X4:Array Value} (h:RegM w B p1 p2 p3 p4 X1 X2 X3 X4 W):RegM w B p1 p2 p3 p4 X1 X2 X3 X4 W.drew:=⟨Vw h.1 1,h.2⟩
theorem RegM.store {w W:World} {B p1 p2 p3 p4:Nat} {X1 X2 X3 X4:Array Value} (h:RegM w B p1 p2 p3 p4 X1 X2 X3 X4 W) (d:Nat) (hd:B<=d) (e1:p1≠d) (e2:p2≠d) (e3:p3≠d) (e4:p4≠d) (cs:Array Value):RegM w B p1 p2 p3 p4 X1 X2 X3 X4 (W.setRow d cs):=by
 obtain⟨h0,h1,h2,h3,h4⟩:=h;exact⟨below_setRow h0 hd _,(setRow_other _ _ _ _ e1).trans h1,(setRow_other _ _ _ _ e2).trans h2,(setRow_other _ _ _ _ e3).trans h3,(setRow_other _ _ _ _ e4).trans h4⟩
theorem range2 {w:World} {b:Nat} {x0 x1:Value} {t:TypeId} {fr:Nat × Nat} (h:w.heap[b]?=some (.cells #[x0,x1] t fr)):w.rangeAt b 0 [x0,x1]:=by
 intro j v hj;rw [cr9 _ h]
 match j with
 | 0=>simpa using hj
 | 1=>simpa using hj
 | j+2=>simp at hj
theorem rows3 (w:World) (X Y Z:Array Value) (t:TypeId):Below w w (((w.alloc (.cells X t)).alloc (.cells Y t)).alloc (.cells Z t))/\(((w.alloc (.cells X t)).alloc (.cells Y t)).alloc (.cells Z t)).heap[w.heap.size]?=some (.cells X t (0,0))/\(((w.alloc (.cells X t)).alloc (.cells Y t)).alloc (.cells Z t)).heap[w.heap.size+1]?=some (.cells Y t (0,0))/\(((w.alloc (.cells X t)).alloc (.cells Y t)).alloc (.cells Z t)).heap[w.heap.size+2]?=some (.cells Z t (0,0))/\(((w.alloc (.cells X t)).alloc (.cells Y t)).alloc (.cells Z t)).heap.size=w.heap.size+3:=by
 refine⟨((bR.alloc lR _).alloc sP _).alloc sO _,?_,?_,?_,sP⟩
 ·rw [Below.heap_alloc _ _ _ sO,Below.heap_alloc _ _ _ sP];exact heap_alloc_new w _
 ·rw [Below.heap_alloc _ _ _ sP]
  have:=heap_alloc_new (w.alloc (.cells X t)) (.cells Y t)
  rwa [show(w.alloc (.cells X t)).heap.size=w.heap.size+1 by simp] at this
 ·have:=heap_alloc_new ((w.alloc (.cells X t)).alloc (.cells Y t)) (.cells Z t)
  rwa [show((w.alloc (.cells X t)).alloc (.cells Y t)).heap.size=w.heap.size+2 by simp] at this
theorem rows2 (w:World) (X Y:Array Value) (t:TypeId):Below w w ((w.alloc (.cells X t)).alloc (.cells Y t))/\((w.alloc (.cells X t)).alloc (.cells Y t)).heap[w.heap.size]?=some (.cells X t (0,0))/\((w.alloc (.cells X t)).alloc (.cells Y t)).heap[w.heap.size+1]?=some (.cells Y t (0,0))/\((w.alloc (.cells X t)).alloc (.cells Y t)).heap.size=w.heap.size+2:=by
 refine⟨(bR.alloc lR _).alloc sP _,?_,?_,sP⟩
 ·rw [Below.heap_alloc _ _ _ sP];exact heap_alloc_new w _
 ·have:=heap_alloc_new (w.alloc (.cells X t)) (.cells Y t)
  rwa [show(w.alloc (.cells X t)).heap.size=w.heap.size+1 by simp] at this
section
variable (w:World)
end
open Go.RowKit

def Reg (w:World) (L:List (Nat × Array Value × TypeId)) (W:World):Prop :=
 Below w w W/\∀ x∈L,W.heap[x.1]?=some (.cells x.2.1 x.2.2 (0,0))
theorem Reg.get {w W:World} {L:List (Nat × Array Value × TypeId)} (h:Reg w L W) {b:Nat} {X:Array Value} {t:TypeId} (hm:(b,X,t)∈L):W.heap[b]?=some (.cells X t (0,0)):=h.2 _ hm
theorem Reg.step {w W W':World} {L:List (Nat × Array Value × TypeId)} (h:Reg w L W) (hb:Below W W W'):Reg w L W' :=
 ⟨h.1.trans (hb.mono h.1.size),fun x hx=>(hb.block _ (Vq (h.2 x hx))).trans (h.2 x hx)⟩
theorem Reg.drew {w W:World} {L:List (Nat × Array Value × TypeId)} (h:Reg w L W):Reg w L W.drew:=⟨Vw h.1 1,h.2⟩
theorem Reg.store {w W:World} {L:List (Nat × Array Value × TypeId)} (h:Reg w L W) (d:Nat) (hd:w.heap.size<=d) (hne:∀ x∈L,x.1≠d) (cs:Array Value):Reg w L (W.setRow d cs) :=
 ⟨below_setRow h.1 hd _,fun x hx=>(setRow_other _ _ _ _ (hne x hx)).trans (h.2 x hx)⟩
theorem Reg.lt {w W:World} {L:List (Nat × Array Value × TypeId)} (h:Reg w L W) {b:Nat} {X:Array Value} {t:TypeId} (hm:(b,X,t)∈L):b<W.heap.size:=Vq (h.2 _ hm)
theorem a0T (w:World) (X:Array Value) (t:TypeId):Below w w (w.alloc (.cells X t))/\(w.alloc (.cells X t)).heap[w.heap.size]?=some (.cells X t (0,0))/\(w.alloc (.cells X t)).heap.size=w.heap.size+1 :=
 ⟨bR.alloc lR _,heap_alloc_new w _,sP⟩
theorem a1g (w:World) (X Y:Array Value) (t s:TypeId):Below w w ((w.alloc (.cells X t)).alloc (.cells Y s))/\((w.alloc (.cells X t)).alloc (.cells Y s)).heap[w.heap.size]?=some (.cells X t (0,0))/\((w.alloc (.cells X t)).alloc (.cells Y s)).heap[w.heap.size+1]?=some (.cells Y s (0,0))/\((w.alloc (.cells X t)).alloc (.cells Y s)).heap.size=w.heap.size+2:=by
 refine⟨(bR.alloc lR _).alloc sP _,?_,?_,sP⟩
 ·rw [Below.heap_alloc _ _ _ sP];exact heap_alloc_new w _
 ·have:=heap_alloc_new (w.alloc (.cells X t)) (.cells Y s)
  rwa [show(w.alloc (.cells X t)).heap.size=w.heap.size+1 by simp] at this
theorem a3d (w:World) (X Y Z:Array Value) (t s r:TypeId):Below w w (((w.alloc (.cells X t)).alloc (.cells Y s)).alloc (.cells Z r))/\(((w.alloc (.cells X t)).alloc (.cells Y s)).alloc (.cells Z r)).heap[w.heap.size]?=some (.cells X t (0,0))/\(((w.alloc (.cells X t)).alloc (.cells Y s)).alloc (.cells Z r)).heap[w.heap.size+1]?=some (.cells Y s (0,0))/\(((w.alloc (.cells X t)).alloc (.cells Y s)).alloc (.cells Z r)).heap[w.heap.size+2]?=some (.cells Z r (0,0))/\(((w.alloc (.cells X t)).alloc (.cells Y s)).alloc (.cells Z r)).heap.size=w.heap.size+3:=by
 obtain⟨h1,h2,h3,h4⟩:=a1g w X Y t s;obtain⟨g1,g2,g3⟩:=a0T ((w.alloc (.cells X t)).alloc (.cells Y s)) Z r;rw [h4] at g2 g3;exact⟨h1.trans (g1.mono h1.size),(g1.block _ oM).trans h2,(g1.block _ oM).trans h3,g2,g3⟩
theorem nw1 (w:World) (X:Array Value) (t:TypeId):∃ W,W=w.alloc (.cells X t)/\Below w w W/\W.heap[w.heap.size]?=some (.cells X t (0,0))/\W.heap.size=w.heap.size+1:=⟨_,rfl,a0T w X t⟩
theorem nw2 (w:World) (X Y:Array Value) (t s:TypeId):∃ W,W=(w.alloc (.cells X t)).alloc (.cells Y s)/\Below w w W/\W.heap[w.heap.size]?=some (.cells X t (0,0))/\W.heap[w.heap.size+1]?=some (.cells Y s (0,0))/\W.heap.size=w.heap.size+2:=⟨_,rfl,a1g w X Y t s⟩
def Mk (W0 W:World) (b:Bool) (v:Value) (p:Nat) (X:Array Value) (T:TypeId):Prop :=
 b=true->v=.pointer (some ⟨p,0,none⟩)/\W0.heap.size<=p/\W.heap[p]?=some (.cells X T (0,0))
theorem Mk.step {W0 W W':World} {b:Bool} {v:Value} {p:Nat} {X:Array Value} {T:TypeId} (h:Mk W0 W b v p X T) (hB:Below W W W'):Mk W0 W' b v p X T :=
 fun hb=>⟨(h hb).1,(h hb).2.1,gbox (h hb).2.2 hB (Vq (h hb).2.2)⟩
theorem ropt {P:Program} {ops:Array Oper} {Q:Exit->Act->World->Prop} {md:Region.Mode} {S:World->Prop} {fuel:Nat} {listed:Array Bool} {a:Act} {w:World} {b:Bool} {i:Nat} {rs:List Nat}
  (h:b=false->AllReadyH P md ops Q S fuel listed a w [i]) (hs:AllReadyH P md ops Q S fuel listed a w rs):AllReadyH P md ops Q S fuel listed a w (cond b [] [i]++rs):=by
 cases b
 ·intro j hj
  rcases List.mem_cons.1 hj with rfl | hj
  ·exact h rfl _ (List.mem_cons_self ..)
  ·exact hs j hj
 ·exact hs
open Go.Proofs.Tryz Go.RowKit

def RowsAt {α:Type} (f:α->List Value) (sz:Nat) (w:World) (B:Nat) (A:Option Addr) (l:List α):Prop :=
 l=[]∨∃ b o,A=some ⟨b,o,none⟩/\b<B/\∀ k (h:k<l.length),w.rangeAt b (o+k*sz) (f l[k])
section
variable {α:Type} {f:α->List Value} {sz:Nat} {w w':World} {B C:Nat} {A:Option Addr} {l:List α}
theorem RowsAt.below (h:RowsAt f sz w B A l) (hb:Below C w w') (hC:B<=C):RowsAt f sz w' B A l:=by
 rcases h with h | ⟨b,o,e,hl,hc⟩
 ·exact .inl h
 ·exact .inr ⟨b,o,e,hl,fun k hk j v hv=>(hb.cell (p:=⟨b,_,none⟩) (Nat.lt_of_lt_of_le hl hC)).trans (hc k hk j v hv)⟩
theorem RowsAt.more (h:RowsAt f sz w B A l) (hC:B<=C):RowsAt f sz w C A l:=by
 rcases h with h | ⟨b,o,e,hl,hc⟩
 ·exact .inl h
 ·exact .inr ⟨b,o,e,oM,hc⟩
theorem RowsAt.kept {row:Option Nat} (h:RowsAt f sz w w A l) (hg:w.grownBy w' row) (hne:∀ b o,A=some ⟨b,o,none⟩->some b≠row):RowsAt f sz w' w' A l:=by
 rcases h with h | ⟨b,o,e,hl,hc⟩
 ·exact .inl h
 ·exact .inr ⟨b,o,e,Nat.lt_of_lt_of_le hl hg.size,fun k hk j v hv=>(World.cell?_of_block (w:=w) (hg.block b hl (hne b o e))).trans (hc k hk j v hv)⟩
theorem RowsAt.at_ (h:RowsAt f sz w w A l) (hb:Below w w w'):RowsAt f sz w' w' A l:=(h.below hb lR).more hb.size
theorem RowsAt.look (h:RowsAt f sz w B A l) {k:Nat} (hk:k<l.length):∃ b o,A=some ⟨b,o,none⟩/\b<B/\w.rangeAt b (o+k*sz) (f l[k]):=by
 rcases h with h | ⟨b,o,e,hl,hc⟩
 ·subst h;simp at hk
 ·exact⟨b,o,e,hl,hc k hk⟩
end
theorem a7Q {w:World} {b o:Nat} {cs:List Value} (h:w.rangeAt b o cs) (j:Nat) (v:Value) (hv:cs[j]?=some v):w.cell? ⟨b,o+j,none⟩=some v:=h j v hv
theorem a1H {α:Type} {l:List α} {k:Nat} {P:α->Prop} (hk:k<l.length) (h:∀ a∈l.take k,P a) (hp:P l[k]):∀ a∈l.take (k+1),P a:=by
 intro a ha;rw [tse hk,List.mem_append,List.mem_singleton] at ha
 rcases ha with ha | rfl
 ·exact h a ha
 ·exact hp

open Go.Maps in
theorem intLaw:Maps.Keyed prog 3:=int_keyed underlying3
def SetAt (w:World) (b:Nat) (p:List Int):Prop :=
 ∃ f,MapAt w prog 3 b p.length f/\∀ x,f (.int .i64 x)=if x∈p then some (.bool true) else none
section
variable {w w':World} {b B:Nat} {p:List Int}
theorem SetAt.lt (h:SetAt w b p):b<w.heap.size:=by obtain⟨f,h,_⟩:=h;exact h.lt
theorem SetAt.below (h:SetAt w b p) (hb:Below B w w') (hB:b<B):SetAt w' b p:=by obtain⟨f,h,r⟩:=h;exact⟨f,h.below hb hB,r⟩
theorem SetAt.kept {row:Option Nat} (h:SetAt w b p) (hg:w.grownBy w' row) (hne:some b≠row):SetAt w' b p:=by obtain⟨f,h,r⟩:=h;exact⟨f,h.kept hg hne,r⟩
theorem SetAt.alloc (h:SetAt w b p) (o:Obj):SetAt (w.alloc o) b p:=by obtain⟨f,h,r⟩:=h;exact⟨f,h.alloc o,r⟩
theorem SetAt.made (w:World):SetAt (w.alloc (.map #[] 0)) w []:=⟨_,MapAt.made w _ _,fun x=>sP⟩
open Go.Maps in
theorem SetAt.look (h:SetAt w b p) (x:Int) (hx:(Lit.int .i64 x).wf=true):(Instr.lookup 224 (.map (some b)) (.int .i64 x) false).run prog w=.ok (.bool (decide (x∈p))) w:=by
 obtain⟨f,hm,hf⟩:=h;have hz:(zeroValue 4).run prog w=.ok (.bool false) w:=kR;rw [hm.lookup intLaw underlying224 hz (keyOf_int_mk underlying3 hx),hf]
 by_cases h:x∈p <;> simp [h]
open Classical in
theorem a7b {f:Value->Option Value} (hf:∀ x,f (.int .i64 x)=if x∈p then some (.bool true) else none) (c:Int) :
  ∀ x,(fun v=>if v=.int .i64 c then some (Value.bool true) else f v) (.int .i64 x)=if x∈p++[c] then some (.bool true) else none:=by
 intro x;show(if _ then _ else f _)=_
 by_cases h:x=c
 ·subst h;rw [if_pos rfl,if_pos sP]
 ·rw [if_neg (by simp [h]),hf]
  by_cases h2:x∈p <;> simp [h,h2]
end
open Go.Proofs.Tryz Go.RowKit

def Acc.wf (a:Acc):Prop:=(Lit.int .i64 a.code).wf=true/\(Lit.int .i64 a.kind).wf=true/\(Lit.int .i64 a.basis).wf=true/\(Lit.int .i64 a.parent).wf=true
abbrev AccsAt:=RowsAt Acc.cells 4
theorem AccsAt.four {w:World} {B:Nat} {A:Option Addr} {l:List Acc} (h:AccsAt w B A l) {k:Nat} (hk:k<l.length):∃ b o,A=some ⟨b,o,none⟩/\b<B/\w.cell? ⟨b,o+k*4,none⟩=some (.int .i64 l[k].code)/\w.cell? ⟨b,o+k*4+1,none⟩=some (.int .i64 l[k].kind)/\w.cell? ⟨b,o+k*4+2,none⟩=some (.int .i64 l[k].basis)/\w.cell? ⟨b,o+k*4+3,none⟩=some (.int .i64 l[k].parent):=by
 obtain⟨b,o,e,hb,hr⟩:=RowsAt.look h hk;exact⟨b,o,e,hb,hr 0 _ rfl,hr 1 _ rfl,hr 2 _ rfl,hr 3 _ rfl⟩
theorem a0W:(prog.info? 87).map (·.size)=some 4:=kR
theorem accOne (a b c d:Int):(#[a,b,c,d]:Array Value).all (·.oneCell')=true:=oC
section
variable (w:World)
theorem a9L (A:Option Addr) (n c:Nat) (l:List Acc) (x:Int) (hl:l.length=n) (hn:n<=100000) (h:AccsAt w w A l) :
  CL 31 #[.slice A n c,x] w (.tuple #[(Ch.found l x),.bool (Ch.has l x)]):=by
 subst hl;have hB0:=(Below.refl w w).alloc lR (.cells #[(),(),(),()] 87);have hZ0:=heap_alloc_new w (.cells #[(),(),(),()] 87);go_enter func31,ntmps31;go_wp2
 go_loopw [6] (fun i wr=>∃ k:Nat,k<=l.length/\i=.int .i64 k/\Ch.find (l.take k) x=none/\Below w w wr/\wr.heap[w.heap.size]?=some (.cells #[(),(),(),()] 87 (0,0))) (fun i _=>l.length-(intOf i).toNat)
 case atStart=>exact⟨0,Nat.zero_le _,rfl,rfl,hB0,hZ0⟩
 case round =>
  obtain⟨k,hk,rfl,hno,hb,hZ⟩:=hrel;have Hno:=Z1 hno;have HZ:=Z1 hZ;clear hno hZ hB0 hZ0
  by_cases hlt:k<l.length
  ·obtain⟨b,o,rfl,hbB,c0,c1,c2,c3⟩:=AccsAt.four (h.below hb lR) hlt
   have hbw:b<wr.heap.size:=Nat.lt_of_lt_of_le hbB hb.size
   by_cases hc:l[k].code=x
   ·have hf:=Ch.find_hit hlt Hno.out hc
    have HF:Hid (Ch.found l x=l[k]):=by show _=_;simp [Ch.found,hf]
    have HH:Hid (Ch.has l x=true):=by show _=_;simp [Ch.has,hf]
    have hbe:(l[k].code==x)=true:=by simp [hc]
    have Ho:=Z1 (accOne l[k].code l[k].kind l[k].basis l[k].parent);have hR:=setRow_heap wr w _ (l[k]) _ _ HZ.out;have hload:=Z1 (run_loadVar_row (P:=prog) _ _ _ 87 _ _ _ hR underlying87 rfl a0W);have hBF:=Z1 (below_setRow hb lR (l[k]));clear hf hc hR;go_wp2_with (refine Vx rfl 87 (.tmp 4) (.tmp 23) none rfl rfl w.heap.size 87 _ (l[k]) rfl rfl HZ.out rfl a0W Ho.out ?_);exact bodyPost_ret (v:=.tuple #[(l[k]),true]) (by simp [results,results31,asAddr,Act.put,hload.out]) rfl ⟨by rw [HF.out,HH.out],hBF.out⟩
   ·have hbe:(l[k].code==x)=false:=by simp [hc]
    have hf:Hid (Ch.find (l.take (k+1)) x=none):=by show _=_;rw [Ch.find_take hlt Hno.out,if_neg hc]
    clear hc;go_wp2;go_roundw
    case rel=>exact⟨k+1,oM,by go_num,hf.out,hb,HZ.out⟩
    case measure=>simp [intOf];omega
  ·obtain rfl:k=l.length:=oM
   have hf:Ch.find l x=none:=by have:=Hno.out;rwa [List.take_length] at this
   have HF:Hid (Ch.found l x=Acc.zero):=by show _=_;simp [Ch.found,hf]
   have HH:Hid (Ch.has l x=false):=by show _=_;simp [Ch.has,hf]
   have Ho:=Z1 (accOne 0 0 0 0);have hR:=setRow_heap wr w _ #[(),(),(),()] _ _ HZ.out;have hload:=Z1 (run_loadVar_row (P:=prog) _ _ _ 87 _ _ _ hR underlying87 rfl a0W);have hBF:=Z1 (below_setRow hb lR #[(),(),(),()]);clear hf hR h;go_wp2_with (refine Vx rfl 87 (.tmp 4) (.tmp 24) none rfl rfl w.heap.size 87 _ #[(),(),(),()] rfl rfl HZ.out rfl a0W Ho.out ?_);exact bodyPost_ret (v:=.tuple #[.agg #[(),(),(),()],false]) (by simp [results,results31,asAddr,Act.put,hload.out]) rfl ⟨by rw [HF.out,HH.out];rfl,hBF.out⟩
theorem a0M (A:Option Addr) (n c:Nat) (l:List Acc) (x:Int) (hl:l.length=n) (hn:n<=100000) (h:AccsAt w w A l) :
  CL 121 #[.slice A n c,x] w (.tuple #[(Ch.found l x),.bool (Ch.has l x)]):=by
 subst hl;have hB0:=(Below.refl w w).alloc lR (.cells #[(),(),(),()] 87);have hZ0:=heap_alloc_new w (.cells #[(),(),(),()] 87);go_enter func121,ntmps121;go_wp2
 go_loopw [10] (fun i wr=>∃ k:Nat,k<=l.length/\i=.int .i64 k/\Ch.find (l.take k) x=none/\Below w w wr/\wr.heap[w.heap.size]?=some (.cells #[(),(),(),()] 87 (0,0))) (fun i _=>l.length-(intOf i).toNat)
 case atStart=>exact⟨0,Nat.zero_le _,rfl,rfl,hB0,hZ0⟩
 case round =>
  obtain⟨k,hk,rfl,hno,hb,hZ⟩:=hrel;have Hno:=Z1 hno;have HZ:=Z1 hZ;clear hno hZ hB0 hZ0
  by_cases hlt:k<l.length
  ·obtain⟨b,o,rfl,hbB,c0,c1,c2,c3⟩:=AccsAt.four (h.below hb lR) hlt
   have hbw:b<wr.heap.size:=Nat.lt_of_lt_of_le hbB hb.size;have hgr:=Vq HZ.out
   by_cases hc:l[k].code=x
   ·have hf:=Ch.find_hit hlt Hno.out hc
    have HF:Hid (Ch.found l x=l[k]):=by show _=_;simp [Ch.found,hf]
    have HH:Hid (Ch.has l x=true):=by show _=_;simp [Ch.has,hf]
    have hbe:(l[k].code==x)=true:=by simp [hc]
    have Ho:=Z1 (accOne l[k].code l[k].kind l[k].basis l[k].parent);have HZ1:=Z1 ((Below.heap_alloc wr (.cells (l[k]) 87) _ hgr).trans HZ.out);have hR:=setRow_heap (wr.alloc (.cells (l[k]) 87)) w _ (l[k]) _ _ HZ1.out;have hload:=Z1 (run_loadVar_row (P:=prog) _ _ _ 87 _ _ _ hR underlying87 rfl a0W);have hBF:=Z1 (below_setRow (hb.alloc hb.size (.cells (l[k]) 87)) lR (l[k]));clear hf hc hR;go_wp2_with (refine Vx rfl 87 (.tmp 4) (.tmp 18) none rfl rfl w.heap.size 87 _ (l[k]) rfl rfl HZ1.out rfl a0W Ho.out ?_);exact bodyPost_ret (v:=.tuple #[(l[k]),true]) (by simp [results,results121,asAddr,Act.put,hload.out]) rfl ⟨by rw [HF.out,HH.out],hBF.out⟩
   ·have hbe:(l[k].code==x)=false:=by simp [hc]
    have hf:Hid (Ch.find (l.take (k+1)) x=none):=by show _=_;rw [Ch.find_take hlt Hno.out,if_neg hc]
    clear hc;go_wp2;go_roundw
    case rel=>exact⟨k+1,oM,by go_num,hf.out,hb.alloc hb.size _,(Below.heap_alloc wr _ _ hgr).trans HZ.out⟩
    case measure=>simp [intOf];omega
  ·obtain rfl:k=l.length:=oM
   have hf:Ch.find l x=none:=by have:=Hno.out;rwa [List.take_length] at this
   have HF:Hid (Ch.found l x=Acc.zero):=by show _=_;simp [Ch.found,hf]
   have HH:Hid (Ch.has l x=false):=by show _=_;simp [Ch.has,hf]
   have Ho:=Z1 (accOne 0 0 0 0);have hR:=setRow_heap wr w _ #[(),(),(),()] _ _ HZ.out;have hload:=Z1 (run_loadVar_row (P:=prog) _ _ _ 87 _ _ _ hR underlying87 rfl a0W);have hBF:=Z1 (below_setRow hb lR #[(),(),(),()]);clear hf hR h;go_wp2_with (refine Vx rfl 87 (.tmp 4) (.tmp 20) none rfl rfl w.heap.size 87 _ #[(),(),(),()] rfl rfl HZ.out rfl a0W Ho.out ?_);exact bodyPost_ret (v:=.tuple #[.agg #[(),(),(),()],false]) (by simp [results,results121,asAddr,Act.put,hload.out]) rfl ⟨by rw [HF.out,HH.out];rfl,hBF.out⟩
end
open Go.Proofs.Tryz Go.RowKit

abbrev LinsAt:=RowsAt Lin.cells 3
def Lin.wf (x:Lin):Prop:=(Lit.int .i64 x.acct).wf=true/\(-1125899906842624<=x.amt/\x.amt<=1125899906842624)/\(Lit.int .i64 x.prt).wf=true
structure EtC.wf (x:EtC):Prop where
 hid:(Lit.int .i64 x.id).wf=true
 hda:(Lit.int .i64 x.date).wf=true
 hof:(Lit.int .i64 x.of_).wf=true
 htx:x.text.size<=maxLen
 hln:x.lines.length<=60
 hlw:∀ l∈x.lines,l.wf
structure Etr.At (w:World) (B:Nat) (x:Etr):Prop where
 hl:x.c.lines.length=x.ln
 hA:LinsAt w B x.lA x.c.lines
 hw:x.c.wf
theorem Etr.At.below {w w':World} {B C:Nat} {x:Etr} (h:x.At w B) (hb:Below C w w') (hC:B<=C):x.At w' B:=⟨h.hl,RowsAt.below h.hA hb hC,h.hw⟩
theorem Etr.At.more {w:World} {B C:Nat} {x:Etr} (h:x.At w B) (hC:B<=C):x.At w C:=⟨h.hl,RowsAt.more h.hA hC,h.hw⟩
theorem Etr.At.at_ {w w':World} {x:Etr} (h:x.At w w) (hb:Below w w w'):x.At w' w'.heap.size:=(h.below hb lR).more hb.size
theorem a1o:(prog.info? 68).map (·.size)=some 3:=kR
theorem a0H:(prog.info? 71).map (·.size)=some 7:=kR
theorem LinsAt.three {w:World} {B:Nat} {A:Option Addr} {l:List Lin} (h:LinsAt w B A l) {k:Nat} (hk:k<l.length):∃ b o,A=some ⟨b,o,none⟩/\b<B/\w.rangeAt b (o+k*3) (l[k]):=RowsAt.look h hk
namespace Jr
theorem total_take {l:List Lin} {k:Nat} (hk:k<l.length):total (l.take (k+1))=total (l.take k)+l[k].amt:=by
 unfold total;rw [tse hk,List.map_append,List.sum_append];simp
theorem total_bd:∀(l:List Lin),(∀ x∈l,x.wf)->-(1125899906842624*(l.length:Int))<=total l/\total l<=1125899906842624*(l.length:Int)
 | [],_=>by simp [total]
 | x::l,h=>by
  have h1:=total_bd l fun y hy=>h y (List.mem_cons_of_mem _ hy);have h2:=(h x List.mem_cons_self).2.1;have e:total (x::l)=x.amt+total l:=by simp [total]
  rw [e];simp only [List.length_cons];omega
def oppT (l m:List Lin) (k:Nat):Bool:=opposite (l.take k) (m.take k)
theorem a7d:∀(l m:List Lin) (a b:Lin),l.length=m.length->opposite (l++[a]) (m++[b])=(opposite l m&&oppL a b)
 | [],[],a,b,_=>by simp [opposite]
 | x::l,y::m,a,b,h=>by simp only [List.cons_append,opposite,a7d l m a b (by simpa using h),Bool.and_assoc]
theorem oppT_succ {l m:List Lin} {k:Nat} (h1:k<l.length) (h2:k<m.length):oppT l m (k+1)=(oppT l m k&&oppL l[k] m[k]):=by
 unfold oppT;rw [tse h1,tse h2,a7d _ _ _ _ sO]
theorem opp_len:∀(l m:List Lin),l.length≠m.length->opposite l m=false
 | [],[],h=>by simp at h
 | [],_::_,_=>rfl
 | _::_,[],_=>rfl
 | x::l,y::m,h=>by simp only [opposite];rw [opp_len l m (by simpa using h),Bool.and_false]
theorem opp_bad:∀(l m:List Lin) (k:Nat) (h1:k<l.length) (h2:k<m.length),oppL l[k] m[k]=false->opposite l m=false
 | x::l,y::m,0,_,_,h=>by simp only [opposite];simp at h;rw [h];rfl
 | x::l,y::m,k+1,h1,h2,h=>by simp only [opposite];rw [opp_bad l m k (by simpa using h1) (by simpa using h2) (by simpa using h),Bool.and_false]
end Jr
section
variable (w:World)
theorem a8Z (s:ByteArray) (hs:s.size<=maxLen):Calls prog 243 #[.string s] w fun e w'=>e=.returned (.bool (Jr.plain s))/\w=w':=by
 unfold maxLen at hs;have hsz:s.data.toList.length=s.size:=sP;go_enter func243,ntmps243;go_wp2
 go_loop [6] (fun i=>∃ k:Nat,k<=s.size/\i=.int .i64 k/\(s.data.toList.take k).all Jr.print=true) (fun i=>s.size-(intOf i).toNat)
 case atStart=>exact⟨0,Nat.zero_le _,rfl,rfl⟩
 case round =>
  obtain⟨k,hk,rfl,ha⟩:=hrel;have Ha:=Z1 ha;clear ha
  by_cases hlt:k<s.size
  ·have hg:s.data.toList[k]' oM=s[k]:=rfl
   by_cases h1:(s[k].toNat:Int)<32
   ·have hf:Hid (Jr.plain s=false):=by
     show Jr.plain s=false;unfold Jr.plain;rw [Gr.allMiss _ _ k oM (by rw [hg];unfold Jr.print;simp only [decide_eq_false_iff_not];omega)];rfl
    clear hg;go_wp2;go_ret;exact⟨VZ hf.out.symm,rfl⟩
   ·by_cases h2:126<(s[k].toNat:Int)
    ·have hf:Hid (Jr.plain s=false):=by
      show Jr.plain s=false;unfold Jr.plain;rw [Gr.allMiss _ _ k oM (by rw [hg];unfold Jr.print;simp only [decide_eq_false_iff_not];omega)];rfl
     clear hg;go_wp2;go_ret;exact⟨VZ hf.out.symm,rfl⟩
    ·have hf:Hid ((s.data.toList.take (k+1)).all Jr.print=true):=by
      show _=true;rw [Gr.allTake _ _ k oM,Ha.out,hg];unfold Jr.print;simp;omega
     clear hg;go_wp2
     go_round
     case rel=>exact⟨k+1,oM,by go_num,hf.out⟩
     case measure=>simp [intOf];omega
  ·obtain rfl:k=s.size:=oM
   have hf:Hid (Jr.plain s=decide (s.size<=80)):=by
    show _=_;have h:=Ha.out;rw [List.take_of_length_le oM] at h;unfold Jr.plain;rw [h,Bool.true_and]
   clear hsz;go_wp2;go_ret;refine⟨VZ ?_,rfl⟩;rw [hf.out,Bool.eq_iff_iff];simp;omega
theorem b1G (A:Option Addr) (n c:Nat) (l:List Lin) (hl:l.length=n) (hn:n<=60) (hw:∀ x∈l,x.wf) (h:LinsAt w w A l) :
  CL 244 #[.slice A n c] w (Jr.total l):=by
 have HW:=Z1 hw;have Hl:=Z1 hl;clear hw hl;go_enter func244,ntmps244;go_wp2
 go_loopw [3,8] (fun s i wr=>∃ k:Nat,k<=n/\i=.int .i64 k/\s=.int .i64 (Jr.total (l.take k))/\Below w w wr) (fun _ i _=>n-(intOf i).toNat)
 case atStart=>exact⟨0,Nat.zero_le _,rfl,rfl,bR⟩
 case round =>
  obtain⟨k,hk,rfl,rfl,hb⟩:=hrel
  by_cases hlt:k<n
  ·have hkl:k<l.length:=by have:=Hl.out;omega
   obtain⟨b,o,rfl,hbB,hr⟩:=LinsAt.three (RowsAt.below h hb lR) hkl;obtain⟨x,hx⟩:∃ x,x=l[k]:=⟨_,rfl⟩;rw [<- hx] at hr;have Hst:=Z1 (Jr.total_take hkl);have hbt:=Jr.total_bd (l.take (k+1)) fun y hy=>HW.out y (List.mem_of_mem_take hy);rw [Hst.out,<- hx] at hbt;rw [<- hx] at Hst;simp only [List.length_take] at hbt;have hb1:-67553994410557440<=Jr.total (l.take k)+x.amt/\Jr.total (l.take k)+x.amt<=67553994410557440:=oM;obtain⟨t,ht⟩:∃ t,t=Jr.total (l.take k):=⟨_,rfl⟩;rw [<- ht] at hb1 Hst ⊢;have Hr:=Z1 hr;have hbw:b<wr.heap.size:=Nat.lt_of_lt_of_le hbB hb.size;clear hr hx hbt ht h;go_wp2_with (refine wpList_load_mid rfl 68 (.tmp 10) rfl b (o+k*3) rfl x _ Hr.out underlying68 rfl a1o ?_);go_roundw
   case rel=>exact⟨k+1,oM,by go_num,by rw [Hst.out],hb.alloc hb.size _⟩
   case measure=>simp [intOf];omega
  ·obtain rfl:k=n:=oM
   have htk:l.take k=l:=List.take_of_length_le (by have:=Hl.out;omega);rw [htk];go_wp2;go_ret;exact⟨rfl,hb⟩
theorem b0Y (x y:Lin) (hy:y.wf):CL 246 #[x,y] w (Jr.oppL x y):=by
 obtain⟨hB0,_,_,_⟩:=a1g w x y 68 68;have hB:=Z1 hB0;have h1:=hy.2.1;have HV:Hid (Jr.oppL x y=decide (x.acct=y.acct/\x.prt=y.prt/\x.amt=-y.amt)):=by show _=_;rfl
 clear hB0 hy
 by_cases e1:x.acct=y.acct
 ·by_cases e2:x.prt=y.prt
  ·have b1:(x.acct==y.acct)=true:=by simp [e1]
   have b2:(x.prt==y.prt)=true:=by simp [e2]
   have E:=Z1 e1;have E2:=Z1 e2;clear e1 e2;go_enter func246,ntmps246;go_wp2;go_ret;refine⟨VZ ?_,hB.out⟩;rw [HV.out,Bool.eq_iff_iff];have:=E.out;have:=E2.out;simp [*]
  ·have b1:(x.acct==y.acct)=true:=by simp [e1]
   have b2:(x.prt==y.prt)=false:=by simp [e2]
   have E:Hid (Jr.oppL x y=false):=by show _=_;rw [HV.out];simp [e2]
   clear e1 e2;go_enter func246,ntmps246;go_wp2;go_ret;exact⟨VZ E.out.symm,hB.out⟩
 ·have b1:(x.acct==y.acct)=false:=by simp [e1]
  have E:Hid (Jr.oppL x y=false):=by show _=_;rw [HV.out];simp [e1]
  clear e1;go_enter func246,ntmps246;go_wp2;go_ret;exact⟨VZ E.out.symm,hB.out⟩
theorem a9Q (A A':Option Addr) (n c n' c':Nat) (l m:List Lin) (hl:l.length=n) (hn:n<=60) (hl':m.length=n') (hn':n'<=60) (hw:∀ x∈m,x.wf) (h:LinsAt w w A l) (h':LinsAt w w A' m) :
  CL 245 #[.slice A n c,.slice A' n' c',.func (.func 246) #[] #[]] w (Jr.opposite l m):=by
 obtain⟨HW,Hl,Hl',H,H'⟩:=Z5 hw hl hl' h h';clear hw h h'
 by_cases hnn:n=n'
 case neg =>
  have hne:((n:Int) != (n':Int))=true:=sO;have HV:=Z1 (Jr.opp_len l m oM);clear hl hl';go_enter func245,ntmps245;go_wp2;go_ret;exact⟨VZ HV.out.symm,bR⟩
 subst hnn;clear hl hl' hn';go_enter func245,ntmps245;go_wp2
 go_loopw [17] (fun i wr=>∃ k:Nat,k<=n/\i=.int .i64 k/\Jr.oppT l m k=true/\Below w w wr) (fun i _=>n-(intOf i).toNat)
 case atStart=>exact⟨0,Nat.zero_le _,rfl,by unfold Jr.oppT;rfl,bR⟩
 case round =>
  obtain⟨k,hk,rfl,hT,hb⟩:=hrel;have HT:=Z1 hT;clear hT
  by_cases hlt:k<n
  ·have hkl:k<l.length:=by have:=Hl.out;omega
   have hkm:k<m.length:=by have:=Hl'.out;omega
   obtain⟨b,o,rfl,hbB,hr⟩:=LinsAt.three (RowsAt.below H.out hb lR) hkl;obtain⟨b',o',rfl,hbB',hr'⟩:=LinsAt.three (RowsAt.below H'.out hb lR) hkm;have hwm:=HW.out _ (List.getElem_mem hkm);obtain⟨x,hx⟩:∃ x,x=l[k]:=⟨_,rfl⟩;obtain⟨y,hy⟩:∃ y,y=m[k]:=⟨_,rfl⟩;have Hs:=Z1 (Jr.oppT_succ hkl hkm);have Hbad:=Z1 (Jr.opp_bad l m k hkl hkm);rw [<- hx] at hr;rw [<- hy] at hr' hwm;rw [<- hx,<- hy] at Hs Hbad;have Hr:=Z1 hr;obtain⟨hBa,hra,hza⟩:=a0T wr x 68;have Hr':=Z1 (fun(j:Nat) (v:Value) (hj:(y:List Value)[j]?=some v)=>(hBa.cell (p:=⟨b',o'+k*3+j,none⟩) (by have:=hb.size;show b'<_;omega)).trans (hr' j v hj));obtain⟨hBb,hrb,hrb',hzb⟩:=a1g wr x y 68 68;have hbw:b<wr.heap.size:=Nat.lt_of_lt_of_le hbB hb.size;have hbw':b'<wr.heap.size:=Nat.lt_of_lt_of_le hbB' hb.size;obtain⟨Wb,hWb⟩:∃ Wb,Wb=((wr.alloc (.cells x 68)).alloc (.cells y 68)):=⟨_,rfl⟩;rw [<- hWb] at hBb hrb hrb' hzb;have HWb:=Z1 hWb;have hb2:=hb.trans (hBb.mono hb.size);have Hrb:=Z1 hrb;have Hrb':=Z1 hrb';have q1:=Vq hrb;have q2:=Vq hrb';clear hr hr' hx hy hra hWb hrb hrb' hBa hza hBb hzb;go_upto_region 7 with(first | (refine wpList_load_mid rfl 68 (.tmp 20) rfl b (o+k*3) rfl x _ Hr.out underlying68 rfl a1o ?_) | (refine wpList_load_mid rfl 68 (.tmp 24) rfl b' (o'+k*3) rfl y _ Hr'.out underlying68 rfl a1o ?_));rw [<- HWb.out];go_wp2_with (first | (refine wpList_load_row rfl 68 (.tmp 8) rfl _ rfl _ _ _ _ Hrb.out underlying68 rfl a1o ?_) | (refine wpList_load_row rfl 68 (.tmp 9) rfl _ rfl _ _ _ _ Hrb'.out underlying68 rfl a1o ?_));refine(b0Y Wb x y hwm).mono ?_;rintro e W2 ⟨rfl,hB2⟩;have hb3:=hb2.trans (hB2.mono hb2.size)
   cases ho:Jr.oppL x y with
   | true =>
    have HT2:Hid (Jr.oppT l m (k+1)=true):=by show _=_;rw [Hs.out,HT.out,ho];rfl
    clear ho hwm;go_wp2;go_roundw
    case rel=>exact⟨k+1,oM,by go_num,HT2.out,hb3⟩
    case measure=>simp [intOf];omega
   | false =>
    have HV:=Z1 (Hbad.out ho);clear ho hwm;go_wp2;go_ret;exact⟨VZ HV.out.symm,hb3⟩
  ·obtain rfl:k=n:=oM
   have hT:=HT.out;unfold Jr.oppT at hT;rw [List.take_of_length_le (by have:=Hl.out;omega),List.take_of_length_le (by have:=Hl'.out;omega)] at hT;have HV:=Z1 hT;clear hT;go_wp2;go_ret;exact⟨VZ HV.out.symm,hb⟩
theorem b2D (A A':Option Addr) (n c n' c':Nat) (l m:List Lin) (hl:l.length=n) (hn:n<=60) (hl':m.length=n') (hn':n'<=60) (hw:∀ x∈m,x.wf) (h:LinsAt w w A l) (h':LinsAt w w A' m) :
  CL 205 #[.slice A n c,.slice A' n' c'] w (Jr.opposite l m):=by
 have H:=Z1 (a9Q w A A' n c n' c' l m hl hn hl' hn' hw h h');clear h h' hw hl hl';go_enter func205,ntmps205;go_wp2_with (fail);refine H.out.mono ?_;rintro e W2 ⟨rfl,hB2⟩;go_wp2;go_ret;exact⟨rfl,hB2⟩
end
open Go.RowKit
theorem a0E {P:Program} {md:Region.Mode} {ops:Array Oper} {Q:Exit->Act->World->Prop} {S:World->Prop} {fuel:Nat} {listed:Array Bool} {a:Act} {w:World}
  (h:∀(md':Region.Mode) (ops':Array Oper) (Q':Exit->Act->World->Prop) (a':Act),md'=md->ops'=ops->Q'=Q->a'=a->wpAnyH P md' ops' Q' S fuel listed a' w):wpAnyH P md ops Q S fuel listed a w:=h _ _ _ _ rfl rfl rfl rfl
section
variable (w:World)
end
open Go.Proofs.Tryz Go.RowKit
theorem b0i {T e:TypeId} {B b:Nat} {bs:List Value} {w w':World} (h:Lib.IsBuilder T e B b bs w) (hb:Below w w w'):Lib.IsBuilder T e B b bs w':=by
 have hg:w.grownBy w' none:=⟨hb.os,hb.tape,hb.output,hb.size,fun i hi _=>hb.block i hi⟩
 rcases h with⟨h1,v,h2,h3,h4⟩ | ⟨h1,v,h2,h3,h4⟩
 ·exact .inl ⟨h1,v,(hb.block b (Vq h2)).trans h2,h3.kept hg (by cases v.ownBlock <;> simp),h4⟩
 ·exact .inr ⟨h1,v,(hb.block b (Vq h2)).trans h2,h3.kept hg (by cases v.ownBlock <;> simp),h4⟩
theorem a6h (B b:Nat) (bs:List Value) (s:ByteArray) (w:World) (h:Lib.IsBuilder 156 5 B b bs w) (hlen:bs.length+s.size<=140737488355328) (hBw:B<=w.heap.size) :
  Calls prog 84 #[.pointer (some ⟨b,0,none⟩),.string s] w fun e w'=>e=.returned (.tuple #[s.size,.nilIface])/\(Lib.BuilderAt 156 5 B b (.pointer (some ⟨b,0,none⟩)) (bs++Lib.strCells s) w'/\Below B w w') :=
 Any.Builder_WriteString { Tryz.lays105 with } Tryz.Builder_Extra_105 B b bs s w h hlen hBw
theorem a8U:∀ c:Nat,Lib.repeatL [48] c=List.replicate c 48
 | 0=>rfl
 | c+1=>by rw [Lib.repeatL,a8U c,List.replicate_succ];rfl
theorem b1t (a:Nat):Lib.itoa (a:Int)=Lib.decDigits a:=by
 unfold Lib.itoa;rw [if_neg oM,Int.toNat_natCast]
theorem a6g (l m:List UInt8):Lib.byteCells l++Lib.strCells ⟨m.toArray⟩=Lib.byteCells (l++m):=by
 simp [Lib.byteCells,Lib.strCells]
abbrev Tab (B : Nat) (w : World) : Prop := Lib.TabBelow prog B w "internal/strconv.uint64pow10" .u64 Lib.pow10Tab
section
variable (w:World)
theorem a3o (k:Nat) (v:Value) (z:Int) (hk:k<=1000) (hz0:0<=z) (h:PI w w k v z) (hT:Tab w w) :
  CL 45 #[v] w (.string ⟨(Lib.decDigits z.toNat).toArray⟩):=by
 obtain⟨neg,A,n,c,l,rfl,hl,hn,hc,hL,hN,hz,hA,hs⟩:=h.parts;have hng:neg=false:=by rcases hs with⟨_,e,_⟩ | ⟨_,e,_⟩ | ⟨_,_,e⟩;exact e;exact e;omega
 subst hng;obtain⟨w1,hw1⟩:∃ W,W=w.alloc (.cells #[false,.slice A n c] 41):=⟨_,rfl⟩;have hB1:Below w w w1:=by rw [hw1];exact bR.alloc lR _
 have hb1:w1.heap[w.heap.size]?=some (.cells #[false,.slice A n c] 41 (0,0)):=by rw [hw1];exact heap_alloc_new w _
 have HW1:=Z1 hw1;have Hb1:=Z1 hb1;have s1:=Vq hb1;obtain⟨HL,HN,Hl,Hz,HA1⟩:=Z5 hL hN hl hz (hA.at_ hB1 lR);have c1:=cr9 1 hb1;have c0:=cr9 0 hb1;simp at c1 c0;have HT1:=Z1 ((hT.on hB1:Tab w w1));clear hw1 hb1 hL hN hz hA hs h hT;go_enter func45,ntmps45;go_upto_region 1 with(fail);rw [<- HW1.out]
 rcases Nat.eq_zero_or_pos n with h0 | h0
 ·have hl0:l=[]:=List.length_eq_zero_iff.1 (by rw [Hl.out];exact h0)
  have hzz:z=0:=by have:=Hz.out;rw [hl0] at this;simpa [Big.sgn,Big.val] using this
  have hd:Hid (Lib.decDigits z.toNat=[48]):=Z1 (by rw [hzz];exact Dec.digits_small dC);subst h0;clear hl hzz hl0;go_wp2;go_ret;exact⟨by rw [hd.out];rfl,hB1⟩
 ·have hn0:((n:Int)==0)=false:=sO
  obtain⟨w2,hw2⟩:∃ W,W=w1.alloc (.cells #[.pointer none,.slice none 0 0] 156):=⟨_,rfl⟩;have hB2:Below w1 w1 w2:=by rw [hw2];exact bR.alloc lR _
  have hbl:=Lib.fresh_isBuilder 156 5 w1;rw [<- hw2] at hbl;obtain⟨HW2,Hbl,Hb2,HB2⟩:=Z4 hw2 hbl ((hB2.block _ s1).trans Hb1.out) hB2;clear hw2 hbl hB2;go_upto_region 4 with(fail);rw [<- HW2.out];have hb2:=Hb2.out;have d1:=cr9 1 hb2;have d0:=cr9 0 hb2;simp at d1 d0;have s2:=Vq hb2;clear c1 c0 hb2;go_wp2
  go_loopw [4] (fun iv wr=>∃ t:Nat,t<=n/\iv=.int .i64 ((t:Int)-1)/\Lib.IsBuilder 156 5 w1 w1 (Lib.byteCells (Dec.text 9 ((l.drop t).map Int.toNat))) wr/\Below w1 w1 wr) (fun iv _=>(intOf iv+1).toNat)
  case atStart=>exact⟨n,lR,rfl,by rw [List.drop_of_length_le (by rw [Hl.out];exact lR)];exact Hbl.out,HB2.out⟩
  case round =>
   obtain⟨t,ht,rfl,hbl,hbr⟩:=hrel;have hbr1:=(hbr.block _ s1).trans Hb1.out;have e1:=cr9 1 hbr1;simp at e1;have sr:=Vq hbr1;have Hbl2:=Z1 hbl;have Hbr:=Z1 hbr;have szr:=hbr.size;clear hbl hbr hbr1 d1 d0 Hbl
   match t,ht with
   | 0,_ =>
    go_wp2_with (fail);refine(Tryz.Builder_String_any w1 w1 _ wr Hbl2.out szr).mono ?_;rintro e w4 ⟨rfl,hB4⟩;have htx:=Dec.text_val (k:=9) (B:=1000000000) dC HL.out HN.out (by rw [Hl.out];exact h0);have Htx:=Z1 htx;clear htx;go_wp2;go_ret;exact⟨by rw [Htx.out,Hz.out];rfl,hB1.trans ((Hbr.out.trans hB4).mono hB1.size)⟩
   | t+1,ht =>
    rw [show((t+1:Nat):Int)-1=(t:Int) by omega];have htl:t<l.length:=by rw [Hl.out];omega
    obtain⟨b,o,rfl,hbB,hlc⟩:=(HA1.out.at_ (w':=wr) (Hbr.out) lR).look htl;have hL:=HL.out.get t htl;obtain⟨a,ha⟩:∃ a:Nat,a=l[t].toNat:=⟨_,rfl⟩;have hla:l[t]=(a:Int):=oM;have ha9:a<10 ^ 9:=oM;rw [hla] at hlc;have Ha:=Z1 ha;have Ha9:=Z1 ha9;have ht0:(0:Int)<=(t:Int):=oM;have htn:(t:Int)<n:=oM;have a0:-9223372036854775808<=(a:Int):=oM;have a1:(a:Int)<=9223372036854775807:=oM;have a2:(a:Int)<4294967296:=oM;clear hL hla ha;go_wp2_with (fail);refine(Tryz.strconv_Itoa (a:Int) a0 a1 wr ((HT1.out.on (Hbr.out.mono (Nat.le_of_lt s1))).here)).mono ?_;rintro e w3 ⟨rfl,kk,os,hw3⟩;rw [b1t];have hB3:=Lib.below_grow wr wr lR kk os;rw [<- hw3] at hB3;obtain⟨ds,hds⟩:∃ ds,ds=Lib.decDigits a:=⟨_,rfl⟩;rw [<- hds];have hpf:=Dec.pad_fill 9 a oM Ha9.out;rw [<- hds] at hpf;have hdl:=hpf.2;obtain⟨Hpf,Hds,Hbr3⟩:=Z3 hpf.1 hds (Hbr.out.trans (hB3.mono szr));have hbr3:=(Hbr3.out.block _ s1).trans Hb1.out;have f1:=cr9 1 hbr3;simp at f1;have s3:=Vq hbr3;have Hbl3:=Z1 (b0i Hbl2.out hB3);have sz3:=Hbr3.out.size;have hdr:(l.drop t).map Int.toNat=a::(l.drop (t+1)).map Int.toNat:=by rw [List.drop_eq_getElem_cons htl,List.map_cons,<- Ha.out]
    have Hdr:=Z1 hdr
    have HTn:Hid ((Dec.text 9 ((l.drop (t+1)).map Int.toNat)).length<=9000):=Z1 (by
     have h:=Dec.text_len 9 ((l.drop (t+1)).map Int.toNat) (fun x hx=>by
      rw [List.mem_map] at hx;obtain⟨y,hy,rfl⟩:=hx;have:=HL.out y (List.mem_of_mem_drop hy);omega) oM
     rw [List.length_map,List.length_drop,Hl.out] at h;omega)
    clear hw3 hB3 hpf hds hbr3 hdr e1
    by_cases htn1:t+1<n
    ·have hd1:(t:Int)<(n:Int)-1:=oM
     go_wp2_with (fail);rw [show(9-(ds.length:Int))=((9-ds.length:Nat):Int) by omega];refine(Tryz.strings_Repeat ⟨#[48]⟩ (9-ds.length) w3 oM (by show 1*_<=_;omega)).mono ?_;rintro e W4 ⟨rfl,hB4⟩;rw [show(⟨#[48]⟩:ByteArray).data.toList=[48] from rfl,a8U];have HB4:=Z1 (Hbr3.out.trans (hB4.mono sz3));have Hbl4:=Z1 (b0i Hbl3.out hB4);have HSZ:=Z1 HB4.out.size;have hps:Dec.pad 9 a=List.replicate (9-ds.length) 48++ds:=Hpf.out;have hpl:(List.replicate (9-ds.length) (48:UInt8)++ds).length=9:=by rw [<- hps];exact Dec.pad_length 9 a
     have HLEN:Hid ((Lib.byteCells (Dec.text 9 ((l.drop (t+1)).map Int.toNat))).length+ByteArray.size ⟨(List.replicate (9-ds.length) (48:UInt8)++ds).toArray⟩<=140737488355328):=Z1 (by
      have h1:=HTn.out;have h2:ByteArray.size ⟨(List.replicate (9-ds.length) (48:UInt8)++ds).toArray⟩=9:=by rw [<- hpl];simp [ByteArray.size]
      have h3:(Lib.byteCells (Dec.text 9 ((l.drop (t+1)).map Int.toNat))).length=(Dec.text 9 ((l.drop (t+1)).map Int.toNat)).length:=by simp [Lib.byteCells]
      omega)
     have Heq:Hid (Dec.text 9 ((l.drop t).map Int.toNat)=Dec.text 9 ((l.drop (t+1)).map Int.toNat)++(List.replicate (9-ds.length) (48:UInt8)++ds)):=Z1 (by
      rw [Hdr.out,<- hps];have hne:t+1<l.length:=by rw [Hl.out];exact htn1
      rw [List.drop_eq_getElem_cons hne,List.map_cons];rfl)
     have hrl:(List.replicate (9-ds.length) (48:UInt8)).length=9-ds.length:=List.length_replicate;obtain⟨rs,hrs⟩:∃ rs,rs=List.replicate (9-ds.length) (48:UInt8):=⟨_,rfl⟩;rw [<- hrs] at hrl hpl HLEN Heq ⊢;have hcs:¬ 9223372036854775807<rs.length+ds.length:=oM;clear hrs hps hpl f1 hB4;go_wp2_with (fail);rw [a3p];refine(a6h w1 w1 _ ⟨(rs++ds).toArray⟩ W4 Hbl4.out HLEN.out HSZ.out).mono ?_;rintro e w5 ⟨rfl,hb5,hB5⟩;rw [a6g] at hb5
     have hst:Lib.IsBuilder 156 5 w1 w1 (Lib.byteCells (Dec.text 9 ((l.drop t).map Int.toNat))) w5:=by
      rw [Heq.out];exact .inr hb5
     have Hst:=Z1 hst;have Hb5:=Z1 (HB4.out.trans hB5);clear hb5 hst hB5;go_wp2;go_roundw
     case rel=>exact⟨t,oM,by go_num,Hst.out,Hb5.out⟩
     case measure=>simp [intOf]
    ·have hd1:decide ((t:Int)<(n:Int)-1)=false:=sO
     have hnt:n=t+1:=oM;have HNT:=Z1 hnt;have HB4:=Hbr3;have Hbl4:=Hbl3;have HSZ:=Z1 HB4.out.size;obtain⟨W4,hW4⟩:∃ W,W=w3:=⟨_,rfl⟩;have hnil:(l.drop (t+1)).map Int.toNat=[]:=by rw [List.drop_of_length_le (by rw [Hl.out];omega)];rfl
     have HLEN:Hid ((Lib.byteCells (Dec.text 9 ((l.drop (t+1)).map Int.toNat))).length+ByteArray.size ⟨ds.toArray⟩<=140737488355328):=Z1 (by
      rw [hnil];have h2:ByteArray.size ⟨ds.toArray⟩=ds.length:=by simp [ByteArray.size]
      simp [Lib.byteCells,Dec.text];omega)
     have Heq:Hid (Dec.text 9 ((l.drop t).map Int.toNat)=Dec.text 9 ((l.drop (t+1)).map Int.toNat)++ds):=Z1 (by rw [Hdr.out,hnil,Hds.out];rfl);subst hW4;clear hnil hnt htn1 ht;go_wp2_with (fail);refine(a6h w1 w1 _ ⟨(ds).toArray⟩ W4 Hbl4.out HLEN.out HSZ.out).mono ?_;rintro e w5 ⟨rfl,hb5,hB5⟩;rw [a6g] at hb5
     have hst:Lib.IsBuilder 156 5 w1 w1 (Lib.byteCells (Dec.text 9 ((l.drop t).map Int.toNat))) w5:=by
      rw [Heq.out];exact .inr hb5
     have Hst:=Z1 hst;have Hb5:=Z1 (HB4.out.trans hB5);clear hb5 hst hB5;go_wp2;go_roundw
     case rel=>exact⟨t,oM,by go_num,Hst.out,Hb5.out⟩
     case measure=>simp [intOf]
end
open Go.RowKit
section
variable (w:World)
end
open Go.Proofs.Tryz Go.RowKit
theorem a8B {B C:Nat} {w:World} (h:Tab B w) (hC:B<=C):Tab C w:=fun w' hb=>h w' (hb.mono hC)
theorem PI.text_len {w:World} {B k:Nat} {v:Value} {z:Int} (h:PI w B k v z) (hz0:0<=z):(Lib.decDigits z.toNat).length<=9*k+1:=by
 obtain⟨neg,A,n,c,l,rfl,hl,hn,hc,hL,hN,hz,hA,hs⟩:=h.parts;have hng:neg=false:=by rcases hs with⟨_,e,_⟩ | ⟨_,e,_⟩ | ⟨_,_,e⟩;exact e;exact e;omega
 subst hng
 rcases Nat.eq_zero_or_pos l.length with h0 | h0
 ·have hl0:l=[]:=List.length_eq_zero_iff.1 h0
  rw [hl0] at hz;have:z=0:=by simpa [Big.sgn,Big.val] using hz
  rw [this,show(0:Int).toNat=0 from rfl,Dec.digits_small oM];simp
 ·have h1:=Dec.text_val (k:=9) (B:=1000000000) dC hL hN h0
  have h2:z=Big.val 1000000000 l:=hz;rw [h2,<- h1]
  have h3:=Dec.text_len 9 (l.map Int.toNat) (fun a ha=>by
   rw [List.mem_map] at ha;obtain⟨b,hb,rfl⟩:=ha;have:=hL b hb;omega) oM
  rw [List.length_map] at h3;omega
section
variable (w:World)
theorem a7y (k j:Nat) (g1:Bool) (A1:Option Addr) (n1 c1:Nat) (g2:Bool) (A2:Option Addr) (n2 c2:Nat) (N D:Int) (hk:k<=900) (hj:j<=900) (hN:0<=N) (hD:0<D)
  (h:∀ W,Below w w W->Calls prog 42 #[.agg #[g1,.slice A1 n1 c1,g2,.slice A2 n2 c2]] W (PartsPost k j N D W)) (hT:Tab w w) :
  CL 19 #[.agg #[g1,.slice A1 n1 c1,g2,.slice A2 n2 c2]] w (.string ⟨(Dec.frac N.toNat D.toNat).toArray⟩):=by
 obtain⟨w1,hw1⟩:∃ W,W=w.alloc (.cells #[g1,.slice A1 n1 c1,g2,.slice A2 n2 c2] 43):=⟨_,rfl⟩;have hB1:Below w w w1:=by rw [hw1];exact bR.alloc lR _
 have hb1:w1.heap[w.heap.size]?=some (.cells #[g1,.slice A1 n1 c1,g2,.slice A2 n2 c2] 43 (0,0)):=by rw [hw1];exact heap_alloc_new w _
 have HW1:=Z1 hw1;have s1:=Vq hb1;have HR:=Z1 (h w1 hB1);have x0:=cr9 0 hb1;have x1:=cr9 1 hb1;have x2:=cr9 2 hb1;have x3:=cr9 3 hb1;simp at x0 x1 x2 x3;have HT1:=Z1 (hT.on hB1:Tab w w1);clear hT;clear hw1 hb1 h;go_enter func19,ntmps19;go_upto_region 1 with(fail);rw [<- HW1.out];go_wp2_with (fail);refine HR.out.mono ?_;rintro e W2 ⟨⟨a1,B1,m1,d1,a2,B2,m2,d2,rfl,hp1,hp2⟩,hB2⟩;obtain⟨hBa,hra1,hra2,hza⟩:=rows2 W2 #[a1,.slice B1 m1 d1] #[a2,.slice B2 m2 d2] 41;obtain⟨W3,hW3⟩:∃ W,W=((W2.alloc (.cells #[a1,.slice B1 m1 d1] 41)).alloc (.cells #[a2,.slice B2 m2 d2] 41)):=⟨_,rfl⟩;rw [<- hW3] at hBa hra1 hra2 hza;have HW3:=Z1 hW3;have hB03:=(hB1.trans (hB2.mono hB1.size)).trans (hBa.mono (Nat.le_trans hB1.size hB2.size));obtain⟨HB03,Hra1,Hra2⟩:=Z3 hB03 hra1 hra2;have q1:=Vq hra1;have q2:=Vq hra2;obtain⟨Hp1,Hp2,Hl1,Hl2,HT3⟩:=Z5 (hp1.at_ hBa) (hp2.at_ hBa) (hp1.text_len hN) (hp2.text_len (Int.le_of_lt hD)) (HT1.out.on ((hB2.mono hB1.size).trans (hBa.mono (Nat.le_trans hB1.size hB2.size))):Tab w W3);clear hW3 hBa hra1 hra2 hza hp1 hp2 hB03 x0 x1 x2 x3 hB2 HR;go_upto_region 2 with(fail);rw [<- HW3.out]
 by_cases hd1:D=1
 ·skip
  have hcm:(cm D 1==0)=true:=by rw [hd1];rfl
  have Hcm:=Z1 hcm;have HD1:Hid (Dec.frac N.toNat D.toNat=Lib.decDigits N.toNat):=Z1 (by unfold Dec.frac;rw [if_pos oM]);clear hcm hd1;have hS:Below W3 W3 W3.drew:=Vw bR 1;refine wp_region_held (S:=Below W3 W3) kR ?_;change wpAnyH _ _ _ _ _ _ _ _ (World.drew W3);obtain⟨WC0,hWd⟩:∃ W,W=W3.drew:=⟨_,rfl⟩;rw [<- hWd] at hS ⊢;clear hWd;refine jT 0 hS ?_ (v:=.agg #[a2,.slice B2 m2 d2]) (hy:=(yieldsIf_load_mid (by rfl) 41 _ rfl (W2.heap.size+1) 0 rfl [a2,.slice B2 m2 d2] _ (fun W' hS'=>range2 ((hS'.block _ q2).trans Hra2.out)) underlying41 rfl VQ));refine rZ 1 fun K hK=>?_;go_simp;refine(a1M WC0 1 oM oM).mono ?_;rintro e WC1 ⟨⟨r1,rfl,hr1⟩,hBc⟩;have hV1:=hS.trans (hBc.mono hS.size);obtain⟨h1,C1,f1,e1,rfl⟩:=hr1.open;refine jK hK hV1 ?_;clear hK K;refine rZ 2 fun K hK=>?_;go_simp;refine(a2j WC1 j 3 _ _ D 1 oM oM (Hp2.out.at_ hV1) hr1).mono ?_;rintro e WC2 ⟨rfl,hBc2⟩;have hV2:=hV1.trans (hBc2.mono hV1.size);refine jK hK hV2 ?_;clear hK K;refine rZ 3 fun K hK=>?_;go_simp;rw [Hcm.out];refine jK hK hV2 ?_;clear hK K;refine wpAnyH_done kR ?_ _
  try simp only [z]
  have hBw:=HB03.out.trans (hV2.mono HB03.out.size);have hn1:=(hV2.block _ q1).trans Hra1.out;have y0:=cr9 0 hn1;have y1:=cr9 1 hn1;simp at y0 y1;have o1:=Vq hn1;have HBw:=Z1 hBw;have HP:=Z1 (Hp1.out.at_ hV2);have HT4:=Z1 (a8B (HT3.out.on (hV2.mono HB03.out.size)) HBw.out.size);clear hn1 hBw hS hV1 hV2 hBc hBc2 hr1;go_wp2_with (fail);refine(a3o WC2 k _ N oM hN HP.out HT4.out).mono ?_;rintro e WC3 ⟨rfl,hBd⟩;go_wp2;go_ret;exact⟨by rw [HD1.out];rfl,HBw.out.trans (hBd.mono HBw.out.size)⟩
 ·skip
  have hcm:(cm D 1==0)=false:=by unfold cm;simp;split <;> (try split) <;> omega
  have Hcm:=Z1 hcm;have HD1:Hid (Dec.frac N.toNat D.toNat=Lib.decDigits N.toNat++47::Lib.decDigits D.toNat):=Z1 (by unfold Dec.frac;rw [if_neg oM]);clear hcm hd1;have hS:Below W3 W3 W3.drew:=Vw bR 1;refine wp_region_held (S:=Below W3 W3) kR ?_;change wpAnyH _ _ _ _ _ _ _ _ (World.drew W3);obtain⟨WC0,hWd⟩:∃ W,W=W3.drew:=⟨_,rfl⟩;rw [<- hWd] at hS ⊢;clear hWd;refine jT 0 hS ?_ (v:=.agg #[a2,.slice B2 m2 d2]) (hy:=(yieldsIf_load_mid (by rfl) 41 _ rfl (W2.heap.size+1) 0 rfl [a2,.slice B2 m2 d2] _ (fun W' hS'=>range2 ((hS'.block _ q2).trans Hra2.out)) underlying41 rfl VQ));refine rZ 1 fun K hK=>?_;go_simp;refine(a1M WC0 1 oM oM).mono ?_;rintro e WC1 ⟨⟨r1,rfl,hr1⟩,hBc⟩;have hV1:=hS.trans (hBc.mono hS.size);obtain⟨h1,C1,f1,e1,rfl⟩:=hr1.open;refine jK hK hV1 ?_;clear hK K;refine rZ 2 fun K hK=>?_;go_simp;refine(a2j WC1 j 3 _ _ D 1 oM oM (Hp2.out.at_ hV1) hr1).mono ?_;rintro e WC2 ⟨rfl,hBc2⟩;have hV2:=hV1.trans (hBc2.mono hV1.size);refine jK hK hV2 ?_;clear hK K;refine rZ 3 fun K hK=>?_;go_simp;rw [Hcm.out];refine jK hK hV2 ?_;clear hK K;refine wpAnyH_done kR ?_ _
  try simp only [z]
  have hBw:=HB03.out.trans (hV2.mono HB03.out.size);clear hS hV1 hBc hBc2 hr1;have hn1:=(hV2.block _ q1).trans Hra1.out;have hn2:=(hV2.block _ q2).trans Hra2.out;have Hn1:=Z1 hn1;have Hn2:=Z1 hn2;have o1:=Vq hn1;have o2:=Vq hn2;obtain⟨HPa,HPb,HB,HT4⟩:=Z4 (Hp1.out.at_ hV2) (Hp2.out.at_ hV2) (hBw) (HT3.out.on (hV2.mono HB03.out.size):Tab w WC2);obtain⟨ns,hns⟩:∃ ns,ns=Lib.decDigits N.toNat:=⟨_,rfl⟩;obtain⟨ds,hds⟩:∃ ds,ds=Lib.decDigits D.toNat:=⟨_,rfl⟩;have Hns:=Z1 hns;have Hds:=Z1 hds;have hl1:=Hl1.out;have hl2:=Hl2.out;rw [<- hns] at hl1;rw [<- hds] at hl2;have hz1:¬ 9223372036854775807<ns.length+1:=oM;have hz2:¬ 9223372036854775807<ns.length+1+ds.length:=oM;have hz3:¬ 9223372036854775807<(ns++[47]).length+ds.length:=by rw [List.length_append];exact hz2
  clear hn1 hn2 hns hds hl1 hl2;go_upto_region 4 with(fail);have hS:Below WC2.heap.size WC2 WC2.drew:=Vw bR 1;refine wp_region_held (S:=Below WC2.heap.size WC2) kR ?_;change wpAnyH _ _ _ _ _ _ _ _ (World.drew WC2);obtain⟨WE0,hWd⟩:∃ W,W=WC2.drew:=⟨_,rfl⟩;rw [<- hWd] at hS ⊢;clear hWd;refine jT 0 hS ?_ (v:=.agg #[a1,.slice B1 m1 d1]) (hy:=(yieldsIf_load_mid (by rfl) 41 _ rfl W2.heap.size 0 rfl [a1,.slice B1 m1 d1] _ (fun W' hS'=>range2 ((hS'.block _ o1).trans Hn1.out)) underlying41 rfl VQ));refine jT 3 hS ?_ (v:=.agg #[a2,.slice B2 m2 d2]) (hy:=(yieldsIf_load_mid (by rfl) 41 _ rfl (W2.heap.size+1) 0 rfl [a2,.slice B2 m2 d2] _ (fun W' hS'=>range2 ((hS'.block _ o2).trans Hn2.out)) underlying41 rfl VQ));refine rZ 1 fun K hK=>?_;go_simp;refine(a3o WE0 k _ N oM hN (HPa.out.at_ hS) (a8B (HT4.out.on (hS.mono HB.out.size)) (Nat.le_trans HB.out.size hS.size))).mono ?_;rintro e WE1 ⟨rfl,hBe⟩;rw [<- Hns.out];have hS1:=hS.trans (hBe.mono hS.size);refine jK hK hS1 ?_;clear hK K;refine jT 2 hS1 ?_ (v:=.string ⟨(ns++[47]).toArray⟩) (hy:=(.inl ⟨by rfl,fun W' hS'=>by(go_simp;first | done | (rw [if_neg hz1];simp [a3p]) | (simp [a3p]))⟩));refine rZ 4 fun K hK=>?_;go_simp;refine(a3o WE1 j _ D oM (Int.le_of_lt hD) (HPb.out.at_ hS1) (a8B (HT4.out.on (hS1.mono HB.out.size)) (Nat.le_trans HB.out.size hS1.size))).mono ?_;rintro e WE2 ⟨rfl,hBe2⟩;rw [<- Hds.out];have hS2:=hS1.trans (hBe2.mono hS1.size);refine jK hK hS2 ?_;clear hK K;refine jT 5 hS2 ?_ (v:=.string ⟨(ns++47::ds).toArray⟩) (hy:=(.inl ⟨by rfl,fun W' hS'=>by(go_simp;first | done | (rw [if_neg hz3];simp [a3p]) | (simp [a3p]))⟩));refine rZ 6 fun K hK=>?_;go_simp;refine jK hK hS2 ?_;clear hK K;refine wpAnyH_done kR ?_ _
  try simp only [z]
  go_wp2;go_ret;exact⟨by rw [HD1.out,Hns.out,Hds.out];rfl,HB.out.trans (hS2.mono HB.out.size)⟩
theorem a8A (k j:Nat) (v:Value) (N D:Int) (hk:k<=900) (hj:j<=900) (hN:0<=N) (hD:0<D) (h:RI w w k j v N D) (hT:Tab w w) :
  CL 19 #[v] w (.string ⟨(Dec.frac N.toNat D.toNat).toArray⟩):=by
 obtain⟨g1,A1,n1,c1,g2,A2,n2,c2,rfl⟩:=h.open;exact a7y w k j g1 A1 n1 c1 g2 A2 n2 c2 N D hk hj hN hD (fun W hW=>a5K W k j _ N D oM (h.at_ hW)) hT
end
end Go.Proofs.YtniaimjknmhapaaGreatDoor
