/- My texts RatMul, Reg, Rows2, ChartW, EntW, Let, RatMulG, TextD, LaidT. -/
import Derived.StillTailTactics
import Derived.Test.YtniaimjknmhapaaGreatDoorShelf
import Derived.Lib.AppendIntMem
import Derived.Test.YtniaimjknmhapaaGreatDoorRows
import Derived.LaidMore
import Derived.LaidLaws
import Derived.ProofKit
import Derived.OpenShut
import Derived.Test.YtniaimjknmhapaaGreatDoorG00
import Derived.Test.YtniaimjknmhapaaGreatDoorG06
import Derived.Test.YtniaimjknmhapaaGreatDoorG10
import Derived.Test.YtniaimjknmhapaaGreatDoorG02
import Derived.Test.YtniaimjknmhapaaGreatDoorG12
import Derived.Test.YtniaimjknmhapaaGreatDoorG08
set_option linter.unusedVariables false
set_option linter.unusedSimpArgs false
set_option maxRecDepth 100000
set_option maxHeartbeats 16000000
namespace Go.Proofs.YtniaimjknmhapaaGreatDoor
open Go.RowKit

def RegM (w:World) (B p1 p2 p3 p4:Nat) (X1 X2 X3 X4:Array Value) (W':World):Prop :=
 Below B w W'/\W'.heap[p1]?=some (.cells X1 41 (0,0))/\W'.heap[p2]?=some (.cells X2 41 (0,0))/\W'.heap[p3]?=some (.cells X3 41 (0,0))/\W'.heap[p4]?=some (.cells X4 41 (0,0))
theorem some_lt {w:World} {b:Nat} {O:Obj} (h:w.heap[b]?=some O):b<w.heap.size:=(Array.getElem?_eq_some_iff.1 h).1
theorem RegM.step {w W W':World} {B p1 p2 p3 p4:Nat} {X1 X2 X3 X4:Array Value} (h:RegM w B p1 p2 p3 p4 X1 X2 X3 X4 W) (hBw:B<=w.heap.size) (hb:Below W.heap.size W W'):RegM w B p1 p2 p3 p4 X1 X2 X3 X4 W':=by
 obtain⟨h0,h1,h2,h3,h4⟩:=h
 exact⟨h0.trans (hb.mono (Nat.le_trans hBw h0.size)),(hb.block _ (some_lt h1)).trans h1,(hb.block _ (some_lt h2)).trans h2,(hb.block _ (some_lt h3)).trans h3,(hb.block _ (some_lt h4)).trans h4⟩
theorem RegM.drew {w W:World} {B p1 p2 p3 p4:Nat} {X1 X2 X3 X4:Array Value} (h:RegM w B p1 p2 p3 p4 X1 X2 X3 X4 W):RegM w B p1 p2 p3 p4 X1 X2 X3 X4 W.drew:=⟨below_drawn h.1 1,h.2⟩
theorem RegM.store {w W:World} {B p1 p2 p3 p4:Nat} {X1 X2 X3 X4:Array Value} (h:RegM w B p1 p2 p3 p4 X1 X2 X3 X4 W) (d:Nat) (hd:B<=d) (e1:p1≠d) (e2:p2≠d) (e3:p3≠d) (e4:p4≠d) (cs:Array Value):RegM w B p1 p2 p3 p4 X1 X2 X3 X4 (W.setRow d cs):=by
 obtain⟨h0,h1,h2,h3,h4⟩:=h
 exact⟨below_setRow h0 hd _,(setRow_other _ _ _ _ e1).trans h1,(setRow_other _ _ _ _ e2).trans h2,(setRow_other _ _ _ _ e3).trans h3,(setRow_other _ _ _ _ e4).trans h4⟩
theorem range2 {w:World} {b:Nat} {x0 x1:Value} {t:TypeId} {fr:Nat × Nat} (h:w.heap[b]?=some (.cells #[x0,x1] t fr)):w.rangeAt b 0 [x0,x1]:=by
 intro j v hj
 rw [cr9 _ h]
 match j with
 | 0=>simpa using hj
 | 1=>simpa using hj
 | j+2=>simp at hj
theorem rows2 (w:World) (X Y:Array Value) (t:TypeId):Below w.heap.size w ((w.alloc (.cells X t)).alloc (.cells Y t))/\((w.alloc (.cells X t)).alloc (.cells Y t)).heap[w.heap.size]?=some (.cells X t (0,0))/\((w.alloc (.cells X t)).alloc (.cells Y t)).heap[w.heap.size+1]?=some (.cells Y t (0,0))/\((w.alloc (.cells X t)).alloc (.cells Y t)).heap.size=w.heap.size+2:=by
 refine⟨((Below.refl _ _).alloc (Nat.le_refl _) _).alloc (by simp) _,?_,?_,by simp⟩
 ·rw [Below.heap_alloc _ _ _ (by simp)];exact heap_alloc_new w _
 ·have:=heap_alloc_new (w.alloc (.cells X t)) (.cells Y t)
  rwa [show(w.alloc (.cells X t)).heap.size=w.heap.size+1 by simp] at this
section
variable (w:World)
end
end Go.Proofs.YtniaimjknmhapaaGreatDoor
namespace Go.Proofs.YtniaimjknmhapaaGreatDoor
open Go.RowKit

def Reg (w:World) (L:List (Nat × Array Value × TypeId)) (W:World):Prop :=
 Below w.heap.size w W/\∀ x∈L,W.heap[x.1]?=some (.cells x.2.1 x.2.2 (0,0))
theorem Reg.get {w W:World} {L:List (Nat × Array Value × TypeId)} (h:Reg w L W) {b:Nat} {X:Array Value} {t:TypeId} (hm:(b,X,t)∈L):W.heap[b]?=some (.cells X t (0,0)):=h.2 _ hm
theorem Reg.step {w W W':World} {L:List (Nat × Array Value × TypeId)} (h:Reg w L W) (hb:Below W.heap.size W W'):Reg w L W' :=
 ⟨h.1.trans (hb.mono h.1.size),fun x hx=>(hb.block _ (some_lt (h.2 x hx))).trans (h.2 x hx)⟩
theorem Reg.drew {w W:World} {L:List (Nat × Array Value × TypeId)} (h:Reg w L W):Reg w L W.drew:=⟨below_drawn h.1 1,h.2⟩
theorem Reg.store {w W:World} {L:List (Nat × Array Value × TypeId)} (h:Reg w L W) (d:Nat) (hd:w.heap.size<=d) (hne:∀ x∈L,x.1≠d) (cs:Array Value):Reg w L (W.setRow d cs) :=
 ⟨below_setRow h.1 hd _,fun x hx=>(setRow_other _ _ _ _ (hne x hx)).trans (h.2 x hx)⟩
theorem Reg.lt {w W:World} {L:List (Nat × Array Value × TypeId)} (h:Reg w L W) {b:Nat} {X:Array Value} {t:TypeId} (hm:(b,X,t)∈L):b<W.heap.size:=some_lt (h.2 _ hm)
theorem row_new (w:World) (X:Array Value) (t:TypeId):Below w.heap.size w (w.alloc (.cells X t))/\(w.alloc (.cells X t)).heap[w.heap.size]?=some (.cells X t (0,0))/\(w.alloc (.cells X t)).heap.size=w.heap.size+1 :=
 ⟨(Below.refl _ _).alloc (Nat.le_refl _) _,heap_alloc_new w _,by simp⟩
theorem row_new2 (w:World) (X Y:Array Value) (t s:TypeId):Below w.heap.size w ((w.alloc (.cells X t)).alloc (.cells Y s))/\((w.alloc (.cells X t)).alloc (.cells Y s)).heap[w.heap.size]?=some (.cells X t (0,0))/\((w.alloc (.cells X t)).alloc (.cells Y s)).heap[w.heap.size+1]?=some (.cells Y s (0,0))/\((w.alloc (.cells X t)).alloc (.cells Y s)).heap.size=w.heap.size+2:=by
 refine⟨((Below.refl _ _).alloc (Nat.le_refl _) _).alloc (by simp) _,?_,?_,by simp⟩
 ·rw [Below.heap_alloc _ _ _ (by simp)];exact heap_alloc_new w _
 ·have:=heap_alloc_new (w.alloc (.cells X t)) (.cells Y s)
  rwa [show(w.alloc (.cells X t)).heap.size=w.heap.size+1 by simp] at this
theorem row_new3 (w:World) (X Y Z:Array Value) (t s r:TypeId):Below w.heap.size w (((w.alloc (.cells X t)).alloc (.cells Y s)).alloc (.cells Z r))/\(((w.alloc (.cells X t)).alloc (.cells Y s)).alloc (.cells Z r)).heap[w.heap.size]?=some (.cells X t (0,0))/\(((w.alloc (.cells X t)).alloc (.cells Y s)).alloc (.cells Z r)).heap[w.heap.size+1]?=some (.cells Y s (0,0))/\(((w.alloc (.cells X t)).alloc (.cells Y s)).alloc (.cells Z r)).heap[w.heap.size+2]?=some (.cells Z r (0,0))/\(((w.alloc (.cells X t)).alloc (.cells Y s)).alloc (.cells Z r)).heap.size=w.heap.size+3:=by
 obtain⟨h1,h2,h3,h4⟩:=row_new2 w X Y t s
 obtain⟨g1,g2,g3⟩:=row_new ((w.alloc (.cells X t)).alloc (.cells Y s)) Z r
 rw [h4] at g2 g3
 exact⟨h1.trans (g1.mono h1.size),(g1.block _ (by omega)).trans h2,(g1.block _ (by omega)).trans h3,g2,g3⟩
theorem nw1 (w:World) (X:Array Value) (t:TypeId):∃ W,W=w.alloc (.cells X t)/\Below w.heap.size w W/\W.heap[w.heap.size]?=some (.cells X t (0,0))/\W.heap.size=w.heap.size+1:=⟨_,rfl,row_new w X t⟩
theorem nw2 (w:World) (X Y:Array Value) (t s:TypeId):∃ W,W=(w.alloc (.cells X t)).alloc (.cells Y s)/\Below w.heap.size w W/\W.heap[w.heap.size]?=some (.cells X t (0,0))/\W.heap[w.heap.size+1]?=some (.cells Y s (0,0))/\W.heap.size=w.heap.size+2:=⟨_,rfl,row_new2 w X Y t s⟩
def Mk (W0 W:World) (b:Bool) (v:Value) (p:Nat) (X:Array Value) (T:TypeId):Prop :=
 b=true->v=.pointer (some ⟨p,0,none⟩)/\W0.heap.size<=p/\W.heap[p]?=some (.cells X T (0,0))
theorem Mk.step {W0 W W':World} {b:Bool} {v:Value} {p:Nat} {X:Array Value} {T:TypeId} (h:Mk W0 W b v p X T) (hB:Below W.heap.size W W'):Mk W0 W' b v p X T :=
 fun hb=>⟨(h hb).1,(h hb).2.1,gbox (h hb).2.2 hB (some_lt (h hb).2.2)⟩
theorem ropt {P:Program} {ops:Array Oper} {Q:Exit->Act->World->Prop} {md:Region.Mode} {S:World->Prop} {fuel:Nat} {listed:Array Bool} {a:Act} {w:World} {b:Bool} {i:Nat} {rs:List Nat}
  (h:b=false->AllReadyH P md ops Q S fuel listed a w [i]) (hs:AllReadyH P md ops Q S fuel listed a w rs):AllReadyH P md ops Q S fuel listed a w (cond b [] [i]++rs):=by
 cases b
 ·intro j hj
  rcases List.mem_cons.1 hj with rfl | hj
  ·exact h rfl _ (List.mem_cons_self ..)
  ·exact hs j hj
 ·exact hs
end Go.Proofs.YtniaimjknmhapaaGreatDoor
namespace Go.Proofs.YtniaimjknmhapaaGreatDoor
open Go.Proofs.Tryz Go.RowKit

def RowsAt {α:Type} (f:α->List Value) (sz:Nat) (w:World) (B:Nat) (A:Option Addr) (l:List α):Prop :=
 l=[]∨∃ b o,A=some ⟨b,o,none⟩/\b<B/\∀ k (h:k<l.length),w.rangeAt b (o+k*sz) (f l[k])
section
variable {α:Type} {f:α->List Value} {sz:Nat} {w w':World} {B C:Nat} {A:Option Addr} {l:List α}
theorem RowsAt.below (h:RowsAt f sz w B A l) (hb:Below C w w') (hC:B<=C):RowsAt f sz w' B A l:=by
 rcases h with h | ⟨b,o,e,hl,hc⟩
 ·exact .inl h
 ·exact .inr ⟨b,o,e,hl,fun k hk j v hv=>(hb.cell (p:=⟨b,_,none⟩) (Nat.lt_of_lt_of_le hl hC)).trans (hc k hk j v hv)⟩
theorem RowsAt.more (h:RowsAt f sz w B A l) (hC:B<=C):RowsAt f sz w C A l:=by
 rcases h with h | ⟨b,o,e,hl,hc⟩
 ·exact .inl h
 ·exact .inr ⟨b,o,e,by omega,hc⟩
theorem RowsAt.kept {row:Option Nat} (h:RowsAt f sz w w.heap.size A l) (hg:w.grownBy w' row) (hne:∀ b o,A=some ⟨b,o,none⟩->some b≠row):RowsAt f sz w' w'.heap.size A l:=by
 rcases h with h | ⟨b,o,e,hl,hc⟩
 ·exact .inl h
 ·exact .inr ⟨b,o,e,Nat.lt_of_lt_of_le hl hg.size,fun k hk j v hv=>(World.cell?_of_block (w:=w) (hg.block b hl (hne b o e))).trans (hc k hk j v hv)⟩
theorem RowsAt.at_ (h:RowsAt f sz w w.heap.size A l) (hb:Below w.heap.size w w'):RowsAt f sz w' w'.heap.size A l:=(h.below hb (Nat.le_refl _)).more hb.size
theorem RowsAt.look (h:RowsAt f sz w B A l) {k:Nat} (hk:k<l.length):∃ b o,A=some ⟨b,o,none⟩/\b<B/\w.rangeAt b (o+k*sz) (f l[k]):=by
 rcases h with h | ⟨b,o,e,hl,hc⟩
 ·subst h;simp at hk
 ·exact⟨b,o,e,hl,hc k hk⟩
end
theorem range_cell {w:World} {b o:Nat} {cs:List Value} (h:w.rangeAt b o cs) (j:Nat) (v:Value) (hv:cs[j]?=some v):w.cell? ⟨b,o+j,none⟩=some v:=h j v hv
theorem take_mem_all {α:Type} {l:List α} {k:Nat} {P:α->Prop} (hk:k<l.length) (h:∀ a∈l.take k,P a) (hp:P l[k]):∀ a∈l.take (k+1),P a:=by
 intro a ha
 rw [List.take_succ_eq_append_getElem hk,List.mem_append,List.mem_singleton] at ha
 rcases ha with ha | rfl
 ·exact h a ha
 ·exact hp

open Go.Maps in
theorem intLaw:Maps.Keyed prog 3:=int_keyed underlying3
def SetAt (w:World) (b:Nat) (p:List Int):Prop :=
 ∃ f,MapAt w prog 3 b p.length f/\∀ x,f (.int .i64 x)=if x∈p then some (.bool true) else none
section
variable {w w':World} {b B:Nat} {p:List Int}
theorem SetAt.lt (h:SetAt w b p):b<w.heap.size:=by obtain⟨f,h,_⟩:=h;exact h.lt
theorem SetAt.below (h:SetAt w b p) (hb:Below B w w') (hB:b<B):SetAt w' b p:=by obtain⟨f,h,r⟩:=h;exact⟨f,h.below hb hB,r⟩
theorem SetAt.kept {row:Option Nat} (h:SetAt w b p) (hg:w.grownBy w' row) (hne:some b≠row):SetAt w' b p:=by obtain⟨f,h,r⟩:=h;exact⟨f,h.kept hg hne,r⟩
theorem SetAt.alloc (h:SetAt w b p) (o:Obj):SetAt (w.alloc o) b p:=by obtain⟨f,h,r⟩:=h;exact⟨f,h.alloc o,r⟩
theorem SetAt.made (w:World):SetAt (w.alloc (.map #[] 0)) w.heap.size []:=⟨_,MapAt.made w _ _,fun x=>by simp⟩
open Go.Maps in
theorem SetAt.look (h:SetAt w b p) (x:Int) (hx:(Lit.int .i64 x).wf=true):(Instr.lookup 224 (.map (some b)) (.int .i64 x) false).run prog w=.ok (.bool (decide (x∈p))) w:=by
 obtain⟨f,hm,hf⟩:=h
 have hz:(zeroValue 4).run prog w=.ok (.bool false) w:=by kernel_rfl
 rw [hm.lookup intLaw underlying224 hz (keyOf_int_mk underlying3 hx),hf]
 by_cases h:x∈p <;> simp [h]
open Classical in
theorem set_step {f:Value->Option Value} (hf:∀ x,f (.int .i64 x)=if x∈p then some (.bool true) else none) (c:Int) :
  ∀ x,(fun v=>if v=.int .i64 c then some (Value.bool true) else f v) (.int .i64 x)=if x∈p++[c] then some (.bool true) else none:=by
 intro x
 show(if _ then _ else f _)=_
 by_cases h:x=c
 ·subst h;rw [if_pos rfl,if_pos (by simp)]
 ·rw [if_neg (by simp [h]),hf]
  by_cases h2:x∈p <;> simp [h,h2]
end
end Go.Proofs.YtniaimjknmhapaaGreatDoor
namespace Go.Proofs.YtniaimjknmhapaaGreatDoor
open Go.Proofs.Tryz Go.RowKit

def Acc.wf (a:Acc):Prop:=(Lit.int .i64 a.code).wf=true/\(Lit.int .i64 a.kind).wf=true/\(Lit.int .i64 a.basis).wf=true/\(Lit.int .i64 a.parent).wf=true
abbrev AccsAt:=RowsAt Acc.cells 4
theorem AccsAt.four {w:World} {B:Nat} {A:Option Addr} {l:List Acc} (h:AccsAt w B A l) {k:Nat} (hk:k<l.length):∃ b o,A=some ⟨b,o,none⟩/\b<B/\w.cell? ⟨b,o+k*4,none⟩=some (.int .i64 l[k].code)/\w.cell? ⟨b,o+k*4+1,none⟩=some (.int .i64 l[k].kind)/\w.cell? ⟨b,o+k*4+2,none⟩=some (.int .i64 l[k].basis)/\w.cell? ⟨b,o+k*4+3,none⟩=some (.int .i64 l[k].parent):=by
 obtain⟨b,o,e,hb,hr⟩:=RowsAt.look h hk
 exact⟨b,o,e,hb,hr 0 _ rfl,hr 1 _ rfl,hr 2 _ rfl,hr 3 _ rfl⟩
theorem accSize:(prog.info? 87).map (·.size)=some 4:=by kernel_rfl
theorem accOne (a b c d:Int):(#[.int .i64 a,.int .i64 b,.int .i64 c,.int .i64 d]:Array Value).all (·.oneCell')=true:=by simp [Value.oneCell']
section
variable (w:World)
theorem findr_any (A:Option Addr) (n c:Nat) (l:List Acc) (x:Int) (hl:l.length=n) (hn:n<=100000) (h:AccsAt w w.heap.size A l) :
  Calls prog 31 #[.slice A n c,.int .i64 x] w fun e w'=>e=.returned (.tuple #[.agg #[.int .i64 (Ch.found l x).code,.int .i64 (Ch.found l x).kind,.int .i64 (Ch.found l x).basis,.int .i64 (Ch.found l x).parent],.bool (Ch.has l x)])/\Below w.heap.size w w':=by
 subst hl
 have hB0:=(Below.refl w.heap.size w).alloc (Nat.le_refl _) (.cells #[.int .i64 0,.int .i64 0,.int .i64 0,.int .i64 0] 87)
 have hZ0:=heap_alloc_new w (.cells #[.int .i64 0,.int .i64 0,.int .i64 0,.int .i64 0] 87)
 go_enter func31,ntmps31
 go_wp2
 go_loopw [6] (fun i wr=>∃ k:Nat,k<=l.length/\i=.int .i64 k/\Ch.find (l.take k) x=none/\Below w.heap.size w wr/\wr.heap[w.heap.size]?=some (.cells #[.int .i64 0,.int .i64 0,.int .i64 0,.int .i64 0] 87 (0,0))) (fun i _=>l.length-(intOf i).toNat)
 case atStart=>exact⟨0,Nat.zero_le _,rfl,rfl,hB0,hZ0⟩
 case round =>
  obtain⟨k,hk,rfl,hno,hb,hZ⟩:=hrel
  have Hno:=Z1 hno
  have HZ:=Z1 hZ
  clear hno hZ hB0 hZ0
  by_cases hlt:k<l.length
  ·obtain⟨b,o,rfl,hbB,c0,c1,c2,c3⟩:=AccsAt.four (h.below hb (Nat.le_refl _)) hlt
   have hbw:b<wr.heap.size:=Nat.lt_of_lt_of_le hbB hb.size
   by_cases hc:l[k].code=x
   ·have hf:=Ch.find_hit hlt Hno.out hc
    have HF:Hid (Ch.found l x=l[k]):=by show _=_;simp [Ch.found,hf]
    have HH:Hid (Ch.has l x=true):=by show _=_;simp [Ch.has,hf]
    have hbe:(l[k].code==x)=true:=by simp [hc]
    have Ho:=Z1 (accOne l[k].code l[k].kind l[k].basis l[k].parent)
    have hR:=setRow_heap wr w.heap.size _ #[.int .i64 (l[k]).code,.int .i64 (l[k]).kind,.int .i64 (l[k]).basis,.int .i64 (l[k]).parent] _ _ HZ.out
    have hload:=Z1 (run_loadVar_row (P:=prog) _ _ _ 87 _ _ _ hR underlying87 rfl accSize)
    have hBF:=Z1 (below_setRow hb (Nat.le_refl _) #[.int .i64 (l[k]).code,.int .i64 (l[k]).kind,.int .i64 (l[k]).basis,.int .i64 (l[k]).parent])
    clear hf hc hR
    go_wp2_with (refine wpList_store_row rfl 87 (.tmp 4) (.tmp 23) none rfl rfl w.heap.size 87 _ #[.int .i64 (l[k]).code,.int .i64 (l[k]).kind,.int .i64 (l[k]).basis,.int .i64 (l[k]).parent] rfl rfl HZ.out rfl accSize Ho.out ?_)
    exact bodyPost_ret (v:=.tuple #[.agg #[.int .i64 (l[k]).code,.int .i64 (l[k]).kind,.int .i64 (l[k]).basis,.int .i64 (l[k]).parent],.bool true]) (by simp [results,results31,asAddr,Act.put,hload.out]) rfl ⟨by rw [HF.out,HH.out],hBF.out⟩
   ·have hbe:(l[k].code==x)=false:=by simp [hc]
    have hf:Hid (Ch.find (l.take (k+1)) x=none):=by show _=_;rw [Ch.find_take hlt Hno.out,if_neg hc]
    clear hc
    go_wp2
    go_roundw
    case rel=>exact⟨k+1,by omega,by go_num,hf.out,hb,HZ.out⟩
    case measure=>simp [intOf];omega
  ·obtain rfl:k=l.length:=by omega
   have hf:Ch.find l x=none:=by have:=Hno.out;rwa [List.take_length] at this
   have HF:Hid (Ch.found l x=Acc.zero):=by show _=_;simp [Ch.found,hf]
   have HH:Hid (Ch.has l x=false):=by show _=_;simp [Ch.has,hf]
   have Ho:=Z1 (accOne 0 0 0 0)
   have hR:=setRow_heap wr w.heap.size _ #[.int .i64 0,.int .i64 0,.int .i64 0,.int .i64 0] _ _ HZ.out
   have hload:=Z1 (run_loadVar_row (P:=prog) _ _ _ 87 _ _ _ hR underlying87 rfl accSize)
   have hBF:=Z1 (below_setRow hb (Nat.le_refl _) #[.int .i64 0,.int .i64 0,.int .i64 0,.int .i64 0])
   clear hf hR h
   go_wp2_with (refine wpList_store_row rfl 87 (.tmp 4) (.tmp 24) none rfl rfl w.heap.size 87 _ #[.int .i64 0,.int .i64 0,.int .i64 0,.int .i64 0] rfl rfl HZ.out rfl accSize Ho.out ?_)
   exact bodyPost_ret (v:=.tuple #[.agg #[.int .i64 0,.int .i64 0,.int .i64 0,.int .i64 0],.bool false]) (by simp [results,results31,asAddr,Act.put,hload.out]) rfl ⟨by rw [HF.out,HH.out];rfl,hBF.out⟩
theorem findd_any (A:Option Addr) (n c:Nat) (l:List Acc) (x:Int) (hl:l.length=n) (hn:n<=100000) (h:AccsAt w w.heap.size A l) :
  Calls prog 121 #[.slice A n c,.int .i64 x] w fun e w'=>e=.returned (.tuple #[.agg #[.int .i64 (Ch.found l x).code,.int .i64 (Ch.found l x).kind,.int .i64 (Ch.found l x).basis,.int .i64 (Ch.found l x).parent],.bool (Ch.has l x)])/\Below w.heap.size w w':=by
 subst hl
 have hB0:=(Below.refl w.heap.size w).alloc (Nat.le_refl _) (.cells #[.int .i64 0,.int .i64 0,.int .i64 0,.int .i64 0] 87)
 have hZ0:=heap_alloc_new w (.cells #[.int .i64 0,.int .i64 0,.int .i64 0,.int .i64 0] 87)
 go_enter func121,ntmps121
 go_wp2
 go_loopw [10] (fun i wr=>∃ k:Nat,k<=l.length/\i=.int .i64 k/\Ch.find (l.take k) x=none/\Below w.heap.size w wr/\wr.heap[w.heap.size]?=some (.cells #[.int .i64 0,.int .i64 0,.int .i64 0,.int .i64 0] 87 (0,0))) (fun i _=>l.length-(intOf i).toNat)
 case atStart=>exact⟨0,Nat.zero_le _,rfl,rfl,hB0,hZ0⟩
 case round =>
  obtain⟨k,hk,rfl,hno,hb,hZ⟩:=hrel
  have Hno:=Z1 hno
  have HZ:=Z1 hZ
  clear hno hZ hB0 hZ0
  by_cases hlt:k<l.length
  ·obtain⟨b,o,rfl,hbB,c0,c1,c2,c3⟩:=AccsAt.four (h.below hb (Nat.le_refl _)) hlt
   have hbw:b<wr.heap.size:=Nat.lt_of_lt_of_le hbB hb.size
   have hgr:=some_lt HZ.out
   by_cases hc:l[k].code=x
   ·have hf:=Ch.find_hit hlt Hno.out hc
    have HF:Hid (Ch.found l x=l[k]):=by show _=_;simp [Ch.found,hf]
    have HH:Hid (Ch.has l x=true):=by show _=_;simp [Ch.has,hf]
    have hbe:(l[k].code==x)=true:=by simp [hc]
    have Ho:=Z1 (accOne l[k].code l[k].kind l[k].basis l[k].parent)
    have HZ1:=Z1 ((Below.heap_alloc wr (.cells #[.int .i64 (l[k]).code,.int .i64 (l[k]).kind,.int .i64 (l[k]).basis,.int .i64 (l[k]).parent] 87) _ hgr).trans HZ.out)
    have hR:=setRow_heap (wr.alloc (.cells #[.int .i64 (l[k]).code,.int .i64 (l[k]).kind,.int .i64 (l[k]).basis,.int .i64 (l[k]).parent] 87)) w.heap.size _ #[.int .i64 (l[k]).code,.int .i64 (l[k]).kind,.int .i64 (l[k]).basis,.int .i64 (l[k]).parent] _ _ HZ1.out
    have hload:=Z1 (run_loadVar_row (P:=prog) _ _ _ 87 _ _ _ hR underlying87 rfl accSize)
    have hBF:=Z1 (below_setRow (hb.alloc hb.size (.cells #[.int .i64 (l[k]).code,.int .i64 (l[k]).kind,.int .i64 (l[k]).basis,.int .i64 (l[k]).parent] 87)) (Nat.le_refl _) #[.int .i64 (l[k]).code,.int .i64 (l[k]).kind,.int .i64 (l[k]).basis,.int .i64 (l[k]).parent])
    clear hf hc hR
    go_wp2_with (refine wpList_store_row rfl 87 (.tmp 4) (.tmp 18) none rfl rfl w.heap.size 87 _ #[.int .i64 (l[k]).code,.int .i64 (l[k]).kind,.int .i64 (l[k]).basis,.int .i64 (l[k]).parent] rfl rfl HZ1.out rfl accSize Ho.out ?_)
    exact bodyPost_ret (v:=.tuple #[.agg #[.int .i64 (l[k]).code,.int .i64 (l[k]).kind,.int .i64 (l[k]).basis,.int .i64 (l[k]).parent],.bool true]) (by simp [results,results121,asAddr,Act.put,hload.out]) rfl ⟨by rw [HF.out,HH.out],hBF.out⟩
   ·have hbe:(l[k].code==x)=false:=by simp [hc]
    have hf:Hid (Ch.find (l.take (k+1)) x=none):=by show _=_;rw [Ch.find_take hlt Hno.out,if_neg hc]
    clear hc
    go_wp2
    go_roundw
    case rel=>exact⟨k+1,by omega,by go_num,hf.out,hb.alloc hb.size _,(Below.heap_alloc wr _ _ hgr).trans HZ.out⟩
    case measure=>simp [intOf];omega
  ·obtain rfl:k=l.length:=by omega
   have hf:Ch.find l x=none:=by have:=Hno.out;rwa [List.take_length] at this
   have HF:Hid (Ch.found l x=Acc.zero):=by show _=_;simp [Ch.found,hf]
   have HH:Hid (Ch.has l x=false):=by show _=_;simp [Ch.has,hf]
   have Ho:=Z1 (accOne 0 0 0 0)
   have hR:=setRow_heap wr w.heap.size _ #[.int .i64 0,.int .i64 0,.int .i64 0,.int .i64 0] _ _ HZ.out
   have hload:=Z1 (run_loadVar_row (P:=prog) _ _ _ 87 _ _ _ hR underlying87 rfl accSize)
   have hBF:=Z1 (below_setRow hb (Nat.le_refl _) #[.int .i64 0,.int .i64 0,.int .i64 0,.int .i64 0])
   clear hf hR h
   go_wp2_with (refine wpList_store_row rfl 87 (.tmp 4) (.tmp 20) none rfl rfl w.heap.size 87 _ #[.int .i64 0,.int .i64 0,.int .i64 0,.int .i64 0] rfl rfl HZ.out rfl accSize Ho.out ?_)
   exact bodyPost_ret (v:=.tuple #[.agg #[.int .i64 0,.int .i64 0,.int .i64 0,.int .i64 0],.bool false]) (by simp [results,results121,asAddr,Act.put,hload.out]) rfl ⟨by rw [HF.out,HH.out];rfl,hBF.out⟩
end
end Go.Proofs.YtniaimjknmhapaaGreatDoor
namespace Go.Proofs.YtniaimjknmhapaaGreatDoor
open Go.Proofs.Tryz Go.RowKit

abbrev LinsAt:=RowsAt Lin.cells 3
def Lin.wf (x:Lin):Prop:=(Lit.int .i64 x.acct).wf=true/\(-1125899906842624<=x.amt/\x.amt<=1125899906842624)/\(Lit.int .i64 x.prt).wf=true
structure EtC.wf (x:EtC):Prop where
 hid:(Lit.int .i64 x.id).wf=true
 hda:(Lit.int .i64 x.date).wf=true
 hof:(Lit.int .i64 x.of_).wf=true
 htx:x.text.size<=maxLen
 hln:x.lines.length<=60
 hlw:∀ l∈x.lines,l.wf
structure Etr.At (w:World) (B:Nat) (x:Etr):Prop where
 hl:x.c.lines.length=x.ln
 hA:LinsAt w B x.lA x.c.lines
 hw:x.c.wf
theorem Etr.At.below {w w':World} {B C:Nat} {x:Etr} (h:x.At w B) (hb:Below C w w') (hC:B<=C):x.At w' B:=⟨h.hl,RowsAt.below h.hA hb hC,h.hw⟩
theorem Etr.At.more {w:World} {B C:Nat} {x:Etr} (h:x.At w B) (hC:B<=C):x.At w C:=⟨h.hl,RowsAt.more h.hA hC,h.hw⟩
theorem Etr.At.at_ {w w':World} {x:Etr} (h:x.At w w.heap.size) (hb:Below w.heap.size w w'):x.At w' w'.heap.size:=(h.below hb (Nat.le_refl _)).more hb.size
theorem linSize:(prog.info? 68).map (·.size)=some 3:=by kernel_rfl
theorem etrSize:(prog.info? 71).map (·.size)=some 7:=by kernel_rfl
theorem LinsAt.three {w:World} {B:Nat} {A:Option Addr} {l:List Lin} (h:LinsAt w B A l) {k:Nat} (hk:k<l.length):∃ b o,A=some ⟨b,o,none⟩/\b<B/\w.rangeAt b (o+k*3) [.int .i64 (l[k]).acct,.int .i64 (l[k]).amt,.int .i64 (l[k]).prt]:=RowsAt.look h hk
namespace Jr
theorem total_take {l:List Lin} {k:Nat} (hk:k<l.length):total (l.take (k+1))=total (l.take k)+l[k].amt:=by
 unfold total;rw [List.take_succ_eq_append_getElem hk,List.map_append,List.sum_append];simp
theorem total_bd:∀(l:List Lin),(∀ x∈l,x.wf)->-(1125899906842624*(l.length:Int))<=total l/\total l<=1125899906842624*(l.length:Int)
 | [],_=>by simp [total]
 | x::l,h=>by
  have h1:=total_bd l fun y hy=>h y (List.mem_cons_of_mem _ hy)
  have h2:=(h x List.mem_cons_self).2.1
  have e:total (x::l)=x.amt+total l:=by simp [total]
  rw [e];simp only [List.length_cons];omega
def oppT (l m:List Lin) (k:Nat):Bool:=opposite (l.take k) (m.take k)
theorem opp_snoc:∀(l m:List Lin) (a b:Lin),l.length=m.length->opposite (l++[a]) (m++[b])=(opposite l m&&oppL a b)
 | [],[],a,b,_=>by simp [opposite]
 | x::l,y::m,a,b,h=>by simp only [List.cons_append,opposite,opp_snoc l m a b (by simpa using h),Bool.and_assoc]
theorem oppT_succ {l m:List Lin} {k:Nat} (h1:k<l.length) (h2:k<m.length):oppT l m (k+1)=(oppT l m k&&oppL l[k] m[k]):=by
 unfold oppT;rw [List.take_succ_eq_append_getElem h1,List.take_succ_eq_append_getElem h2,opp_snoc _ _ _ _ (by simp;omega)]
theorem opp_len:∀(l m:List Lin),l.length≠m.length->opposite l m=false
 | [],[],h=>by simp at h
 | [],_::_,_=>rfl
 | _::_,[],_=>rfl
 | x::l,y::m,h=>by simp only [opposite];rw [opp_len l m (by simpa using h),Bool.and_false]
theorem opp_bad:∀(l m:List Lin) (k:Nat) (h1:k<l.length) (h2:k<m.length),oppL l[k] m[k]=false->opposite l m=false
 | x::l,y::m,0,_,_,h=>by simp only [opposite];simp at h;rw [h];rfl
 | x::l,y::m,k+1,h1,h2,h=>by simp only [opposite];rw [opp_bad l m k (by simpa using h1) (by simpa using h2) (by simpa using h),Bool.and_false]
end Jr
section
variable (w:World)
theorem plain_any (s:ByteArray) (hs:s.size<=maxLen):Calls prog 243 #[.string s] w fun e w'=>e=.returned (.bool (Jr.plain s))/\w=w':=by
 unfold maxLen at hs
 have hsz:s.data.toList.length=s.size:=by simp
 go_enter func243,ntmps243
 go_wp2
 go_loop [6] (fun i=>∃ k:Nat,k<=s.size/\i=.int .i64 k/\(s.data.toList.take k).all Jr.print=true) (fun i=>s.size-(intOf i).toNat)
 case atStart=>exact⟨0,Nat.zero_le _,rfl,rfl⟩
 case round =>
  obtain⟨k,hk,rfl,ha⟩:=hrel
  have Ha:=Z1 ha
  clear ha
  by_cases hlt:k<s.size
  ·have hg:s.data.toList[k]'(by omega)=s[k]:=rfl
   by_cases h1:(s[k].toNat:Int)<32
   ·have hf:Hid (Jr.plain s=false):=by
     show Jr.plain s=false
     unfold Jr.plain
     rw [Gr.allMiss _ _ k (by omega) (by rw [hg];unfold Jr.print;simp only [decide_eq_false_iff_not];omega)];rfl
    clear hg
    go_wp2
    go_ret
    exact⟨ret_bool hf.out.symm,rfl⟩
   ·by_cases h2:126<(s[k].toNat:Int)
    ·have hf:Hid (Jr.plain s=false):=by
      show Jr.plain s=false
      unfold Jr.plain
      rw [Gr.allMiss _ _ k (by omega) (by rw [hg];unfold Jr.print;simp only [decide_eq_false_iff_not];omega)];rfl
     clear hg
     go_wp2
     go_ret
     exact⟨ret_bool hf.out.symm,rfl⟩
    ·have hf:Hid ((s.data.toList.take (k+1)).all Jr.print=true):=by
      show _=true
      rw [Gr.allTake _ _ k (by omega),Ha.out,hg]
      unfold Jr.print
      simp;omega
     clear hg
     go_wp2
     go_round
     case rel=>exact⟨k+1,by omega,by go_num,hf.out⟩
     case measure=>simp [intOf];omega
  ·obtain rfl:k=s.size:=by omega
   have hf:Hid (Jr.plain s=decide (s.size<=80)):=by
    show _=_
    have h:=Ha.out
    rw [List.take_of_length_le (by omega)] at h
    unfold Jr.plain
    rw [h,Bool.true_and]
   clear hsz
   go_wp2
   go_ret
   refine⟨ret_bool ?_,rfl⟩
   rw [hf.out,Bool.eq_iff_iff];simp;omega
theorem esum_any (A:Option Addr) (n c:Nat) (l:List Lin) (hl:l.length=n) (hn:n<=60) (hw:∀ x∈l,x.wf) (h:LinsAt w w.heap.size A l) :
  Calls prog 244 #[.slice A n c] w fun e w'=>e=.returned (.int .i64 (Jr.total l))/\Below w.heap.size w w':=by
 have HW:=Z1 hw
 have Hl:=Z1 hl
 clear hw hl
 go_enter func244,ntmps244
 go_wp2
 go_loopw [3,8] (fun s i wr=>∃ k:Nat,k<=n/\i=.int .i64 k/\s=.int .i64 (Jr.total (l.take k))/\Below w.heap.size w wr) (fun _ i _=>n-(intOf i).toNat)
 case atStart=>exact⟨0,Nat.zero_le _,rfl,rfl,Below.refl _ _⟩
 case round =>
  obtain⟨k,hk,rfl,rfl,hb⟩:=hrel
  by_cases hlt:k<n
  ·have hkl:k<l.length:=by have:=Hl.out;omega
   obtain⟨b,o,rfl,hbB,hr⟩:=LinsAt.three (RowsAt.below h hb (Nat.le_refl _)) hkl
   obtain⟨x,hx⟩:∃ x,x=l[k]:=⟨_,rfl⟩
   rw [<- hx] at hr
   have Hst:=Z1 (Jr.total_take hkl)
   have hbt:=Jr.total_bd (l.take (k+1)) fun y hy=>HW.out y (List.mem_of_mem_take hy)
   rw [Hst.out,<- hx] at hbt
   rw [<- hx] at Hst
   simp only [List.length_take] at hbt
   have hb1:-67553994410557440<=Jr.total (l.take k)+x.amt/\Jr.total (l.take k)+x.amt<=67553994410557440:=by omega
   obtain⟨t,ht⟩:∃ t,t=Jr.total (l.take k):=⟨_,rfl⟩
   rw [<- ht] at hb1 Hst ⊢
   have Hr:=Z1 hr
   have hbw:b<wr.heap.size:=Nat.lt_of_lt_of_le hbB hb.size
   clear hr hx hbt ht h
   go_wp2_with (refine wpList_load_mid rfl 68 (.tmp 10) rfl b (o+k*3) rfl [.int .i64 x.acct,.int .i64 x.amt,.int .i64 x.prt] _ Hr.out underlying68 rfl linSize ?_)
   go_roundw
   case rel=>exact⟨k+1,by omega,by go_num,by rw [Hst.out],hb.alloc hb.size _⟩
   case measure=>simp [intOf];omega
  ·obtain rfl:k=n:=by omega
   have htk:l.take k=l:=List.take_of_length_le (by have:=Hl.out;omega)
   rw [htk]
   go_wp2
   go_ret
   exact⟨rfl,hb⟩
theorem oppl_any (x y:Lin) (hy:y.wf):Calls prog 246 #[.agg #[.int .i64 x.acct,.int .i64 x.amt,.int .i64 x.prt],.agg #[.int .i64 y.acct,.int .i64 y.amt,.int .i64 y.prt]] w fun e w'=>e=.returned (.bool (Jr.oppL x y))/\Below w.heap.size w w':=by
 obtain⟨hB0,_,_,_⟩:=row_new2 w #[.int .i64 x.acct,.int .i64 x.amt,.int .i64 x.prt] #[.int .i64 y.acct,.int .i64 y.amt,.int .i64 y.prt] 68 68
 have hB:=Z1 hB0
 have h1:=hy.2.1
 have HV:Hid (Jr.oppL x y=decide (x.acct=y.acct/\x.prt=y.prt/\x.amt=-y.amt)):=by show _=_;rfl
 clear hB0 hy
 by_cases e1:x.acct=y.acct
 ·by_cases e2:x.prt=y.prt
  ·have b1:(x.acct==y.acct)=true:=by simp [e1]
   have b2:(x.prt==y.prt)=true:=by simp [e2]
   have E:=Z1 e1
   have E2:=Z1 e2
   clear e1 e2
   go_enter func246,ntmps246
   go_wp2
   go_ret
   refine⟨ret_bool ?_,hB.out⟩
   rw [HV.out,Bool.eq_iff_iff]
   have:=E.out
   have:=E2.out
   simp [*]
  ·have b1:(x.acct==y.acct)=true:=by simp [e1]
   have b2:(x.prt==y.prt)=false:=by simp [e2]
   have E:Hid (Jr.oppL x y=false):=by show _=_;rw [HV.out];simp [e2]
   clear e1 e2
   go_enter func246,ntmps246
   go_wp2
   go_ret
   exact⟨ret_bool E.out.symm,hB.out⟩
 ·have b1:(x.acct==y.acct)=false:=by simp [e1]
  have E:Hid (Jr.oppL x y=false):=by show _=_;rw [HV.out];simp [e1]
  clear e1
  go_enter func246,ntmps246
  go_wp2
  go_ret
  exact⟨ret_bool E.out.symm,hB.out⟩
theorem eqlin_any (A A':Option Addr) (n c n' c':Nat) (l m:List Lin) (hl:l.length=n) (hn:n<=60) (hl':m.length=n') (hn':n'<=60) (hw:∀ x∈m,x.wf) (h:LinsAt w w.heap.size A l) (h':LinsAt w w.heap.size A' m) :
  Calls prog 245 #[.slice A n c,.slice A' n' c',.func (.func 246) #[] #[]] w fun e w'=>e=.returned (.bool (Jr.opposite l m))/\Below w.heap.size w w':=by
 have HW:=Z1 hw
 have Hl:=Z1 hl
 have Hl':=Z1 hl'
 have H:=Z1 h
 have H':=Z1 h'
 clear hw h h'
 by_cases hnn:n=n'
 case neg =>
  have hne:((n:Int) != (n':Int))=true:=by simp;omega
  have HV:=Z1 (Jr.opp_len l m (by omega))
  clear hl hl'
  go_enter func245,ntmps245
  go_wp2
  go_ret
  exact⟨ret_bool HV.out.symm,Below.refl _ _⟩
 subst hnn
 clear hl hl' hn'
 go_enter func245,ntmps245
 go_wp2
 go_loopw [17] (fun i wr=>∃ k:Nat,k<=n/\i=.int .i64 k/\Jr.oppT l m k=true/\Below w.heap.size w wr) (fun i _=>n-(intOf i).toNat)
 case atStart=>exact⟨0,Nat.zero_le _,rfl,by unfold Jr.oppT;rfl,Below.refl _ _⟩
 case round =>
  obtain⟨k,hk,rfl,hT,hb⟩:=hrel
  have HT:=Z1 hT
  clear hT
  by_cases hlt:k<n
  ·have hkl:k<l.length:=by have:=Hl.out;omega
   have hkm:k<m.length:=by have:=Hl'.out;omega
   obtain⟨b,o,rfl,hbB,hr⟩:=LinsAt.three (RowsAt.below H.out hb (Nat.le_refl _)) hkl
   obtain⟨b',o',rfl,hbB',hr'⟩:=LinsAt.three (RowsAt.below H'.out hb (Nat.le_refl _)) hkm
   have hwm:=HW.out _ (List.getElem_mem hkm)
   obtain⟨x,hx⟩:∃ x,x=l[k]:=⟨_,rfl⟩
   obtain⟨y,hy⟩:∃ y,y=m[k]:=⟨_,rfl⟩
   have Hs:=Z1 (Jr.oppT_succ hkl hkm)
   have Hbad:=Z1 (Jr.opp_bad l m k hkl hkm)
   rw [<- hx] at hr
   rw [<- hy] at hr' hwm
   rw [<- hx,<- hy] at Hs Hbad
   have Hr:=Z1 hr
   obtain⟨hBa,hra,hza⟩:=row_new wr #[.int .i64 x.acct,.int .i64 x.amt,.int .i64 x.prt] 68
   have Hr':=Z1 (fun(j:Nat) (v:Value) (hj:([.int .i64 y.acct,.int .i64 y.amt,.int .i64 y.prt]:List Value)[j]?=some v)=>(hBa.cell (p:=⟨b',o'+k*3+j,none⟩) (by have:=hb.size;show b'<_;omega)).trans (hr' j v hj))
   obtain⟨hBb,hrb,hrb',hzb⟩:=row_new2 wr #[.int .i64 x.acct,.int .i64 x.amt,.int .i64 x.prt] #[.int .i64 y.acct,.int .i64 y.amt,.int .i64 y.prt] 68 68
   have hbw:b<wr.heap.size:=Nat.lt_of_lt_of_le hbB hb.size
   have hbw':b'<wr.heap.size:=Nat.lt_of_lt_of_le hbB' hb.size
   obtain⟨Wb,hWb⟩:∃ Wb,Wb=((wr.alloc (.cells #[.int .i64 x.acct,.int .i64 x.amt,.int .i64 x.prt] 68)).alloc (.cells #[.int .i64 y.acct,.int .i64 y.amt,.int .i64 y.prt] 68)):=⟨_,rfl⟩
   rw [<- hWb] at hBb hrb hrb' hzb
   have HWb:=Z1 hWb
   have hb2:=hb.trans (hBb.mono hb.size)
   have Hrb:=Z1 hrb
   have Hrb':=Z1 hrb'
   have q1:=some_lt hrb
   have q2:=some_lt hrb'
   clear hr hr' hx hy hra hWb hrb hrb' hBa hza hBb hzb
   go_upto_region 7 with(first | (refine wpList_load_mid rfl 68 (.tmp 20) rfl b (o+k*3) rfl [.int .i64 x.acct,.int .i64 x.amt,.int .i64 x.prt] _ Hr.out underlying68 rfl linSize ?_) | (refine wpList_load_mid rfl 68 (.tmp 24) rfl b' (o'+k*3) rfl [.int .i64 y.acct,.int .i64 y.amt,.int .i64 y.prt] _ Hr'.out underlying68 rfl linSize ?_))
   rw [<- HWb.out]
   go_wp2_with (first | (refine wpList_load_row rfl 68 (.tmp 8) rfl _ rfl _ _ _ _ Hrb.out underlying68 rfl linSize ?_) | (refine wpList_load_row rfl 68 (.tmp 9) rfl _ rfl _ _ _ _ Hrb'.out underlying68 rfl linSize ?_))
   refine(oppl_any Wb x y hwm).mono ?_
   rintro e W2 ⟨rfl,hB2⟩
   have hb3:=hb2.trans (hB2.mono hb2.size)
   cases ho:Jr.oppL x y with
   | true =>
    have HT2:Hid (Jr.oppT l m (k+1)=true):=by show _=_;rw [Hs.out,HT.out,ho];rfl
    clear ho hwm
    go_wp2
    go_roundw
    case rel=>exact⟨k+1,by omega,by go_num,HT2.out,hb3⟩
    case measure=>simp [intOf];omega
   | false =>
    have HV:=Z1 (Hbad.out ho)
    clear ho hwm
    go_wp2
    go_ret
    exact⟨ret_bool HV.out.symm,hb3⟩
  ·obtain rfl:k=n:=by omega
   have hT:=HT.out
   unfold Jr.oppT at hT
   rw [List.take_of_length_le (by have:=Hl.out;omega),List.take_of_length_le (by have:=Hl'.out;omega)] at hT
   have HV:=Z1 hT
   clear hT
   go_wp2
   go_ret
   exact⟨ret_bool HV.out.symm,hb⟩
theorem opp_any (A A':Option Addr) (n c n' c':Nat) (l m:List Lin) (hl:l.length=n) (hn:n<=60) (hl':m.length=n') (hn':n'<=60) (hw:∀ x∈m,x.wf) (h:LinsAt w w.heap.size A l) (h':LinsAt w w.heap.size A' m) :
  Calls prog 205 #[.slice A n c,.slice A' n' c'] w fun e w'=>e=.returned (.bool (Jr.opposite l m))/\Below w.heap.size w w':=by
 have H:=Z1 (eqlin_any w A A' n c n' c' l m hl hn hl' hn' hw h h')
 clear h h' hw hl hl'
 go_enter func205,ntmps205
 go_wp2_with (fail)
 refine H.out.mono ?_
 rintro e W2 ⟨rfl,hB2⟩
 go_wp2
 go_ret
 exact⟨rfl,hB2⟩
end
end Go.Proofs.YtniaimjknmhapaaGreatDoor
namespace Go.Proofs.YtniaimjknmhapaaGreatDoor
open Go.RowKit
theorem wpAnyH_letters {P:Program} {md:Region.Mode} {ops:Array Oper} {Q:Exit->Act->World->Prop} {S:World->Prop} {fuel:Nat} {listed:Array Bool} {a:Act} {w:World}
  (h:∀(md':Region.Mode) (ops':Array Oper) (Q':Exit->Act->World->Prop) (a':Act),md'=md->ops'=ops->Q'=Q->a'=a->wpAnyH P md' ops' Q' S fuel listed a' w):wpAnyH P md ops Q S fuel listed a w:=h _ _ _ _ rfl rfl rfl rfl
end Go.Proofs.YtniaimjknmhapaaGreatDoor
namespace Go.Proofs.YtniaimjknmhapaaGreatDoor
open Go.RowKit
section
variable (w:World)
end
end Go.Proofs.YtniaimjknmhapaaGreatDoor
namespace Go.Proofs.YtniaimjknmhapaaGreatDoor
open Go.Proofs.Tryz Go.RowKit
theorem bld_old {T e:TypeId} {B b:Nat} {bs:List Value} {w w':World} (h:Lib.IsBuilder T e B b bs w) (hb:Below w.heap.size w w'):Lib.IsBuilder T e B b bs w':=by
 have hg:w.grownBy w' none:=⟨hb.os,hb.tape,hb.output,hb.size,fun i hi _=>hb.block i hi⟩
 rcases h with⟨h1,v,h2,h3,h4⟩ | ⟨h1,v,h2,h3,h4⟩
 ·exact .inl ⟨h1,v,(hb.block b (some_lt h2)).trans h2,h3.kept hg (by cases v.ownBlock <;> simp),h4⟩
 ·exact .inr ⟨h1,v,(hb.block b (some_lt h2)).trans h2,h3.kept hg (by cases v.ownBlock <;> simp),h4⟩
theorem bld_write (B b:Nat) (bs:List Value) (s:ByteArray) (w:World) (h:Lib.IsBuilder 156 5 B b bs w) (hlen:bs.length+s.size<=140737488355328) (hBw:B<=w.heap.size) :
  Calls prog 84 #[.pointer (some ⟨b,0,none⟩),.string s] w fun e w'=>e=.returned (.tuple #[.int .i64 s.size,.nilIface])/\(Lib.BuilderAt 156 5 B b (.pointer (some ⟨b,0,none⟩)) (bs++Lib.strCells s) w'/\Below B w w') :=
 Any.Builder_WriteString { Tryz.lays105 with } Tryz.Builder_Extra_105 B b bs s w h hlen hBw
theorem rep_one:∀ c:Nat,Lib.repeatL [48] c=List.replicate c 48
 | 0=>rfl
 | c+1=>by rw [Lib.repeatL,rep_one c,List.replicate_succ];rfl
theorem itoa_nat (a:Nat):Lib.itoa (a:Int)=Lib.decDigits a:=by
 unfold Lib.itoa
 rw [if_neg (by omega),Int.toNat_natCast]
theorem cells_app (l m:List UInt8):Lib.byteCells l++Lib.strCells ⟨m.toArray⟩=Lib.byteCells (l++m):=by
 simp [Lib.byteCells,Lib.strCells]
abbrev Tab (B : Nat) (w : World) : Prop := Lib.TabBelow prog B w "internal/strconv.uint64pow10" .u64 Lib.pow10Tab
section
variable (w:World)
theorem textd_any (k:Nat) (v:Value) (z:Int) (hk:k<=1000) (hz0:0<=z) (h:PI w w.heap.size k v z) (hT:Tab w.heap.size w) :
  Calls prog 45 #[v] w fun e w'=>e=.returned (.string ⟨(Lib.decDigits z.toNat).toArray⟩)/\Below w.heap.size w w':=by
 obtain⟨neg,A,n,c,l,rfl,hl,hn,hc,hL,hN,hz,hA,hs⟩:=h.parts
 have hng:neg=false:=by rcases hs with⟨_,e,_⟩ | ⟨_,e,_⟩ | ⟨_,_,e⟩;exact e;exact e;omega
 subst hng
 obtain⟨w1,hw1⟩:∃ W,W=w.alloc (.cells #[.bool false,.slice A n c] 41):=⟨_,rfl⟩
 have hB1:Below w.heap.size w w1:=by rw [hw1];exact(Below.refl _ _).alloc (Nat.le_refl _) _
 have hb1:w1.heap[w.heap.size]?=some (.cells #[.bool false,.slice A n c] 41 (0,0)):=by rw [hw1];exact heap_alloc_new w _
 have HW1:=Z1 hw1
 have Hb1:=Z1 hb1
 have s1:=some_lt hb1
 have HL:=Z1 hL
 have HN:=Z1 hN
 have Hl:=Z1 hl
 have Hz:=Z1 hz
 have HA1:=Z1 (hA.at_ hB1 (Nat.le_refl _))
 have c1:=cr9 1 hb1
 have c0:=cr9 0 hb1
 simp at c1 c0
 have HT1:=Z1 ((hT.on hB1:Tab w.heap.size w1))
 clear hw1 hb1 hL hN hz hA hs h hT
 go_enter func45,ntmps45
 go_upto_region 1 with(fail)
 rw [<- HW1.out]
 rcases Nat.eq_zero_or_pos n with h0 | h0
 ·have hl0:l=[]:=List.length_eq_zero_iff.1 (by rw [Hl.out];exact h0)
  have hzz:z=0:=by have:=Hz.out;rw [hl0] at this;simpa [Big.sgn,Big.val] using this
  have hd:Hid (Lib.decDigits z.toNat=[48]):=Z1 (by rw [hzz];exact Dec.digits_small (by decide))
  subst h0
  clear hl hzz hl0
  go_wp2
  go_ret
  exact⟨by rw [hd.out];rfl,hB1⟩
 ·have hn0:((n:Int)==0)=false:=by simp;omega
  obtain⟨w2,hw2⟩:∃ W,W=w1.alloc (.cells #[.pointer none,.slice none 0 0] 156):=⟨_,rfl⟩
  have hB2:Below w1.heap.size w1 w2:=by rw [hw2];exact(Below.refl _ _).alloc (Nat.le_refl _) _
  have hbl:=Lib.fresh_isBuilder 156 5 w1
  rw [<- hw2] at hbl
  have HW2:=Z1 hw2
  have Hbl:=Z1 hbl
  have Hb2:=Z1 ((hB2.block _ s1).trans Hb1.out)
  have HB2:=Z1 hB2
  clear hw2 hbl hB2
  go_upto_region 4 with(fail)
  rw [<- HW2.out]
  have hb2:=Hb2.out
  have d1:=cr9 1 hb2
  have d0:=cr9 0 hb2
  simp at d1 d0
  have s2:=some_lt hb2
  clear c1 c0 hb2
  go_wp2
  go_loopw [4] (fun iv wr=>∃ t:Nat,t<=n/\iv=.int .i64 ((t:Int)-1)/\Lib.IsBuilder 156 5 w1.heap.size w1.heap.size (Lib.byteCells (Dec.text 9 ((l.drop t).map Int.toNat))) wr/\Below w1.heap.size w1 wr) (fun iv _=>(intOf iv+1).toNat)
  case atStart=>exact⟨n,Nat.le_refl _,rfl,by rw [List.drop_of_length_le (by rw [Hl.out];exact Nat.le_refl _)];exact Hbl.out,HB2.out⟩
  case round =>
   obtain⟨t,ht,rfl,hbl,hbr⟩:=hrel
   have hbr1:=(hbr.block _ s1).trans Hb1.out
   have e1:=cr9 1 hbr1
   simp at e1
   have sr:=some_lt hbr1
   have Hbl2:=Z1 hbl
   have Hbr:=Z1 hbr
   have szr:=hbr.size
   clear hbl hbr hbr1 d1 d0 Hbl
   match t,ht with
   | 0,_ =>
    go_wp2_with (fail)
    refine(Tryz.Builder_String_any w1.heap.size w1.heap.size _ wr Hbl2.out szr).mono ?_
    rintro e w4 ⟨rfl,hB4⟩
    have htx:=Dec.text_val (k:=9) (B:=1000000000) (by decide) HL.out HN.out (by rw [Hl.out];exact h0)
    have Htx:=Z1 htx
    clear htx
    go_wp2
    go_ret
    exact⟨by rw [Htx.out,Hz.out];rfl,hB1.trans ((Hbr.out.trans hB4).mono hB1.size)⟩
   | t+1,ht =>
    rw [show((t+1:Nat):Int)-1=(t:Int) by omega]
    have htl:t<l.length:=by rw [Hl.out];omega
    obtain⟨b,o,rfl,hbB,hlc⟩:=(HA1.out.at_ (w':=wr) (Hbr.out) (Nat.le_refl _)).look htl
    have hL:=HL.out.get t htl
    obtain⟨a,ha⟩:∃ a:Nat,a=l[t].toNat:=⟨_,rfl⟩
    have hla:l[t]=(a:Int):=by omega
    have ha9:a<10 ^ 9:=by omega
    rw [hla] at hlc
    have Ha:=Z1 ha
    have Ha9:=Z1 ha9
    have ht0:(0:Int)<=(t:Int):=by omega
    have htn:(t:Int)<n:=by omega
    have a0:-9223372036854775808<=(a:Int):=by omega
    have a1:(a:Int)<=9223372036854775807:=by omega
    have a2:(a:Int)<4294967296:=by omega
    clear hL hla ha
    go_wp2_with (fail)
    refine(Tryz.strconv_Itoa (a:Int) a0 a1 wr ((HT1.out.on (Hbr.out.mono (Nat.le_of_lt s1))).here)).mono ?_
    rintro e w3 ⟨rfl,kk,os,hw3⟩
    rw [itoa_nat]
    have hB3:=Lib.below_grow wr.heap.size wr (Nat.le_refl _) kk os
    rw [<- hw3] at hB3
    obtain⟨ds,hds⟩:∃ ds,ds=Lib.decDigits a:=⟨_,rfl⟩
    rw [<- hds]
    have hpf:=Dec.pad_fill 9 a (by omega) Ha9.out
    rw [<- hds] at hpf
    have hdl:=hpf.2
    have Hpf:=Z1 hpf.1
    have Hds:=Z1 hds
    have Hbr3:=Z1 (Hbr.out.trans (hB3.mono szr))
    have hbr3:=(Hbr3.out.block _ s1).trans Hb1.out
    have f1:=cr9 1 hbr3
    simp at f1
    have s3:=some_lt hbr3
    have Hbl3:=Z1 (bld_old Hbl2.out hB3)
    have sz3:=Hbr3.out.size
    have hdr:(l.drop t).map Int.toNat=a::(l.drop (t+1)).map Int.toNat:=by rw [List.drop_eq_getElem_cons htl,List.map_cons,<- Ha.out]
    have Hdr:=Z1 hdr
    have HTn:Hid ((Dec.text 9 ((l.drop (t+1)).map Int.toNat)).length<=9000):=Z1 (by
     have h:=Dec.text_len 9 ((l.drop (t+1)).map Int.toNat) (fun x hx=>by
      rw [List.mem_map] at hx
      obtain⟨y,hy,rfl⟩:=hx
      have:=HL.out y (List.mem_of_mem_drop hy)
      omega) (by omega)
     rw [List.length_map,List.length_drop,Hl.out] at h
     omega)
    clear hw3 hB3 hpf hds hbr3 hdr e1
    by_cases htn1:t+1<n
    ·have hd1:(t:Int)<(n:Int)-1:=by omega
     go_wp2_with (fail)
     rw [show(9-(ds.length:Int))=((9-ds.length:Nat):Int) by omega]
     refine(Tryz.strings_Repeat ⟨#[48]⟩ (9-ds.length) w3 (by omega) (by show 1*_<=_;omega)).mono ?_
     rintro e W4 ⟨rfl,hB4⟩
     rw [show(⟨#[48]⟩:ByteArray).data.toList=[48] from rfl,rep_one]
     have HB4:=Z1 (Hbr3.out.trans (hB4.mono sz3))
     have Hbl4:=Z1 (bld_old Hbl3.out hB4)
     have HSZ:=Z1 HB4.out.size
     have hps:Dec.pad 9 a=List.replicate (9-ds.length) 48++ds:=Hpf.out
     have hpl:(List.replicate (9-ds.length) (48:UInt8)++ds).length=9:=by rw [<- hps];exact Dec.pad_length 9 a
     have HLEN:Hid ((Lib.byteCells (Dec.text 9 ((l.drop (t+1)).map Int.toNat))).length+ByteArray.size ⟨(List.replicate (9-ds.length) (48:UInt8)++ds).toArray⟩<=140737488355328):=Z1 (by
      have h1:=HTn.out
      have h2:ByteArray.size ⟨(List.replicate (9-ds.length) (48:UInt8)++ds).toArray⟩=9:=by rw [<- hpl];simp [ByteArray.size]
      have h3:(Lib.byteCells (Dec.text 9 ((l.drop (t+1)).map Int.toNat))).length=(Dec.text 9 ((l.drop (t+1)).map Int.toNat)).length:=by simp [Lib.byteCells]
      omega)
     have Heq:Hid (Dec.text 9 ((l.drop t).map Int.toNat)=Dec.text 9 ((l.drop (t+1)).map Int.toNat)++(List.replicate (9-ds.length) (48:UInt8)++ds)):=Z1 (by
      rw [Hdr.out,<- hps]
      have hne:t+1<l.length:=by rw [Hl.out];exact htn1
      rw [List.drop_eq_getElem_cons hne,List.map_cons]
      rfl)
     have hrl:(List.replicate (9-ds.length) (48:UInt8)).length=9-ds.length:=List.length_replicate
     obtain⟨rs,hrs⟩:∃ rs,rs=List.replicate (9-ds.length) (48:UInt8):=⟨_,rfl⟩
     rw [<- hrs] at hrl hpl HLEN Heq ⊢
     have hcs:¬ 9223372036854775807<rs.length+ds.length:=by omega
     clear hrs hps hpl f1 hB4
     go_wp2_with (fail)
     rw [str_app]
     refine(bld_write w1.heap.size w1.heap.size _ ⟨(rs++ds).toArray⟩ W4 Hbl4.out HLEN.out HSZ.out).mono ?_
     rintro e w5 ⟨rfl,hb5,hB5⟩
     rw [cells_app] at hb5
     have hst:Lib.IsBuilder 156 5 w1.heap.size w1.heap.size (Lib.byteCells (Dec.text 9 ((l.drop t).map Int.toNat))) w5:=by
      rw [Heq.out]
      exact .inr hb5
     have Hst:=Z1 hst
     have Hb5:=Z1 (HB4.out.trans hB5)
     clear hb5 hst hB5
     go_wp2
     go_roundw
     case rel=>exact⟨t,by omega,by go_num,Hst.out,Hb5.out⟩
     case measure=>simp [intOf]
    ·have hd1:decide ((t:Int)<(n:Int)-1)=false:=by simp;omega
     have hnt:n=t+1:=by omega
     have HNT:=Z1 hnt
     have HB4:=Hbr3
     have Hbl4:=Hbl3
     have HSZ:=Z1 HB4.out.size
     obtain⟨W4,hW4⟩:∃ W,W=w3:=⟨_,rfl⟩
     have hnil:(l.drop (t+1)).map Int.toNat=[]:=by rw [List.drop_of_length_le (by rw [Hl.out];omega)];rfl
     have HLEN:Hid ((Lib.byteCells (Dec.text 9 ((l.drop (t+1)).map Int.toNat))).length+ByteArray.size ⟨ds.toArray⟩<=140737488355328):=Z1 (by
      rw [hnil]
      have h2:ByteArray.size ⟨ds.toArray⟩=ds.length:=by simp [ByteArray.size]
      simp [Lib.byteCells,Dec.text]
      omega)
     have Heq:Hid (Dec.text 9 ((l.drop t).map Int.toNat)=Dec.text 9 ((l.drop (t+1)).map Int.toNat)++ds):=Z1 (by rw [Hdr.out,hnil,Hds.out];rfl)
     subst hW4
     clear hnil hnt htn1 ht
     go_wp2_with (fail)
     refine(bld_write w1.heap.size w1.heap.size _ ⟨(ds).toArray⟩ W4 Hbl4.out HLEN.out HSZ.out).mono ?_
     rintro e w5 ⟨rfl,hb5,hB5⟩
     rw [cells_app] at hb5
     have hst:Lib.IsBuilder 156 5 w1.heap.size w1.heap.size (Lib.byteCells (Dec.text 9 ((l.drop t).map Int.toNat))) w5:=by
      rw [Heq.out]
      exact .inr hb5
     have Hst:=Z1 hst
     have Hb5:=Z1 (HB4.out.trans hB5)
     clear hb5 hst hB5
     go_wp2
     go_roundw
     case rel=>exact⟨t,by omega,by go_num,Hst.out,Hb5.out⟩
     case measure=>simp [intOf]
end
end Go.Proofs.YtniaimjknmhapaaGreatDoor
namespace Go.Proofs.YtniaimjknmhapaaGreatDoor
open Go.ChangeShapes Go.WideShapes Go.ChangeAt Go.RowKit
abbrev laid3 : List (String × DataW Unit) := [("math/bits.deBruijn32tab", Rows.laid_math_bits_deBruijn32tab), ("math/bits.deBruijn64tab", Rows.laid_math_bits_deBruijn64tab), ("internal/strconv.uint64pow10", Rows.laid_internal_strconv_uint64pow10)]
theorem door_met (os:Os) (args:Array Value):laidMetH Tryz.prog laid3 ((World.doorLaid Tryz.prog 24 os).forCall (fun _ _=>0) ⟨#[],args,[]⟩).memory:=by
 rw [MakeChecks.laidMetH_plain _ _ _ (by kernel_rfl)]
 exact laidMet_of_run' 8 (by kernel_rfl) (by kernel_rfl)
theorem pow_type : (Tryz.prog.globalNamed "internal/strconv.uint64pow10").map (fun g => (Tryz.prog.globals[g]?).map (·.type)) = some (some 346) := by kernel_rfl
theorem pow_data:(Rows.laid_internal_strconv_uint64pow10:DataW Unit)=Lib.tabData .u64 Lib.pow10Tab:=by rfl
theorem tab_of_laid {W : World} (h : laidMetH Tryz.prog laid3 W) : Lib.TabIs Tryz.prog W "internal/strconv.uint64pow10" .u64 Lib.pow10Tab := by
 rw [MakeChecks.laidMetH_plain _ _ _ (by kernel_rfl)] at h
 obtain⟨ps,⟨g0,t0,cs0,f0,p0,q0,hg0,ht0,hv0,hd0,⟨g1,t1,cs1,f1,p1,q1,hg1,ht1,hv1,hd1,⟨g2,t2,cs2,f2,p2,q2,hg2,ht2,hv2,hd2,_,_⟩,_⟩,_⟩,_,_⟩:=h
 have e:=pow_type
 rw [hg2] at e
 simp only [Option.map_some,Option.some.injEq] at e
 obtain rfl:=Option.some.inj (e.symm.trans ht2)
 rw [pow_data] at hd2
 unfold Lib.TabIs
 rw [hv2,<- Lib.cells_of_tab Tryz.underlying346 Tryz.underlying137 (by kernel_rfl) (by kernel_rfl) hd2]
end Go.Proofs.YtniaimjknmhapaaGreatDoor
