/- Lemmas. -/
import Derived.Test.YtbhdekahdnenjaaGreatDoorShelf
import Derived.Lib.AppendIntMem
import Derived.Test.YtbhdekahdnenjaaGreatDoorG09
set_option linter.unusedVariables false
set_option linter.unusedSimpArgs false
set_option maxRecDepth 100000
set_option maxHeartbeats 16000000
namespace Go.Proofs.YtbhdekahdnenjaaGreatDoor
open Go.RowKit
variable (w:World)
def RegM (w:World) (B I J L O:Nat) (i o s E:AV) (a:World):Prop :=
 Below B w a/\a.heap[I]?=some (.cells i 50 (0,0))/\a.heap[J]?=some (.cells o 50 (0,0))/\a.heap[L]?=some (.cells s 50 (0,0))/\a.heap[O]?=some (.cells E 50 (0,0))
theorem Vq {w:World} {b:Nat} {O} (h:w.heap[b]?=some O):b<w:=(Array.getElem?_eq_some_iff.1 h).1
theorem RegM.step {w W W'} {B p1 p2 p3 p4} {X1 X2 X3 X4} (h:RegM w B p1 p2 p3 p4 X1 X2 X3 X4 W) (i:B<=w) (a:Below W W W'):RegM w B p1 p2 p3 p4 X1 X2 X3 X4 W':=by
 obtain⟨o,s,E,I,J⟩:=h;exact⟨o.trans (a.mono (Vn i o.size)),(a.block _ (Vq s)).trans s,(a.block _ (Vq E)).trans E,(a.block _ (Vq I)).trans I,(a.block _ (Vq J)).trans J⟩
theorem RegM.drew {w W} {B p1 p2 p3 p4} {X1 X2 X3 X4} (h:RegM w B p1 p2 p3 p4 X1 X2 X3 X4 W):RegM w B p1 p2 p3 p4 X1 X2 X3 X4 W.drew:=⟨Vw h.1 1,h.2⟩
theorem RegM.store {w W} {B p1 p2 p3 p4} {X1 X2 X3 X4} (h:RegM w B p1 p2 p3 p4 X1 X2 X3 X4 W) (d) (Q:B<=d) (a:p1≠d) (i:p2≠d) (o:p3≠d) (s:p4≠d) (cs):RegM w B p1 p2 p3 p4 X1 X2 X3 X4 (W.setRow d cs):=by
 obtain⟨E,I,J,L,O⟩:=h;exact⟨below_setRow E Q _,(Vl _ _ _ _ a).trans I,(Vl _ _ _ _ i).trans J,(Vl _ _ _ _ o).trans L,(Vl _ _ _ _ s).trans O⟩
theorem range2 {w:World} {b} {x0 x1} {t} {fr} (h:w.heap[b]?=some (.cells #[x0,x1] t fr)):w.rangeAt b 0 [x0,x1]:=by
 intro j v a;rw[cr9 _ h]
 match j with
 |0=>simpa using a
 |1=>simpa using a
 |j+2=>simp at a
theorem rows3 (w:World) (X Y Z) (t):Below w w (((w.alloc (.cells X t)).alloc (.cells Y t)).alloc (.cells Z t))/\(((w.alloc (.cells X t)).alloc (.cells Y t)).alloc (.cells Z t)).heap[w.heap.size]?=some (.cells X t (0,0))/\(((w.alloc (.cells X t)).alloc (.cells Y t)).alloc (.cells Z t)).heap[w.heap.size+1]?=some (.cells Y t (0,0))/\(((w.alloc (.cells X t)).alloc (.cells Y t)).alloc (.cells Z t)).heap[w.heap.size+2]?=some (.cells Z t (0,0))/\(((w.alloc (.cells X t)).alloc (.cells Y t)).alloc (.cells Z t)).heap.size=w.heap.size+3:=by
 refine⟨((bR.alloc lR _).alloc sP _).alloc sO _,?_,?_,?_,sP⟩
 ·rw[VD _ _ _ sO,VD _ _ _ sP];exact Vh w _
 ·rw[VD _ _ _ sP]
  have:=Vh (w.alloc (.cells X t)) (.cells Y t)
  rwa [show(w.alloc (.cells X t)).heap.size=w.heap.size+1 by simp] at this
 ·have:=Vh ((w.alloc (.cells X t)).alloc (.cells Y t)) (.cells Z t)
  rwa [show((w.alloc (.cells X t)).alloc (.cells Y t)).heap.size=w.heap.size+2 by simp] at this
theorem rows2 (w:World) (X Y) (t):Below w w ((w.alloc (.cells X t)).alloc (.cells Y t))/\((w.alloc (.cells X t)).alloc (.cells Y t)).heap[w.heap.size]?=some (.cells X t (0,0))/\((w.alloc (.cells X t)).alloc (.cells Y t)).heap[w.heap.size+1]?=some (.cells Y t (0,0))/\((w.alloc (.cells X t)).alloc (.cells Y t)).heap.size=w.heap.size+2:=by
 refine⟨(bR.alloc lR _).alloc sP _,?_,?_,sP⟩
 ·rw[VD _ _ _ sP];exact Vh w _
 ·have:=Vh (w.alloc (.cells X t)) (.cells Y t)
  rwa [show(w.alloc (.cells X t)).heap.size=w.heap.size+1 by simp] at this
def Reg (w:World) (L:List (Nat × Array Value × TypeId)) (W:World):Prop :=
 Below w w W/\∀x∈L,W.heap[x.1]?=some (.cells x.2.1 x.2.2 (0,0))
theorem Reg.get {w W} {L} (h:Reg w L W) {b} {X} {t} (a:(b,X,t)∈L):W.heap[b]?=some (.cells X t (0,0)):=h.2 _ a
theorem Reg.step {w W W'} {L} (h:Reg w L W) (a:Below W W W'):Reg w L W' :=
 ⟨h.1.trans (a.mono h.1.size),fun x i=>(a.block _ (Vq (h.2 x i))).trans (h.2 x i)⟩
theorem Reg.drew {w W} {L} (h:Reg w L W):Reg w L W.drew:=⟨Vw h.1 1,h.2⟩
theorem Reg.store {w W} {L} (h:Reg w L W) (d:Nat) (o:w<=d) (a:∀x∈L,x.1≠d) (cs):Reg w L (W.setRow d cs) :=
 ⟨below_setRow h.1 o _,fun x i=>(Vl _ _ _ _ (a x i)).trans (h.2 x i)⟩
theorem Reg.lt {w W} {L} (h:Reg w L W) {b} {X} {t} (a:(b,X,t)∈L):b<W:=Vq (h.2 _ a)
theorem a0I (w:World) (X) (t):Below w w (w.alloc (.cells X t))/\(w.alloc (.cells X t)).heap[w.heap.size]?=some (.cells X t (0,0))/\(w.alloc (.cells X t)).heap.size=w.heap.size+1 :=
 ⟨bR.alloc lR _,Vh w _,sP⟩
theorem a1m (w:World) (X Y) (t s):Below w w ((w.alloc (.cells X t)).alloc (.cells Y s))/\((w.alloc (.cells X t)).alloc (.cells Y s)).heap[w.heap.size]?=some (.cells X t (0,0))/\((w.alloc (.cells X t)).alloc (.cells Y s)).heap[w.heap.size+1]?=some (.cells Y s (0,0))/\((w.alloc (.cells X t)).alloc (.cells Y s)).heap.size=w.heap.size+2:=by
 refine⟨(bR.alloc lR _).alloc sP _,?_,?_,sP⟩
 ·rw[VD _ _ _ sP];exact Vh w _
 ·have:=Vh (w.alloc (.cells X t)) (.cells Y s)
  rwa [show(w.alloc (.cells X t)).heap.size=w.heap.size+1 by simp] at this
theorem a3w (w:World) (X Y Z) (t s r):Below w w (((w.alloc (.cells X t)).alloc (.cells Y s)).alloc (.cells Z r))/\(((w.alloc (.cells X t)).alloc (.cells Y s)).alloc (.cells Z r)).heap[w.heap.size]?=some (.cells X t (0,0))/\(((w.alloc (.cells X t)).alloc (.cells Y s)).alloc (.cells Z r)).heap[w.heap.size+1]?=some (.cells Y s (0,0))/\(((w.alloc (.cells X t)).alloc (.cells Y s)).alloc (.cells Z r)).heap[w.heap.size+2]?=some (.cells Z r (0,0))/\(((w.alloc (.cells X t)).alloc (.cells Y s)).alloc (.cells Z r)).heap.size=w.heap.size+3:=by
 obtain⟨E,I,J,L⟩:=a1m w X Y t s;obtain⟨a,i,o⟩:=a0I ((w.alloc (.cells X t)).alloc (.cells Y s)) Z r;rw[L] at i o;exact⟨E.trans (a.mono E.size),(a.block _ oM).trans I,(a.block _ oM).trans J,i,o⟩
theorem nw1 (w:World) (X) (t):∃W,W=w.alloc (.cells X t)/\Below w w W/\W.heap[w.heap.size]?=some (.cells X t (0,0))/\(W:Nat)=w+1:=⟨_,rfl,a0I w X t⟩
theorem nw2 (w:World) (X Y) (t s):∃W,W=(w.alloc (.cells X t)).alloc (.cells Y s)/\Below w w W/\W.heap[w.heap.size]?=some (.cells X t (0,0))/\W.heap[w.heap.size+1]?=some (.cells Y s (0,0))/\(W:Nat)=w+2:=⟨_,rfl,a1m w X Y t s⟩
def Mk (a W:World) (b:Bool) (v:Value) (p:Nat) (X:AV) (T:TypeId):Prop :=
 b->v=.pointer (some ⟨p,0,none⟩)/\a<=p/\W.heap[p]?=some (.cells X T (0,0))
theorem Mk.step {W0 W W'} {b} {v} {p} {X} {T} (h:Mk W0 W b v p X T) (i:Below W W W'):Mk W0 W' b v p X T :=
 fun a=>⟨(h a).1,(h a).2.1,gbox (h a).2.2 i (Vq (h a).2.2)⟩
theorem ropt {P} {ops} {Q} {s:Region.Mode} {S} {fuel} {listed} {a} {w} {b} {i} {rs}
  (h:b=false->AllReadyH P s ops Q S fuel listed a w [i]) (E:AllReadyH P s ops Q S fuel listed a w rs):AllReadyH P s ops Q S fuel listed a w (cond b [] [i]++rs):=by
 cases b
 ·intro j o
  rcases Yt.1 o with rfl|o
  ·exact h rfl _ (XN ..)
  ·exact E j o
 ·exact E
open Go.Proofs.Tryz
def RowsAt {α:Type} (f:α->List Value) (sz:Nat) (w:World) (B:Nat) (A:OA) (l:List α):Prop :=
 l=[]∨∃b o,A=some ⟨b,o,none⟩/\b<B/\∀k (h:k<l.length),w.rangeAt b (o+k*sz) (f l[k])
section
variable {α:Type} {f:α->List Value} {sz:Nat} {w w':World} {B C:Nat} {A:Option Addr} {l:List α}
theorem RowsAt.below (h:RowsAt f sz w B A l) (s:Below C w w') (i:B<=C):RowsAt f sz w' B A l:=by
 rcases h with h|⟨b,o,e,a,E⟩
 ·exact .inl h
 ·exact .inr ⟨b,o,e,a,fun k I j v hv=>(s.cell (p:=⟨b,_,none⟩) (Xg a i)).trans (E k I j v hv)⟩
theorem RowsAt.more (h:RowsAt f sz w B A l) (i:B<=C):RowsAt f sz w C A l:=by
 rcases h with h|⟨b,o,e,s,a⟩
 ·exact .inl h
 ·exact .inr ⟨b,o,e,oM,a⟩
theorem RowsAt.kept {row:Option Nat} (h:RowsAt f sz w w A l) (i:w.grownBy w' row) (a:∀b o,A=some ⟨b,o,none⟩->some b≠row):RowsAt f sz w' w' A l:=by
 rcases h with h|⟨b,o,e,s,E⟩
 ·exact .inl h
 ·exact .inr ⟨b,o,e,Xg s i.size,fun k I j v hv=>(World.cell?_of_block (w:=w) (i.block b s (a b o e))).trans (E k I j v hv)⟩
theorem RowsAt.at_ (h:RowsAt f sz w w A l) (a:Below w w w'):RowsAt f sz w' w' A l:=(h.below a lR).more a.size
theorem RowsAt.look (h:RowsAt f sz w B A l) {k} (a:k<l.length):∃b o,A=some ⟨b,o,none⟩/\b<B/\w.rangeAt b (o+k*sz) (f l[k]):=by
 rcases h with h|⟨b,o,e,s,i⟩
 ·subst h;simp at a
 ·exact⟨b,o,e,s,i k a⟩
end
theorem a2j {w:World} {b o} {cs} (h:w.rangeAt b o cs) (j) (v) (hv:cs[j]?=some v):w.cell? ⟨b,o+j,none⟩=some v:=h j v hv
theorem a1S {α:Type} {l:List α} {k} {P:α->Prop} (o:k<l.length) (h:∀a∈l.take k,P a) (s:P l[k]):∀a∈l.take (k+1),P a:=by
 intro a i;rw[tse o,V9,VY] at i
 rcases i with i|rfl
 ·exact h a i
 ·exact s
open Go.Maps in
theorem intLaw:Maps.Keyed prog 3:=int_keyed YM
def SetAt (w:World) (b:Nat) (p:LI):Prop :=
 ∃f,MapAt w prog 3 b p.length f/\∀x,f (.int .i64 x)=if x∈p then some (.bool true) else none
section
variable {w w':World} {b B:Nat} {p:List Int}
theorem SetAt.lt (h:SetAt w b p):b<w:=by obtain⟨f,h,_⟩:=h;exact h.lt
theorem SetAt.below (h:SetAt w b p) (i:Below B w w') (a:b<B):SetAt w' b p:=by obtain⟨f,h,r⟩:=h;exact⟨f,h.below i a,r⟩
theorem SetAt.kept {row:Option Nat} (h:SetAt w b p) (i:w.grownBy w' row) (a:some b≠row):SetAt w' b p:=by obtain⟨f,h,r⟩:=h;exact⟨f,h.kept i a,r⟩
theorem SetAt.alloc (h:SetAt w b p) (o):SetAt (w.alloc o) b p:=by obtain⟨f,h,r⟩:=h;exact⟨f,h.alloc o,r⟩
theorem SetAt.made (w:World):SetAt (w.alloc (.map #[] 0)) w []:=⟨_,MapAt.made w _ _,fun x=>sP⟩
open Go.Maps in
theorem SetAt.look (h:SetAt w b p) (x) (o:(Lit.int .i64 x).wf):(Instr.lookup 209 (.map (some b)) (.int .i64 x) false).run prog w=.ok (.bool (decide (x∈p))) w:=by
 obtain⟨f,i,a⟩:=h;have s:(zeroValue 4).run prog w=.ok (.bool false) w:=kR;rw[i.lookup intLaw JQ s (keyOf_int_mk YM o),a]
 by_cases h:x∈p <;> simp[h]
open Classical in
theorem a7K {f:Value->Option Value} (i:∀x,f (.int .i64 x)=if x∈p then some (.bool true) else none) (c) :
  ∀x,(fun v=>if v=.int .i64 c then some (Value.bool true) else f v) (.int .i64 x)=if x∈p++[c] then some (.bool true) else none:=by
 intro x;show(if _ then _ else f _)=_
 by_cases h:x=c
 ·subst h;rw[Vt rfl,Vt sP]
 ·rw[VB (by simp[h]),i]
  by_cases a:x∈p <;> simp[h,a]
end
def Acc.wf (a:Acc):Prop:=(Lit.int .i64 a.code).wf/\(Lit.int .i64 a.kind).wf/\(Lit.int .i64 a.basis).wf/\(Lit.int .i64 a.parent).wf
abbrev AccsAt:=RowsAt Acc.cells 4
theorem AccsAt.four {w} {B} {A} {l} (h:AccsAt w B A l) {k} (s:k<l.length):∃b o,A=some ⟨b,o,none⟩/\b<B/\w.cell? ⟨b,o+k*4,none⟩=some (.int .i64 l[k].code)/\w.cell? ⟨b,o+k*4+1,none⟩=some (.int .i64 l[k].kind)/\w.cell? ⟨b,o+k*4+2,none⟩=some (.int .i64 l[k].basis)/\w.cell? ⟨b,o+k*4+3,none⟩=some (.int .i64 l[k].parent):=by
 obtain⟨b,o,e,i,a⟩:=RowsAt.look h s;exact⟨b,o,e,i,a 0 _ rfl,a 1 _ rfl,a 2 _ rfl,a 3 _ rfl⟩
theorem a0F:(prog.info? 113).map (·.size)=some 4:=kR
theorem accOne (a b c d:Int):(#[a,b,c,d]:AV).all (·.oneCell'):=oC
theorem a1u (A) (n c) (l) (x:Int) (hl:l.length=n) (hn:n<=100000) (h:AccsAt w w A l) :
  CL 111 #[.slice A n c,x] w (.tuple #[(Ch.found l x),.bool (Ch.has l x)]):=by
 subst hl;have Q:=(VM w w).alloc lR (.cells #[(),(),(),()] 113);have T:=Vh w (.cells #[(),(),(),()] 113);go_enter func111,ntmps111;go_wp2
 go_loopw [6] (fun i wr=>∃k:Nat,k<=l.length/\i=k/\Ch.find (l.take k) x=none/\Below w w wr/\wr.heap[w.heap.size]?=some (.cells #[(),(),(),()] 113 (0,0))) (fun i _=>l.length-(intOf i).toNat)
 case atStart=>exact⟨0,Vb _,rfl,rfl,Q,T⟩
 case round =>
  obtain⟨k,hk,rfl,W,X,hZ⟩:=hrel;have E:=Z1 W;have O:=Z1 hZ;clear W hZ Q T
  by_cases J:k<l.length
  ·obtain⟨b,o,rfl,_,c0,c1,c2,c3⟩:=AccsAt.four (h.below X lR) J
   by_cases L:l[k].code=x
   ·have s:=Ch.find_hit J E L
    have HF:Hid (Ch.found l x=l[k]):=by show _=_;simp[Ch.found,s]
    have HH:Hid (Ch.has l x):=by show _=_;simp[Ch.has,s]
    have a0:(l[k].code==x):=by simp[L]
    have Ho:=Z1 (accOne l[k].code l[k].kind l[k].basis l[k].parent);have S:=VC wr w _ (l[k]) _ _ O;have a:=Z1 (VW (P:=prog) _ _ _ 113 _ _ _ S YK rfl a0F);have I:=Z1 (below_setRow X lR (l[k]));clear s L S;go_wp2_with (refine Vz rfl 113 (.tmp 4) (.tmp 23) none rfl rfl w.heap.size 113 _ (l[k]) rfl rfl O rfl a0F Ho ?_);exact VG (v:=.tuple #[(l[k]),true]) (by simp[results,results111,asAddr,Act.put,a.out]) rfl ⟨by rw[HF,HH],I.out⟩
   ·have a0:(l[k].code==x)=false:=by simp[L]
    have s:Hid (Ch.find (l.take (k+1)) x=none):=by show _=_;rw[Ch.find_take J E,VB L]
    clear L;go_wp2;go_roundw
    case rel=>exact⟨k+1,oM,by go_num,s.out,X,O⟩
    case measure=>exact mS
  ·obtain rfl:k=l.length:=oM
   have s:Ch.find l x=none:=by have:=E.out;rwa [Xs] at this
   have HF:Hid (Ch.found l x=Acc.zero):=by show _=_;simp[Ch.found,s]
   have HH:Hid (Ch.has l x=false):=by show _=_;simp[Ch.has,s]
   have Ho:=Z1 (accOne 0 0 0 0);have S:=VC wr w _ #[(),(),(),()] _ _ O;have a:=Z1 (VW (P:=prog) _ _ _ 113 _ _ _ S YK rfl a0F);have I:=Z1 (below_setRow X lR #[(),(),(),()]);clear s S h;go_wp2_with (refine Vz rfl 113 (.tmp 4) (.tmp 24) none rfl rfl w.heap.size 113 _ #[(),(),(),()] rfl rfl O rfl a0F Ho ?_);exact VG (v:=.tuple #[.agg #[(),(),(),()],false]) (by simp[results,results111,asAddr,Act.put,a.out]) rfl ⟨by rw[HF,HH];rfl,I.out⟩
theorem a0Q (A) (n c) (l) (x:Int) (hl:l.length=n) (hn:n<=100000) (h:AccsAt w w A l) :
  CL 197 #[.slice A n c,x] w (.tuple #[(Ch.found l x),.bool (Ch.has l x)]):=by
 subst hl;have T:=(VM w w).alloc lR (.cells #[(),(),(),()] 113);have X:=Vh w (.cells #[(),(),(),()] 113);go_enter func197,ntmps197;go_wp2
 go_loopw [10] (fun i wr=>∃k:Nat,k<=l.length/\i=k/\Ch.find (l.take k) x=none/\Below w w wr/\wr.heap[w.heap.size]?=some (.cells #[(),(),(),()] 113 (0,0))) (fun i _=>l.length-(intOf i).toNat)
 case atStart=>exact⟨0,Vb _,rfl,rfl,T,X⟩
 case round =>
  obtain⟨k,hk,rfl,a4,L,hZ⟩:=hrel;have E:=Z1 a4;have Q:=Z1 hZ;clear a4 hZ T X
  by_cases J:k<l.length
  ·obtain⟨b,o,rfl,_,c0,c1,c2,c3⟩:=AccsAt.four (h.below L lR) J
   have a0:=Vq Q
   by_cases O:l[k].code=x
   ·have s:=Ch.find_hit J E O
    have HF:Hid (Ch.found l x=l[k]):=by show _=_;simp[Ch.found,s]
    have HH:Hid (Ch.has l x):=by show _=_;simp[Ch.has,s]
    have a5:(l[k].code==x):=by simp[O]
    have Ho:=Z1 (accOne l[k].code l[k].kind l[k].basis l[k].parent);have S:=Z1 ((VD wr (.cells (l[k]) 113) _ a0).trans Q);have W:=VC (wr.alloc (.cells (l[k]) 113)) w _ (l[k]) _ _ S;have a:=Z1 (VW (P:=prog) _ _ _ 113 _ _ _ W YK rfl a0F);have I:=Z1 (below_setRow (L.alloc L.size (.cells (l[k]) 113)) lR (l[k]));clear s O W;go_wp2_with (refine Vz rfl 113 (.tmp 4) (.tmp 18) none rfl rfl w.heap.size 113 _ (l[k]) rfl rfl S rfl a0F Ho ?_);exact VG (v:=.tuple #[(l[k]),true]) (by simp[results,results197,asAddr,Act.put,a.out]) rfl ⟨by rw[HF,HH],I.out⟩
   ·have a5:(l[k].code==x)=false:=by simp[O]
    have s:Hid (Ch.find (l.take (k+1)) x=none):=by show _=_;rw[Ch.find_take J E,VB O]
    clear O;go_wp2;go_roundw
    case rel=>exact⟨k+1,oM,by go_num,s.out,L.alloc L.size _,(VD wr _ _ a0).trans Q⟩
    case measure=>exact mS
  ·obtain rfl:k=l.length:=oM
   have s:Ch.find l x=none:=by have:=E.out;rwa [Xs] at this
   have HF:Hid (Ch.found l x=Acc.zero):=by show _=_;simp[Ch.found,s]
   have HH:Hid (Ch.has l x=false):=by show _=_;simp[Ch.has,s]
   have Ho:=Z1 (accOne 0 0 0 0);have W:=VC wr w _ #[(),(),(),()] _ _ Q;have a:=Z1 (VW (P:=prog) _ _ _ 113 _ _ _ W YK rfl a0F);have I:=Z1 (below_setRow L lR #[(),(),(),()]);clear s W h;go_wp2_with (refine Vz rfl 113 (.tmp 4) (.tmp 20) none rfl rfl w.heap.size 113 _ #[(),(),(),()] rfl rfl Q rfl a0F Ho ?_);exact VG (v:=.tuple #[.agg #[(),(),(),()],false]) (by simp[results,results197,asAddr,Act.put,a.out]) rfl ⟨by rw[HF,HH];rfl,I.out⟩
abbrev LinsAt:=RowsAt Lin.cells 3
def Lin.wf (x:Lin):Prop:=(Lit.int .i64 x.acct).wf/\(-1125899906842624<=x.amt/\x.amt<=1125899906842624)/\(Lit.int .i64 x.prt).wf
structure EtC.wf (x:EtC):Prop where
 hid:(Lit.int .i64 x.id).wf
 hda:(Lit.int .i64 x.date).wf
 hof:(Lit.int .i64 x.of_).wf
 htx:x.text.size<=maxLen
 hln:x.lines.length<=60
 hlw:∀l∈x.lines,l.wf
structure Etr.At (w:World) (B:Nat) (x:Etr):Prop where
 hl:x.c.lines.length=x.ln
 hA:LinsAt w B x.lA x.c.lines
 hw:x.c.wf
theorem Etr.At.below {w w'} {B C} {x:Etr} (h:x.At w B) (i:Below C w w') (a:B<=C):x.At w' B:=⟨h.hl,RowsAt.below h.hA i a,h.hw⟩
theorem Etr.At.more {w} {B C} {x:Etr} (h:x.At w B) (a:B<=C):x.At w C:=⟨h.hl,RowsAt.more h.hA a,h.hw⟩
theorem Etr.At.at_ {w w'} {x:Etr} (h:x.At w w) (a:Below w w w'):x.At w' w'.heap.size:=(h.below a lR).more a.size
theorem a1a:(prog.info? 66).map (·.size)=some 3:=kR
theorem a0v:(prog.info? 46).map (·.size)=some 7:=kR
theorem LinsAt.three {w} {B} {A} {l} (h:LinsAt w B A l) {k} (a:k<l.length):∃b o,A=some ⟨b,o,none⟩/\b<B/\w.rangeAt b (o+k*3) (l[k]):=RowsAt.look h a
namespace Jr
theorem total_take {l:List Lin} {k} (a:k<l.length):total (l.take (k+1))=total (l.take k)+l[k].amt:=by
 unfold total;rw[tse a,Xn,List.sum_append];simp
theorem total_bd:∀(l:List Lin),(∀x∈l,x.wf)->-(1125899906842624*(l.length:Int))<=total l/\total l<=1125899906842624*(l.length:Int)
 |[],_=>by simp[total]
 |x::l,h=>by
  have i:=total_bd l fun y a=>h y (XZ _ a);have o:=(h x XN).2.1;have e:total (x::l)=x.amt+total l:=by simp[total]
  rw[e];simp only[Xl];omega
def oppT (l m:List Lin) (k:Nat):Bool:=opposite (l.take k) (m.take k)
theorem a7O:∀(l m:List Lin) (a b:Lin),l.length=m.length->opposite (l++[a]) (m++[b])=(opposite l m&&oppL a b)
 |[],[],a,b,_=>by simp[opposite]
 |x::l,y::m,a,b,h=>by simp only[XM,opposite,a7O l m a b (by simpa using h),Bool.and_assoc]
theorem oppT_succ {l m} {k} (a:k<l.length) (i:k<m.length):oppT l m (k+1)=(oppT l m k&&oppL l[k] m[k]):=by
 unfold oppT;rw[tse a,tse i,a7O _ _ _ _ sO]
theorem opp_len:∀(l m:List Lin),l.length≠m.length->opposite l m=false
 |[],[],h=>by simp at h
 |[],_::_,_=>rfl
 |_::_,[],_=>rfl
 |x::l,y::m,h=>by simp only[opposite];rw[opp_len l m (by simpa using h),Yc]
theorem opp_bad:∀(l m:List Lin) (k:Nat) (a:k<l.length) (i:k<m.length),oppL l[k] m[k]=false->opposite l m=false
 |x::l,y::m,0,_,_,h=>by simp only[opposite];simp at h;rw[h];rfl
 |x::l,y::m,k+1,a,i,h=>by simp only[opposite];rw[opp_bad l m k (by simpa using a) (by simpa using i) (by simpa using h),Yc]
end Jr
theorem b0e (s) (O:s.size<=maxLen):Calls prog 223 #[.string s] w fun e w'=>e=.returned (.bool (Jr.plain s))/\w=w':=by
 unfold maxLen at O;have E:s.data.toList.length=s.size:=sP;go_enter func223,ntmps223;go_wp2
 go_loop [6] (fun i=>∃k:Nat,k<=s.size/\i=k/\(s.data.toList.take k).all Jr.print) (fun i=>s.size-(intOf i).toNat)
 case atStart=>exact⟨0,Vb _,rfl,rfl⟩
 case round =>
  obtain⟨k,T,rfl,J⟩:=hrel;have I:=Z1 J;clear J
  by_cases L:k<s.size
  ·have o:s.data.toList[k]' oM=s[k]:=rfl
   by_cases Q:(s[k].toNat:Int)<32
   ·have a:Hid (Jr.plain s=false):=by
     show Jr.plain s=false;unfold Jr.plain;rw[Gr.allMiss _ _ k oM (by rw[o];unfold Jr.print;simp only[YF];omega)];rfl
    clear o;go_wp2;go_ret;exact⟨VV a.out.symm,rfl⟩
   ·by_cases S:126<(s[k].toNat:Int)
    ·have a:Hid (Jr.plain s=false):=by
      show Jr.plain s=false;unfold Jr.plain;rw[Gr.allMiss _ _ k oM (by rw[o];unfold Jr.print;simp only[YF];omega)];rfl
     clear o;go_wp2;go_ret;exact⟨VV a.out.symm,rfl⟩
    ·have a:Hid ((s.data.toList.take (k+1)).all Jr.print):=by
      show _=true;rw[Gr.allTake _ _ k oM,I,o];unfold Jr.print;simp;omega
     clear o;go_wp2
     go_round
     case rel=>exact⟨k+1,oM,by go_num,a.out⟩
     case measure=>exact mS
  ·obtain rfl:k=s.size:=oM
   have a:Hid (Jr.plain s=decide (s.size<=80)):=by
    show _=_;have h:=I.out;rw[Vg oM] at h;unfold Jr.plain;rw[h,Y7]
   clear E;go_wp2;go_ret;refine⟨VV ?_,rfl⟩;rw[a.out,XX];simp;omega
theorem b2R (A) (n c) (l) (W:l.length=n) (hn:n<=60) (hw:∀x∈l,x.wf) (h:LinsAt w w A l) :
  CL 225 #[.slice A n c] w (Jr.total l):=by
 have HW:=Z1 hw;have T:=Z1 W;clear hw W;go_enter func225,ntmps225;go_wp2
 go_loopw [3,8] (fun s i wr=>∃k:Nat,k<=n/\i=k/\s=.int .i64 (Jr.total (l.take k))/\Below w w wr) (fun _ i _=>n-(intOf i).toNat)
 case atStart=>exact⟨0,Vb _,rfl,rfl,bR⟩
 case round =>
  obtain⟨k,hk,rfl,rfl,J⟩:=hrel
  by_cases a0:k<n
  ·have I:k<l.length:=by have:=T.out;omega
   obtain⟨b,o,rfl,_,Q⟩:=LinsAt.three (RowsAt.below h J lR) I;obtain⟨x,L⟩:=eX (l[k]);rw[<- L] at Q;have a:=Z1 (Jr.total_take I);have E:=Jr.total_bd (l.take (k+1)) fun y hy=>HW y (ZV hy);rw[a,<- L] at E;rw[<- L] at a;simp only[XF] at E;have O:-67553994410557440<=Jr.total (l.take k)+x.amt/\Jr.total (l.take k)+x.amt<=67553994410557440:=oM;obtain⟨t,X⟩:=eX (Jr.total (l.take k));rw[<- X] at O a⊢;have Hr:=Z1 Q;clear Q L E X h;go_wp2_with (refine VH rfl 66 (.tmp 10) rfl b (o+k*3) rfl x _ Hr Zx rfl a1a ?_);go_roundw
   case rel=>exact⟨k+1,oM,by go_num,by rw[a],J.alloc J.size _⟩
   case measure=>exact mS
  ·obtain rfl:k=n:=oM
   have S:l.take k=l:=Vg (by have:=T.out;omega);rw[S];go_wp2;go_ret;exact⟨rfl,J⟩
theorem b2m (x y:Lin) (hy:y.wf):CL 227 #[x,y] w (Jr.oppL x y):=by
 obtain⟨o,_,_,_⟩:=a1m w x y 66 66;have I:=Z1 o;have Q:=hy.2.1;have s:Hid (Jr.oppL x y=decide (x.acct=y.acct/\x.prt=y.prt/\x.amt=-y.amt)):=by show _=_;rfl
 clear o hy
 by_cases a:x.acct=y.acct
 ·by_cases i:x.prt=y.prt
  ·have J:(x.acct==y.acct):=by simp[a]
   have O:(x.prt==y.prt):=by simp[i]
   have E:=Z1 a;have L:=Z1 i;clear a i;go_enter func227,ntmps227;go_wp2;go_ret;refine⟨VV ?_,I.out⟩;rw[s,XX];have:=E.out;have:=L.out;simp[*]
  ·have J:(x.acct==y.acct):=by simp[a]
   have O:(x.prt==y.prt)=false:=by simp[i]
   have E:Hid (Jr.oppL x y=false):=by show _=_;rw[s];simp[i]
   clear a i;go_enter func227,ntmps227;go_wp2;go_ret;exact⟨VV E.out.symm,I.out⟩
 ·have J:(x.acct==y.acct)=false:=by simp[a]
  have E:Hid (Jr.oppL x y=false):=by show _=_;rw[s];simp[a]
  clear a;go_enter func227,ntmps227;go_wp2;go_ret;exact⟨VV E.out.symm,I.out⟩
theorem b0Z (A A') (n c n' c') (l m) (hl:l.length=n) (hn:n<=60) (S:m.length=n') (ae:n'<=60) (hw:∀x∈m,x.wf) (h:LinsAt w w A l) (h':LinsAt w w A' m) :
  CL 226 #[.slice A n c,.slice A' n' c',.func (.func 227) #[] #[]] w (Jr.opposite l m):=by
 obtain⟨HW,Hl,a0,H,H'⟩:=Z5 hw hl S h h';clear hw h h'
 by_cases af:n=n'
 case neg =>
  have ak:((n:Int) != (n':Int)):=sO;have HV:=Z1 (Jr.opp_len l m oM);clear hl S;go_enter func226,ntmps226;go_wp2;go_ret;exact⟨VV HV.symm,bR⟩
 subst af;clear hl S ae;go_enter func226,ntmps226;go_wp2
 go_loopw [17] (fun i wr=>∃k:Nat,k<=n/\i=k/\Jr.oppT l m k/\Below w w wr) (fun i _=>n-(intOf i).toNat)
 case atStart=>exact⟨0,Vb _,rfl,by unfold Jr.oppT;rfl,bR⟩
 case round =>
  obtain⟨k,hk,rfl,L,X⟩:=hrel;have HT:=Z1 L;clear L
  by_cases aj:k<n
  ·have Q:k<l.length:=by have:=Hl.out;omega
   have s:k<m.length:=by have:=a0.out;omega
   obtain⟨b,o,rfl,_,hr⟩:=LinsAt.three (RowsAt.below H X lR) Q;obtain⟨b',o',rfl,ai,T⟩:=LinsAt.three (RowsAt.below H' X lR) s;have E:=HW.out _ (Vm s);obtain⟨x,hx⟩:=eX (l[k]);obtain⟨y,hy⟩:=eX (m[k]);have Hs:=Z1 (Jr.oppT_succ Q s);have I:=Z1 (Jr.opp_bad l m k Q s);rw[<- hx] at hr;rw[<- hy] at T E;rw[<- hx,<- hy] at Hs I;have Hr:=Z1 hr;obtain⟨a5,ag,ah⟩:=a0I wr x 66;have ab:=Z1 (fun(j:Nat) (v:Value) (hj:(y:List Value)[j]?=some v)=>(a5.cell (p:=⟨b',o'+k*3+j,none⟩) (by have:=X.size;show b'<_;omega)).trans (T j v hj));obtain⟨J,W,a,a8⟩:=a1m wr x y 66 66;obtain⟨Wb,O⟩:=eX (((wr.alloc (.cells x 66)).alloc (.cells y 66)));rw[<- O] at J W a a8;have aa:=Z1 O;have a6:=X.trans (J.mono X.size);have ac:=Z1 W;have a4:=Z1 a;clear hr T hx hy ag O W a a5 ah J a8;go_upto_region 7 with(first|(refine VH rfl 66 (.tmp 20) rfl b (o+k*3) rfl x _ Hr Zx rfl a1a ?_)|(refine VH rfl 66 (.tmp 24) rfl b' (o'+k*3) rfl y _ ab Zx rfl a1a ?_));rw[<- aa];go_wp2_with (first|(refine Vd rfl 66 (.tmp 8) rfl _ rfl _ _ _ _ ac Zx rfl a1a ?_)|(refine Vd rfl 66 (.tmp 9) rfl _ rfl _ _ _ _ a4 Zx rfl a1a ?_));refine(b2m Wb x y E).mono ?_;rintro e W2 ⟨rfl,ad⟩;have a7:=a6.trans (ad.mono a6.size)
   cases ho:Jr.oppL x y with
   |true =>
    have a9:Hid (Jr.oppT l m (k+1)):=by show _=_;rw[Hs,HT,ho];rfl
    clear ho E;go_wp2;go_roundw
    case rel=>exact⟨k+1,oM,by go_num,a9,a7⟩
    case measure=>exact mS
   |false =>
    have HV:=Z1 (I ho);clear ho E;go_wp2;go_ret;exact⟨VV HV.symm,a7⟩
  ·obtain rfl:k=n:=oM
   have L:=HT.out;unfold Jr.oppT at L;rw[Vg (by have:=Hl.out;omega),Vg (by have:=a0.out;omega)] at L;have HV:=Z1 L;clear L;go_wp2;go_ret;exact⟨VV HV.symm,X⟩
theorem b3V (A A') (n c n' c') (l m) (E:l.length=n) (J:n<=60) (a:m.length=n') (o:n'<=60) (I:∀x∈m,x.wf) (h:LinsAt w w A l) (s:LinsAt w w A' m) :
  CL 172 #[.slice A n c,.slice A' n' c'] w (Jr.opposite l m):=by
 have H:=Z1 (b0Z w A A' n c n' c' l m E J a o I h s);clear h s I E a;go_enter func172,ntmps172;go_wp2_with (fail);refine H.mono ?_;rintro e L ⟨rfl,i⟩;go_wp2;go_ret;exact⟨rfl,i⟩
theorem a0w {P} {I:Region.Mode} {ops} {Q} {S} {fuel} {listed} {a} {w}
  (h:∀(o:Region.Mode) (i:Array Oper) (s:Exit->Act->World->Prop) (E:Act),o=I->i=ops->s=Q->E=a->wpAnyH P o i s S fuel listed E w):wpAnyH P I ops Q S fuel listed a w:=h _ _ _ _ rfl rfl rfl rfl
theorem b1q {T e} {B b} {bs} {w w'} (h:Lib.IsBuilder T e B b bs w) (a:Below w w w'):Lib.IsBuilder T e B b bs w':=by
 have J:w.grownBy w' none:=⟨a.os,a.tape,a.output,a.size,fun i L _=>a.block i L⟩
 rcases h with⟨s,v,o,E,I⟩|⟨s,v,o,E,I⟩
 ·exact .inl ⟨s,v,(a.block b (Vq o)).trans o,E.kept J (by cases v.ownBlock <;> simp),I⟩
 ·exact .inr ⟨s,v,(a.block b (Vq o)).trans o,E.kept J (by cases v.ownBlock <;> simp),I⟩
theorem a6E (B b) (bs) (s) (w) (h:Lib.IsBuilder 124 5 B b bs w) (a:bs.length+s.size<=140737488355328) (i:B<=w) :
  Calls prog 52 #[.pointer (some ⟨b,0,none⟩),.string s] w fun e w'=>e=.returned (.tuple #[s.size,.nilIface])/\(Lib.BuilderAt 124 5 B b (.pointer (some ⟨b,0,none⟩)) (bs++Lib.strCells s) w'/\Below B w w') :=
 Any.Builder_WriteString { Tryz.lays105 with} Tryz.Builder_Extra_105 B b bs s w h a i
theorem a9X:∀c:Nat,Lib.repeatL [48] c=List.replicate c 48
 |0=>rfl
 |c+1=>by rw[Lib.repeatL,a9X c,Yj];rfl
theorem b2G (a:Nat):Lib.itoa (a:Int)=Lib.decDigits a:=by
 unfold Lib.itoa;rw[VB oM,ZZ]
theorem a6D (l m):Lib.byteCells l++Lib.strCells ⟨m.toArray⟩=Lib.byteCells (l++m):=by
 simp[Lib.byteCells,Lib.strCells]
abbrev Tab (B : Nat) (w : World) : Prop := Lib.TabBelow prog B w "internal/strconv.uint64pow10" .u64 Lib.pow10Tab
theorem a3K (k) (v) (z) (hk:k<=1000) (bq:0<=z) (h:PI w w k v z) (hT:Tab w w) :
  CL 26 #[v] w (.string ⟨(Lib.decDigits z.toNat).toArray⟩):=by
 obtain⟨neg,A,n,c,l,rfl,hl,hn,hc,hL,hN,hz,hA,hs⟩:=h.parts;have bj:neg=false:=by rcases hs with⟨_,e,_⟩|⟨_,e,_⟩|⟨_,_,e⟩;exact e;exact e;omega
 subst bj;obtain⟨w1,ab⟩:=eX (w.alloc (.cells #[false,.slice A n c] 50));have O:Below w w w1:=by rw[ab];exact bR.alloc lR _
 have a7:w1.heap[w.heap.size]?=some (.cells #[false,.slice A n c] 50 (0,0)):=by rw[ab];exact Vh w _
 have b6:=Z1 ab;have ai:=Z1 a7;have s1:=Vq a7;obtain⟨HL,HN,Hl,Hz,b2⟩:=Z5 hL hN hl hz (hA.at_ O lR);have c1:=cr9 1 a7;simp at c1;have b4:=Z1 ((hT.on O:Tab w w1));clear ab a7 hL hN hz hA hs h hT;go_enter func26,ntmps26;go_upto_region 1 with(fail);rw[<- b6]
 rcases Y0 n with h0|h0
 ·have av:l=[]:=List.length_eq_zero_iff.1 (by rw[Hl];exact h0)
  have b0:z=0:=by have:=Hz.out;rw[av] at this;simpa[Big.sgn,Big.val] using this
  have hd:Hid (Lib.decDigits z.toNat=[48]):=Z1 (by rw[b0];exact Dec.digits_small dC);subst h0;clear hl b0 av;go_wp2;go_ret;exact⟨by rw[hd.out];rfl,O⟩
 ·have bn:((n:Int)==0)=false:=sO
  obtain⟨w2,ac⟩:=eX (w1.alloc (.cells #[.pointer none,.slice none 0 0] 124));have al:Below w1 w1 w2:=by rw[ac];exact bR.alloc lR _
  have I:=Lib.fresh_isBuilder 124 5 w1;rw[<- ac] at I;obtain⟨b7,aq,b9,b3⟩:=Z4 ac I ((al.block _ s1).trans ai) al;clear ac I al;go_upto_region 4 with(fail);rw[<- b7];have am:=b9.out;have d1:=cr9 1 am;have d0:=cr9 0 am;simp at d1 d0;clear c1 am;go_wp2
  go_loopw [4] (fun iv wr=>∃t:Nat,t<=n/\iv=.int .i64 ((t:Int)-1)/\Lib.IsBuilder 124 5 w1 w1 (Lib.byteCells (Dec.text 9 ((l.drop t).map Int.toNat))) wr/\Below w1 w1 wr) (fun iv _=>(intOf iv+1).toNat)
  case atStart=>exact⟨n,lR,rfl,by rw[Yf (by rw[Hl];exact lR)];exact aq,b3⟩
  case round =>
   obtain⟨t,ht,rfl,I,a8⟩:=hrel;have af:=(a8.block _ s1).trans ai;have e1:=cr9 1 af;simp at e1;have ad:=Z1 I;have a4:=Z1 a8;have b1:=a8.size;clear I a8 af d1 d0 aq
   match t,ht with
   |0,_ =>
    go_wp2_with (fail);refine(Tryz.Builder_String_any w1 w1 _ wr ad b1).mono ?_;rintro e w4 ⟨rfl,Q⟩;have ay:=Dec.text_val (k:=9) (B:=1000000000) dC HL HN (by rw[Hl];exact h0);have bc:=Z1 ay;clear ay;go_wp2;go_ret;exact⟨by rw[bc,Hz];rfl,O.trans ((a4.out.trans Q).mono O.size)⟩
   |t+1,ht =>
    rw[show((t+1:Nat):Int)-1=(t:Int) by omega];have ap:t<l.length:=by rw[Hl];omega
    obtain⟨b,o,rfl,_,bh⟩:=(b2.at_ (w':=wr) (a4) lR).look ap;have hL:=HL.out.get t ap;obtain⟨a,ha⟩:=eX (l[t].toNat:Nat);have aw:l[t]=(a:Int):=oM;have bf:a<10 ^ 9:=oM;rw[aw] at bh;have Ha:=Z1 ha;have b8:=Z1 bf;have bo:(0:Int)<=(t:Int):=oM;have bp:(t:Int)<n:=oM;have a0:-9223372036854775808<=(a:Int):=oM;have a1:(a:Int)<=9223372036854775807:=oM;clear hL aw ha;go_wp2_with (fail);refine(Tryz.strconv_Itoa (a:Int) a0 a1 wr ((b4.on (a4.mono (XC s1))).here)).mono ?_;rintro e w3 ⟨rfl,kk,os,az⟩;rw[b2G];have a6:=Lib.below_grow wr wr lR kk os;rw[<- az] at a6;obtain⟨ds,a9⟩:=eX (Lib.decDigits a);rw[<- a9];have aa:=Dec.pad_fill 9 a oM b8;rw[<- a9] at aa;have bm:=aa.2;obtain⟨bb,ba,E⟩:=Z3 aa.1 a9 (a4.out.trans (a6.mono b1));have T:=(E.block _ s1).trans ai;have f1:=cr9 1 T;simp at f1;have s3:=Vq T;have ae:=Z1 (b1q ad a6);have bl:=E.out.size;have au:(l.drop t).map Int.toNat=a::(l.drop (t+1)).map Int.toNat:=by rw[XS ap,X5,<- Ha]
    have ar:=Z1 au
    have b5:Hid ((Dec.text 9 ((l.drop (t+1)).map Int.toNat)).length<=9000):=Z1 (by
     have h:=Dec.text_len 9 ((l.drop (t+1)).map Int.toNat) (fun x hx=>by
      rw[Yg] at hx;obtain⟨y,hy,rfl⟩:=hx;have:=HL.out y (List.mem_of_mem_drop hy);omega) oM
     rw[Xt,List.length_drop,Hl] at h;omega)
    clear az a6 aa a9 T au e1
    by_cases ag:t+1<n
    ·have bg:(t:Int)<(n:Int)-1:=oM
     go_wp2_with (fail);rw[show(9-(ds.length:Int))=((9-ds.length:Nat):Int) by omega];refine(Tryz.strings_Repeat ⟨#[48]⟩ (9-ds.length) w3 oM (by show 1*_<=_;omega)).mono ?_;rintro e W4 ⟨rfl,Q⟩;rw[show(⟨#[48]⟩:BA).data.toList=[48] from rfl,a9X];have J:=Z1 (E.out.trans (Q.mono bl));have L:=Z1 (b1q ae Q);have ah:=Z1 J.out.size;have ao:Dec.pad 9 a=List.replicate (9-ds.length) 48++ds:=bb;have an:(List.replicate (9-ds.length) (48:UInt8)++ds).length=9:=by rw[<- ao];exact Dec.pad_length 9 a
     have s:Hid ((Lib.byteCells (Dec.text 9 ((l.drop (t+1)).map Int.toNat))).length+ByteArray.size ⟨(List.replicate (9-ds.length) (48:UInt8)++ds).toArray⟩<=140737488355328):=Z1 (by
      have h1:=b5.out;have h2:ByteArray.size ⟨(List.replicate (9-ds.length) (48:UInt8)++ds).toArray⟩=9:=by rw[<- an];simp[ByteArray.size]
      have h3:(Lib.byteCells (Dec.text 9 ((l.drop (t+1)).map Int.toNat))).length=(Dec.text 9 ((l.drop (t+1)).map Int.toNat)).length:=by simp[Lib.byteCells]
      omega)
     have a5:Hid (Dec.text 9 ((l.drop t).map Int.toNat)=Dec.text 9 ((l.drop (t+1)).map Int.toNat)++(List.replicate (9-ds.length) (48:UInt8)++ds)):=Z1 (by
      rw[ar,<- ao];have bi:t+1<l.length:=by rw[Hl];exact ag
      rw[XS bi,X5];rfl)
     have bk:(List.replicate (9-ds.length) (48:UInt8)).length=9-ds.length:=List.length_replicate;obtain⟨rs,ax⟩:=eX (List.replicate (9-ds.length) (48:UInt8));rw[<- ax] at bk an s a5⊢;clear ax ao an f1 Q;go_wp2_with (fail);rw[a3L];refine(a6E w1 w1 _ ⟨(rs++ds).toArray⟩ W4 L s ah).mono ?_;rintro e w5 ⟨rfl,i,S⟩;rw[a6D] at i
     have X:Lib.IsBuilder 124 5 w1 w1 (Lib.byteCells (Dec.text 9 ((l.drop t).map Int.toNat))) w5:=by
      rw[a5];exact .inr i
     have ak:=Z1 X;have aj:=Z1 (J.out.trans S);clear i X S;go_wp2;go_roundw
     case rel=>exact⟨t,oM,by go_num,ak,aj⟩
     case measure=>simp[intOf]
    ·have bg:decide ((t:Int)<(n:Int)-1)=false:=sO
     have J:=E;have L:=ae;have ah:=Z1 J.out.size;obtain⟨W4,be⟩:=eX w3;have W:(l.drop (t+1)).map Int.toNat=[]:=by rw[Yf (by rw[Hl];omega)];rfl
     have s:Hid ((Lib.byteCells (Dec.text 9 ((l.drop (t+1)).map Int.toNat))).length+ByteArray.size ⟨ds.toArray⟩<=140737488355328):=Z1 (by
      rw[W];have h2:ByteArray.size ⟨ds.toArray⟩=ds.length:=by simp[ByteArray.size]
      simp[Lib.byteCells,Dec.text];omega)
     have a5:Hid (Dec.text 9 ((l.drop t).map Int.toNat)=Dec.text 9 ((l.drop (t+1)).map Int.toNat)++ds):=Z1 (by rw[ar,W,ba];rfl);subst be;clear W ag ht;go_wp2_with (fail);refine(a6E w1 w1 _ ⟨(ds).toArray⟩ W4 L s ah).mono ?_;rintro e w5 ⟨rfl,i,S⟩;rw[a6D] at i
     have X:Lib.IsBuilder 124 5 w1 w1 (Lib.byteCells (Dec.text 9 ((l.drop t).map Int.toNat))) w5:=by
      rw[a5];exact .inr i
     have ak:=Z1 X;have aj:=Z1 (J.out.trans S);clear i X S;go_wp2;go_roundw
     case rel=>exact⟨t,oM,by go_num,ak,aj⟩
     case measure=>simp[intOf]
theorem a9A {B C} {w} (h:Tab B w) (a:B<=C):Tab C w:=fun w' i=>h w' (i.mono a)
theorem PI.text_len {w} {B k} {v} {z} (h:PI w B k v z) (X:0<=z):(Lib.decDigits z.toNat).length<=9*k+1:=by
 obtain⟨neg,A,n,c,l,rfl,hl,hn,_,I,S,E,_,W⟩:=h.parts;have s:neg=false:=by rcases W with⟨_,e,_⟩|⟨_,e,_⟩|⟨_,_,e⟩;exact e;exact e;omega
 subst s
 rcases Y0 l.length with i|i
 ·have o:l=[]:=List.length_eq_zero_iff.1 i
  rw[o] at E;have:z=0:=by simpa[Big.sgn,Big.val] using E
  rw[this,show(0:Int).toNat=0 from rfl,Dec.digits_small oM];simp
 ·have L:=Dec.text_val (k:=9) (B:=1000000000) dC I S i
  have O:z=Big.val 1000000000 l:=E;rw[O,<- L]
  have Q:=Dec.text_len 9 (l.map Int.toNat) (fun a J=>by
   rw[Yg] at J;obtain⟨b,T,rfl⟩:=J;have:=I b T;omega) oM
  rw[Xt] at Q;omega
theorem a8p (k j:Nat) (g1:Bool) (A1:OA) (n1 c1:Nat) (g2:Bool) (A2) (n2 c2) (N D) (hk:k<=900) (hj:j<=900) (hN:0<=N) (hD:0<D)
  (h:∀W,Below w w W->Calls prog 17 #[.agg #[g1,.slice A1 n1 c1,g2,.slice A2 n2 c2]] W (PartsPost k j N D W)) (hT:Tab w w) :
  CL 12 #[.agg #[g1,.slice A1 n1 c1,g2,.slice A2 n2 c2]] w (.string ⟨(Dec.frac N.toNat D.toNat).toArray⟩):=by
 obtain⟨w1,ag⟩:=eX (w.alloc (.cells #[g1,.slice A1 n1 c1,g2,.slice A2 n2 c2] 52));have X:Below w w w1:=by rw[ag];exact bR.alloc lR _
 have ab:w1.heap[w.heap.size]?=some (.cells #[g1,.slice A1 n1 c1,g2,.slice A2 n2 c2] 52 (0,0)):=by rw[ag];exact Vh w _
 have b9:=Z1 ag;have HR:=Z1 (h w1 X);have x0:=cr9 0 ab;have x1:=cr9 1 ab;have x2:=cr9 2 ab;have x3:=cr9 3 ab;simp at x0 x1 x2 x3;have b8:=Z1 (hT.on X:Tab w w1);clear hT;clear ag ab h;go_enter func12,ntmps12;go_upto_region 1 with(fail);rw[<- b9];go_wp2_with (fail);refine HR.mono ?_;rintro e W2 ⟨⟨a1,B1,m1,d1,a2,B2,m2,d2,rfl,aw,ax⟩,a9⟩;obtain⟨a7,a5,a6,b5⟩:=rows2 W2 #[a1,.slice B1 m1 d1] #[a2,.slice B2 m2 d2] 50;obtain⟨T,ap⟩:=eX (((W2.alloc (.cells #[a1,.slice B1 m1 d1] 50)).alloc (.cells #[a2,.slice B2 m2 d2] 50)));rw[<- ap] at a7 a5 a6 b5;have ba:=Z1 ap;have ai:=(X.trans (a9.mono X.size)).trans (a7.mono (Vn X.size a9.size));obtain⟨E,ah,a8⟩:=Z3 ai a5 a6;have q1:=Vq a5;have q2:=Vq a6;obtain⟨b1,am,bb,bc,ay⟩:=Z5 (aw.at_ a7) (ax.at_ a7) (aw.text_len hN) (ax.text_len (YQ hD)) (b8.on ((a9.mono X.size).trans (a7.mono (Vn X.size a9.size))):Tab w T);clear ap a7 a5 a6 b5 aw ax ai x0 x1 x2 x3 a9 HR;go_upto_region 2 with(fail);rw[<- ba]
 by_cases aq:D=1
 ·skip
  have ac:(cm D 1==0):=by rw[aq];rfl
  have al:=Z1 ac;have ak:Hid (Dec.frac N.toNat D.toNat=Lib.decDigits N.toNat):=Z1 (by unfold Dec.frac;rw[Vt oM]);clear ac aq;have I:Below T T T.drew:=Vw bR 1;refine Vs (S:=Below T T) kR ?_;change wpAnyH _ _ _ _ _ _ _ _ (World.drew T);obtain⟨an,O⟩:=eX T.drew;rw[<- O] at I⊢;clear O;refine jT 0 I ?_ (v:=.agg #[a2,.slice B2 m2 d2]) (hy:=(Vf (by rfl) 50 _ rfl (W2+1) 0 rfl [a2,.slice B2 m2 d2] _ (fun W' J=>range2 ((J.block _ q2).trans a8)) Xy rfl VZ));refine rZ 1 fun K i=>?_;go_simp;refine(a1X an 1 oM oM).mono ?_;rintro e ao ⟨⟨r1,rfl,a4⟩,aa⟩;have o:=I.trans (aa.mono I.size);obtain⟨h1,C1,f1,e1,rfl⟩:=a4.open;refine jK i o ?_;clear i K;refine rZ 2 fun K i=>?_;go_simp;refine(a2d ao j 3 _ _ D 1 oM oM (am.at_ o) a4).mono ?_;rintro e s ⟨rfl,L⟩;have a:=o.trans (L.mono o.size);refine jK i a ?_;clear i K;refine rZ 3 fun K i=>?_;go_simp;rw[al];refine jK i a ?_;clear i K;refine VF kR ?_ _
  try simp only[z]
  have ae:=E.out.trans (a.mono E.size);have Q:=(a.block _ q1).trans ah;have y0:=cr9 0 Q;have y1:=cr9 1 Q;simp at y0 y1;have o1:=Vq Q;have aj:=Z1 ae;have HP:=Z1 (b1.at_ a);have ad:=Z1 (a9A (ay.on (a.mono E.size)) aj.size);clear Q ae I o a aa L a4;go_wp2_with (fail);refine(a3K s k _ N oM hN HP ad).mono ?_;rintro e bn ⟨rfl,bi⟩;go_wp2;go_ret;exact⟨by rw[ak];rfl,aj.out.trans (bi.mono aj.size)⟩
 ·skip
  have ac:(cm D 1==0)=false:=by unfold cm;simp;split <;> (try split) <;> omega
  have al:=Z1 ac;have ak:Hid (Dec.frac N.toNat D.toNat=Lib.decDigits N.toNat++47::Lib.decDigits D.toNat):=Z1 (by unfold Dec.frac;rw[VB oM]);clear ac aq;have I:Below T T T.drew:=Vw bR 1;refine Vs (S:=Below T T) kR ?_;change wpAnyH _ _ _ _ _ _ _ _ (World.drew T);obtain⟨an,O⟩:=eX T.drew;rw[<- O] at I⊢;clear O;refine jT 0 I ?_ (v:=.agg #[a2,.slice B2 m2 d2]) (hy:=(Vf (by rfl) 50 _ rfl (W2+1) 0 rfl [a2,.slice B2 m2 d2] _ (fun W' J=>range2 ((J.block _ q2).trans a8)) Xy rfl VZ));refine rZ 1 fun K i=>?_;go_simp;refine(a1X an 1 oM oM).mono ?_;rintro e ao ⟨⟨r1,rfl,a4⟩,aa⟩;have o:=I.trans (aa.mono I.size);obtain⟨h1,C1,f1,e1,rfl⟩:=a4.open;refine jK i o ?_;clear i K;refine rZ 2 fun K i=>?_;go_simp;refine(a2d ao j 3 _ _ D 1 oM oM (am.at_ o) a4).mono ?_;rintro e s ⟨rfl,L⟩;have a:=o.trans (L.mono o.size);refine jK i a ?_;clear i K;refine rZ 3 fun K i=>?_;go_simp;rw[al];refine jK i a ?_;clear i K;refine VF kR ?_ _
  try simp only[z]
  have ae:=E.out.trans (a.mono E.size);clear I o aa L a4;have Q:=(a.block _ q1).trans ah;have au:=(a.block _ q2).trans a8;have be:=Z1 Q;have bf:=Z1 au;have o1:=Vq Q;have o2:=Vq au;obtain⟨b6,b7,HB,ad⟩:=Z4 (b1.at_ a) (am.at_ a) (ae) (ay.on (a.mono E.size):Tab w s);obtain⟨ns,av⟩:=eX (Lib.decDigits N.toNat);obtain⟨ds,ar⟩:=eX (Lib.decDigits D.toNat);have b0:=Z1 av;have az:=Z1 ar;have b3:=bb.out;have b4:=bc.out;rw[<- av] at b3;rw[<- ar] at b4;have bk:¬ 9223372036854775807<ns.length+1:=oM;have bl:¬ 9223372036854775807<ns.length+1+ds.length:=oM;have bm:¬ 9223372036854775807<(ns++[47]).length+ds.length:=by rw[Vc];exact bl
  clear Q au av ar b3 b4;go_upto_region 4 with(fail);have I:Below s.heap.size s s.drew:=Vw bR 1;refine Vs (S:=Below s.heap.size s) kR ?_;change wpAnyH _ _ _ _ _ _ _ _ (World.drew s);obtain⟨bg,O⟩:=eX s.drew;rw[<- O] at I⊢;clear O;refine jT 0 I ?_ (v:=.agg #[a1,.slice B1 m1 d1]) (hy:=(Vf (by rfl) 50 _ rfl W2.heap.size 0 rfl [a1,.slice B1 m1 d1] _ (fun W' J=>range2 ((J.block _ o1).trans be)) Xy rfl VZ));refine jT 3 I ?_ (v:=.agg #[a2,.slice B2 m2 d2]) (hy:=(Vf (by rfl) 50 _ rfl (W2+1) 0 rfl [a2,.slice B2 m2 d2] _ (fun W' J=>range2 ((J.block _ o2).trans bf)) Xy rfl VZ));refine rZ 1 fun K i=>?_;go_simp;refine(a3K bg k _ N oM hN (b6.at_ I) (a9A (ad.on (I.mono HB.size)) (Vn HB.size I.size))).mono ?_;rintro e bh ⟨rfl,bj⟩;rw[<- b0];have a0:=I.trans (bj.mono I.size);refine jK i a0 ?_;clear i K;refine jT 2 a0 ?_ (v:=.string ⟨(ns++[47]).toArray⟩) (hy:=(.inl ⟨by rfl,fun W' J=>by(go_simp;first|done|(rw[VB bk];simp[a3L])|(simp[a3L]))⟩));refine rZ 4 fun K i=>?_;go_simp;refine(a3K bh j _ D oM (YQ hD) (b7.at_ a0) (a9A (ad.on (a0.mono HB.size)) (Vn HB.size a0.size))).mono ?_;rintro e bo ⟨rfl,b2⟩;rw[<- az];have af:=a0.trans (b2.mono a0.size);refine jK i af ?_;clear i K;refine jT 5 af ?_ (v:=.string ⟨(ns++47::ds).toArray⟩) (hy:=(.inl ⟨by rfl,fun W' J=>by(go_simp;first|done|(rw[VB bm];simp[a3L])|(simp[a3L]))⟩));refine rZ 6 fun K i=>?_;go_simp;refine jK i af ?_;clear i K;refine VF kR ?_ _
  try simp only[z]
  go_wp2;go_ret;exact⟨by rw[ak,b0,az];rfl,HB.out.trans (af.mono HB.size)⟩
theorem a9z (k j) (v) (N D) (T:k<=900) (S:j<=900) (L:0<=N) (J:0<D) (h:RI w w k j v N D) (O:Tab w w) :
  CL 12 #[v] w (.string ⟨(Dec.frac N.toNat D.toNat).toArray⟩):=by
 obtain⟨E,a,X,o,I,i,n2,s,rfl⟩:=h.open;exact a8p w k j E a X o I i n2 s N D T S L J (fun W Q=>a6f W k j _ N D oM (h.at_ Q)) O
end Go.Proofs.YtbhdekahdnenjaaGreatDoor
