/- Lemmas. -/
import Derived.RangeFuncNested
import Derived.RangeFuncBound
import Derived.RangeFuncCalls
import Derived.RangeFuncLeaves
import Derived.Shelf.Abstract
import Derived.OwnWalkIn
import Derived.TacticsInMore
import Derived.LoopNIn
import Derived.LoopIn
import Derived.RangeFuncBox
import Derived.Maps.AppendAt
import Derived.Test.YtbhdekahdnenjaaGreatDoorShelf
import Derived.Test.YtbhdekahdnenjaaGreatDoorG09
set_option linter.unusedVariables false
set_option linter.unusedSimpArgs false
set_option maxRecDepth 100000
set_option maxHeartbeats 16000000
namespace Go.Proofs.YtbhdekahdnenjaaGreatDoor
open Go.Proofs.Tryz Go.RowKit Go.Shelf
variable (w:World)
attribute [local go_sem] Oper.semAt_some
def KeepBut (n:Nat) (L:Option Nat) (W a:World):Prop:=∀b,b<n->some b≠L->a.heap[b]?=W.heap[b]?
theorem KeepBut.refl (n) (L:Option Nat) (W):KeepBut n L W W:=fun _ _ _=>rfl
theorem KeepBut.trans {n} {L:Option Nat} {A B C} (h:KeepBut n L A B) (k:KeepBut n L B C):KeepBut n L A C:=fun b i a=>(k b i a).trans (h b i a)
theorem KeepBut.putObj {n:Nat} {L:Option Nat} {w:World} (s:n<=w) (W:World) (l:Nat) (o o') (i:w<=l) (_:W.heap[l]?=some o) (_:o.isCells=false) (_:o.isWalk=false):KeepBut n L W (W.putObj l o') :=
 fun _ a _=>World.putObj_heap_other oM
theorem KeepBut.alloc {n} {L:Option Nat} {A W} (h:KeepBut n L A W) (s:n<=W) (o):KeepBut n L A (W.alloc o):=fun b i a=>(VD W o b oM).trans (h b i a)
theorem KeepBut.cell {n} {L:Option Nat} {A B} (h:KeepBut n L A B) {b} (i:b<n) (a:some b≠L) (o):B.cell? ⟨b,o,none⟩=A.cell? ⟨b,o,none⟩:=World.cell?_of_block (w:=A) (h b i a)
theorem KeepBut.of_below {n m} {L:Option Nat} {A B} (h:Below m A B) (i:n<=m):KeepBut n L A B:=fun b a _=>h.block b oM
theorem RatesAt.keep {w w'} {B n} {L:Option Nat} {A} {rs} (h:RatesAt w B A rs) (i:KeepBut n L w w') (W:B<=n) (O:∀l,L=some l->B<=l):RatesAt w' B A rs:=by
 rcases h with h|⟨b,o,e,T,Q⟩
 ·exact .inl h
 ·have a:some b≠L:=fun e=>by have:=O b e.symm;omega
  refine .inr ⟨b,o,e,T,fun k S=>?_⟩;obtain⟨s,E,I,J⟩:=Q k S;exact⟨(i.cell oM a _).trans s,(i.cell oM a _).trans E,(i.cell oM a _).trans I,(i.cell oM a _).trans J⟩
theorem a5Q (A) (n c) (cur) (a b:Int) :
  Calls prog 293 #[.slice A n c,.string cur,a,b] w fun e w' =>
   e=.returned (.func (.func 300) #[] #[.pointer (some ⟨w,0,none⟩),.pointer (some ⟨w+1,0,none⟩),.pointer (some ⟨w+2,0,none⟩),.pointer (some ⟨w+3,0,none⟩)]) /\
   w'=(((w.alloc (.cells #[.slice A n c] 31)).alloc (.cells #[.string cur] 9)).alloc (.cells #[a] 3)).alloc (.cells #[b] 3):=by
 go_enter func293,ntmps293;go_wp2;go_ret;exact⟨rfl,rfl⟩
def encR (r:Rt):Array Value:=#[.agg #[.string r.cur,r.kind,r.when_,r.val]]
theorem a4d (rs:List Rt) (p:Rt->Bool) (k) (h:k<rs.length) (a:p rs[k]):(rs.take (k+1)).filter p=(rs.take k).filter p++[rs[k]]:=by
 rw[tse h,Yq,Jh a,ZF]
theorem a3q (rs:List Rt) (p:Rt->Bool) (k) (h:k<rs.length) (a:p rs[k]=false):(rs.take (k+1)).filter p=(rs.take k).filter p:=by
 rw[tse h,Yq,Jg (by simp[a]),ZF,XG]
theorem a9M (cur) (a b) (r) (h:Rates.sel cur a b r=false):(r.cur.toList==cur.toList)=false∨((r.cur.toList==cur.toList)/\(r.kind==1)=false) ∨
  ((r.cur.toList==cur.toList)/\(r.kind==1)/\r.when_<a)∨((r.cur.toList==cur.toList)/\(r.kind==1)/\a<=r.when_/\b<r.when_):=by
 unfold Rates.sel at h
 cases i:(r.cur.toList==cur.toList) <;> cases o:(r.kind==1) <;> simp[i,o] at h⊢
 omega
theorem a5R (m) (hm:1<=m) (l n₀) (L:Option Nat) (B0 B1 B2 B3) (A) (n c) (rs) (cur) (a b) (hl:rs.length=n) (hn:n<=100000)
  (q) (hq:q<=n₀) (a8:∀x,L=some x->q<=x) (a9:B1<n₀) (aa:B2<n₀) (ab:B3<n₀) (ad:some B1≠L) (ae:some B2≠L) (af:some B3≠L)
  (J Jx:List Rt->World->Prop) (W:World) (hW:n₀<=W) (hJ:AbidesFrom W J)
  (hY:∀pre x W1,J pre W1->pre.length<rs.length->YieldAt Fence.wide (m-1) prog l (encR x) W1 fun e W' =>
   (e=.returned (.bool true)/\J (pre++[x]) W'/\(KeepBut n₀ L W1 W'/\(W1:Nat)<=W'))∨(e=.returned (.bool false)/\Jx (pre++[x]) W'))
  (c0:W.cell? ⟨B0,0,none⟩=some (.slice A n c)) (c1:W.cell? ⟨B1,0,none⟩=some (.string cur)) (c2:W.cell? ⟨B2,0,none⟩=some (.int .i64 a)) (c3:W.cell? ⟨B3,0,none⟩=some (.int .i64 b))
  (h:RatesAt W q A rs) (h0:J [] W) :
  CallsIn Fence.wide m prog 300 #[.func (.yield l) #[] #[],.pointer (some ⟨B0,0,none⟩),.pointer (some ⟨B1,0,none⟩),.pointer (some ⟨B2,0,none⟩),.pointer (some ⟨B3,0,none⟩)] W fun e W'=>(∃v,e=.returned v) /\
   ((∃ys,ys=rs.filter (Rates.sel cur a b)/\J ys W')∨(∃pre,True/\Jx pre W')):=by
 subst hl;refine Qr func300 rfl trivial ?_ rfl;simp only[ntmps300,Yn,Xl,Y8,Nat.reduceAdd,Nat.reduceSub,Yr,Yl,YT,YW,Xr,XM]
 gi_wp2
 gi_loopw [10] (fun i wr=>∃k:Nat,k<=rs.length/\i=k/\J ((rs.take k).filter (Rates.sel cur a b)) wr/\KeepBut n₀ L W wr/\(W:Nat)<=wr) (fun i _=>rs.length-(intOf i).toNat)
 case atStart=>exact⟨0,Vb _,rfl,h0,KeepBut.refl _ _ _,lR⟩
 case round =>
  obtain⟨k,hk,rfl,O,I,aj⟩:=hrel
  by_cases X:k<rs.length
  ·obtain⟨bb,o,rfl,_,d0,d1,d2,d3⟩:=(h.keep I hq a8).look X
   have e1:=(I.cell a9 ad 0).trans c1;have e2:=(I.cell aa ae 0).trans c2;have e3:=(I.cell ab af 0).trans c3;have f1:B1<wr:=oM;have f2:B2<wr:=oM;have f3:B3<wr:=oM
   by_cases s:Rates.sel cur a b rs[k]
   ·have S:=Z1 (a4d rs _ k X s)
    have T:((rs.take k).filter (Rates.sel cur a b)).length<rs.length:=Jd (XY _ _) (by rw[XF];omega);have Q:J ((rs.take k).filter (Rates.sel cur a b)) (wr.alloc (.cells #[.string rs[k].cur,.int .i64 rs[k].kind,.int .i64 rs[k].when_,.int .i64 rs[k].val] 41)):=hJ _ _ _ none O (KP _ _ none) sP;obtain⟨fn,ai,a5,ah,hy,hR⟩:=hY _ rs[k] _ Q T;obtain⟨h1,h2,h3⟩:=(Rates.sel_iff _ _ _ _).1 s;obtain⟨g1,g2,_⟩:=(Rt.at_iff _ _ _ _).1 h1;have q1:(rs[k].cur.toList==cur.toList):=by simp[g1]
    have q2:(rs[k].kind==1):=by simp[g2]
    clear g1 g2 h1 s T Q;unfold encR at hy
    gi_wp2
    refine hR.mono ?_;rintro e W3 (⟨rfl,a6,ac,ag⟩|⟨rfl,a0⟩)
    ·have a7:=(I.alloc oM _).trans ac
     have a4:=ag;simp at a4
     gi_wp2
     go_roundw
     case rel=>exact⟨k+1,oM,by go_num,by rw[S.out];exact a6,a7,oM⟩
     case measure=>exact mS
    ·gi_wp2
     refine VG (Kb rfl _ _ _) rfl ?_;exact⟨⟨_,rfl⟩,.inr ⟨_,trivial,a0⟩⟩
   ·have E:Rates.sel cur a b rs[k]=false:=by simpa using s
    have S:=Z1 (a3q rs _ k X E)
    have Q:Hid (J ((rs.take (k+1)).filter (Rates.sel cur a b)) (wr.alloc (.cells #[.string rs[k].cur,.int .i64 rs[k].kind,.int .i64 rs[k].when_,.int .i64 rs[k].val] 41))):=by
     show J _ _;rw[S.out];exact hJ _ _ _ none O (KP _ _ none) sP
    clear S s O hY hJ h0
    rcases a9M cur a b rs[k] E with q1|⟨q1,q2⟩|⟨q1,q2,q3⟩|⟨q1,q2,q3,q4⟩
    all_goals
     clear E
     gi_wp2
     refine⟨fun _ _=>trivial,?_⟩
     gi_wp2
     go_roundw
     case rel=>exact⟨k+1,oM,by go_num,Q.out,I.alloc oM _,sO⟩
     case measure=>exact mS
  ·obtain rfl:k=rs.length:=oM
   rw[Xs] at O
   gi_wp2
   go_end0
   exact⟨⟨_,rfl⟩,.inl ⟨_,rfl,O⟩⟩
theorem a2w {a w:World} {row:Option Nat} (h:a.grownBy w row) (o):a.grownBy (w.alloc o) row :=
 ⟨h.os,h.tape,h.output,Vn h.size sP,fun i E s=>(VD w o i (Xg E h.size)).trans (h.block i E s)⟩
theorem a1t {a w:World} {row:Option Nat} (h:a.grownBy w row) (n):a.grownBy (w.drewN n) row:=⟨h.os,h.tape,h.output,h.size,h.block⟩
theorem Xz {a w:World} {g} (h:a.grownBy w (some g)) (i) (u):a.grownBy (w.setCell ⟨g,i,none⟩ u) (some g) :=
 ⟨h.os,h.tape,h.output,by simpa[World.setCell] using h.size,fun k s o=>(VR w ⟨g,i,none⟩ u k (fun e=>o (by rw[e]))).trans (h.block k s o)⟩
theorem Xx (w:World) (row:Option Nat):w.grownBy w row:=⟨rfl,rfl,rfl,lR,fun _ _ _=>rfl⟩
def Row (w:World) (g:Nat) (t:TypeId) (cs:AV):Prop:=w.heap[g]?=some (.cells cs t (0,0))
theorem Row.set {w} {g} {t} {cs} (h:Row w g t cs) (i) (v):Row (w.setCell ⟨g,i,none⟩ v) g t (cs.setIfInBounds i v):=Xh w g i cs t v h
theorem Row.alloc {w} {g} {t} {cs} (h:Row w g t cs) (o):Row (w.alloc o) g t cs:=(VD w o g (Array.getElem?_eq_some_iff.1 h).1).trans h
theorem Row.drewN {w} {g} {t} {cs} (h:Row w g t cs) (n):Row (w.drewN n) g t cs:=h
def latC (acc:Option Rt):Array Value :=
 match acc with
 |none=>#[.string ByteArray.empty,(),(),(),false]
 |some r=>#[.string r.cur,r.kind,r.when_,r.val,true]
theorem b3O (L) (acc:Option Rt) (r) (a:w.heap[L]?=some (.cells (latC acc) 366 (0,0))) :
  Calls prog 296 #[.pointer (some ⟨L,0,none⟩),.agg #[.string r.cur,r.kind,r.when_,r.val]] w fun e w' =>
   e=.returned (.tuple #[])/\w.grownBy w' (some L)/\w'.heap[L]?=some (.cells (latC (Rates.see acc r)) 366 (0,0)):=by
 have S:L<w:=(Array.getElem?_eq_some_iff.1 a).1
 cases acc with
 |none =>
  have E:=cr9 0 a;have I:=cr9 1 a;have J:=cr9 2 a;have O:=cr9 3 a;have Q:=cr9 4 a;have W:=fun j=>fr0 j a;simp[latC] at E I J O Q;have i:=Z1 a;clear a;go_enter func296,ntmps296;go_wp2;go_quiet (fail);go_wp2
  go_end0
  refine⟨rfl,?_,?_⟩
  ·exact Xz (Xz (Xz (Xz (Xz (a1t (a2w (Xx _ _) _) _) _ _) _ _) _ _) _ _) _ _
  ·exact((((((Row.alloc i _).drewN _).set 0 _).set 1 _).set 2 _).set 3 _).set 4 _
 |some x =>
  have E:=cr9 0 a;have I:=cr9 1 a;have J:=cr9 2 a;have O:=cr9 3 a;have Q:=cr9 4 a;have W:=fun j=>fr0 j a;simp[latC] at E I J O Q;have i:=Z1 a;clear a
  by_cases s:x.when_<r.when_
  ·have o:Hid (Rates.see (some x) r=some r):=by show _=_;simp[Rates.see,s]
   go_enter func296,ntmps296;go_wp2;go_quiet (fail);go_wp2;rw[o.out]
   go_end0
   refine⟨rfl,?_,?_⟩
   ·exact Xz (Xz (Xz (Xz (Xz (a1t (a2w (Xx _ _) _) _) _ _) _ _) _ _) _ _) _ _
   ·exact((((((Row.alloc i _).drewN _).set 0 _).set 1 _).set 2 _).set 3 _).set 4 _
  ·have o:Hid (Rates.see (some x) r=some x):=by show _=_;simp[Rates.see,s]
   have T:decide (x.when_<r.when_)=false:=Vr s;go_enter func296,ntmps296;go_wp2;go_quiet (fail);go_wp2;rw[o.out]
   go_end0
   exact⟨rfl,a1t (a2w (Xx _ _) _) _,(Row.alloc i _).drewN _⟩
attribute [local go_sem] Oper.semAt_some
theorem a1C {F:Fence} {n} {P} {ops} {rest} {o} {a} {w} {Q} (s:o.guard=none) (ty) (x:Operand) (E:o.op=.load ty x)
  (g) (T:a.eval x=.pointer (some ⟨g,0,none⟩)) (t) (cs) (fr) (d:TypeDesc) (L:w.heap[g]?=some (.cells cs t fr))
  (S:P.underlying ty=some d) (J:(match d with|.struct _|.array _ _=>true|_=>false)=true) (O:(P.info? ty).map (·.size)=some cs.size)
  (h:wpListIn F n P ops Q rest (a.put o.dst (.agg cs)) w):wpListIn F n P ops Q (o::rest) a w:=by
 refine wpListIn_plain s fun K I=>?_;unfold Oper.wpIn;refine⟨?_,?_⟩
 ·simp[Oper.about,E]
 ·rw[Oper.semAt_plain F _ _ (by rw[E];intro c i;cases i)]
  unfold execOp;simp only[E,T,Instr.loadAt,Instr.sureAddr,Jz,K7,JZ,VW w g t ty cs fr d L S J O];exact I _ _ h
theorem a3Y (w:World) (X Y Z):(((w.alloc X).alloc Y).alloc Z).heap[w.heap.size+1+1]?=some Z:=by
 have h:=Vh ((w.alloc X).alloc Y) Z
 rwa [ZQ,ZQ] at h
theorem a1T {β:Type} (L) (t) (f:β->Array Value):Own (fun(s:β) W=>Row W L t (f s)):=fun s X Y row i J a =>
 (J.block L (Array.getElem?_eq_some_iff.1 i).1 (fun e=>by obtain⟨o,E,I⟩:=a L e.symm;rw[show X.heap[L]?=_ from i] at E;cases E;cases I)).trans i
theorem Row.other {w} {g} {t} {cs} (h:Row w g t cs) (p) (a:g≠p.block) (u):Row (w.setCell p u) g t cs:=(VR w p u g a).trans h
theorem Row.putObj {w} {g} {t} {cs} (h:Row w g t cs) (D) (o) (a:g≠D):Row (w.putObj D o) g t cs:=(World.putObj_heap_other a).trans h
theorem Row.below {w w'} {B g} {t} {cs} (h:Row w g t cs) (i:Below B w w') (a:g<B):Row w' g t cs:=(i.block g a).trans h
theorem a1V {P:Program} {i:Func} {p t:Tmp} {ty} (h:i.results=#[.cell p ty,.tmp t]) (tmps) (w) (g) (tt) (cs) (fr) (d:TypeDesc)
  (I:tmps.getD p undef=.pointer (some ⟨g,0,none⟩)) (s:w.heap[g]?=some (.cells cs tt fr))
  (J:P.underlying ty=some d) (o:(match d with|.struct _|.array _ _=>true|_=>false)=true) (E:(P.info? ty).map (·.size)=some cs.size) :
  (results i tmps).run P w=.ok (.tuple #[.agg cs,tmps.getD t undef]) w:=by
 have a:tmps[p]?.getD undef=.pointer (some ⟨g,0,none⟩):=by simpa using I
 simp[results,h,a,asAddr,VW w g tt ty cs fr d s J o E]
theorem rsize:(prog.info? 41).map (·.size)=some 4:=kR
theorem a0y {W:World} {D g i} {u} {o} (h:W.heap[D]?=some o) (a:D≠g):(W.setCell ⟨g,i,none⟩ u).heap[D]?=some o:=(VR W ⟨g,i,none⟩ u D a).trans h
theorem a6X (ws) (L m) (hm:1<=m) (A) (n c) (rs) (cur) (a b) (hl:rs.length=n) (hn:n<=100000) (q) (s:q<=L) (i:ws.heap.size=L+5)
  (I:ws.cell? ⟨L+1,0,none⟩=some (.slice A n c)) (O:ws.cell? ⟨L+2,0,none⟩=some (.string cur)) (Q:ws.cell? ⟨L+3,0,none⟩=some (.int .i64 a)) (S:ws.cell? ⟨L+4,0,none⟩=some (.int .i64 b)) (h:RatesAt ws q A rs) :
  SeqStopsK Fence.wide m prog 300 #[.pointer (some ⟨L+1,0,none⟩),.pointer (some ⟨L+2,0,none⟩),.pointer (some ⟨L+3,0,none⟩),.pointer (some ⟨L+4,0,none⟩)] encR
   (fun W W'=>KeepBut (L+5) (some L) W W'/\(W:Nat)<=W') (fun ys=>ys=rs.filter (Rates.sel cur a b)) (fun _=>True) rs.length ws:=fun l J E W o X _ hY T =>
 a5R m hm l (L+5) (some L) (L+1) (L+2) (L+3) (L+4) A n c rs cur a b hl hn q oM (fun x e=>by cases e;exact s) oM oM oM sP sP sP
  J E W (by have:=o.size;omega) X hY ((o.cell (p:=⟨L+1,0,none⟩) (by rw[i];show L+1<_;omega)).trans I) ((o.cell (p:=⟨L+2,0,none⟩) (by rw[i];show L+2<_;omega)).trans O)
  ((o.cell (p:=⟨L+3,0,none⟩) (by rw[i];show L+3<_;omega)).trans Q) ((o.cell (p:=⟨L+4,0,none⟩) (by rw[i];show L+4<_;omega)).trans S) (h.below o oM) T
theorem Rates.errQ_cases (g) (rs) (cur) (d) :
  (Rates.errQ g rs cur d≠0/\(Rates.errQ g rs cur d != 0)/\Rates.whichR g rs cur d=(Rt.zero,Rates.errQ g rs cur d)) ∨
  (Rates.errQ g rs cur d=0/\-25567<=d/\d<=84005/\(cur.toList==g.toList)/\Rates.whichR g rs cur d=(⟨cur,1,d,1000000⟩,0)) ∨
  (Rates.errQ g rs cur d=0/\-25567<=d/\d<=84005/\(cur.toList==g.toList)=false/\Rates.whichR g rs cur d=match Rates.which rs cur d with|some r=>(r,0)|none=>(Rt.zero,13)):=by
 by_cases h:Rates.errQ g rs cur d=0
 ·have a:-25567<=d/\d<=84005:=by
   unfold Rates.errQ Rates.dateB at h
   by_cases i:Rates.valid g rs/\Rates.isCur cur
   ·rw[Vt i] at h
    by_cases o:-25567<=d/\d<=84005
    ·exact o
    ·rw[Vr o] at h;simp at h
   ·rw[VB i] at h;simp at h
  right
  unfold Rates.whichR;rw[Vt h]
  cases s:(cur.toList==g.toList)
  ·right;exact⟨h,a.1,a.2,rfl,rfl⟩
  ·left;exact⟨h,a.1,a.2,rfl,rfl⟩
 ·left
  unfold Rates.whichR;rw[VB h];exact⟨h,by simpa using h,rfl⟩
theorem a9j (g:QGrp) (A) (n c) (rs) (cur) (d:Int) (hl:rs.length=n) (hn:n<=1000) (hg:g.gc.size<=maxLen) (ag:cur.size<=maxLen) (hr:∀r∈rs,r.wf) (h:RatesAt w w A rs) :
  CL 281 #[g,.slice A n c,.string cur,d] w (.tuple #[(Rates.whichR g.gc rs cur d).1.v,.int .i64 (Rates.whichR g.gc rs cur d).2]):=by
 have HR:=Z1 (((h.start (.cells g 29)).start (.cells #[.string ByteArray.empty,(),(),()] 41)).start (.cells #[.string cur] 9));have H:=Z1 h;clear h;have hG:=heap_alloc2_old w (.cells g 29) (.cells #[.string ByteArray.empty,(),(),()] 41);have hZ:=heap_alloc2_new w (.cells g 29) (.cells #[.string ByteArray.empty,(),(),()] 41);have ac:=(((VM w w).alloc lR (.cells g 29)).alloc sP (.cells #[.string ByteArray.empty,(),(),()] 41)).alloc sO (.cells #[.string cur] 9)
 rcases Rates.errQ_cases g.gc rs cur d with⟨h1,h2,e⟩|⟨h1,h2,ab,h3,e⟩|⟨h1,h2,ab,h3,e⟩
 all_goals
  have E:=Z1 e;clear e;refine XL.1 (callsIn_of_wp_marks (F:=Fence.wide) (n:=8) func281 rfl trivial ?_ rfl);simp only[ntmps281,Yn,Xl,Y8,Nat.reduceAdd,Nat.reduceSub,Yr,Yl,YT,YW,Xr,XM]
  gi_wp2_with (refine a1C rfl 29 _ rfl _ rfl _ _ _ _ hG VS rfl gsize ?_)
  refine⟨trivial,XL.2 ((b1p _ _ _ _ _ _ _ rs cur d hl oM hg ag hr HR sP ?_).mono ?_)⟩
  ·rw[cr9 _ (a3Y _ _ _ _)];rfl
  rintro e w4 ⟨rfl,hB⟩;have a0:=ac.trans (hB.mono sO);have aj:=hB.size;simp at aj;have ad:=gbox (heap_alloc_old _ (.cells #[.string cur] 9) _ sO |>.trans hG) hB sO;have J:=gbox (heap_alloc_old _ (.cells #[.string cur] 9) _ sP |>.trans hZ) hB sP;have af:=cr9 0 ad;have z0:=cr9 0 J;have z1:=cr9 1 J;have z2:=cr9 2 J;have z3:=cr9 3 J;have zf:=fun j=>fr0 j J;simp at z0 z1 z2 z3 af;clear hG hZ
 ·gi_wp2
  refine⟨.tuple #[Rt.zero.v,(Rates.errQ g.gc rs cur d)],by simp[results,results281,go_sem,Rt.v,Rt.zero,z0,z1,z2,z3];try rfl,by rw[E.out],?_⟩;exact(((a0.setCell sP _).setCell sP _).setCell sP _).setCell sP _
 ·rw[h1]
  gi_wp2
  refine⟨.tuple #[(Rt.mk cur 1 d 1000000).v,()],by simp[results,results281,go_sem,Rt.v,z0,z1,z2,z3],by rw[E.out],?_⟩;exact(((a0.setCell sP _).setCell sP _).setCell sP _).setCell sP _
 ·rw[h1]
  gi_wp2
  refine⟨trivial,XL.2 ((a5Q _ _ _ _ _ _ _).mono ?_)⟩;rintro e w5 ⟨rfl,rfl⟩
  gi_wp2
  obtain⟨L,a⟩:∃L,w4.heap.size=L:=⟨_,rfl⟩;have ae:=H.out.below a0 lR;have a7:=a0.size;obtain⟨ws,I⟩:∃ws,((((w4.alloc (.cells #[.string ⟨#[]⟩,(),(),(),false] 366)).alloc (.cells #[.slice A n c] 31)).alloc (.cells #[.string cur] 9)).alloc (.cells #[(d-40:Int)] 3)).alloc (.cells #[d] 3)=ws:=⟨_,rfl⟩;have a6:Below w4 w4 ws:=by rw[<- I];exact(((((VM _ w4).alloc lR _).alloc sP _).alloc sO _).alloc sO _).alloc sO _
  have ai:ws.heap.size=L+5:=by rw[<- I,<- a];simp
  have b0:ws.cell? ⟨L+1,0,none⟩=some (.slice A n c):=by rw[<- I,<- a];simp[go_sem]
  have b1:ws.cell? ⟨L+2,0,none⟩=some (.string cur):=by rw[<- I,<- a];simp[go_sem]
  have b2:ws.cell? ⟨L+3,0,none⟩=some (.int .i64 (d-40)):=by rw[<- I,<- a];simp[go_sem]
  have b3:ws.cell? ⟨L+4,0,none⟩=some (.int .i64 d):=by rw[<- I,<- a];simp[go_sem]
  have bL:Row ws L 366 (latC none):=by
   rw[<- I,<- a];exact(((Row.alloc (Vh w4 (.cells (latC none) 366)) _).alloc _).alloc _).alloc _
  rw[I];simp only[a];have ak:L<=w4:=X6 a.symm;have al:w4<=L:=X6 a;replace a7:w<=L:=oM;replace a6:Below L w4 ws:=a ▸ a6;clear a
  refine wpIn_rangeFunc_ownH rfl (by omega:1<=8) (gf:=300) (lb:=#[.pointer (some ⟨L+1,0,none⟩),.pointer (some ⟨L+2,0,none⟩),.pointer (some ⟨L+3,0,none⟩),.pointer (some ⟨L+4,0,none⟩)]) rfl trivial (enters_of func300 kR rfl)
   (a6X ws L 7 oM A n c rs cur (d-40) d hl oM w a7 ai b0 b1 b2 b3 (ae.below a6 a7))
   (fun h k=>⟨h.1.trans k.1,Vn h.2 k.2⟩) (fun W l o o' h1 h2 h3 h4=>⟨KeepBut.putObj (n:=L+5) (w:=ws) oM W l o o' h1 h2 h3 h4,by simp[World.putObj]⟩) bR (fun _=>rfl)
   (fun S W=>Row W L 366 (latC (S.foldl Rates.see none))/\Below L w4 W/\L+5<=W) (fun _ _ _=>False)
   (OwnFrom.and (Own.from (a1T L 366 (fun S:List Rt=>latC (S.foldl Rates.see none))) _) (OwnFrom.and (ownFrom_below oM oM) (fun _ _ _ _ hs hg _=>Vn hs hg.size))) (fun _ _ _ _ _ hs _ _=>hs)
   ⟨bL,a6,oM⟩
   (fun x a' W=>∃Bx,L+5<=Bx/\Row W Bx 41 #[.string x.cur,x.kind,x.when_,x.val]/\a'={ tmps:=#[.agg g,.slice A n c,.string cur,.int .i64 d,.pointer (some ⟨w,0,none⟩),undef,undef,undef,.pointer (some ⟨w+1,0,none⟩),.int .i64 0,.int .i64 0,.pointer (some ⟨L,0,none⟩),.pointer (some ⟨Bx,0,none⟩),.agg g,.slice A n c,.int .i64 d,.string cur,.slice (some ⟨w+1+1,0,none⟩) 1 1,.int .i64 0,.int .i64 0,.bool false,undef,undef,.string cur,.pointer (some ⟨w,0,none⟩),.string g.gc,.bool false,undef,undef,undef,.slice A n c,.string cur,.int .i64 d,.int .i64 (d-40),.int .i64 d,.func (.func 300) #[] #[.pointer (some ⟨L+1,0,none⟩),.pointer (some ⟨L+2,0,none⟩),.pointer (some ⟨L+3,0,none⟩),.pointer (some ⟨L+4,0,none⟩)],.agg #[.string x.cur,x.kind,x.when_,x.val],undef,undef,undef,undef,undef,undef,undef,undef],defers:=[] })
   ?hAx ?assign ?body ?done ?stop
  case hAx =>
   rintro x a' _ X Y row ⟨Bx,k1,k2,k3⟩ hg aa;exact⟨Bx,k1,(hg.block Bx (Array.getElem?_eq_some_iff.1 k2).1 (fun e=>by obtain⟨_,o,ho,hc⟩:=aa Bx e.symm;rw[show X.heap[Bx]?=_ from k2] at ho;cases ho;cases hc)).trans k2,k3⟩
  case assign =>
   rintro l S x W K ⟨T,i2,i3⟩ hK;dsimp only[encR]
   gi_wp2
   exact hK _ _ ((KeepsOthers.alloc _ _).from _) ⟨(KeepBut.refl _ _ _).alloc i3 _,sP⟩ ⟨T.alloc _,i2.alloc oM _,sO⟩ ⟨W,i3,Vh W _,rfl⟩
  case body =>
   rintro l S x a' W am ⟨r,_⟩ ⟨T,i2,i3⟩ ⟨Bx,k1,k2,rfl⟩ an;have x0:=cr9 0 k2;have x1:=cr9 1 k2;have x2:=cr9 2 k2;have x3:=cr9 3 k2;simp at x0 x1 x2 x3
   gi_wp2
   refine⟨trivial,CallsIn.inRound l (XL.2 ((b3O W L _ x T).mono ?_))⟩;rintro e W2 ⟨rfl,a5,a8⟩
   gi_wp2
   exact⟨KeepsFrom.of_grownBy a5 (fun j e=>by cases e;omega),⟨fun b hb ah=>a5.block b oM ah,a5.size⟩,by rw[YH];exact a8,i2.grown a5 oM (fun k e=>by cases e;exact lR),Vn i3 a5.size⟩
  case done =>
   rintro D ys W hD rfl ⟨T,i2,i3⟩ hK;have a9:=a0.trans (i2.mono oM);have O:Row W (w+1) 41 _:=Row.below J i2 oM;clear z0 z1 z2 z3 zf J;have z0:=cr9 0 O;have z1:=cr9 1 O;have z2:=cr9 2 O;have z3:=cr9 3 O;have zf:=fun j=>fr0 j O;simp at z0 z1 z2 z3;have s:=E.out;unfold Rates.which at s
   cases Q:(rs.filter (Rates.sel cur (d-40) d)).foldl Rates.see none with
   |none =>
    rw[Q] at s T;have E2:=Z1 s;clear s;have l4:=cr9 4 T;simp[latC] at l4;clear Q
    gi_wp2
    have a4:=a0y (g:=w.heap.size+1) (i:=3) (u:=.int .i64 0) (a0y (g:=w.heap.size+1) (i:=2) (u:=.int .i64 0) (a0y (g:=w.heap.size+1) (i:=1) (u:=.int .i64 0) (a0y (g:=w.heap.size+1) (i:=0) (u:=.string ⟨#[]⟩) hK oM) oM) oM) oM;refine⟨sP,.inl ⟨_,_,rfl,run_takeDeferred a4,⟨_,a1V rfl _ _ _ _ _ _ _ rfl (((((O.set 0 _).set 1 _).set 2 _).set 3 _).putObj D _ oM) underlying41 rfl rsize,by rw[E2.out];rfl,?_⟩⟩⟩;exact((((a9.setCell sP _).setCell sP _).setCell sP _).setCell sP _).trans (belowK_b (w:=ws) oM _ D _ _ oM a4 rfl rfl)
   |some x =>
    rw[Q] at s T;have E2:=Z1 s;clear s;have l0:=cr9 0 T;have l1:=cr9 1 T;have l2:=cr9 2 T;have l3:=cr9 3 T;have l4:=cr9 4 T;simp[latC] at l0 l1 l2 l3 l4;clear Q
    gi_wp2
    have a4:=a0y (g:=w.heap.size+1) (i:=3) (u:=.int .i64 x.val) (a0y (g:=w.heap.size+1) (i:=2) (u:=.int .i64 x.when_) (a0y (g:=w.heap.size+1) (i:=1) (u:=.int .i64 x.kind) (a0y (g:=w.heap.size+1) (i:=0) (u:=.string x.cur) hK oM) oM) oM) oM;refine⟨sP,.inl ⟨_,_,rfl,run_takeDeferred a4,⟨_,a1V rfl _ _ _ _ _ _ _ rfl (((((O.set 0 _).set 1 _).set 2 _).set 3 _).putObj D _ oM) underlying41 rfl rsize,by rw[E2.out];rfl,?_⟩⟩⟩;exact((((a9.setCell sP _).setCell sP _).setCell sP _).setCell sP _).trans (belowK_b (w:=ws) oM _ D _ _ oM a4 rfl rfl)
  case stop =>
   rintro D c' S W _ _ hx _;exact hx.elim
attribute [local go_sem] Oper.semAt_some
def Rt.cells (r:Rt):List Value:=[.string r.cur,.int .i64 r.kind,.int .i64 r.when_,.int .i64 r.val]
def rowOf (l:List Rt):List Value:=l.flatMap Rt.cells
theorem a8H (l) (r):rowOf (l++[r])=rowOf l++r.cells:=by simp[rowOf]
theorem info39:(prog.info? 41).map (fun i=>(i.zero,i.size,i.bytes))=some (some Rt.zero.v,4,40):=kR
theorem a5P (i:World) (B s m:Nat) (hm:1<=m) (A) (n c) (rs) (cur) (a b) (hl:rs.length=n) (hn:n<=100000) (q) (hq:q<=s) (a0:s<=i) (hB:B+3<s)
  (I:i.cell? ⟨B,0,none⟩=some (.slice A n c)) (L:i.cell? ⟨B+1,0,none⟩=some (.string cur)) (O:i.cell? ⟨B+2,0,none⟩=some (.int .i64 a)) (Q:i.cell? ⟨B+3,0,none⟩=some (.int .i64 b)) (h:RatesAt i q A rs) :
  SeqStopsK Fence.wide m prog 300 #[.pointer (some ⟨B,0,none⟩),.pointer (some ⟨B+1,0,none⟩),.pointer (some ⟨B+2,0,none⟩),.pointer (some ⟨B+3,0,none⟩)] encR
   (fun W W'=>KeepBut s none W W'/\(W:Nat)<=W') (fun ys=>ys=rs.filter (Rates.sel cur a b)) (fun _=>True) rs.length i:=fun l J E W o T _ X S =>
 a5R m hm l s none B (B+1) (B+2) (B+3) A n c rs cur a b hl hn q hq (fun x e=>by cases e) oM oM oM sP sP sP
  J E W (by have:=o.size;omega) T X ((o.cell (p:=⟨B,0,none⟩) (by show B<_;omega)).trans I) ((o.cell (p:=⟨B+1,0,none⟩) (by show B+1<_;omega)).trans L)
  ((o.cell (p:=⟨B+2,0,none⟩) (by show B+2<_;omega)).trans O) ((o.cell (p:=⟨B+3,0,none⟩) (by show B+3<_;omega)).trans Q) (h.below o oM) S
theorem b3m (W) (g) (t) (r:Rt) (h:Row W g t #[.string r.cur,r.kind,r.when_,r.val]) :
  ∀j u,r.cells[j]?=some u->W.cell? ((⟨g,0,none⟩:Addr).add j)=some u:=by
 intro j u i;have a:(⟨g,0,none⟩:Addr).add j=⟨g,j,none⟩:=by unfold Addr.add;split <;> simp_all
 rw[a,Jv W g j _ _ _ h];rw[<- i];simp[Rt.cells]
theorem a5D (B) (A) (n c) (rs) (cur) (a b) (hl:rs.length=n) (hn:n<=1000) (hB:B+3<w.heap.size)
  (c0:w.cell? ⟨B,0,none⟩=some (.slice A n c)) (c1:w.cell? ⟨B+1,0,none⟩=some (.string cur)) (c2:w.cell? ⟨B+2,0,none⟩=some (.int .i64 a)) (c3:w.cell? ⟨B+3,0,none⟩=some (.int .i64 b)) (h:RatesAt w w A rs) :
  Calls prog 303 #[.slice none 0 0,.func (.func 300) #[] #[.pointer (some ⟨B,0,none⟩),.pointer (some ⟨B+1,0,none⟩),.pointer (some ⟨B+2,0,none⟩),.pointer (some ⟨B+3,0,none⟩)]] w fun e w' =>
   ∃v,e=.returned v/\w'.ownsRow w.heap.size 41 4 v (rs.filter (Rates.sel cur a b)).length (rowOf (rs.filter (Rates.sel cur a b)))/\Below w w w':=by
 obtain⟨i0,hi,ac,ad,ae⟩:=XW info39;have s:Below w w (w.alloc (.cells #[.slice none 0 0] 31)):=(VM _ w).alloc lR _;refine XL.1 (callsIn_of_wp_marks (F:=Fence.wide) (n:=8) func303 rfl trivial ?_ rfl);simp only[ntmps303,Yn,Xl,Y8,Nat.reduceAdd,Nat.reduceSub,Yr,Yl,YT,YW,Xr,XM]
 gi_wp2
 obtain⟨sq,a9⟩:=eX (.func (.func 300) #[] #[.pointer (some ⟨B,0,none⟩),.pointer (some ⟨B+1,0,none⟩),.pointer (some ⟨B+2,0,none⟩),.pointer (some ⟨B+3,0,none⟩)]:Value)
 refine wpIn_rangeFunc_ownH rfl (by omega:1<=8) (gf:=300) (lb:=#[.pointer (some ⟨B,0,none⟩),.pointer (some ⟨B+1,0,none⟩),.pointer (some ⟨B+2,0,none⟩),.pointer (some ⟨B+3,0,none⟩)]) rfl trivial (enters_of func300 kR rfl)
  (a5P (w.alloc (.cells #[.slice none 0 0] 31)) B w.heap.size 7 oM A n c rs cur a b hl oM w lR sP hB
   ((s.cell (p:=⟨B,0,none⟩) (by show B<_;omega)).trans c0) ((s.cell (p:=⟨B+1,0,none⟩) (by show B+1<_;omega)).trans c1) ((s.cell (p:=⟨B+2,0,none⟩) (by show B+2<_;omega)).trans c2) ((s.cell (p:=⟨B+3,0,none⟩) (by show B+3<_;omega)).trans c3) (h.below s lR))
  (fun h k=>⟨h.1.trans k.1,Vn h.2 k.2⟩) (fun W l o o' h1 h2 h3 h4=>⟨KeepBut.putObj (n:=w.heap.size) (w:=w.alloc (.cells #[.slice none 0 0] 31)) sP W l o o' h1 h2 h3 h4,by simp[World.putObj]⟩) bR (fun _=>rfl)
  (fun i W=>(∃v,Boxed W w.heap.size 31 v/\W.ownsRow w.heap.size 41 4 v i.length (rowOf i)/\True)/\Below w w W/\i.length<=i.length) (fun _ _ _=>False)
  (OwnFrom.and (Own.from (holdsRow_own w w.heap.size 31 41 4 (fun i:List Rt=>i.length) rowOf (fun _ _=>True)) _) (OwnFrom.and (ownFrom_below lR sP) (ownFrom_pure _ _))) (fun _ _ _ _ _ hs _ _=>hs)
  ⟨⟨_,Boxed.new w _ _,Xp _ _ _ _,trivial⟩,s,lR⟩
  (fun x a' W=>∃I,w.heap.size<I/\Row W I 41 #[.string x.cur,x.kind,x.when_,x.val]/\a'={ tmps:=#[.slice none 0 0,sq,.pointer (some ⟨w,0,none⟩),undef,.slice none 0 0,.pointer (some ⟨I,0,none⟩),sq,.agg #[.string x.cur,x.kind,x.when_,x.val],undef,undef,undef,undef,undef],defers:=[] })
  ?hAx ?assign ?body ?done ?stop
 case hAx =>
  rintro x a' _ X Y row ⟨I,k1,J,k3⟩ hg a4;exact⟨I,k1,(hg.block I (Array.getElem?_eq_some_iff.1 J).1 (fun e=>by obtain⟨_,o,ho,hc⟩:=a4 I e.symm;rw[show X.heap[I]?=_ from J] at ho;cases ho;cases hc)).trans J,k3⟩
 case assign =>
  rintro l i x W K ⟨⟨v,Q,T,_⟩,S,_⟩ hK;have i4:=Q.lt;subst a9;dsimp only[encR]
  gi_wp2
  exact hK _ _ ((KeepsOthers.alloc _ _).from _) ⟨(KeepBut.refl _ _ _).alloc oM _,sP⟩ ⟨⟨v,Q.alloc _,T.alloc _,trivial⟩,S.alloc S.size _,lR⟩ ⟨W,i4,Vh W _,rfl⟩
 case body =>
  rintro l i x a' W ai ⟨r,_⟩ ⟨⟨v,Q,T,_⟩,S,_⟩ ⟨I,k1,J,rfl⟩ aj;have x0:=cr9 0 J;have x1:=cr9 1 J;have x2:=cr9 2 J;have x3:=cr9 3 J;simp at x0 x1 x2 x3;have hc:=Q.cell;have aa:=S.size;have a0:=b3m _ _ _ x (Vh W (.cells #[.string x.cur,x.kind,x.when_,x.val] 41));have a6:i.length+1<=1000:=oM
  gi_wp2_with (gi_at_builtin;refine wpListIn_append_own _ rfl _ _ 31 rfl w.heap.size 41 i0 Rt.zero.v 4 40 underlying31 hi ac ad ae rfl dC _ _ _ rfl (T.alloc _) ⟨W,0,none⟩ 1 1 x.cells rfl rfl a0 (by simp[Rt.cells,Value.oneCell']) (by unfold maxLen;omega) oM sO ?_)
  intro v' w1 E O _;obtain⟨g',af,rfl⟩:=ownsRow_succ E;obtain⟨a5,ab,a8,a7,L⟩:=Q.appended dC T aa lR E O;have ag:=a5.cell;have ah:=a5.frozen
  gi_wp2
  exact⟨a7.from _,⟨KeepBut.of_below L lR,L.size⟩,⟨_,ab,by rw[Vc,a8H];exact a8,trivial⟩,S.trans L,lR⟩
 case done =>
  rintro D ys W hD rfl ⟨⟨v,Q,T,_⟩,S,_⟩ hK;have hc:=Q.cell
  gi_wp2
  refine⟨sP,.inl ⟨_,_,rfl,run_takeDeferred hK,?_⟩⟩;exact⟨_,results_tmp rfl _ _ _,v,rfl,ownsRow_putObj T _ hK rfl,S.trans (belowK_b (w:=w) lR W D _ _ (by simp at hD;omega) hK rfl rfl)⟩
 case stop =>
  rintro D c' i W _ _ hx _;exact hx.elim
theorem a7A (B:Nat) (A) (n c) (rs) (cur) (a b) (O:rs.length=n) (Q:n<=1000) (L:B+3<w)
  (i:w.cell? ⟨B,0,none⟩=some (.slice A n c)) (o:w.cell? ⟨B+1,0,none⟩=some (.string cur)) (s:w.cell? ⟨B+2,0,none⟩=some (.int .i64 a)) (E:w.cell? ⟨B+3,0,none⟩=some (.int .i64 b)) (h:RatesAt w w A rs) :
  Calls prog 298 #[.func (.func 300) #[] #[.pointer (some ⟨B,0,none⟩),.pointer (some ⟨B+1,0,none⟩),.pointer (some ⟨B+2,0,none⟩),.pointer (some ⟨B+3,0,none⟩)]] w fun e w' =>
   ∃v,e=.returned v/\w'.ownsRow w.heap.size 41 4 v (rs.filter (Rates.sel cur a b)).length (rowOf (rs.filter (Rates.sel cur a b)))/\Below w w w':=by
 have H:=Z1 (a5D w B A n c rs cur a b O Q L i o s E h);clear i o s E h;go_enter func298,ntmps298;go_wp2_with (fail);refine H.mono ?_;rintro e w' ⟨v,rfl,I,J⟩;go_wp2;go_ret;exact⟨v,rfl,I,J⟩
open Go.Lib Go.Sort
instance:Inhabited Rt:=⟨Rt.zero⟩
def cmpR (x y:Rt):Int:=Lib.compareInt x.when_ y.when_
theorem ltR (x y):ltOf cmpR x y=decide (x.when_<y.when_):=by
 unfold ltOf cmpR Lib.compareInt
 by_cases a:x.when_<y.when_
 ·simp[a]
 ·by_cases i:y.when_<x.when_ <;> simp[a,i]
theorem swoR:SWO (ltOf cmpR) where
 irrefl x:=by rw[ltR];simp
 trans x y z h1 h2:=by rw[ltR] at *;simp at *;omega
 ntrans x y z h1 h2:=by rw[ltR] at *;simp at *;omega
theorem b4o (x y) (W):Calls prog 294 #[.agg #[.string x.cur,x.kind,x.when_,x.val],.agg #[.string y.cur,y.kind,y.when_,y.val]] W fun e w' =>
  e=.returned (.int .i64 (cmpR x y))/\∃q os',w'=grow (W.drewN q) os':=by
 have a:=fun i=>AnyG.cmp_Compare_int Tryz.cmpInt x.when_ y.when_ i;change ∀i,Calls prog 86 _ _ _ at a;unfold cmpR
 generalize Lib.compareInt x.when_ y.when_=r at a⊢
 go_enter func294,ntmps294;go_wp2_with (go_at_call 86;refine(a _).mono ?_;rintro e w' ⟨rfl,rfl⟩);go_ret;exact⟨rfl,0,_,by rw[alloc_eq_grow,alloc_eq_grow,grow_grow];rfl⟩
theorem cmpLays (blk off size) (w):CmpLays prog 294 #[] Rt.cells 4 cmpR blk off size w :=
 fun _ _ _ _ x y=>b4o x y _
theorem a6F (w:World) (a off n:Nat) (d) (os) (B) (i:B<=a) (s:B<=w):RowKit.Below B w (sortWorldK Rt.cells 4 w a off n d os):=by
 refine⟨rfl,rfl,rfl,size_sortWorldK_c Rt.cells 4 w a off n d os,fun k o=>?_⟩;show(w.heap.modify a _++os)[k]?=w.heap[k]?;rw[Array.getElem?_append_left sO,Array.getElem?_modify,VB oM]
theorem a5Z (l) (i c) (a:i<l.length) (o:c<4):(rowOf l)[i*4+c]?=(Rt.cells l[i])[c]?:=by
 induction l generalizing i with
 |nil=>simp at a
 |cons r l ih =>
  have e:rowOf (r::l)=r.cells++rowOf l:=by simp[rowOf]
  rw[e]
  cases i with
  |zero =>
   rw[List.getElem?_append_left (by simp[Rt.cells];omega)];simp
  |succ i =>
   rw[List.getElem?_append_right (by simp[Rt.cells];omega)];have:=ih i (by simpa using a);rw[show(i+1)*4+c-r.cells.length=i*4+c by simp[Rt.cells];omega,this];simp
theorem a6s (l) (t) (h:t<l.length*4):(rowOf l)[t]?=some ((flatK Rt.cells 4 l.toArray)[t]!):=by
 have a:t / 4<l.length:=oM;have s:t % 4<4:=QJ _ oM;rw[get_flatK _ _ _ _ (by simpa using h)];have e:t=t / 4*4+t % 4:=oM
 conv=>lhs;rw[e]
 rw[a5Z l (t / 4) (t % 4) a s];have o:l.toArray[t / 4]! = l[t / 4]:=by simp[a]
 rw[o];have i:(Rt.cells l[t / 4]).length=4:=rfl;rw[List.getElem?_eq_getElem oM,getElem!_pos _ _ oM]
theorem b0I {W} {base g n cap} {l} (h:W.ownsRow base 41 4 (.slice (some ⟨g,0,none⟩) n cap) n (rowOf l)) (L:n=l.length):HoldsK Rt.cells 4 W g 0 l.toArray:=by
 subst L
 rcases h.2 with⟨e,_⟩|⟨g',o,cur,e,_,E,J,_,O,i⟩
 ·cases e
 ·simp only[Value.slice.injEq,Option.some.injEq,Addr.mk.injEq,KF,Jl] at e
  obtain⟨rfl,rfl⟩:=e;intro j I;have a:j<l.length*4:=by simpa using I
  refine⟨?_,?_⟩
  ·rw[VN,cr9 _ E,id]
   have s:=a6s l j a;rw[<- i,List.getElem?_take,Vt a] at s;simpa using s
  ·rw[VN];exact fr0 _ E
theorem a5p {W} {g B} {l} (h:HoldsK Rt.cells 4 W g 0 l.toArray) (o:g<B):RatesAt W B (some ⟨g,0,none⟩) l:=by
 refine .inr ⟨g,0,rfl,o,fun k s=>?_⟩
 have a:∀c,c<4->W.cell? ⟨g,0+k*4+c,none⟩=(Rt.cells l[k])[c]?:=fun c a=>by
  have i:=(h (k*4+c) sO).1;rw[VN] at i⊢;rw[i,id,<- a6s l (k*4+c) oM,a5Z l k c s a]
 exact⟨a 0 oM,a 1 oM,a 2 oM,a 3 oM⟩
theorem a7a (l) (d) (S:PermIn 0 l.toArray.size l.toArray d) (T:SortedIn (ltOf cmpR) 0 l.toArray.size d):d.toList.Perm l/\d.toList.Pairwise (fun x y=>x.when_<=y.when_):=by
 obtain⟨L,_,E⟩:=S;have I:d.extract 0 l.toArray.size=d:=by rw[<- L];simp
 have J:l.toArray.extract 0 l.toArray.size=l.toArray:=sP;rw[I,J] at E;refine⟨by simpa using E,?_⟩;rw[YN];intro i j O Q o;have a:i<d.size:=by simpa using O
 have s:j<d.size:=by simpa using Q
 have:=T i j (Vb _) o oM;rw[ltR,getElem!_pos d i a,getElem!_pos d j s] at this;simp only[YF] at this;simp only[Array.getElem_toList];exact Int.not_lt.1 this
theorem isAggR:∀w,(isAgg 41).run prog w=.ok true w:=fun w=>kR
theorem sizeOfR:∀w,(Go.sizeOf 41).run prog w=.ok 4 w:=fun w=>kR
theorem a5T (base g cap) (l) (X:l.length<=1000) (h:w.ownsRow base 41 4 (.slice (some ⟨g,0,none⟩) l.length cap) l.length (rowOf l)) (W:base<=g) :
  Calls prog 299 #[.slice (some ⟨g,0,none⟩) l.length cap,.func (.func 294) #[] #[]] w fun e w' =>
   e=.returned (.tuple #[])/\RowKit.Below (min base w) w w'/\∃s:List Rt,s.Perm l/\s.Pairwise (fun x y=>x.when_<=y.when_)/\RatesAt w' w' (some ⟨g,0,none⟩) s:=by
 have L:=b0I h rfl
 have o:g<w:=by
  rcases h.2 with⟨e,_⟩|⟨g',J,cur,e,_,o,_⟩
  ·cases e
  ·simp only[Value.slice.injEq,Option.some.injEq,Addr.mk.injEq,KF,Jl] at e
   rw[e.1];exact(Array.getElem?_eq_some_iff.1 o).1
 have a:=AnyQ.slices_SortFunc Tryz.sortRt 4 isAggR sizeOfR Rt.cells (fun _=>rfl) (fun x v hv=>by simp[Rt.cells] at hv;rcases hv with rfl|rfl|rfl|rfl <;> rfl) cmpR swoR 294 #[] g 0 cap l.toArray w
  (enters_of func294 kR rfl) (cmpLays g 0 _ w) L o sO
 change Calls prog 299 _ _ _ at a;have i:l.toArray.size=l.length:=sP;rw[i] at a;refine a.mono ?_;rintro e w' ⟨rfl,d,n,I,O,Q,rfl⟩;obtain⟨S,T⟩:=a7a l d (by rw[i];exact O) (by rw[i];exact Q);refine⟨rfl,a6F w g 0 n d I _ oM oM,d.toList,S,T,?_⟩;have E:=holdsK_sortWorldK_c Rt.cells 4 w g 0 l.toArray d n I L o (by simpa using O.1);exact a5p (by simpa using E) (Xg o (size_sortWorldK_c Rt.cells 4 w g 0 n d I))
theorem a4w:Calls prog 306 #[.slice none 0 0,(),(),.func (.func 294) #[] #[]] w fun e w'=>e=.returned (.tuple #[])/\w=w':=by
 go_enter func306,ntmps306;go_wp2
 go_loop [8] (fun i=>i=.int .i64 1) (fun _=>0)
 case atStart=>rfl
 case round =>
  obtain rfl:=hrel;go_wp2
  go_end0
  exact⟨rfl,rfl⟩
theorem b2h (i:Int):Calls prog 304 #[.slice none 0 0,(),(),i,.func (.func 294) #[] #[]] w fun e w'=>e=.returned (.tuple #[])/\w=w':=by
 go_enter func304,ntmps304;go_wp2
 go_loop [1,2] (fun a b=>a=.int .i64 0/\b=.int .i64 0) (fun _ _=>0)
 case atStart=>exact⟨rfl,rfl⟩
 case round =>
  obtain⟨rfl,rfl⟩:=hrel;go_wp2_with (go_at_call 306;refine(a4w _).mono ?_;rintro e w' ⟨rfl,rfl⟩)
  first|go_end0|refine VG (Kb rfl _ _ _) rfl ?_
  exact⟨rfl,rfl⟩
theorem bitsLen0:Calls prog 139 #[.int .u64 0] w fun e w'=>e=.returned (.int .i64 0)/\w=w':=by
 have h:=Any.bits_Len Tryz.bitsLen 0 w oM oM;change Calls prog 139 _ _ _ at h;exact h.mono fun e w' ⟨a,i⟩=>⟨a,i.symm⟩
theorem a5j:Calls prog 299 #[.slice none 0 0,.func (.func 294) #[] #[]] w fun e w'=>e=.returned (.tuple #[])/\w=w':=by
 go_enter func299,ntmps299;go_wp2_with (first|(go_at_call 139;refine(bitsLen0 _).mono ?_;rintro e w' ⟨rfl,rfl⟩)|(go_at_call 304;refine(b2h _ _).mono ?_;rintro e w' ⟨rfl,rfl⟩))
 go_end0
 exact⟨rfl,rfl⟩
theorem a4s (B:Nat) (A) (n c) (rs) (cur) (a b) (hl:rs.length=n) (hn:n<=1000) (hB:B+3<w)
  (W:w.cell? ⟨B,0,none⟩=some (.slice A n c)) (X:w.cell? ⟨B+1,0,none⟩=some (.string cur)) (c2:w.cell? ⟨B+2,0,none⟩=some (.int .i64 a)) (c3:w.cell? ⟨B+3,0,none⟩=some (.int .i64 b)) (h:RatesAt w w A rs) :
  Calls prog 292 #[.func (.func 300) #[] #[.pointer (some ⟨B,0,none⟩),.pointer (some ⟨B+1,0,none⟩),.pointer (some ⟨B+2,0,none⟩),.pointer (some ⟨B+3,0,none⟩)],.func (.func 294) #[] #[]] w fun e w' =>
   RowKit.Below w w w'/\∃(T:OA) (c':Nat) (s:List Rt),e=.returned (.slice T s.length c')/\s.Perm (rs.filter (Rates.sel cur a b))/\s.Pairwise (fun x y=>x.when_<=y.when_)/\RatesAt w' w' T s:=by
 have H:=Z1 (a7A w B A n c rs cur a b hl hn hB W X c2 c3 h);clear W X c2 c3 h;have E:(rs.filter (Rates.sel cur a b)).length<=1000:=Vn (XY _ _) oM;obtain⟨l,J⟩:∃l,rs.filter (Rates.sel cur a b)=l:=⟨_,rfl⟩;rw[J] at H E⊢;clear J;go_enter func292,ntmps292;go_wp2_with (fail);refine H.mono ?_;rintro e w1 ⟨v,rfl,Q,I⟩
 have o:(v=.slice none 0 0/\l=[])∨∃g i,v=.slice (some ⟨g,0,none⟩) l.length i/\w<=g:=by
  rcases Q.2 with⟨e,h0⟩|⟨g,i,a0,e,O,_⟩
  ·exact .inl ⟨e,List.length_eq_zero_iff.1 h0⟩
  ·exact .inr ⟨g,i,e,O⟩
 rcases o with⟨rfl,rfl⟩|⟨g,i,rfl,O⟩
 ·go_wp2_with (go_at_call 299;refine(a5j _).mono ?_;rintro e w' ⟨rfl,rfl⟩)
  go_ret;exact⟨I,none,0,[],rfl,QH _,List.Pairwise.nil,.inl rfl⟩
 ·have Ho:=Z1 Q
  clear Q;go_wp2_with (fail);refine(a5T _ _ g i l E Ho O).mono ?_;rintro e w2 ⟨rfl,L,s,p1,p2,p3⟩;have S:=Z1 p1.length_eq;go_wp2;go_ret;exact⟨I.trans (L.mono (by have:=I.size;omega)),_,i,s,by rw[S.out];rfl,p1,p2,p3⟩
def sumV (l:List Rt):Int:=(l.map (·.val)).sum
theorem a9B (l:List Rt) (k) (h:k<l.length):sumV (l.take (k+1))=sumV (l.take k)+l[k].val:=by
 unfold sumV;rw[tse h,Xn,List.sum_append];simp
theorem b3N (l) (h:∀r∈l,1<=r.val/\r.val<=1000000000000):l.length<=sumV l/\sumV l<=1000000000000*l.length:=by
 unfold sumV
 induction l with
 |nil=>simp
 |cons r l ih =>
  have i:=h r sP;have o:=ih (fun x a=>h x (XZ _ a));simp only[X5,QS,Xl];omega
namespace Rates
def daysP (g:QGrp) (rs:List Rt) (cur:BA) (p:Int):List Rt:=days rs cur (Cal.first g.Y g.M p) (Cal.last g.Y g.M p)
def mean (l:List Rt):Int:=(2*sumV l+l.length) / (2*l.length)
def avg (g:QGrp) (rs:List Rt) (cur:BA) (p:Int):Int × Int :=
 if errP g rs cur p=0 then
  (if(cur.toList==g.gc.toList) then(1000000,0) else match find rs cur 2 p with
   |some v=>(v,0)
   |none=>if(daysP g rs cur p).length=0 then(0,13) else(mean (daysP g rs cur p),0))
 else(0,errP g rs cur p)
theorem a8O (g) (r) (h:proper g r):1<=r.val/\r.val<=1000000000000:=by
 unfold proper at h;simp only[Vp,Xm] at h;exact h.1.2
theorem days_vals (g) (rs) (hv:valid g rs) (cur) (a b):∀r∈days rs cur a b,1<=r.val/\r.val<=1000000000000:=by
 intro r i;obtain⟨o,s,_⟩:=(valid_iff g rs).1 hv;rw[a8f rs s] at i;exact a8O g r (o r (Yw.1 i).1)
theorem daysP_len (g:QGrp) (rs) (cur) (p) (h:errP g rs cur p=0):(daysP g rs cur p).length<=31:=by
 obtain⟨_,_,a⟩:=(errP_zero g rs cur p).1 h;obtain⟨i,o,s⟩:=(Cal.err_zero g.Y g.M g.N p).1 a;have:=Cal.first_bd g.Y g.M g.N p i o s;have:=b3g rs cur (Cal.first g.Y g.M p) (Cal.last g.Y g.M p);unfold daysP;omega
end Rates
def DaysPost (g:QGrp) (rs:List Rt) (cur:BA) (p:Int) (w:World) (e:Ending) (w':World):Prop :=
 Below w w w'/\((Rates.errP g rs cur p≠0/\e=.returned (.tuple #[.slice none 0 0,(Rates.errP g rs cur p)])) ∨
  (Rates.errP g rs cur p=0/\∃A c,e=.returned (.tuple #[.slice A (Rates.daysP g rs cur p).length c,()])/\RatesAt w' w' A (Rates.daysP g rs cur p)))
theorem a6z (g:QGrp) (A) (n c) (rs) (cur) (p:Int) (hl:rs.length=n) (hn:n<=1000) (hg:g.gc.size<=maxLen) (L:cur.size<=maxLen) (hr:∀r∈rs,r.wf) (h:RatesAt w w A rs) :
  Calls prog 279 #[g,.slice A n c,.string cur,p] w (DaysPost g rs cur p w):=by
 have HR:=Z1 (h.start (.cells g 29));have H:=Z1 h;clear h;have E:=(VM w w).alloc lR (.cells g 29);have X:=Vh w (.cells g 29)
 by_cases i:Rates.errP g rs cur p=0
 ·have hf:=(Rates.valid_iff _ _).1 ((Rates.errP_zero g rs cur p).1 i).1
  have Hs:=Z1 (fun s=>Rates.sorted_days rs hf.2.1 cur (Cal.first g.Y g.M p) (Cal.last g.Y g.M p) s);have o:=Z1 i;clear hf i;go_enter func279,ntmps279;go_wp2_with (refine Vd rfl 29 _ rfl _ rfl _ _ _ _ X VS rfl gsize ?_);refine(a4G _ _ _ _ _ rs _ _ hl oM hg L hr HR).mono ?_;rw[Vt o.out];rintro e Q ⟨rfl,T⟩;have a:=E.trans (T.mono sP);have O:=a.size;clear X;go_wp2_with (fail);refine(a5Q _ _ _ _ _ _ _).mono ?_;rintro e w5 ⟨rfl,rfl⟩;have I:=(((((VM Q Q).alloc lR (.cells #[.slice A n c] 31)).alloc sP (.cells #[.string cur] 9)).alloc sO (.cells #[(Cal.first g.Y g.M p)] 3)).alloc sO (.cells #[(Cal.last g.Y g.M p)] 3));have J:=(H.below (a.trans (I.mono O)) lR).more (C:=((((Q.alloc (.cells #[.slice A n c] 31)).alloc (.cells #[.string cur] 9)).alloc (.cells #[(Cal.first g.Y g.M p)] 3)).alloc (.cells #[(Cal.last g.Y g.M p)] 3)).heap.size) sO;have S:=Z1 J;clear J;go_wp2_with (fail);refine(a4s _ Q A n c rs cur (Cal.first g.Y g.M p) (Cal.last g.Y g.M p) hl hn sP (by simp[go_sem]) (by simp[go_sem]) (by simp[go_sem]) (by simp[go_sem]) S).mono ?_;rintro e w6 ⟨W,A',c',s,rfl,p1,p2,p3⟩;have a0:=Hs.out s p1 p2;subst a0;go_wp2
  go_ret2
  exact⟨a.trans ((I.mono O).trans (W.mono sO)),.inr ⟨o,A',c',rfl,p3⟩⟩
 ·have a4:(Rates.errP g rs cur p != 0):=by simpa using i
  have o:=Z1 i;clear i;go_enter func279,ntmps279;go_wp2_with (refine Vd rfl 29 _ rfl _ rfl _ _ _ _ X VS rfl gsize ?_);refine(a4G _ _ _ _ _ rs _ _ hl oM hg L hr HR).mono ?_;rw[VB o.out];rintro e Q ⟨rfl,T⟩;have a:=E.trans (T.mono sP);go_wp2
  go_ret2
  exact⟨a,.inl ⟨o,rfl⟩⟩
theorem b3j (g:QGrp) (A) (n c) (rs) (cur) (p:Int) (hl:rs.length=n) (hn:n<=1000) (hg:g.gc.size<=maxLen) (a5:cur.size<=maxLen) (hr:∀r∈rs,r.wf) (h:RatesAt w w A rs) :
  CL 247 #[g,.slice A n c,.string cur,p] w (.tuple #[.int .i64 (Rates.avg g rs cur p).1,.int .i64 (Rates.avg g rs cur p).2]):=by
 have HR:=Z1 (h.start (.cells g 29));have H:=Z1 h;clear h;have X:=(VM w w).alloc lR (.cells g 29);have hG:=Vh w (.cells g 29)
 by_cases J:Rates.errP g rs cur p=0
 case neg =>
  have ag:(Rates.errP g rs cur p != 0):=by simpa using J
  have E:Hid (Rates.avg g rs cur p=(0,Rates.errP g rs cur p)):=by show _=_;unfold Rates.avg;rw[VB J]
  have H0:=Z1 J;clear J;go_enter func247,ntmps247;go_wp2_with (refine Vd rfl 29 _ rfl _ rfl _ _ _ _ hG VS rfl gsize ?_);refine(a6z _ _ _ _ _ rs _ _ hl hn hg a5 hr HR).mono ?_;rintro e w4 ⟨hB,⟨_,rfl⟩|⟨hx,_⟩⟩
  ·have a:=X.trans (hB.mono sP)
   go_wp2
   go_ret2
   exact⟨by rw[E.out];rfl,a⟩
  ·exact absurd hx H0
 case pos =>
  have hv:=((Rates.errP_zero g rs cur p).1 J).1;have a4:=Z1 (Rates.days_vals g.gc rs hv cur (Cal.first g.Y g.M p) (Cal.last g.Y g.M p));have a6:=Rates.daysP_len g rs cur p J
  have E:Hid (Rates.avg g rs cur p=if(cur.toList==g.gc.toList) then((1000000,0):Int × Int) else match Rates.find rs cur 2 p with
   |some v=>(v,0)
   |none=>if(Rates.daysP g rs cur p).length=0 then((0,13):Int × Int) else(Rates.mean (Rates.daysP g rs cur p),0)):=by show _=_;unfold Rates.avg;rw[Vt J]
  have H0:=Z1 J;clear J hv;go_enter func247,ntmps247;go_wp2_with (refine Vd rfl 29 _ rfl _ rfl _ _ _ _ hG VS rfl gsize ?_);refine(a6z _ _ _ _ _ rs _ _ hl hn hg a5 hr HR).mono ?_;rintro e w4 ⟨hB,⟨hx,_⟩|⟨_,A',c',rfl,hD⟩⟩
  ·exact absurd H0 hx
  have a:=X.trans (hB.mono sP);have a0:=gbox hG hB sP;have g0:=cr9 0 a0;simp at g0;obtain⟨l,Q⟩:∃l,Rates.daysP g rs cur p=l:=⟨_,rfl⟩;have O:Hid (∀r∈l,1<=r.val/\r.val<=1000000000000):=by show∀r∈l,_;rw[<- Q];exact a4.out
  rw[Q] at E hD a6⊢;have HD:=Z1 hD;clear hG Q a4 hD a0
  cases h1:(cur.toList==g.gc.toList) with
  |true =>
   have T:Hid (Rates.avg g rs cur p=((1000000,0):Int × Int)):=by show _=_;rw[E.out,Vt h1]
   go_wp2
   go_ret2
   exact⟨by rw[T.out];rfl,a⟩
  |false =>
   rcases Rates.find_getD (Rates.find rs cur 2 p) with⟨v,hv⟩|hv
   ·have T:Hid (Rates.avg g rs cur p=(v,0)):=by show _=_;rw[E.out,VB (by rw[h1];decide),hv]
    have Hv:=Z1 hv;clear hv;go_wp2_with (fail);refine(a6v _ _ _ _ rs _ _ _ hl hn (H.at_ a lR)).mono ?_;rw[Hv];rintro e w6 ⟨rfl,L⟩;have I:=a.trans (L.mono a.size);go_wp2
    go_ret2
    exact⟨by rw[T.out];rfl,I⟩
   ·have T:Hid (Rates.avg g rs cur p=if l.length=0 then((0,13):Int × Int) else(Rates.mean l,0)):=by show _=_;rw[E.out,VB (by rw[h1];decide),hv]
    have Hv:=Z1 hv;clear hv;go_wp2_with (fail);refine(a6v _ _ _ _ rs _ _ _ hl hn (H.at_ a lR)).mono ?_;rw[Hv];rintro e w6 ⟨rfl,L⟩;have I:=a.trans (L.mono a.size);have a9:=Z1 (HD.at_ L lR)
    by_cases W:l.length=0
    ·have E3:Hid (Rates.avg g rs cur p=(0,13)):=by show _=_;rw[T.out,Vt W]
     have ad:((l.length:Int)==0):=by rw[W];rfl
     clear W;go_wp2
     go_ret2
     exact⟨by rw[E3.out];rfl,I⟩
    ·have E3:Hid (Rates.avg g rs cur p=(Rates.mean l,0)):=by show _=_;rw[T.out,VB W]
     have ad:((l.length:Int)==0)=false:=by simp;exact fun e=>W (by rw[e];rfl)
     have af:1<=l.length:=oM;clear W;go_wp2
     go_loopw [14,46] (fun s i wr=>∃k:Nat,k<=l.length/\i=k/\s=.int .i64 (sumV (l.take k))/\Below w6 w6 wr) (fun _ i _=>l.length-(intOf i).toNat)
     case atStart=>exact⟨0,Vb _,rfl,rfl,bR⟩
     case round =>
      obtain⟨k,hk,rfl,rfl,hb⟩:=hrel;have a7:=b3N (l.take k) (fun r hr=>O.out r (ZV hr));have a8:(l.take k).length=k:=by rw[XF];omega
      rw[a8] at a7;clear a8
      by_cases S:k<l.length
      ·obtain⟨bb,o,rfl,_,c0,c1,c2,c3⟩:=(a9.below hb lR).look S
       have ah:=O.out l[k] (Vm S);have ac:=Z1 (a9B l k S);have ae:=hb.size;go_wp2;go_roundw
       case rel=>exact⟨k+1,oM,by go_num,by rw[ac.out],hb.alloc ae _⟩
       case measure=>exact mS
      ·obtain rfl:k=l.length:=oM
       rw[Xs] at a7;have aa:Hid (sumV (l.take l.length)=sumV l):=by show _=_;rw[Xs]
       rw[aa.out];have ab:Hid (Rates.mean l=(2*sumV l+l.length) / (2*l.length)):=rfl;go_wp2
       go_ret2
       exact⟨by rw[E3.out,ab.out];rfl,I.trans (hb.mono I.size)⟩
theorem b1B (g:QGrp) (A) (n c) (rs) (cur) (d:Int) (Q:rs.length=n) (S:n<=1000) (O:g.gc.size<=maxLen) (o:cur.size<=maxLen) (T:∀r∈rs,r.wf) (h:RatesAt w w A rs) :
  CL 248 #[g,.slice A n c,.string cur,d] w (.tuple #[.int .i64 (Rates.whichR g.gc rs cur d).1.val,.int .i64 (Rates.whichR g.gc rs cur d).2]):=by
 have E:=Z1 (h.start (.cells g 29));clear h;have i:=(VM w w).alloc lR (.cells g 29);have L:=Vh w (.cells g 29);obtain⟨x,s⟩:∃x,Rates.whichR g.gc rs cur d=x:=⟨_,rfl⟩;have I:=Z1 s;rw[s];clear s;go_enter func248,ntmps248;go_wp2_with (refine Vd rfl 29 _ rfl _ rfl _ _ _ _ L VS rfl gsize ?_);refine(a9j _ _ _ _ _ rs _ _ Q S O o T E).mono ?_;rw[I];rintro e W ⟨rfl,J⟩;have a:=i.trans (J.mono sP);unfold Rt.v;go_wp2
 go_ret2
 exact⟨rfl,a.alloc a.size _⟩
end Go.Proofs.YtbhdekahdnenjaaGreatDoor
