/- My texts Spots, Which, Collect, RefDays, SortR, Average, Awake. -/
import Derived.RangeFuncNested
import Derived.RangeFuncBound
import Derived.RangeFuncCalls
import Derived.RangeFuncLeaves
import Derived.Shelf.Abstract
import Derived.OwnWalkIn
import Derived.TacticsInMore
import Derived.LoopNIn
import Derived.LoopIn
import Derived.RangeFuncBox
import Derived.Maps.AppendAt
import Derived.Test.YtniaimjknmhapaaGreatDoorShelf
import Derived.Test.YtniaimjknmhapaaGreatDoorG09
set_option linter.unusedVariables false
set_option linter.unusedSimpArgs false
set_option maxRecDepth 100000
set_option maxHeartbeats 16000000
namespace Go.Proofs.YtniaimjknmhapaaGreatDoor
open Go.Proofs.Tryz Go.RowKit Go.Shelf

attribute [local go_sem] Oper.semAt_some

def KeepBut (n:Nat) (L:Option Nat) (W W':World):Prop:=∀ b,b<n->some b≠L->W'.heap[b]?=W.heap[b]?
theorem KeepBut.refl (n:Nat) (L:Option Nat) (W:World):KeepBut n L W W:=fun _ _ _=>rfl
theorem KeepBut.trans {n:Nat} {L:Option Nat} {A B C:World} (h:KeepBut n L A B) (k:KeepBut n L B C):KeepBut n L A C:=fun b hb hL=>(k b hb hL).trans (h b hb hL)
theorem KeepBut.putObj {n:Nat} {L:Option Nat} {w:World} (hn:n<=w.heap.size) (W:World) (l:Nat) (o o':Obj) (hl:w.heap.size<=l) (_:W.heap[l]?=some o) (_:o.isCells=false) (_:o.isWalk=false):KeepBut n L W (W.putObj l o') :=
 fun _ hb _=>World.putObj_heap_other oM
theorem KeepBut.alloc {n:Nat} {L:Option Nat} {A W:World} (h:KeepBut n L A W) (hn:n<=W.heap.size) (o:Obj):KeepBut n L A (W.alloc o):=fun b hb hL=>(Below.heap_alloc W o b oM).trans (h b hb hL)
theorem KeepBut.cell {n:Nat} {L:Option Nat} {A B:World} (h:KeepBut n L A B) {b:Nat} (hb:b<n) (hL:some b≠L) (o:Nat):B.cell? ⟨b,o,none⟩=A.cell? ⟨b,o,none⟩:=World.cell?_of_block (w:=A) (h b hb hL)
theorem KeepBut.of_below {n m:Nat} {L:Option Nat} {A B:World} (h:Below m A B) (hn:n<=m):KeepBut n L A B:=fun b hb _=>h.block b oM

theorem RatesAt.keep {w w':World} {B n:Nat} {L:Option Nat} {A:Option Addr} {rs:List Rt} (h:RatesAt w B A rs) (hb:KeepBut n L w w') (hB:B<=n) (hL:∀ l,L=some l->B<=l):RatesAt w' B A rs:=by
 rcases h with h | ⟨b,o,e,hl,hc⟩
 ·exact .inl h
 ·have hne:some b≠L:=fun e=>by have:=hL b e.symm;omega
  refine .inr ⟨b,o,e,hl,fun k hk=>?_⟩;obtain⟨h0,h1,h2,h3⟩:=hc k hk;exact⟨(hb.cell oM hne _).trans h0,(hb.cell oM hne _).trans h1,(hb.cell oM hne _).trans h2,(hb.cell oM hne _).trans h3⟩

section
variable (w:World)
theorem a5u (A:Option Addr) (n c:Nat) (cur:ByteArray) (a b:Int) :
  Calls prog 260 #[.slice A n c,.string cur,a,b] w fun e w' =>
   e=.returned (.func (.func 302) #[] #[.pointer (some ⟨w,0,none⟩),.pointer (some ⟨w.heap.size+1,0,none⟩),.pointer (some ⟨w.heap.size+2,0,none⟩),.pointer (some ⟨w.heap.size+3,0,none⟩)]) /\
   w'=(((w.alloc (.cells #[.slice A n c] 31)).alloc (.cells #[.string cur] 9)).alloc (.cells #[a] 3)).alloc (.cells #[b] 3):=by
 go_enter func260,ntmps260;go_wp2;go_ret;exact⟨rfl,rfl⟩

def encR (r:Rt):Array Value:=#[.agg #[.string r.cur,r.kind,r.when_,r.val]]

theorem a3K (rs:List Rt) (p:Rt->Bool) (k:Nat) (h:k<rs.length) (hp:p rs[k]=true):(rs.take (k+1)).filter p=(rs.take k).filter p++[rs[k]]:=by
 rw [tse h,List.filter_append,List.filter_cons_of_pos hp,List.filter_nil]
theorem a2X (rs:List Rt) (p:Rt->Bool) (k:Nat) (h:k<rs.length) (hp:p rs[k]=false):(rs.take (k+1)).filter p=(rs.take k).filter p:=by
 rw [tse h,List.filter_append,List.filter_cons_of_neg (by simp [hp]),List.filter_nil,List.append_nil]

theorem a8M (cur:ByteArray) (a b:Int) (r:Rt) (h:Rates.sel cur a b r=false):(r.cur.toList==cur.toList)=false∨((r.cur.toList==cur.toList)=true/\(r.kind==1)=false) ∨
  ((r.cur.toList==cur.toList)=true/\(r.kind==1)=true/\r.when_<a)∨((r.cur.toList==cur.toList)=true/\(r.kind==1)=true/\a<=r.when_/\b<r.when_):=by
 unfold Rates.sel at h
 cases h1:(r.cur.toList==cur.toList) <;> cases h2:(r.kind==1) <;> simp [h1,h2] at h ⊢
 omega

theorem a5v (m:Nat) (hm:1<=m) (l n₀:Nat) (L:Option Nat) (B0 B1 B2 B3:Nat) (A:Option Addr) (n c:Nat) (rs:List Rt) (cur:ByteArray) (a b:Int) (hl:rs.length=n) (hn:n<=100000)
  (q:Nat) (hq:q<=n₀) (hLq:∀ x,L=some x->q<=x) (hb1:B1<n₀) (hb2:B2<n₀) (hb3:B3<n₀) (hl1:some B1≠L) (hl2:some B2≠L) (hl3:some B3≠L)
  (J Jx:List Rt->World->Prop) (W:World) (hW:n₀<=W.heap.size) (hJ:AbidesFrom W J)
  (hY:∀ pre x W1,J pre W1->pre.length<rs.length->YieldAt Fence.wide (m-1) prog l (encR x) W1 fun e W' =>
   (e=.returned (.bool true)/\J (pre++[x]) W'/\(KeepBut n₀ L W1 W'/\W1.heap.size<=W'.heap.size))∨(e=.returned (.bool false)/\Jx (pre++[x]) W'))
  (c0:W.cell? ⟨B0,0,none⟩=some (.slice A n c)) (c1:W.cell? ⟨B1,0,none⟩=some (.string cur)) (c2:W.cell? ⟨B2,0,none⟩=some (.int .i64 a)) (c3:W.cell? ⟨B3,0,none⟩=some (.int .i64 b))
  (h:RatesAt W q A rs) (h0:J [] W) :
  CallsIn Fence.wide m prog 302 #[.func (.yield l) #[] #[],.pointer (some ⟨B0,0,none⟩),.pointer (some ⟨B1,0,none⟩),.pointer (some ⟨B2,0,none⟩),.pointer (some ⟨B3,0,none⟩)] W fun e W'=>(∃ v,e=.returned v) /\
   ((∃ ys,ys=rs.filter (Rates.sel cur a b)/\J ys W')∨(∃ pre,True/\Jx pre W')):=by
 subst hl;refine callsIn_of_wp func302 rfl trivial ?_ rfl;simp only [ntmps302,List.size_toArray,List.length_cons,List.length_nil,Nat.reduceAdd,Nat.reduceSub,Array.replicate_succ,Array.replicate_zero,List.push_toArray,List.append_toArray,List.nil_append,List.cons_append]
 gi_wp2
 gi_loopw [10] (fun i wr=>∃ k:Nat,k<=rs.length/\i=.int .i64 k/\J ((rs.take k).filter (Rates.sel cur a b)) wr/\KeepBut n₀ L W wr/\W.heap.size<=wr.heap.size) (fun i _=>rs.length-(intOf i).toNat)
 case atStart=>exact⟨0,Nat.zero_le _,rfl,h0,KeepBut.refl _ _ _,lR⟩
 case round =>
  obtain⟨k,hk,rfl,hJs,hKb,hsz⟩:=hrel
  by_cases hlt:k<rs.length
  ·obtain⟨bb,o,rfl,hbB,d0,d1,d2,d3⟩:=(h.keep hKb hq hLq).look hlt
   have hbw:bb<wr.heap.size:=oM;have e1:=(hKb.cell hb1 hl1 0).trans c1;have e2:=(hKb.cell hb2 hl2 0).trans c2;have e3:=(hKb.cell hb3 hl3 0).trans c3;have f1:B1<wr.heap.size:=oM;have f2:B2<wr.heap.size:=oM;have f3:B3<wr.heap.size:=oM
   by_cases hsel:Rates.sel cur a b rs[k]=true
   ·have hft:=Z1 (a3K rs _ k hlt hsel)
    have hlen:((rs.take k).filter (Rates.sel cur a b)).length<rs.length:=Nat.lt_of_le_of_lt (List.length_filter_le _ _) (by rw [List.length_take];omega);have hJa:J ((rs.take k).filter (Rates.sel cur a b)) (wr.alloc (.cells #[.string rs[k].cur,.int .i64 rs[k].kind,.int .i64 rs[k].when_,.int .i64 rs[k].val] 172)):=hJ _ _ _ none hJs (World.grownBy_alloc _ _ none) sP;obtain⟨fn,tmps,assign,body,hy,hR⟩:=hY _ rs[k] _ hJa hlen;obtain⟨h1,h2,h3⟩:=(Rates.sel_iff _ _ _ _).1 hsel;obtain⟨g1,g2,_⟩:=(Rt.at_iff _ _ _ _).1 h1;have q1:(rs[k].cur.toList==cur.toList)=true:=by simp [g1]
    have q2:(rs[k].kind==1)=true:=by simp [g2]
    clear g1 g2 h1 hsel hlen hJa;unfold encR at hy
    gi_wp2
    refine hR.mono ?_;rintro e W3 (⟨rfl,hJ3,hk3,hs3⟩ | ⟨rfl,hJx3⟩)
    ·have hK3:=(hKb.alloc oM _).trans hk3
     have hs3':=hs3;simp at hs3'
     gi_wp2
     go_roundw
     case rel=>exact⟨k+1,oM,by go_num,by rw [hft.out];exact hJ3,hK3,oM⟩
     case measure=>simp [intOf];omega
    ·gi_wp2
     refine bodyPost_ret (results_none rfl _ _ _) rfl ?_;exact⟨⟨_,rfl⟩,.inr ⟨_,trivial,hJx3⟩⟩
   ·have hsel':Rates.sel cur a b rs[k]=false:=by simpa using hsel
    have hft:=Z1 (a2X rs _ k hlt hsel')
    have hJa:Hid (J ((rs.take (k+1)).filter (Rates.sel cur a b)) (wr.alloc (.cells #[.string rs[k].cur,.int .i64 rs[k].kind,.int .i64 rs[k].when_,.int .i64 rs[k].val] 172))):=by
     show J _ _;rw [hft.out];exact hJ _ _ _ none hJs (World.grownBy_alloc _ _ none) sP
    clear hft hsel hJs hY hJ h0
    rcases a8M cur a b rs[k] hsel' with q1 | ⟨q1,q2⟩ | ⟨q1,q2,q3⟩ | ⟨q1,q2,q3,q4⟩
    all_goals
     clear hsel'
     gi_wp2
     refine⟨fun _ _=>trivial,?_⟩
     gi_wp2
     go_roundw
     case rel=>exact⟨k+1,oM,by go_num,hJa.out,hKb.alloc oM _,sO⟩
     case measure=>simp [intOf];omega
  ·obtain rfl:k=rs.length:=oM
   rw [List.take_length] at hJs
   gi_wp2
   go_end0
   exact⟨⟨_,rfl⟩,.inl ⟨_,rfl,hJs⟩⟩

theorem a2h {a w:World} {row:Option Nat} (h:a.grownBy w row) (o:Obj):a.grownBy (w.alloc o) row :=
 ⟨h.os,h.tape,h.output,Nat.le_trans h.size sP,fun i hi hne=>(Below.heap_alloc w o i (Nat.lt_of_lt_of_le hi h.size)).trans (h.block i hi hne)⟩
theorem a1p {a w:World} {row:Option Nat} (h:a.grownBy w row) (n:Nat):a.grownBy (w.drewN n) row:=⟨h.os,h.tape,h.output,h.size,h.block⟩
theorem Xv {a w:World} {g:Nat} (h:a.grownBy w (some g)) (i:Nat) (u:Value):a.grownBy (w.setCell ⟨g,i,none⟩ u) (some g) :=
 ⟨h.os,h.tape,h.output,by simpa [World.setCell] using h.size,fun k hk hne=>(Below.heap_setCell w ⟨g,i,none⟩ u k (fun e=>hne (by rw [e]))).trans (h.block k hk hne)⟩
theorem Xq (w:World) (row:Option Nat):w.grownBy w row:=⟨rfl,rfl,rfl,lR,fun _ _ _=>rfl⟩
def Row (w:World) (g:Nat) (t:TypeId) (cs:Array Value):Prop:=w.heap[g]?=some (.cells cs t (0,0))
theorem Row.set {w:World} {g:Nat} {t:TypeId} {cs:Array Value} (h:Row w g t cs) (i:Nat) (v:Value):Row (w.setCell ⟨g,i,none⟩ v) g t (cs.setIfInBounds i v):=heap_setCell_same w g i cs t v h
theorem Row.alloc {w:World} {g:Nat} {t:TypeId} {cs:Array Value} (h:Row w g t cs) (o:Obj):Row (w.alloc o) g t cs:=(Below.heap_alloc w o g (Array.getElem?_eq_some_iff.1 h).1).trans h
theorem Row.drewN {w:World} {g:Nat} {t:TypeId} {cs:Array Value} (h:Row w g t cs) (n:Nat):Row (w.drewN n) g t cs:=h

def latC (acc:Option Rt):Array Value :=
 match acc with
 | none=>#[.string ByteArray.empty,(),(),(),false]
 | some r=>#[.string r.cur,r.kind,r.when_,r.val,true]

theorem b2w (L:Nat) (acc:Option Rt) (r:Rt) (hL:w.heap[L]?=some (.cells (latC acc) 337 (0,0))) :
  Calls prog 263 #[.pointer (some ⟨L,0,none⟩),.agg #[.string r.cur,r.kind,r.when_,r.val]] w fun e w' =>
   e=.returned (.tuple #[])/\w.grownBy w' (some L)/\w'.heap[L]?=some (.cells (latC (Rates.see acc r)) 337 (0,0)):=by
 have hlt:L<w.heap.size:=(Array.getElem?_eq_some_iff.1 hL).1
 cases acc with
 | none =>
  have z0:=cr9 0 hL;have z1:=cr9 1 hL;have z2:=cr9 2 hL;have z3:=cr9 3 hL;have z4:=cr9 4 hL;have zf:=fun j=>fr0 j hL;simp [latC] at z0 z1 z2 z3 z4;have HL:=Z1 hL;clear hL;go_enter func263,ntmps263;go_wp2;go_quiet (fail);go_wp2
  go_end0
  refine⟨rfl,?_,?_⟩
  ·exact Xv (Xv (Xv (Xv (Xv (a1p (a2h (Xq _ _) _) _) _ _) _ _) _ _) _ _) _ _
  ·exact((((((Row.alloc HL.out _).drewN _).set 0 _).set 1 _).set 2 _).set 3 _).set 4 _
 | some x =>
  have z0:=cr9 0 hL;have z1:=cr9 1 hL;have z2:=cr9 2 hL;have z3:=cr9 3 hL;have z4:=cr9 4 hL;have zf:=fun j=>fr0 j hL;simp [latC] at z0 z1 z2 z3 z4;have HL:=Z1 hL;clear hL
  by_cases hx:x.when_<r.when_
  ·have hs:Hid (Rates.see (some x) r=some r):=by show _=_;simp [Rates.see,hx]
   go_enter func263,ntmps263;go_wp2;go_quiet (fail);go_wp2;rw [hs.out]
   go_end0
   refine⟨rfl,?_,?_⟩
   ·exact Xv (Xv (Xv (Xv (Xv (a1p (a2h (Xq _ _) _) _) _ _) _ _) _ _) _ _) _ _
   ·exact((((((Row.alloc HL.out _).drewN _).set 0 _).set 1 _).set 2 _).set 3 _).set 4 _
  ·have hs:Hid (Rates.see (some x) r=some x):=by show _=_;simp [Rates.see,hx]
   have hx':decide (x.when_<r.when_)=false:=decide_eq_false hx;go_enter func263,ntmps263;go_wp2;go_quiet (fail);go_wp2;rw [hs.out]
   go_end0
   exact⟨rfl,a1p (a2h (Xq _ _) _) _,(Row.alloc HL.out _).drewN _⟩
end
open Go.Proofs.Tryz Go.RowKit Go.Shelf

attribute [local go_sem] Oper.semAt_some

theorem a1u {F:Fence} {n:Nat} {P:Program} {ops:Array Oper} {rest:List Oper} {o:Oper} {a:Act} {w:World} {Q:Exit->Act->World->Prop} (hgd:o.guard=none) (ty:TypeId) (x:Operand) (ho:o.op=.load ty x)
  (g:Nat) (hx:a.eval x=.pointer (some ⟨g,0,none⟩)) (t:TypeId) (cs:Array Value) (fr:Nat × Nat) (d:TypeDesc) (hg:w.heap[g]?=some (.cells cs t fr))
  (hu:P.underlying ty=some d) (hd:(match d with | .struct _ | .array _ _=>true | _=>false)=true) (hi:(P.info? ty).map (·.size)=some cs.size)
  (h:wpListIn F n P ops Q rest (a.put o.dst (.agg cs)) w):wpListIn F n P ops Q (o::rest) a w:=by
 refine wpListIn_plain hgd fun K hK=>?_;unfold Oper.wpIn;refine⟨?_,?_⟩
 ·simp [Oper.about,ho]
 ·rw [Oper.semAt_plain F _ _ (by rw [ho];intro c hc';cases hc')]
  unfold execOp;simp only [ho,hx,Instr.loadAt,Instr.sureAddr,Sem.run_bind,Sem.run_pure,Result.andThen_ok,run_loadVar_row w g t ty cs fr d hg hu hd hi];exact hK _ _ h

theorem a3D (w:World) (X Y Z:Obj):(((w.alloc X).alloc Y).alloc Z).heap[w.heap.size+1+1]?=some Z:=by
 have h:=heap_alloc_new ((w.alloc X).alloc Y) Z
 rwa [World.size_alloc,World.size_alloc] at h

theorem a1I {β:Type} (L:Nat) (t:TypeId) (f:β->Array Value):Own (fun(s:β) W=>Row W L t (f s)):=fun s X Y row hs hg hrow =>
 (hg.block L (Array.getElem?_eq_some_iff.1 hs).1 (fun e=>by obtain⟨o,ho,hc⟩:=hrow L e.symm;rw [show X.heap[L]?=_ from hs] at ho;cases ho;cases hc)).trans hs
theorem Row.other {w:World} {g:Nat} {t:TypeId} {cs:Array Value} (h:Row w g t cs) (p:Addr) (hp:g≠p.block) (u:Value):Row (w.setCell p u) g t cs:=(Below.heap_setCell w p u g hp).trans h
theorem Row.putObj {w:World} {g:Nat} {t:TypeId} {cs:Array Value} (h:Row w g t cs) (D:Nat) (o:Obj) (hD:g≠D):Row (w.putObj D o) g t cs:=(World.putObj_heap_other hD).trans h
theorem Row.below {w w':World} {B g:Nat} {t:TypeId} {cs:Array Value} (h:Row w g t cs) (hb:Below B w w') (hB:g<B):Row w' g t cs:=(hb.block g hB).trans h

theorem a1K {P:Program} {fn:Func} {p t:Tmp} {ty:TypeId} (h:fn.results=#[.cell p ty,.tmp t]) (tmps:Array Value) (w:World) (g:Nat) (tt:TypeId) (cs:Array Value) (fr:Nat × Nat) (d:TypeDesc)
  (hp:tmps.getD p undef=.pointer (some ⟨g,0,none⟩)) (hg:w.heap[g]?=some (.cells cs tt fr))
  (hu:P.underlying ty=some d) (hd:(match d with | .struct _ | .array _ _=>true | _=>false)=true) (hi:(P.info? ty).map (·.size)=some cs.size) :
  (results fn tmps).run P w=.ok (.tuple #[.agg cs,tmps.getD t undef]) w:=by
 have hp':tmps[p]?.getD undef=.pointer (some ⟨g,0,none⟩):=by simpa using hp
 simp [results,h,hp',asAddr,run_loadVar_row w g tt ty cs fr d hg hu hd hi]
theorem rsize:(prog.info? 172).map (·.size)=some 4:=kR
theorem a0y {W:World} {D g i:Nat} {u:Value} {o:Obj} (h:W.heap[D]?=some o) (hne:D≠g):(W.setCell ⟨g,i,none⟩ u).heap[D]?=some o:=(Below.heap_setCell W ⟨g,i,none⟩ u D hne).trans h

theorem a6u (ws:World) (L m:Nat) (hm:1<=m) (A:Option Addr) (n c:Nat) (rs:List Rt) (cur:ByteArray) (a b:Int) (hl:rs.length=n) (hn:n<=100000) (q:Nat) (hqL:q<=L) (hws:ws.heap.size=L+5)
  (c0:ws.cell? ⟨L+1,0,none⟩=some (.slice A n c)) (c1:ws.cell? ⟨L+2,0,none⟩=some (.string cur)) (c2:ws.cell? ⟨L+3,0,none⟩=some (.int .i64 a)) (c3:ws.cell? ⟨L+4,0,none⟩=some (.int .i64 b)) (h:RatesAt ws q A rs) :
  SeqStopsK Fence.wide m prog 302 #[.pointer (some ⟨L+1,0,none⟩),.pointer (some ⟨L+2,0,none⟩),.pointer (some ⟨L+3,0,none⟩),.pointer (some ⟨L+4,0,none⟩)] encR
   (fun W W'=>KeepBut (L+5) (some L) W W'/\W.heap.size<=W'.heap.size) (fun ys=>ys=rs.filter (Rates.sel cur a b)) (fun _=>True) rs.length ws:=fun l J Jx W hW hJ _ hY h0 =>
 a5v m hm l (L+5) (some L) (L+1) (L+2) (L+3) (L+4) A n c rs cur a b hl hn q oM (fun x e=>by cases e;exact hqL) oM oM oM sP sP sP
  J Jx W (by have:=hW.size;omega) hJ hY ((hW.cell (p:=⟨L+1,0,none⟩) (by rw [hws];show L+1<_;omega)).trans c0) ((hW.cell (p:=⟨L+2,0,none⟩) (by rw [hws];show L+2<_;omega)).trans c1)
  ((hW.cell (p:=⟨L+3,0,none⟩) (by rw [hws];show L+3<_;omega)).trans c2) ((hW.cell (p:=⟨L+4,0,none⟩) (by rw [hws];show L+4<_;omega)).trans c3) (h.below hW oM) h0

section
variable (w:World)
theorem Rates.errQ_cases (g:ByteArray) (rs:List Rt) (cur:ByteArray) (d:Int) :
  (Rates.errQ g rs cur d≠0/\(Rates.errQ g rs cur d != 0)=true/\Rates.whichR g rs cur d=(Rt.zero,Rates.errQ g rs cur d)) ∨
  (Rates.errQ g rs cur d=0/\-25567<=d/\d<=84005/\(cur.toList==g.toList)=true/\Rates.whichR g rs cur d=(⟨cur,1,d,1000000⟩,0)) ∨
  (Rates.errQ g rs cur d=0/\-25567<=d/\d<=84005/\(cur.toList==g.toList)=false/\Rates.whichR g rs cur d=match Rates.which rs cur d with | some r=>(r,0) | none=>(Rt.zero,13)):=by
 by_cases h:Rates.errQ g rs cur d=0
 ·have hd:-25567<=d/\d<=84005:=by
   unfold Rates.errQ Rates.dateB at h
   by_cases h1:Rates.valid g rs=true/\Rates.isCur cur=true
   ·rw [if_pos h1] at h
    by_cases h2:-25567<=d/\d<=84005
    ·exact h2
    ·rw [decide_eq_false h2] at h;simp at h
   ·rw [if_neg h1] at h;simp at h
  right
  unfold Rates.whichR;rw [if_pos h]
  cases h3:(cur.toList==g.toList)
  ·right;exact⟨h,hd.1,hd.2,rfl,rfl⟩
  ·left;exact⟨h,hd.1,hd.2,rfl,rfl⟩
 ·left
  unfold Rates.whichR;rw [if_neg h];exact⟨h,by simpa using h,rfl⟩

theorem a8o (g:QGrp) (A:Option Addr) (n c:Nat) (rs:List Rt) (cur:ByteArray) (d:Int) (hl:rs.length=n) (hn:n<=1000) (hg:g.gc.size<=maxLen) (hcu:cur.size<=maxLen) (hr:∀ r∈rs,r.wf) (h:RatesAt w w A rs) :
  CL 221 #[g,.slice A n c,.string cur,d] w (.tuple #[(Rates.whichR g.gc rs cur d).1.v,.int .i64 (Rates.whichR g.gc rs cur d).2]):=by
 have HR:=Z1 (((h.start (.cells g 29)).start (.cells #[.string ByteArray.empty,(),(),()] 172)).start (.cells #[.string cur] 9));have H:=Z1 h;clear h;have hG:=heap_alloc2_old w (.cells g 29) (.cells #[.string ByteArray.empty,(),(),()] 172);have hZ:=heap_alloc2_new w (.cells g 29) (.cells #[.string ByteArray.empty,(),(),()] 172);have hB0:=(((Below.refl w w).alloc lR (.cells g 29)).alloc sP (.cells #[.string ByteArray.empty,(),(),()] 172)).alloc sO (.cells #[.string cur] 9)
 rcases Rates.errQ_cases g.gc rs cur d with⟨h1,h2,e⟩ | ⟨h1,h2,h2',h3,e⟩ | ⟨h1,h2,h2',h3,e⟩
 all_goals
  have E:=Z1 e;clear e;refine callsIn_wide.1 (callsIn_of_wp_marks (F:=Fence.wide) (n:=8) func221 rfl trivial ?_ rfl);simp only [ntmps221,List.size_toArray,List.length_cons,List.length_nil,Nat.reduceAdd,Nat.reduceSub,Array.replicate_succ,Array.replicate_zero,List.push_toArray,List.append_toArray,List.nil_append,List.cons_append]
  gi_wp2_with (refine a1u rfl 29 _ rfl _ rfl _ _ _ _ hG underlying29 rfl gsize ?_)
  refine⟨trivial,callsIn_wide.2 ((b0h _ _ _ _ _ _ _ rs cur d hl oM hg hcu hr HR.out sP ?_).mono ?_)⟩
  ·rw [cr9 _ (a3D _ _ _ _)];rfl
  rintro e w4 ⟨rfl,hB⟩;have hB1:=hB0.trans (hB.mono sO);have hz1:=hB.size;simp at hz1;have hG4:=gbox (heap_alloc_old _ (.cells #[.string cur] 9) _ sO |>.trans hG) hB sO;have hZ4:=gbox (heap_alloc_old _ (.cells #[.string cur] 9) _ sP |>.trans hZ) hB sP;have hc4:=cr9 0 hG4;have hq4:w.heap.size+1<w4.heap.size:=oM;have z0:=cr9 0 hZ4;have z1:=cr9 1 hZ4;have z2:=cr9 2 hZ4;have z3:=cr9 3 hZ4;have zf:=fun j=>fr0 j hZ4;simp at z0 z1 z2 z3 hc4;clear hG hZ
 ·gi_wp2
  refine⟨.tuple #[Rt.zero.v,(Rates.errQ g.gc rs cur d)],by simp [results,results221,go_sem,Rt.v,Rt.zero,z0,z1,z2,z3];try rfl,by rw [E.out],?_⟩;exact(((hB1.setCell sP _).setCell sP _).setCell sP _).setCell sP _
 ·rw [h1]
  gi_wp2
  refine⟨.tuple #[(Rt.mk cur 1 d 1000000).v,()],by simp [results,results221,go_sem,Rt.v,z0,z1,z2,z3],by rw [E.out],?_⟩;exact(((hB1.setCell sP _).setCell sP _).setCell sP _).setCell sP _
 ·rw [h1]
  gi_wp2
  refine⟨trivial,callsIn_wide.2 ((a5u _ _ _ _ _ _ _).mono ?_)⟩;rintro e w5 ⟨rfl,rfl⟩
  gi_wp2
  obtain⟨L,hLe⟩:∃ L,w4.heap.size=L:=⟨_,rfl⟩;have hR0:=H.out.below hB1 lR;have hLw:=hB1.size;obtain⟨ws,hws⟩:∃ ws,((((w4.alloc (.cells #[.string ⟨#[]⟩,(),(),(),false] 337)).alloc (.cells #[.slice A n c] 31)).alloc (.cells #[.string cur] 9)).alloc (.cells #[(d-40:Int)] 3)).alloc (.cells #[d] 3)=ws:=⟨_,rfl⟩;have hwb:Below w4 w4 ws:=by rw [<- hws];exact(((((Below.refl _ w4).alloc lR _).alloc sP _).alloc sO _).alloc sO _).alloc sO _
  have hsz:ws.heap.size=L+5:=by rw [<- hws,<- hLe];simp
  have b0:ws.cell? ⟨L+1,0,none⟩=some (.slice A n c):=by rw [<- hws,<- hLe];simp [go_sem]
  have b1:ws.cell? ⟨L+2,0,none⟩=some (.string cur):=by rw [<- hws,<- hLe];simp [go_sem]
  have b2:ws.cell? ⟨L+3,0,none⟩=some (.int .i64 (d-40)):=by rw [<- hws,<- hLe];simp [go_sem]
  have b3:ws.cell? ⟨L+4,0,none⟩=some (.int .i64 d):=by rw [<- hws,<- hLe];simp [go_sem]
  have bL:Row ws L 337 (latC none):=by
   rw [<- hws,<- hLe];exact(((Row.alloc (heap_alloc_new w4 (.cells (latC none) 337)) _).alloc _).alloc _).alloc _
  rw [hws];simp only [hLe];have hL1:L<=w4.heap.size:=Nat.le_of_eq hLe.symm;have hL2:w4.heap.size<=L:=Nat.le_of_eq hLe;replace hLw:w.heap.size<=L:=oM;replace hwb:Below L w4 ws:=hLe ▸ hwb;clear hLe
  refine wpIn_rangeFunc_ownH rfl (by omega:1<=8) (gf:=302) (lb:=#[.pointer (some ⟨L+1,0,none⟩),.pointer (some ⟨L+2,0,none⟩),.pointer (some ⟨L+3,0,none⟩),.pointer (some ⟨L+4,0,none⟩)]) rfl trivial (enters_of func302 kR rfl)
   (a6u ws L 7 oM A n c rs cur (d-40) d hl oM w hLw hsz b0 b1 b2 b3 (hR0.below hwb hLw))
   (fun h k=>⟨h.1.trans k.1,Nat.le_trans h.2 k.2⟩) (fun W l o o' h1 h2 h3 h4=>⟨KeepBut.putObj (n:=L+5) (w:=ws) oM W l o o' h1 h2 h3 h4,by simp [World.putObj]⟩) bR (fun _=>rfl)
   (fun pre W=>Row W L 337 (latC (pre.foldl Rates.see none))/\Below L w4 W/\L+5<=W.heap.size) (fun _ _ _=>False)
   (OwnFrom.and (Own.from (a1I L 337 (fun pre:List Rt=>latC (pre.foldl Rates.see none))) _) (OwnFrom.and (ownFrom_below oM oM) (fun _ _ _ _ hs hg _=>Nat.le_trans hs hg.size))) (fun _ _ _ _ _ hs _ _=>hs)
   ⟨bL,hwb,oM⟩
   (fun x a' W=>∃ Bx,L+5<=Bx/\Row W Bx 172 #[.string x.cur,x.kind,x.when_,x.val]/\a'={ tmps:=#[.agg g,.slice A n c,.string cur,.int .i64 d,.pointer (some ⟨w,0,none⟩),undef,undef,undef,.pointer (some ⟨w.heap.size+1,0,none⟩),.int .i64 0,.int .i64 0,.pointer (some ⟨L,0,none⟩),.pointer (some ⟨Bx,0,none⟩),.agg g,.slice A n c,.int .i64 d,.string cur,.slice (some ⟨w.heap.size+1+1,0,none⟩) 1 1,.int .i64 0,.int .i64 0,.bool false,undef,undef,.string cur,.pointer (some ⟨w,0,none⟩),.string g.gc,.bool false,undef,undef,undef,.slice A n c,.string cur,.int .i64 d,.int .i64 (d-40),.int .i64 d,.func (.func 302) #[] #[.pointer (some ⟨L+1,0,none⟩),.pointer (some ⟨L+2,0,none⟩),.pointer (some ⟨L+3,0,none⟩),.pointer (some ⟨L+4,0,none⟩)],.agg #[.string x.cur,x.kind,x.when_,x.val],undef,undef,undef,undef,undef,undef,undef,undef],defers:=[] })
   ?hAx ?assign ?body ?done ?stop
  case hAx =>
   rintro x a' _ X Y row ⟨Bx,k1,k2,k3⟩ hg hrow;exact⟨Bx,k1,(hg.block Bx (Array.getElem?_eq_some_iff.1 k2).1 (fun e=>by obtain⟨_,o,ho,hc⟩:=hrow Bx e.symm;rw [show X.heap[Bx]?=_ from k2] at ho;cases ho;cases hc)).trans k2,k3⟩
  case assign =>
   rintro l pre x W K ⟨i1,i2,i3⟩ hK;dsimp only [encR]
   gi_wp2
   exact hK _ _ ((KeepsOthers.alloc _ _).from _) ⟨(KeepBut.refl _ _ _).alloc i3 _,sP⟩ ⟨i1.alloc _,i2.alloc oM _,sO⟩ ⟨W,i3,heap_alloc_new W _,rfl⟩
  case body =>
   rintro l pre x a' W hl' ⟨r,hr'⟩ ⟨i1,i2,i3⟩ ⟨Bx,k1,k2,rfl⟩ hlt;have x0:=cr9 0 k2;have x1:=cr9 1 k2;have x2:=cr9 2 k2;have x3:=cr9 3 k2;simp at x0 x1 x2 x3
   gi_wp2
   refine⟨trivial,CallsIn.inRound l (callsIn_wide.2 ((b2w W L _ x i1).mono ?_))⟩;rintro e W2 ⟨rfl,hg2,hRow2⟩
   gi_wp2
   exact⟨KeepsFrom.of_grownBy hg2 (fun j e=>by cases e;omega),⟨fun b hb hne=>hg2.block b oM hne,hg2.size⟩,by rw [List.foldl_append];exact hRow2,i2.grown hg2 oM (fun k e=>by cases e;exact lR),Nat.le_trans i3 hg2.size⟩
  case done =>
   rintro D ys W hD rfl ⟨i1,i2,i3⟩ hK;have hBW:=hB1.trans (i2.mono oM);have hZW:Row W (w.heap.size+1) 172 _:=Row.below hZ4 i2 oM;clear z0 z1 z2 z3 zf hZ4;have z0:=cr9 0 hZW;have z1:=cr9 1 hZW;have z2:=cr9 2 hZW;have z3:=cr9 3 hZW;have zf:=fun j=>fr0 j hZW;simp at z0 z1 z2 z3;have hres:=E.out;unfold Rates.which at hres
   cases hacc:(rs.filter (Rates.sel cur (d-40) d)).foldl Rates.see none with
   | none =>
    rw [hacc] at hres i1;have E2:=Z1 hres;clear hres;have l4:=cr9 4 i1;simp [latC] at l4;clear hacc
    gi_wp2
    have hK':=a0y (g:=w.heap.size+1) (i:=3) (u:=.int .i64 0) (a0y (g:=w.heap.size+1) (i:=2) (u:=.int .i64 0) (a0y (g:=w.heap.size+1) (i:=1) (u:=.int .i64 0) (a0y (g:=w.heap.size+1) (i:=0) (u:=.string ⟨#[]⟩) hK oM) oM) oM) oM;refine⟨sP,.inl ⟨_,_,rfl,run_takeDeferred hK',⟨_,a1K rfl _ _ _ _ _ _ _ rfl (((((hZW.set 0 _).set 1 _).set 2 _).set 3 _).putObj D _ oM) underlying172 rfl rsize,by rw [E2.out];rfl,?_⟩⟩⟩;exact((((hBW.setCell sP _).setCell sP _).setCell sP _).setCell sP _).trans (belowK_b (w:=ws) oM _ D _ _ oM hK' rfl rfl)
   | some x =>
    rw [hacc] at hres i1;have E2:=Z1 hres;clear hres;have l0:=cr9 0 i1;have l1:=cr9 1 i1;have l2:=cr9 2 i1;have l3:=cr9 3 i1;have l4:=cr9 4 i1;simp [latC] at l0 l1 l2 l3 l4;clear hacc
    gi_wp2
    have hK':=a0y (g:=w.heap.size+1) (i:=3) (u:=.int .i64 x.val) (a0y (g:=w.heap.size+1) (i:=2) (u:=.int .i64 x.when_) (a0y (g:=w.heap.size+1) (i:=1) (u:=.int .i64 x.kind) (a0y (g:=w.heap.size+1) (i:=0) (u:=.string x.cur) hK oM) oM) oM) oM;refine⟨sP,.inl ⟨_,_,rfl,run_takeDeferred hK',⟨_,a1K rfl _ _ _ _ _ _ _ rfl (((((hZW.set 0 _).set 1 _).set 2 _).set 3 _).putObj D _ oM) underlying172 rfl rsize,by rw [E2.out];rfl,?_⟩⟩⟩;exact((((hBW.setCell sP _).setCell sP _).setCell sP _).setCell sP _).trans (belowK_b (w:=ws) oM _ D _ _ oM hK' rfl rfl)
  case stop =>
   rintro D c' pre W _ _ hx _;exact hx.elim
end
open Go.Proofs.Tryz Go.RowKit Go.Shelf

attribute [local go_sem] Oper.semAt_some

def Rt.cells (r:Rt):List Value:=[.string r.cur,.int .i64 r.kind,.int .i64 r.when_,.int .i64 r.val]
def rowOf (l:List Rt):List Value:=l.flatMap Rt.cells
theorem a7M (l:List Rt) (r:Rt):rowOf (l++[r])=rowOf l++r.cells:=by simp [rowOf]
theorem info39:(prog.info? 172).map (fun i=>(i.zero,i.size,i.bytes))=some (some Rt.zero.v,4,40):=kR

theorem a5t (ws:World) (B n₀ m:Nat) (hm:1<=m) (A:Option Addr) (n c:Nat) (rs:List Rt) (cur:ByteArray) (a b:Int) (hl:rs.length=n) (hn:n<=100000) (q:Nat) (hq:q<=n₀) (hws:n₀<=ws.heap.size) (hB:B+3<n₀)
  (c0:ws.cell? ⟨B,0,none⟩=some (.slice A n c)) (c1:ws.cell? ⟨B+1,0,none⟩=some (.string cur)) (c2:ws.cell? ⟨B+2,0,none⟩=some (.int .i64 a)) (c3:ws.cell? ⟨B+3,0,none⟩=some (.int .i64 b)) (h:RatesAt ws q A rs) :
  SeqStopsK Fence.wide m prog 302 #[.pointer (some ⟨B,0,none⟩),.pointer (some ⟨B+1,0,none⟩),.pointer (some ⟨B+2,0,none⟩),.pointer (some ⟨B+3,0,none⟩)] encR
   (fun W W'=>KeepBut n₀ none W W'/\W.heap.size<=W'.heap.size) (fun ys=>ys=rs.filter (Rates.sel cur a b)) (fun _=>True) rs.length ws:=fun l J Jx W hW hJ _ hY h0 =>
 a5v m hm l n₀ none B (B+1) (B+2) (B+3) A n c rs cur a b hl hn q hq (fun x e=>by cases e) oM oM oM sP sP sP
  J Jx W (by have:=hW.size;omega) hJ hY ((hW.cell (p:=⟨B,0,none⟩) (by show B<_;omega)).trans c0) ((hW.cell (p:=⟨B+1,0,none⟩) (by show B+1<_;omega)).trans c1)
  ((hW.cell (p:=⟨B+2,0,none⟩) (by show B+2<_;omega)).trans c2) ((hW.cell (p:=⟨B+3,0,none⟩) (by show B+3<_;omega)).trans c3) (h.below hW oM) h0

theorem b2a (W:World) (g:Nat) (t:TypeId) (r:Rt) (h:Row W g t #[.string r.cur,r.kind,r.when_,r.val]) :
  ∀ j u,r.cells[j]?=some u->W.cell? ((⟨g,0,none⟩:Addr).add j)=some u:=by
 intro j u hj;have hadd:(⟨g,0,none⟩:Addr).add j=⟨g,j,none⟩:=by unfold Addr.add;split <;> simp_all
 rw [hadd,cell_of_row W g j _ _ _ h];rw [<- hj];simp [Rt.cells]

section
variable (w:World)
theorem a5j (B:Nat) (A:Option Addr) (n c:Nat) (rs:List Rt) (cur:ByteArray) (a b:Int) (hl:rs.length=n) (hn:n<=1000) (hB:B+3<w.heap.size)
  (c0:w.cell? ⟨B,0,none⟩=some (.slice A n c)) (c1:w.cell? ⟨B+1,0,none⟩=some (.string cur)) (c2:w.cell? ⟨B+2,0,none⟩=some (.int .i64 a)) (c3:w.cell? ⟨B+3,0,none⟩=some (.int .i64 b)) (h:RatesAt w w A rs) :
  Calls prog 318 #[.slice none 0 0,.func (.func 302) #[] #[.pointer (some ⟨B,0,none⟩),.pointer (some ⟨B+1,0,none⟩),.pointer (some ⟨B+2,0,none⟩),.pointer (some ⟨B+3,0,none⟩)]] w fun e w' =>
   ∃ v,e=.returned v/\w'.ownsRow w.heap.size 172 4 v (rs.filter (Rates.sel cur a b)).length (rowOf (rs.filter (Rates.sel cur a b)))/\Below w w w':=by
 obtain⟨i0,hi,hz0,hz1,hz2⟩:=info_parts info39;have hb0:Below w w (w.alloc (.cells #[.slice none 0 0] 31)):=(Below.refl _ w).alloc lR _;refine callsIn_wide.1 (callsIn_of_wp_marks (F:=Fence.wide) (n:=8) func318 rfl trivial ?_ rfl);simp only [ntmps318,List.size_toArray,List.length_cons,List.length_nil,Nat.reduceAdd,Nat.reduceSub,Array.replicate_succ,Array.replicate_zero,List.push_toArray,List.append_toArray,List.nil_append,List.cons_append]
 gi_wp2
 obtain⟨sq,hsq⟩:∃ sq:Value,sq=.func (.func 302) #[] #[.pointer (some ⟨B,0,none⟩),.pointer (some ⟨B+1,0,none⟩),.pointer (some ⟨B+2,0,none⟩),.pointer (some ⟨B+3,0,none⟩)]:=⟨_,rfl⟩
 refine wpIn_rangeFunc_ownH rfl (by omega:1<=8) (gf:=302) (lb:=#[.pointer (some ⟨B,0,none⟩),.pointer (some ⟨B+1,0,none⟩),.pointer (some ⟨B+2,0,none⟩),.pointer (some ⟨B+3,0,none⟩)]) rfl trivial (enters_of func302 kR rfl)
  (a5t (w.alloc (.cells #[.slice none 0 0] 31)) B w.heap.size 7 oM A n c rs cur a b hl oM w lR sP hB
   ((hb0.cell (p:=⟨B,0,none⟩) (by show B<_;omega)).trans c0) ((hb0.cell (p:=⟨B+1,0,none⟩) (by show B+1<_;omega)).trans c1) ((hb0.cell (p:=⟨B+2,0,none⟩) (by show B+2<_;omega)).trans c2) ((hb0.cell (p:=⟨B+3,0,none⟩) (by show B+3<_;omega)).trans c3) (h.below hb0 lR))
  (fun h k=>⟨h.1.trans k.1,Nat.le_trans h.2 k.2⟩) (fun W l o o' h1 h2 h3 h4=>⟨KeepBut.putObj (n:=w.heap.size) (w:=w.alloc (.cells #[.slice none 0 0] 31)) sP W l o o' h1 h2 h3 h4,by simp [World.putObj]⟩) bR (fun _=>rfl)
  (fun pre W=>(∃ v,Boxed W w.heap.size 31 v/\W.ownsRow w.heap.size 172 4 v pre.length (rowOf pre)/\True)/\Below w w W/\pre.length<=pre.length) (fun _ _ _=>False)
  (OwnFrom.and (Own.from (holdsRow_own w w.heap.size 31 172 4 (fun pre:List Rt=>pre.length) rowOf (fun _ _=>True)) _) (OwnFrom.and (ownFrom_below lR sP) (ownFrom_pure _ _))) (fun _ _ _ _ _ hs _ _=>hs)
  ⟨⟨_,Boxed.new w _ _,World.ownsRow_nil _ _ _ _,trivial⟩,hb0,lR⟩
  (fun x a' W=>∃ Bx,w.heap.size<Bx/\Row W Bx 172 #[.string x.cur,x.kind,x.when_,x.val]/\a'={ tmps:=#[.slice none 0 0,sq,.pointer (some ⟨w,0,none⟩),undef,.slice none 0 0,.pointer (some ⟨Bx,0,none⟩),sq,.agg #[.string x.cur,x.kind,x.when_,x.val],undef,undef,undef,undef,undef],defers:=[] })
  ?hAx ?assign ?body ?done ?stop
 case hAx =>
  rintro x a' _ X Y row ⟨Bx,k1,k2,k3⟩ hg hrow;exact⟨Bx,k1,(hg.block Bx (Array.getElem?_eq_some_iff.1 k2).1 (fun e=>by obtain⟨_,o,ho,hc⟩:=hrow Bx e.symm;rw [show X.heap[Bx]?=_ from k2] at ho;cases ho;cases hc)).trans k2,k3⟩
 case assign =>
  rintro l pre x W K ⟨⟨v,i1,i2,_⟩,i3,_⟩ hK;have i4:=i1.lt;subst hsq;dsimp only [encR]
  gi_wp2
  exact hK _ _ ((KeepsOthers.alloc _ _).from _) ⟨(KeepBut.refl _ _ _).alloc oM _,sP⟩ ⟨⟨v,i1.alloc _,i2.alloc _,trivial⟩,i3.alloc i3.size _,lR⟩ ⟨W,i4,heap_alloc_new W _,rfl⟩
 case body =>
  rintro l pre x a' W hl' ⟨r,hr'⟩ ⟨⟨v,i1,i2,_⟩,i3,_⟩ ⟨Bx,k1,k2,rfl⟩ hlt;have x0:=cr9 0 k2;have x1:=cr9 1 k2;have x2:=cr9 2 k2;have x3:=cr9 3 k2;simp at x0 x1 x2 x3;have hc:=i1.cell;have hsz:=i3.size;have hnew:=b2a _ _ _ x (heap_alloc_new W (.cells #[.string x.cur,x.kind,x.when_,x.val] 172));have hb1000:pre.length+1<=1000:=oM
  gi_wp2_with (gi_at_builtin;refine wpListIn_append_own _ rfl _ _ 31 rfl w.heap.size 172 i0 Rt.zero.v 4 40 underlying31 hi hz0 hz1 hz2 rfl dC _ _ _ rfl (i2.alloc _) ⟨W,0,none⟩ 1 1 x.cells rfl rfl hnew (by simp [Rt.cells,Value.oneCell']) (by unfold maxLen;omega) oM sO ?_)
  intro v' w1 hown' hgrow _;obtain⟨g',cap',rfl⟩:=ownsRow_succ hown';obtain⟨hv1,hv2,hr2,hk2,hb2⟩:=i1.appended dC i2 hsz lR hown' hgrow;have hc1:=hv1.cell;have hf1:=hv1.frozen
  gi_wp2
  exact⟨hk2.from _,⟨KeepBut.of_below hb2 lR,hb2.size⟩,⟨_,hv2,by rw [List.length_append,a7M];exact hr2,trivial⟩,i3.trans hb2,lR⟩
 case done =>
  rintro D ys W hD rfl ⟨⟨v,i1,i2,_⟩,i3,_⟩ hK;have hc:=i1.cell
  gi_wp2
  refine⟨sP,.inl ⟨_,_,rfl,run_takeDeferred hK,?_⟩⟩;exact⟨_,results_tmp rfl _ _ _,v,rfl,ownsRow_putObj i2 _ hK rfl,i3.trans (belowK_b (w:=w) lR W D _ _ (by simp at hD;omega) hK rfl rfl)⟩
 case stop =>
  rintro D c' pre W _ _ hx _;exact hx.elim

theorem a6R (B:Nat) (A:Option Addr) (n c:Nat) (rs:List Rt) (cur:ByteArray) (a b:Int) (hl:rs.length=n) (hn:n<=1000) (hB:B+3<w.heap.size)
  (c0:w.cell? ⟨B,0,none⟩=some (.slice A n c)) (c1:w.cell? ⟨B+1,0,none⟩=some (.string cur)) (c2:w.cell? ⟨B+2,0,none⟩=some (.int .i64 a)) (c3:w.cell? ⟨B+3,0,none⟩=some (.int .i64 b)) (h:RatesAt w w A rs) :
  Calls prog 300 #[.func (.func 302) #[] #[.pointer (some ⟨B,0,none⟩),.pointer (some ⟨B+1,0,none⟩),.pointer (some ⟨B+2,0,none⟩),.pointer (some ⟨B+3,0,none⟩)]] w fun e w' =>
   ∃ v,e=.returned v/\w'.ownsRow w.heap.size 172 4 v (rs.filter (Rates.sel cur a b)).length (rowOf (rs.filter (Rates.sel cur a b)))/\Below w w w':=by
 have H:=Z1 (a5j w B A n c rs cur a b hl hn hB c0 c1 c2 c3 h);clear c0 c1 c2 c3 h;go_enter func300,ntmps300;go_wp2_with (fail);refine H.out.mono ?_;rintro e w' ⟨v,rfl,h1,h2⟩;go_wp2;go_ret;exact⟨v,rfl,h1,h2⟩
end
open Go.RowKit Go.Shelf

section
variable (w:World)
end
open Go.Proofs.Tryz Go.RowKit Go.Shelf Go.Lib Go.Sort

instance:Inhabited Rt:=⟨Rt.zero⟩
def cmpR (x y:Rt):Int:=Lib.compareInt x.when_ y.when_
theorem ltR (x y:Rt):ltOf cmpR x y=decide (x.when_<y.when_):=by
 unfold ltOf cmpR Lib.compareInt
 by_cases h1:x.when_<y.when_
 ·simp [h1]
 ·by_cases h2:y.when_<x.when_ <;> simp [h1,h2]
theorem swoR:SWO (ltOf cmpR) where
 irrefl x:=by rw [ltR];simp
 trans x y z h1 h2:=by rw [ltR] at *;simp at *;omega
 ntrans x y z h1 h2:=by rw [ltR] at *;simp at *;omega

theorem b2T (x y:Rt) (W:World):Calls prog 261 #[.agg #[.string x.cur,x.kind,x.when_,x.val],.agg #[.string y.cur,y.kind,y.when_,y.val]] W fun e w' =>
  e=.returned (.int .i64 (cmpR x y))/\∃ q os',w'=grow (W.drewN q) os':=by
 have hcon:=fun W'=>AnyG.cmp_Compare_int Tryz.cmpInt x.when_ y.when_ W';change ∀ W',Calls prog 27 _ _ _ at hcon;unfold cmpR
 generalize Lib.compareInt x.when_ y.when_=r at hcon ⊢
 go_enter func261,ntmps261;go_wp2_with (go_at_call 27;refine(hcon _).mono ?_;rintro e w' ⟨rfl,rfl⟩);go_ret;exact⟨rfl,0,_,by rw [alloc_eq_grow,alloc_eq_grow,grow_grow];rfl⟩
theorem cmpLays (blk off size:Nat) (w:World):CmpLays prog 261 #[] Rt.cells 4 cmpR blk off size w :=
 fun _ _ _ _ x y=>b2T x y _

theorem a6i (w:World) (blk off n:Nat) (d:Array Rt) (os:Array Obj) (B:Nat) (hB:B<=blk) (hw:B<=w.heap.size):RowKit.Below B w (sortWorldK Rt.cells 4 w blk off n d os):=by
 refine⟨rfl,rfl,rfl,size_sortWorldK_c Rt.cells 4 w blk off n d os,fun k hk=>?_⟩;show(w.heap.modify blk _++os)[k]?=w.heap[k]?;rw [Array.getElem?_append_left sO,Array.getElem?_modify,if_neg oM]

theorem a5D (l:List Rt) (i c:Nat) (hi:i<l.length) (hc:c<4):(rowOf l)[i*4+c]?=(Rt.cells l[i])[c]?:=by
 induction l generalizing i with
 | nil=>simp at hi
 | cons r l ih =>
  have e:rowOf (r::l)=r.cells++rowOf l:=by simp [rowOf]
  rw [e]
  cases i with
  | zero =>
   rw [List.getElem?_append_left (by simp [Rt.cells];omega)];simp
  | succ i =>
   rw [List.getElem?_append_right (by simp [Rt.cells];omega)];have:=ih i (by simpa using hi);rw [show(i+1)*4+c-r.cells.length=i*4+c by simp [Rt.cells];omega,this];simp
theorem a5V (l:List Rt) (t:Nat) (h:t<l.length*4):(rowOf l)[t]?=some ((flatK Rt.cells 4 l.toArray)[t]!):=by
 have hd:t / 4<l.length:=oM;have hm:t % 4<4:=Nat.mod_lt _ oM;rw [get_flatK _ _ _ _ (by simpa using h)];have e:t=t / 4*4+t % 4:=oM
 conv=>lhs;rw [e]
 rw [a5D l (t / 4) (t % 4) hd hm];have e2:l.toArray[t / 4]! = l[t / 4]:=by simp [hd]
 rw [e2];have hlen:(Rt.cells l[t / 4]).length=4:=rfl;rw [List.getElem?_eq_getElem oM,getElem!_pos _ _ oM]
theorem a9C {W:World} {base g n cap:Nat} {l:List Rt} (h:W.ownsRow base 172 4 (.slice (some ⟨g,0,none⟩) n cap) n (rowOf l)) (hn:n=l.length):HoldsK Rt.cells 4 W g 0 l.toArray:=by
 subst hn
 rcases h.2 with⟨e,_⟩ | ⟨g',cap',cur,e,_,hg,hle,_,hsz,htk⟩
 ·cases e
 ·simp only [Value.slice.injEq,Option.some.injEq,Addr.mk.injEq,and_true,true_and] at e
  obtain⟨rfl,rfl⟩:=e;intro j hj;have hj':j<l.length*4:=by simpa using hj
  refine⟨?_,?_⟩
  ·rw [Nat.zero_add,cr9 _ hg,id]
   have hf:=a5V l j hj';rw [<- htk,List.getElem?_take,if_pos hj'] at hf;simpa using hf
  ·rw [Nat.zero_add];exact fr0 _ hg
theorem a4U {W:World} {g B:Nat} {l:List Rt} (h:HoldsK Rt.cells 4 W g 0 l.toArray) (hB:g<B):RatesAt W B (some ⟨g,0,none⟩) l:=by
 refine .inr ⟨g,0,rfl,hB,fun k hk=>?_⟩
 have hc:∀ c,c<4->W.cell? ⟨g,0+k*4+c,none⟩=(Rt.cells l[k])[c]?:=fun c hc=>by
  have h1:=(h (k*4+c) sO).1;rw [Nat.zero_add] at h1 ⊢;rw [h1,id,<- a5V l (k*4+c) oM,a5D l k c hk hc]
 exact⟨hc 0 oM,hc 1 oM,hc 2 oM,hc 3 oM⟩

theorem a6x (l:List Rt) (d:Array Rt) (hp:PermIn 0 l.toArray.size l.toArray d) (hs:SortedIn (ltOf cmpR) 0 l.toArray.size d):d.toList.Perm l/\d.toList.Pairwise (fun x y=>x.when_<=y.when_):=by
 obtain⟨h1,_,h3⟩:=hp;have e1:d.extract 0 l.toArray.size=d:=by rw [<- h1];simp
 have e2:l.toArray.extract 0 l.toArray.size=l.toArray:=sP;rw [e1,e2] at h3;refine⟨by simpa using h3,?_⟩;rw [List.pairwise_iff_getElem];intro i j hi hj hij;have hi':i<d.size:=by simpa using hi
 have hj':j<d.size:=by simpa using hj
 have:=hs i j (Nat.zero_le _) hij oM;rw [ltR,getElem!_pos d i hi',getElem!_pos d j hj'] at this;simp only [decide_eq_false_iff_not] at this;simp only [Array.getElem_toList];exact Int.not_lt.1 this

theorem isAggR:∀ w,(isAgg 172).run prog w=.ok true w:=fun w=>kR
theorem sizeOfR:∀ w,(Go.sizeOf 172).run prog w=.ok 4 w:=fun w=>kR

section
variable (w:World)
theorem a5x (base g cap:Nat) (l:List Rt) (hl:l.length<=1000) (h:w.ownsRow base 172 4 (.slice (some ⟨g,0,none⟩) l.length cap) l.length (rowOf l)) (hb:base<=g) :
  Calls prog 301 #[.slice (some ⟨g,0,none⟩) l.length cap,.func (.func 261) #[] #[]] w fun e w' =>
   e=.returned (.tuple #[])/\RowKit.Below (min base w) w w'/\∃ s:List Rt,s.Perm l/\s.Pairwise (fun x y=>x.when_<=y.when_)/\RatesAt w' w' (some ⟨g,0,none⟩) s:=by
 have hH:=a9C h rfl
 have hg:g<w.heap.size:=by
  rcases h.2 with⟨e,_⟩ | ⟨g',cap',cur,e,_,hg,_⟩
  ·cases e
  ·simp only [Value.slice.injEq,Option.some.injEq,Addr.mk.injEq,and_true,true_and] at e
   rw [e.1];exact(Array.getElem?_eq_some_iff.1 hg).1
 have hcon:=AnyQ.slices_SortFunc Tryz.sortRt 4 isAggR sizeOfR Rt.cells (fun _=>rfl) (fun x v hv=>by simp [Rt.cells] at hv;rcases hv with rfl | rfl | rfl | rfl <;> rfl) cmpR swoR 261 #[] g 0 cap l.toArray w
  (enters_of func261 kR rfl) (cmpLays g 0 _ w) hH hg sO
 change Calls prog 301 _ _ _ at hcon;have hsz:l.toArray.size=l.length:=sP;rw [hsz] at hcon;refine hcon.mono ?_;rintro e w' ⟨rfl,d,n,os,hp,hs,rfl⟩;obtain⟨p1,p2⟩:=a6x l d (by rw [hsz];exact hp) (by rw [hsz];exact hs);refine⟨rfl,a6i w g 0 n d os _ oM oM,d.toList,p1,p2,?_⟩;have hH2:=holdsK_sortWorldK_c Rt.cells 4 w g 0 l.toArray d n os hH hg (by simpa using hp.1);exact a4U (by simpa using hH2) (Nat.lt_of_lt_of_le hg (size_sortWorldK_c Rt.cells 4 w g 0 n d os))

theorem a4d:Calls prog 323 #[.slice none 0 0,(),(),.func (.func 261) #[] #[]] w fun e w'=>e=.returned (.tuple #[])/\w=w':=by
 go_enter func323,ntmps323;go_wp2
 go_loop [8] (fun i=>i=.int .i64 1) (fun _=>0)
 case atStart=>rfl
 case round =>
  obtain rfl:=hrel;go_wp2
  go_end0
  exact⟨rfl,rfl⟩
theorem b0T (lim:Int):Calls prog 319 #[.slice none 0 0,(),(),lim,.func (.func 261) #[] #[]] w fun e w'=>e=.returned (.tuple #[])/\w=w':=by
 go_enter func319,ntmps319;go_wp2
 go_loop [1,2] (fun a b=>a=.int .i64 0/\b=.int .i64 0) (fun _ _=>0)
 case atStart=>exact⟨rfl,rfl⟩
 case round =>
  obtain⟨rfl,rfl⟩:=hrel;go_wp2_with (go_at_call 323;refine(a4d _).mono ?_;rintro e w' ⟨rfl,rfl⟩)
  first | go_end0 | refine bodyPost_ret (results_none rfl _ _ _) rfl ?_
  exact⟨rfl,rfl⟩
theorem bitsLen0:Calls prog 60 #[.int .u64 0] w fun e w'=>e=.returned (.int .i64 0)/\w=w':=by
 have h:=Any.bits_Len Tryz.bitsLen 0 w oM oM;change Calls prog 60 _ _ _ at h;exact h.mono fun e w' ⟨he,hw⟩=>⟨he,hw.symm⟩
theorem a4Q:Calls prog 301 #[.slice none 0 0,.func (.func 261) #[] #[]] w fun e w'=>e=.returned (.tuple #[])/\w=w':=by
 go_enter func301,ntmps301;go_wp2_with (first | (go_at_call 60;refine(bitsLen0 _).mono ?_;rintro e w' ⟨rfl,rfl⟩) | (go_at_call 319;refine(b0T _ _).mono ?_;rintro e w' ⟨rfl,rfl⟩))
 go_end0
 exact⟨rfl,rfl⟩

theorem a3Z (B:Nat) (A:Option Addr) (n c:Nat) (rs:List Rt) (cur:ByteArray) (a b:Int) (hl:rs.length=n) (hn:n<=1000) (hB:B+3<w.heap.size)
  (c0:w.cell? ⟨B,0,none⟩=some (.slice A n c)) (c1:w.cell? ⟨B+1,0,none⟩=some (.string cur)) (c2:w.cell? ⟨B+2,0,none⟩=some (.int .i64 a)) (c3:w.cell? ⟨B+3,0,none⟩=some (.int .i64 b)) (h:RatesAt w w A rs) :
  Calls prog 259 #[.func (.func 302) #[] #[.pointer (some ⟨B,0,none⟩),.pointer (some ⟨B+1,0,none⟩),.pointer (some ⟨B+2,0,none⟩),.pointer (some ⟨B+3,0,none⟩)],.func (.func 261) #[] #[]] w fun e w' =>
   RowKit.Below w w w'/\∃(A':Option Addr) (c':Nat) (s:List Rt),e=.returned (.slice A' s.length c')/\s.Perm (rs.filter (Rates.sel cur a b))/\s.Pairwise (fun x y=>x.when_<=y.when_)/\RatesAt w' w' A' s:=by
 have H:=Z1 (a6R w B A n c rs cur a b hl hn hB c0 c1 c2 c3 h);clear c0 c1 c2 c3 h;have hlen:(rs.filter (Rates.sel cur a b)).length<=1000:=Nat.le_trans (List.length_filter_le _ _) oM;obtain⟨l,hle⟩:∃ l,rs.filter (Rates.sel cur a b)=l:=⟨_,rfl⟩;rw [hle] at H hlen ⊢;clear hle;go_enter func259,ntmps259;go_wp2_with (fail);refine H.out.mono ?_;rintro e w1 ⟨v,rfl,ho,hB1⟩
 have hcases:(v=.slice none 0 0/\l=[])∨∃ g cap,v=.slice (some ⟨g,0,none⟩) l.length cap/\w.heap.size<=g:=by
  rcases ho.2 with⟨e,h0⟩ | ⟨g,cap,cur',e,hb,_⟩
  ·exact .inl ⟨e,List.length_eq_zero_iff.1 h0⟩
  ·exact .inr ⟨g,cap,e,hb⟩
 rcases hcases with⟨rfl,rfl⟩ | ⟨g,cap,rfl,hb⟩
 ·go_wp2_with (go_at_call 301;refine(a4Q _).mono ?_;rintro e w' ⟨rfl,rfl⟩)
  go_ret;exact⟨hB1,none,0,[],rfl,List.Perm.refl _,List.Pairwise.nil,.inl rfl⟩
 ·have Ho:=Z1 ho
  clear ho;go_wp2_with (fail);refine(a5x _ _ g cap l hlen Ho.out hb).mono ?_;rintro e w2 ⟨rfl,hB2,s,p1,p2,p3⟩;have hsl:=Z1 p1.length_eq;go_wp2;go_ret;exact⟨hB1.trans (hB2.mono (by have:=hB1.size;omega)),_,cap,s,by rw [hsl.out];rfl,p1,p2,p3⟩
end
open Go.Proofs.Tryz Go.RowKit Go.Shelf

def sumV (l:List Rt):Int:=(l.map (·.val)).sum
theorem a8C (l:List Rt) (k:Nat) (h:k<l.length):sumV (l.take (k+1))=sumV (l.take k)+l[k].val:=by
 unfold sumV;rw [tse h,List.map_append,List.sum_append];simp
theorem b2v (l:List Rt) (h:∀ r∈l,1<=r.val/\r.val<=1000000000000):l.length<=sumV l/\sumV l<=1000000000000*l.length:=by
 unfold sumV
 induction l with
 | nil=>simp
 | cons r l ih =>
  have h1:=h r sP;have h2:=ih (fun x hx=>h x (List.mem_cons_of_mem _ hx));simp only [List.map_cons,List.sum_cons,List.length_cons];omega
namespace Rates
def daysP (g:QGrp) (rs:List Rt) (cur:ByteArray) (p:Int):List Rt:=days rs cur (Cal.first g.Y g.M p) (Cal.last g.Y g.M p)
def mean (l:List Rt):Int:=(2*sumV l+l.length) / (2*l.length)
def avg (g:QGrp) (rs:List Rt) (cur:ByteArray) (p:Int):Int × Int :=
 if errP g rs cur p=0 then
  (if (cur.toList==g.gc.toList)=true then (1000000,0) else match find rs cur 2 p with
   | some v=>(v,0)
   | none=>if (daysP g rs cur p).length=0 then (0,13) else (mean (daysP g rs cur p),0))
 else (0,errP g rs cur p)
theorem a7U (g:ByteArray) (r:Rt) (h:proper g r=true):1<=r.val/\r.val<=1000000000000:=by
 unfold proper at h;simp only [Bool.and_eq_true,decide_eq_true_eq] at h;exact h.1.2
theorem days_vals (g:ByteArray) (rs:List Rt) (hv:valid g rs=true) (cur:ByteArray) (a b:Int):∀ r∈days rs cur a b,1<=r.val/\r.val<=1000000000000:=by
 intro r hr;obtain⟨h1,h2,_⟩:=(valid_iff g rs).1 hv;rw [a7q rs h2] at hr;exact a7U g r (h1 r (List.mem_filter.1 hr).1)
theorem daysP_len (g:QGrp) (rs:List Rt) (cur:ByteArray) (p:Int) (h:errP g rs cur p=0):(daysP g rs cur p).length<=31:=by
 obtain⟨_,_,h3⟩:=(errP_zero g rs cur p).1 h;obtain⟨k1,k2,k3⟩:=(Cal.err_zero g.Y g.M g.N p).1 h3;have:=Cal.first_bd g.Y g.M g.N p k1 k2 k3;have:=b1S rs cur (Cal.first g.Y g.M p) (Cal.last g.Y g.M p);unfold daysP;omega
end Rates

section
variable (w:World)
def DaysPost (g:QGrp) (rs:List Rt) (cur:ByteArray) (p:Int) (w:World) (e:Ending) (w':World):Prop :=
 Below w w w'/\((Rates.errP g rs cur p≠0/\e=.returned (.tuple #[.slice none 0 0,(Rates.errP g rs cur p)])) ∨
  (Rates.errP g rs cur p=0/\∃ A c,e=.returned (.tuple #[.slice A (Rates.daysP g rs cur p).length c,()])/\RatesAt w' w' A (Rates.daysP g rs cur p)))

theorem a6c (g:QGrp) (A:Option Addr) (n c:Nat) (rs:List Rt) (cur:ByteArray) (p:Int) (hl:rs.length=n) (hn:n<=1000) (hg:g.gc.size<=maxLen) (hcu:cur.size<=maxLen) (hr:∀ r∈rs,r.wf) (h:RatesAt w w A rs) :
  Calls prog 219 #[g,.slice A n c,.string cur,p] w (DaysPost g rs cur p w):=by
 have HR:=Z1 (h.start (.cells g 29));have H:=Z1 h;clear h;have hB0:=(Below.refl w w).alloc lR (.cells g 29);have hG:=heap_alloc_new w (.cells g 29)
 by_cases h0:Rates.errP g rs cur p=0
 ·have hf:=(Rates.valid_iff _ _).1 ((Rates.errP_zero g rs cur p).1 h0).1
  have Hs:=Z1 (fun s=>Rates.sorted_days rs hf.2.1 cur (Cal.first g.Y g.M p) (Cal.last g.Y g.M p) s);have H0:=Z1 h0;clear hf h0;go_enter func219,ntmps219;go_wp2_with (refine wpList_load_row rfl 29 _ rfl _ rfl _ _ _ _ hG underlying29 rfl gsize ?_);refine(a4p _ _ _ _ _ rs _ _ hl oM hg hcu hr HR.out).mono ?_;rw [if_pos H0.out];rintro e w4 ⟨rfl,hB⟩;have hB1:=hB0.trans (hB.mono sP);have hz1:=hB1.size;clear hG;go_wp2_with (fail);refine(a5u _ _ _ _ _ _ _).mono ?_;rintro e w5 ⟨rfl,rfl⟩;have hBs:=(((((Below.refl w4 w4).alloc lR (.cells #[.slice A n c] 31)).alloc sP (.cells #[.string cur] 9)).alloc sO (.cells #[(Cal.first g.Y g.M p)] 3)).alloc sO (.cells #[(Cal.last g.Y g.M p)] 3));have hR5:=(H.out.below (hB1.trans (hBs.mono hz1)) lR).more (C:=((((w4.alloc (.cells #[.slice A n c] 31)).alloc (.cells #[.string cur] 9)).alloc (.cells #[(Cal.first g.Y g.M p)] 3)).alloc (.cells #[(Cal.last g.Y g.M p)] 3)).heap.size) sO;have HR5:=Z1 hR5;clear hR5;go_wp2_with (fail);refine(a3Z _ w4 A n c rs cur (Cal.first g.Y g.M p) (Cal.last g.Y g.M p) hl hn sP (by simp [go_sem]) (by simp [go_sem]) (by simp [go_sem]) (by simp [go_sem]) HR5.out).mono ?_;rintro e w6 ⟨hB6,A',c',s,rfl,p1,p2,p3⟩;have hsd:=Hs.out s p1 p2;subst hsd;go_wp2
  go_ret2
  exact⟨hB1.trans ((hBs.mono hz1).trans (hB6.mono sO)),.inr ⟨H0.out,A',c',rfl,p3⟩⟩
 ·have hn0:(Rates.errP g rs cur p != 0)=true:=by simpa using h0
  have H0:=Z1 h0;clear h0;go_enter func219,ntmps219;go_wp2_with (refine wpList_load_row rfl 29 _ rfl _ rfl _ _ _ _ hG underlying29 rfl gsize ?_);refine(a4p _ _ _ _ _ rs _ _ hl oM hg hcu hr HR.out).mono ?_;rw [if_neg H0.out];rintro e w4 ⟨rfl,hB⟩;have hB1:=hB0.trans (hB.mono sP);go_wp2
  go_ret2
  exact⟨hB1,.inl ⟨H0.out,rfl⟩⟩

theorem b1V (g:QGrp) (A:Option Addr) (n c:Nat) (rs:List Rt) (cur:ByteArray) (p:Int) (hl:rs.length=n) (hn:n<=1000) (hg:g.gc.size<=maxLen) (hcu:cur.size<=maxLen) (hr:∀ r∈rs,r.wf) (h:RatesAt w w A rs) :
  CL 179 #[g,.slice A n c,.string cur,p] w (.tuple #[.int .i64 (Rates.avg g rs cur p).1,.int .i64 (Rates.avg g rs cur p).2]):=by
 have HR:=Z1 (h.start (.cells g 29));have H:=Z1 h;clear h;have hB0:=(Below.refl w w).alloc lR (.cells g 29);have hG:=heap_alloc_new w (.cells g 29)
 by_cases h0:Rates.errP g rs cur p=0
 case neg =>
  have hn0:(Rates.errP g rs cur p != 0)=true:=by simpa using h0
  have E:Hid (Rates.avg g rs cur p=(0,Rates.errP g rs cur p)):=by show _=_;unfold Rates.avg;rw [if_neg h0]
  have H0:=Z1 h0;clear h0;go_enter func179,ntmps179;go_wp2_with (refine wpList_load_row rfl 29 _ rfl _ rfl _ _ _ _ hG underlying29 rfl gsize ?_);refine(a6c _ _ _ _ _ rs _ _ hl hn hg hcu hr HR.out).mono ?_;rintro e w4 ⟨hB,⟨_,rfl⟩ | ⟨hx,_⟩⟩
  ·have hB1:=hB0.trans (hB.mono sP)
   go_wp2
   go_ret2
   exact⟨by rw [E.out];rfl,hB1⟩
  ·exact absurd hx H0.out
 case pos =>
  have hv:=((Rates.errP_zero g rs cur p).1 h0).1;have hbd:=Z1 (Rates.days_vals g.gc rs hv cur (Cal.first g.Y g.M p) (Cal.last g.Y g.M p));have hlen:=Rates.daysP_len g rs cur p h0
  have E:Hid (Rates.avg g rs cur p=if (cur.toList==g.gc.toList)=true then ((1000000,0):Int × Int) else match Rates.find rs cur 2 p with
   | some v=>(v,0)
   | none=>if (Rates.daysP g rs cur p).length=0 then ((0,13):Int × Int) else (Rates.mean (Rates.daysP g rs cur p),0)):=by show _=_;unfold Rates.avg;rw [if_pos h0]
  have H0:=Z1 h0;clear h0 hv;go_enter func179,ntmps179;go_wp2_with (refine wpList_load_row rfl 29 _ rfl _ rfl _ _ _ _ hG underlying29 rfl gsize ?_);refine(a6c _ _ _ _ _ rs _ _ hl hn hg hcu hr HR.out).mono ?_;rintro e w4 ⟨hB,⟨hx,_⟩ | ⟨_,A',c',rfl,hD⟩⟩
  ·exact absurd H0.out hx
  have hB1:=hB0.trans (hB.mono sP);have hz4:=hB.size;simp at hz4;have hG4:=gbox hG hB sP;have g0:=cr9 0 hG4;simp at g0;have hq4:w.heap.size<w4.heap.size:=oM;obtain⟨l,hle⟩:∃ l,Rates.daysP g rs cur p=l:=⟨_,rfl⟩;have hbd2:Hid (∀ r∈l,1<=r.val/\r.val<=1000000000000):=by show ∀ r∈l,_;rw [<- hle];exact hbd.out
  rw [hle] at E hD hlen ⊢;have HD:=Z1 hD;clear hG hle hbd hD hG4
  cases h1:(cur.toList==g.gc.toList) with
  | true =>
   have E2:Hid (Rates.avg g rs cur p=((1000000,0):Int × Int)):=by show _=_;rw [E.out,if_pos h1]
   go_wp2
   go_ret2
   exact⟨by rw [E2.out];rfl,hB1⟩
  | false =>
   rcases Rates.find_getD (Rates.find rs cur 2 p) with⟨v,hv⟩ | hv
   ·have E2:Hid (Rates.avg g rs cur p=(v,0)):=by show _=_;rw [E.out,if_neg (by rw [h1];decide),hv]
    have Hv:=Z1 hv;clear hv;go_wp2_with (fail);refine(a5X _ _ _ _ rs _ _ _ hl hn (H.out.at_ hB1 lR)).mono ?_;rw [Hv.out];rintro e w6 ⟨rfl,hB6⟩;have hB2:=hB1.trans (hB6.mono hB1.size);go_wp2
    go_ret2
    exact⟨by rw [E2.out];rfl,hB2⟩
   ·have E2:Hid (Rates.avg g rs cur p=if l.length=0 then ((0,13):Int × Int) else (Rates.mean l,0)):=by show _=_;rw [E.out,if_neg (by rw [h1];decide),hv]
    have Hv:=Z1 hv;clear hv;go_wp2_with (fail);refine(a5X _ _ _ _ rs _ _ _ hl hn (H.out.at_ hB1 lR)).mono ?_;rw [Hv.out];rintro e w6 ⟨rfl,hB6⟩;have hB2:=hB1.trans (hB6.mono hB1.size);have HD6:=Z1 (HD.out.at_ hB6 lR)
    by_cases hz:l.length=0
    ·have E3:Hid (Rates.avg g rs cur p=(0,13)):=by show _=_;rw [E2.out,if_pos hz]
     have hz':((l.length:Int)==0)=true:=by rw [hz];rfl
     clear hz;go_wp2
     go_ret2
     exact⟨by rw [E3.out];rfl,hB2⟩
    ·have E3:Hid (Rates.avg g rs cur p=(Rates.mean l,0)):=by show _=_;rw [E2.out,if_neg hz]
     have hz':((l.length:Int)==0)=false:=by simp;exact fun e=>hz (by rw [e];rfl)
     have hpos:1<=l.length:=oM;clear hz;go_wp2
     go_loopw [14,46] (fun s i wr=>∃ k:Nat,k<=l.length/\i=.int .i64 k/\s=.int .i64 (sumV (l.take k))/\Below w6 w6 wr) (fun _ i _=>l.length-(intOf i).toNat)
     case atStart=>exact⟨0,Nat.zero_le _,rfl,rfl,bR⟩
     case round =>
      obtain⟨k,hk,rfl,rfl,hb⟩:=hrel;have hsb:=b2v (l.take k) (fun r hr=>hbd2.out r (List.mem_of_mem_take hr));have htk:(l.take k).length=k:=by rw [List.length_take];omega
      rw [htk] at hsb;clear htk
      by_cases hlt:k<l.length
      ·obtain⟨bb,o,rfl,hbB,c0,c1,c2,c3⟩:=(HD6.out.below hb lR).look hlt
       have hbw:bb<wr.heap.size:=Nat.lt_of_lt_of_le hbB hb.size;have hvb:=hbd2.out l[k] (List.getElem_mem hlt);have hst:=Z1 (a8C l k hlt);have hzr:=hb.size;go_wp2;go_roundw
       case rel=>exact⟨k+1,oM,by go_num,by rw [hst.out],hb.alloc hzr _⟩
       case measure=>simp [intOf];omega
      ·obtain rfl:k=l.length:=oM
       rw [List.take_length] at hsb;have hft:Hid (sumV (l.take l.length)=sumV l):=by show _=_;rw [List.take_length]
       rw [hft.out];have hmn:Hid (Rates.mean l=(2*sumV l+l.length) / (2*l.length)):=rfl;go_wp2
       go_ret2
       exact⟨by rw [E3.out,hmn.out];rfl,hB2.trans (hb.mono hB2.size)⟩

end
open Go.Proofs.Tryz Go.RowKit Go.Shelf

section
variable (w:World)
theorem b0r (g:QGrp) (A:Option Addr) (n c:Nat) (rs:List Rt) (cur:ByteArray) (d:Int) (hl:rs.length=n) (hn:n<=1000) (hg:g.gc.size<=maxLen) (hcu:cur.size<=maxLen) (hr:∀ r∈rs,r.wf) (h:RatesAt w w A rs) :
  CL 180 #[g,.slice A n c,.string cur,d] w (.tuple #[.int .i64 (Rates.whichR g.gc rs cur d).1.val,.int .i64 (Rates.whichR g.gc rs cur d).2]):=by
 have HR:=Z1 (h.start (.cells g 29));clear h;have hB0:=(Below.refl w w).alloc lR (.cells g 29);have hG:=heap_alloc_new w (.cells g 29);obtain⟨x,hx⟩:∃ x,Rates.whichR g.gc rs cur d=x:=⟨_,rfl⟩;have Hx:=Z1 hx;rw [hx];clear hx;go_enter func180,ntmps180;go_wp2_with (refine wpList_load_row rfl 29 _ rfl _ rfl _ _ _ _ hG underlying29 rfl gsize ?_);refine(a8o _ _ _ _ _ rs _ _ hl hn hg hcu hr HR.out).mono ?_;rw [Hx.out];rintro e w4 ⟨rfl,hB⟩;have hB1:=hB0.trans (hB.mono sP);unfold Rt.v;go_wp2
 go_ret2
 exact⟨rfl,hB1.alloc hB1.size _⟩

end

end Go.Proofs.YtniaimjknmhapaaGreatDoor
