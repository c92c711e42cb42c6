/- Lemmas. -/
import Derived.Maps.Own
import Derived.Maps.OwnOps
import Derived.Maps.Views
import Derived.DeepKeys4
import Derived.ProofKit
import Derived.StillTailTactics
import Derived.Test.YtbhdekahdnenjaaGreatDoorG07
import Derived.Test.YtbhdekahdnenjaaGreatDoorG08
set_option linter.unusedVariables false
set_option linter.unusedSimpArgs false
set_option maxRecDepth 100000
set_option maxHeartbeats 16000000
namespace Go.Proofs.YtbhdekahdnenjaaGreatDoor
open Go.RowKit Go.Maps
variable (w:World)
def heldR (v:Value):Option (DataW Value × List MemPlace):=some (.held v,[])
def MapAt (w:World) (P:Program) (k:TypeId) (b n:Nat) (f:Value->Option Value):Prop :=
 ∃D:DataW Value,w.ownsMap P k heldR b n D/\IsMap D/\∀x a,keyOf P k x=some a->∀z,D.atKey a (.held z)=.held ((f x).getD z)
section
variable {w w':World} {P:Program} {k t e:TypeId} {b n:Nat} {f:Value->Option Value}
theorem MapAt.lt (h:MapAt w P k b n f):b<w:=by obtain⟨D,h,_⟩:=h;exact h.lt
theorem MapAt.made (w:World) (P:Program) (k:TypeId):MapAt (w.alloc (.map #[] 0)) P k w.heap.size 0 (fun _=>none) :=
 ⟨_,World.ownsMap_made w P k heldR,isMap_empty,fun _ _ _ _=>rfl⟩
theorem MapAt.kept {row:Option Nat} (h:MapAt w P k b n f) (i:w.grownBy w' row) (a:some b≠row):MapAt w' P k b n f:=by
 obtain⟨D,h,r⟩:=h;exact⟨D,h.kept i a,r⟩
theorem MapAt.alloc (h:MapAt w P k b n f) (o:Obj):MapAt (w.alloc o) P k b n f:=by obtain⟨D,h,r⟩:=h;exact⟨D,h.alloc o,r⟩
theorem MapAt.drew (h:MapAt w P k b n f):MapAt w.drew P k b n f:=h
theorem MapAt.below {B:Nat} (h:MapAt w P k b n f) (s:Below B w w') (o:b<B):MapAt w' P k b n f:=by
 obtain⟨D,⟨i,a,E,r⟩,I⟩:=h;exact⟨D,⟨i,a,(s.block b o).trans E,r⟩,I⟩
theorem MapAt.mono (h:MapAt w P k b n f) {a:Nat} (i:n<=a):MapAt w P k b a f:=by obtain⟨D,h,r⟩:=h;exact⟨D,h.mono i,r⟩
theorem MapAt.ext {g:Value->Option Value} (h:MapAt w P k b n f) (e:∀x kl,keyOf P k x=some kl->f x=g x):MapAt w P k b n g:=by
 obtain⟨D,h,r,s⟩:=h;exact⟨D,h,r,fun x kl a z=>by rw[<- e x kl a];exact s x kl a z⟩
theorem MapAt.lookup (h:MapAt w P k b n f) (K:Keyed P k) (I:P.underlying t=some (.map k e)) {z:Value} (J:(zeroValue e).run P w=.ok z w)
  {a:Value} {E:Lit} (i:keyOf P k a=some E):(Instr.lookup t (.map (some b)) a false).run P w=.ok ((f a).getD z) w:=by
 obtain⟨D,h,_,s⟩:=h;obtain⟨v,L,o,hv⟩:=h.lookup K I J (zd:=.held z) (zp:=[]) rfl i;rw[s a E i z] at hv;simp only[heldR,Option.some.injEq,Prod.mk.injEq,DataW.held.injEq] at hv;rw[o,hv.1]
open Classical in
theorem MapAt.update (h:MapAt w P k b n f) (K:Keyed P k) (T:P.underlying t=some (.map k e)) (Q:n<maxLen) {i val:Value} {W:Lit} (a:keyOf P k i=some W) :
  ∃w',(Instr.mapUpdate t (.map (some b)) i val).run P w=.ok () w'/\MapAt w' P k b (n+1) (fun x=>if x=i then some val else f x)/\w.grownBy w' (some b):=by
 obtain⟨D,h,L,s⟩:=h;obtain⟨w',o,S,O⟩:=h.update K T Q a (d:=.held val) (ps:=[]) rfl;refine⟨w',o,⟨_,S,L.put _ _,fun x J E z=>?_⟩,O⟩
 by_cases I:x=i
 ·subst I
  rw[a] at E;cases E;rw[atKey_put_same L (K.key a)];show _=DataW.held ((if x=x then some val else f x).getD z);rw[Vt rfl];rfl
 ·show _=DataW.held ((if x=i then some val else f x).getD z)
  rw[VB I,<- s x J E z];exact atKey_put_other (fun e=>I (K.inj (by rw[E,e]) a)) _ _
open Classical in
theorem Xv {J:Array Oper} {i:List Oper} {o:Oper} {a:Act} {Q:Exit->Act->World->Prop}
  (T:o.guard=none) (m x v:Operand) (O:o.op=Op.mapUpdate t m x v) (h:MapAt w P k b n f) (K:Keyed P k) (ht:P.underlying t=some (.map k e))
  (W:a.eval m=.map (some b)) (X:n<maxLen) (s val:Value) (kl:Lit) (hx:a.eval x=s) (hv:a.eval v=val) (E:keyOf P k s=some kl)
  (S:∀w',MapAt w' P k b (n+1) (fun x=>if x=s then some val else f x)->w.grownBy w' (some b)->wpList P J Q i (a.put o.dst undef) w') :
  wpList P J Q (o::i) a w:=by
 refine Jt T fun K' L=>?_;obtain⟨w',I,r1,r2⟩:=h.update K ht X (val:=val) E;unfold Oper.wp;simp[execOp,O,W,hx,hv,I,Result.andThen];exact L _ _ (S w' r1 r2)
end
open Tryz
theorem laidOut:laidOutB prog:=kR
theorem keyLaw:Maps.Keyed prog 146:=Kx (deep_law_laid laidOut (m:=2) oM (YZ kR) kR kR)
theorem keyOk (s:BA) (a b:Int) (T:s.size<=maxLen) (O:(Lit.int .i64 a).wf) (Q:(Lit.int .i64 b).wf):∃kl,keyOf prog 146 (.agg #[.string s,a,b])=some kl:=by
 unfold keyOf;rw[underlying146];have I:prog.keyType 146:=kR;have i:prog.cellsOf 146=3:=kR
 have J:(Value.agg #[.string s,a,b]).formed prog 146:=by
  simp[Value.formed,underlying146,i]
 simp only[I,J,Qm,if_true];have L:∃n,prog.types.size=n+1:=⟨prog.types.size-1,by have:0<prog.types.size:=YZ kR;omega⟩;obtain⟨n,S⟩:=L;rw[S];have o:prog.cellsOf 9=1:=kR;have E:prog.cellsOf 3=1:=kR;simp[Program.keyLits,underlying146,Qh,YM,Value.cells,o,E,i,T,O,Q]
def Rt.wf (r:Rt):Prop:=r.cur.size<=maxLen/\(Lit.int .i64 r.kind).wf/\(Lit.int .i64 r.when_).wf/\(Lit.int .i64 r.val).wf
def Seen (w:World) (b:Nat) (rs:List Rt) (k:Nat):Prop :=
 ∃f,MapAt w prog 146 b k f/\∀s a c,f (.agg #[.string s,.int .i64 a,.int .i64 c])=if(rs.take k).any (fun r=>r.at_ s a c) then some (.bool true) else none
theorem Seen.look {b:Nat} {rs:List Rt} {k:Nat} (h:Seen w b rs k) (s:BA) (a c:Int) (L:s.size<=maxLen) (i:(Lit.int .i64 a).wf) (o:(Lit.int .i64 c).wf) :
  (Instr.lookup 143 (.map (some b)) (.agg #[.string s,a,c]) false).run prog w=.ok (.bool ((rs.take k).any (fun r=>r.at_ s a c))) w:=by
 obtain⟨f,J,E⟩:=h;obtain⟨Q,I⟩:=keyOk s a c L i o;have O:(zeroValue 4).run prog w=.ok (.bool false) w:=kR;rw[J.lookup keyLaw underlying143 O I,E]
 cases(rs.take k).any (fun r=>r.at_ s a c) <;> rfl
theorem Seen.below {w':World} {B b:Nat} {rs:List Rt} {k:Nat} (h:Seen w b rs k) (i:Below B w w') (a:b<B):Seen w' b rs k:=by
 obtain⟨f,s,o⟩:=h;exact⟨f,s.below i a,o⟩
theorem Seen.alloc {b:Nat} {rs:List Rt} {k:Nat} (h:Seen w b rs k) (o:Obj):Seen (w.alloc o) b rs k:=by
 obtain⟨f,i,a⟩:=h;exact⟨f,i.alloc o,a⟩
theorem Seen.lt {b:Nat} {rs:List Rt} {k:Nat} (h:Seen w b rs k):b<w:=by obtain⟨f,a,_⟩:=h;exact a.lt
theorem Seen.made (rs:List Rt):Seen (w.alloc (.map #[] 0)) w rs 0:=⟨_,MapAt.made w _ _,fun s a c=>sP⟩
open Classical in
theorem a9N (rs:List Rt) (k:Nat) (L:k<rs.length) (f:Value->Option Value) (J:∀s a c,f (.agg #[.string s,.int .i64 a,.int .i64 c])=if(rs.take k).any (fun r=>r.at_ s a c) then some (.bool true) else none) :
  ∀s a c,(fun x=>if x=.agg #[.string rs[k].cur,.int .i64 rs[k].kind,.int .i64 rs[k].when_] then some (Value.bool true) else f x) (.agg #[.string s,.int .i64 a,.int .i64 c])=if(rs.take (k+1)).any (fun r=>r.at_ s a c) then some (.bool true) else none:=by
 intro s a c;show(if _ then _ else f _)=_;rw[Rates.any_take_succ _ _ _ L]
 by_cases h:rs[k].at_ s a c
 ·obtain⟨o,E,I⟩:=(Rt.at_iff _ _ _ _).1 h
  rw[Vt (by rw[Rt.toList_inj o,E,I]),Vt (by rw[h];simp)]
 ·rw[VB (by
   intro e;simp only[Value.agg.injEq,Array.mk.injEq,List.cons.injEq,Value.string.injEq,Value.int.injEq,Jl,KF] at e;exact h ((Rt.at_iff _ _ _ _).2 ⟨by rw[e.1],e.2.1.symm,e.2.2.symm⟩)),J]
  have i:rs[k].at_ s a c=false:=by simpa using h
  rw[i,Bool.or_false]
theorem a1j (A:OA) (n c:Nat) (rs:List Rt) (g:BA) (hl:rs.length=n) (hn:n<=100000) (hg:g.size<=maxLen) (hr:∀r∈rs,r.wf) (h:RatesAt w w A rs) :
  CL 31 #[.string g,.slice A n c] w (Rates.valid g rs):=by
 subst hl;have ah:=@ZS prog;go_enter func31,ntmps31;go_wp2
 go_loopw [11] (fun i wr=>∃k:Nat,k<=rs.length/\i=k/\Rates.Pre g rs k/\Below w w wr/\Seen wr w rs k) (fun i _=>rs.length-(intOf i).toNat)
 case atStart=>exact⟨0,Vb _,rfl,Rates.pre_zero g rs,bR.alloc lR _,Seen.made w rs⟩
 case round =>
  obtain⟨k,hk,rfl,hp,hb,hS⟩:=hrel;have Hp:=Z1 hp;have ak:=hS.lt _;clear hp ah
  by_cases I:k<rs.length
  ·obtain⟨b,o,rfl,_,c0,c1,c2,c3⟩:=(h.below hb lR).look I
   obtain⟨O,a9,aa,_⟩:=hr rs[k] (Vm I);have hz:=hb.size
   by_cases L:Rates.proper g rs[k]
   ·have s:Rates.proper g ⟨rs[k].cur,rs[k].kind,rs[k].when_,rs[k].val⟩:=L
    clear L;go_wp2_with (go_at_call 64;refine(a4f _ _ _ _ _ _ O).mono ?_;rw[s];rintro e w4 ⟨rfl,Q⟩;obtain⟨hc,hf⟩:=bcell Q);have a6:=(hb.alloc hz _).trans (Q.mono sO);have a5:=(hS.alloc wr _).below _ Q sO;have ai:=Q.size;simp at ai;have aj:(wr:Nat)<w4:=oM;refine(b0m _ _ _ _ _).mono ?_;rintro e w5 ⟨rfl,S⟩;have W:=a6.trans (S.mono a6.size);have T:=a5.below _ S (a5.lt _);have X:=T.look _ rs[k].cur rs[k].kind rs[k].when_ O a9 aa;obtain⟨ac,ad⟩:=bcell S
    by_cases a:(rs.take k).any (fun r=>r.at_ rs[k].cur rs[k].kind rs[k].when_)
    ·have J:=Z1 (Rates.valid_twice' g rs k I a)
     rw[a] at X;clear a;go_wp2;go_ret;exact⟨VV J.out.symm,W⟩
    ·have E:(rs.take k).any (fun r=>r.at_ rs[k].cur rs[k].kind rs[k].when_)=false:=by simpa using a
     have J:=Z1 (Rates.pre_succ g rs k I Hp s E);rw[E] at X;clear a E;go_wp2_with (fail);refine(b0m _ _ _ _ _).mono ?_;rintro e w6 ⟨rfl,a4⟩;have a7:=W.trans (a4.mono W.size);obtain⟨f,hm,a8⟩:=T.below _ a4 (T.lt _);obtain⟨kl,af⟩:=keyOk rs[k].cur rs[k].kind rs[k].when_ O a9 aa;have a0:=Z1 (a9N rs k I f a8);clear X ac ad hc hf a8;go_wp2_with (at_mapUpdate;refine Xv rfl _ _ _ rfl hm keyLaw underlying143 rfl (by unfold maxLen;omega) _ _ _ rfl rfl af ?_;intro w7 ag ae);have ab:=a7.grown ae a7.size (fun j e=>by cases e;exact lR);go_roundw
     case rel=>exact⟨k+1,oM,by go_num,J.out,ab,⟨_,ag,a0.out⟩⟩
     case measure=>exact mS
   ·have s:Rates.proper g ⟨rs[k].cur,rs[k].kind,rs[k].when_,rs[k].val⟩=false:=by simpa using L
    have hf:=Z1 (Rates.valid_improper g rs k I s);clear L;go_wp2_with (go_at_call 64;refine(a4f _ _ _ _ _ _ O).mono ?_;rw[s];rintro e w4 ⟨rfl,Q⟩);go_ret;exact⟨VV hf.out.symm,(hb.alloc hz _).trans (Q.mono sO)⟩
  ·obtain rfl:k=rs.length:=oM
   have hf:=Z1 (Rates.pre_end g rs Hp);go_wp2_with (go_at_call 66;refine(a2x _ _ hg).mono ?_;rintro e w4 ⟨rfl,Q⟩)
   all_goals (go_ret;exact⟨VV (by rw[hf.out];simp[*] <;> omega),hb.trans (Q.mono hb.size)⟩)
structure QGrp where
 gc:ByteArray
 Y:Int
 M:Int
 N:Int
 x0:Value
 x1:Value
 x2:Value
 x3:Value
 x4:Value
 x5:Value
 x6:Value
 x7:Value
 x8:Value
 x9:Value
 x10:Value
 x11:Value
 x12:Value
 x13:Value
 x14:Value
 x15:Value
 x16:Value
instance:Coe QGrp (Array Value):=⟨fun x=>#[.string x.gc,.int .i64 x.Y,.int .i64 x.M,.int .i64 x.N,x.x0,x.x1,x.x2,x.x3,x.x4,x.x5,x.x6,x.x7,x.x8,x.x9,x.x10,x.x11,x.x12,x.x13,x.x14,x.x15,x.x16]⟩
instance:Coe QGrp Value:=⟨fun x=>.agg #[.string x.gc,.int .i64 x.Y,.int .i64 x.M,.int .i64 x.N,x.x0,x.x1,x.x2,x.x3,x.x4,x.x5,x.x6,x.x7,x.x8,x.x9,x.x10,x.x11,x.x12,x.x13,x.x14,x.x15,x.x16]⟩
instance:Coe QGrp (List Value):=⟨fun x=>[.string x.gc,.int .i64 x.Y,.int .i64 x.M,.int .i64 x.N,x.x0,x.x1,x.x2,x.x3,x.x4,x.x5,x.x6,x.x7,x.x8,x.x9,x.x10,x.x11,x.x12,x.x13,x.x14,x.x15,x.x16]⟩
theorem a4I (s:BA) (i:s.size<=maxLen):CL 302 #[.string s] w (.bool (!Rates.isCur s)):=by
 go_enter func302,ntmps302;go_wp2_with (go_at_call 66;refine(a2x _ _ i).mono ?_;rintro e o ⟨rfl,a⟩);go_ret;exact⟨rfl,a⟩
theorem a7r (b c:Nat) (s:BA) (I:s.size<=maxLen) (L:b<w) (E:w.cell? ⟨b,0,none⟩=some (.string s)) :
  CL 305 #[.slice (some ⟨b,0,none⟩) 1 c,.func (.func 302) #[] #[]] w (.int .i64 (if Rates.isCur s then-1 else 0)):=by
 by_cases h:Rates.isCur s
 ·rw[Vt h]
  go_enter func305,ntmps305;go_wp2
  go_loopw [8] (fun i wr=>∃k:Nat,k<=1/\i=k/\Below w w wr) (fun i _=>1-(intOf i).toNat)
  case atStart=>exact⟨0,Vb _,rfl,bR⟩
  case round =>
   obtain⟨k,S,rfl,a⟩:=hrel
   rcases(show k=0∨k=1 by omega) with rfl|rfl
   ·have O:wr.cell? ⟨b,0,none⟩=some (.string s):=(a.cell (p:=⟨b,0,none⟩) L).trans E
    clear E;go_wp2_with (go_at_call 302;refine(a4I _ _ I).mono ?_;rw[h];rintro e Q ⟨rfl,o⟩);go_roundw
    case rel=>exact⟨1,oM,by go_num,a.trans (o.mono a.size)⟩
    case measure=>simp[intOf]
   ·go_wp2
    go_ret;exact⟨rfl,a⟩
 ·rw[VB h]
  have J:Rates.isCur s=false:=by simpa using h
  clear h;go_enter func305,ntmps305;go_wp2
  go_loopw [8] (fun i wr=>i=.int .i64 0/\w=wr) (fun i _=>1-(intOf i).toNat)
  case atStart=>exact⟨rfl,rfl⟩
  case round =>
   obtain⟨rfl,rfl⟩:=hrel;go_wp2_with (go_at_call 302;refine(a4I _ _ I).mono ?_;rw[J];rintro e Q ⟨rfl,o⟩);go_ret;exact⟨rfl,o⟩
theorem a4l (b c:Nat) (s:BA) (I:s.size<=maxLen) (E:b<w) (a:w.cell? ⟨b,0,none⟩=some (.string s)) :
  CL 301 #[.slice (some ⟨b,0,none⟩) 1 c,.func (.func 302) #[] #[]] w (.bool (!Rates.isCur s)):=by
 have H:=a7r w b c s I E a
 by_cases h:Rates.isCur s
 all_goals
  first|rw[Vt h] at H|rw[VB h] at H
  have i:=Z1 H;clear H a;go_enter func301,ntmps301;go_wp2_with (go_at_call 305;refine i.mono ?_;rintro e J ⟨rfl,o⟩);go_ret;exact⟨VV (by simp[h]),o⟩
def Rates.errQ (g:BA) (rs:List Rt) (cur:BA) (d:Int):Int:=if Rates.valid g rs/\Rates.isCur cur then(if Rates.dateB d then 0 else 2) else 1
theorem b1p (g:QGrp) (A:OA) (n c c' b:Nat) (rs:List Rt) (cur:BA) (d:Int) (hl:rs.length=n) (hn:n<=100000) (X:g.gc.size<=maxLen) (O:cur.size<=maxLen) (hr:∀r∈rs,r.wf) (h:RatesAt w w A rs)
  (hb:b<w) (hc:w.cell? ⟨b,0,none⟩=some (.string cur)) :
  CL 295 #[g,.slice A n c,d,.slice (some ⟨b,0,none⟩) 1 c'] w (Rates.errQ g.gc rs cur d):=by
 unfold Rates.errQ;have L:=fun W (hW:Below w w W)=>(hW.cell (p:=⟨b,0,none⟩) hb).trans hc;have I:=Z1 L;clear L hc;have H:=Z1 h;clear h;have hR:=(H.below ((VM w w).alloc lR (.cells g 29)) lR).more (C:=(w.alloc (.cells g 29)).heap.size) sP;have T:=Z1 hR;clear hR
 by_cases hv:Rates.valid g.gc rs
 ·by_cases S:Rates.isCur cur
  ·have i:Rates.valid g.gc rs/\Rates.isCur cur:=⟨hv,S⟩
   rcases(show decide (-25567<=d/\d<=84005)∨decide (-25567<=d/\d<=84005)=false by cases decide (-25567<=d/\d<=84005) <;> simp) with hd|hd
   all_goals
    have Q:Rates.dateB d=_:=hd;rw[Vt i,Q];clear i Q;go_enter func295,ntmps295;go_wp2_with (fail);refine(a1j _ _ _ _ rs _ hl hn X hr T).mono ?_;rw[hv];rintro e w4 ⟨rfl,J⟩;have a:=((VM w w).alloc lR _).trans (J.mono sP);have E:=a.size;go_wp2_with (fail);refine(a4l _ _ _ _ O oM (I _ a)).mono ?_;rw[S];rintro e w5 ⟨rfl,s⟩;have o:=a.trans (s.mono E);go_wp2_with (go_at_call 76;refine(a0S _ _).mono ?_;rw[hd];rintro e w6 ⟨rfl,rfl⟩);go_ret;exact⟨rfl,o⟩
  ·have a0:Rates.isCur cur=false:=by simpa using S
   rw[VB (fun hh=>S hh.2)];clear S;go_enter func295,ntmps295;go_wp2_with (fail);refine(a1j _ _ _ _ rs _ hl hn X hr T).mono ?_;rw[hv];rintro e w4 ⟨rfl,J⟩;have a:=((VM w w).alloc lR _).trans (J.mono sP);have E:=a.size;go_wp2_with (fail);refine(a4l _ _ _ _ O oM (I _ a)).mono ?_;rw[a0];rintro e w5 ⟨rfl,s⟩;have o:=a.trans (s.mono E);go_wp2;go_ret;exact⟨rfl,o⟩
 ·have a4:Rates.valid g.gc rs=false:=by simpa using hv
  rw[VB (fun hh=>hv hh.1)];clear hv;go_enter func295,ntmps295;go_wp2_with (fail);refine(a1j _ _ _ _ rs _ hl hn X hr T).mono ?_;rw[a4];rintro e w4 ⟨rfl,J⟩;have a:=((VM w w).alloc lR _).trans (J.mono sP);go_wp2;go_ret;exact⟨rfl,a⟩
def Rates.errP (g:QGrp) (rs:List Rt) (cur:BA) (p:Int):Int:=if Rates.valid g.gc rs/\Rates.isCur cur/\Cal.ok g.Y g.M g.N then(if 0<=p/\p<g.N then 0 else 2) else 1
theorem Rates.errP_zero (g:QGrp) (rs:List Rt) (cur:BA) (p:Int):Rates.errP g rs cur p=0 ↔ (Rates.valid g.gc rs/\Rates.isCur cur/\Cal.err g.Y g.M g.N p=0):=by
 unfold Rates.errP;rw[Cal.err_zero]
 by_cases h:Rates.valid g.gc rs/\Rates.isCur cur/\Cal.ok g.Y g.M g.N
 ·rw[Vt h];obtain⟨a,i,o⟩:=h;by_cases s:0<=p/\p<g.N <;> simp[*]
 ·rw[VB h];constructor
  ·intro h;cases h
  ·rintro⟨a,i,o,_⟩;exact absurd ⟨a,i,o⟩ h
theorem Rates.errP_cases (g:QGrp) (rs:List Rt) (cur:BA) (p:Int) :
  (Rates.valid g.gc rs=false/\Rates.errP g rs cur p=1)∨(Rates.valid g.gc rs/\Rates.isCur cur=false/\Rates.errP g rs cur p=1) ∨
  (Rates.valid g.gc rs/\Rates.isCur cur/\Cal.ok g.Y g.M g.N=false/\Rates.errP g rs cur p=1) ∨
  (Rates.valid g.gc rs/\Rates.isCur cur/\Cal.ok g.Y g.M g.N/\Cal.err g.Y g.M g.N p=2/\Rates.errP g rs cur p=2) ∨
  (Rates.valid g.gc rs/\Rates.isCur cur/\Cal.ok g.Y g.M g.N/\Cal.err g.Y g.M g.N p=0/\Rates.errP g rs cur p=0):=by
 unfold Rates.errP Cal.err
 by_cases i:0<=p/\p<g.N
 ·have a:(if p<0∨g.N<=p then(2:Int) else 0)=0:=VB oM
  rw[a,Vt i]
  cases o:Rates.valid g.gc rs <;> cases s:Rates.isCur cur <;> cases E:Cal.ok g.Y g.M g.N <;> simp
 ·have a:(if p<0∨g.N<=p then(2:Int) else 0)=2:=Vt oM
  rw[a,VB i]
  cases o:Rates.valid g.gc rs <;> cases s:Rates.isCur cur <;> cases E:Cal.ok g.Y g.M g.N <;> simp
theorem a4G (g:QGrp) (A:OA) (n c:Nat) (rs:List Rt) (cur:BA) (p:Int) (hl:rs.length=n) (hn:n<=100000) (hg:g.gc.size<=maxLen) (I:cur.size<=maxLen) (hr:∀r∈rs,r.wf) (h:RatesAt w w A rs) :
  Calls prog 291 #[g,.slice A n c,.string cur,p] w fun e w' =>
   e=.returned (if Rates.errP g rs cur p=0 then .tuple #[(Cal.first g.Y g.M p),(Cal.last g.Y g.M p),()] else .tuple #[(),(),(Rates.errP g rs cur p)])/\Below w w w':=by
 have hR:=(h.below ((VM w w).alloc lR (.cells g 29)) lR).more (C:=(w.alloc (.cells g 29)).heap.size) sP;have HR:=Z1 hR;clear hR h
 rcases Rates.errP_cases g rs cur p with⟨L,e⟩|⟨L,J,e⟩|⟨L,J,X,e⟩|⟨L,J,X,h4,e⟩|⟨L,J,X,h4,e⟩
 all_goals
  rw[e];clear e;go_enter func291,ntmps291;go_wp2_with (fail);refine(a1j _ _ _ _ rs _ hl hn hg hr HR).mono ?_;rw[L];rintro e w4 ⟨rfl,hB⟩;have i:=((VM w w).alloc lR (.cells g 29)).trans (hB.mono sP);have a6:=hB.size;simp at a6;have W:(w:Nat)<w4:=oM;obtain⟨hc,_⟩:=bcell hB
 ·go_wp2
  go_ret3
  exact⟨rfl,i⟩
 ·go_wp2_with (go_at_call 66;refine(a2x _ _ I).mono ?_;rw[J];rintro e w5 ⟨rfl,a⟩)
  go_ret3
  exact⟨rfl,i.trans (a.mono i.size)⟩
 ·go_wp2_with (fail)
  refine(a2x _ _ I).mono ?_;rw[J];rintro e w5 ⟨rfl,a⟩;have s:=i.trans (a.mono i.size);obtain⟨a4,a5⟩:=bcell a;go_wp2_with (fail);refine(a0U _ _ _ _).mono ?_;rw[X];rintro e w6 ⟨rfl,E⟩;go_wp2
  go_ret3
  exact⟨rfl,s.trans (E.mono s.size)⟩
 all_goals
  go_wp2_with (fail);refine(a2x _ _ I).mono ?_;rw[J];rintro e w5 ⟨rfl,a⟩;have s:=i.trans (a.mono i.size);have a7:(w:Nat)<w5:=Xg W a.size;obtain⟨a4,a5⟩:=bcell a;go_wp2_with (fail);refine(a0U _ _ _ _).mono ?_;rw[X];rintro e w6 ⟨rfl,E⟩;have O:=s.trans (E.mono s.size);have aa:(w:Nat)<w6:=Xg a7 E.size;obtain⟨a8,_⟩:=bcell E;have o:=Z1 h4;clear h4;go_wp2_with (fail)
  first|refine(a4U _ _ _ _ _ (by rw[o.out];decide)).mono ?_|refine(a4V _ _ _ _ _ o.out).mono ?_
  rintro e w7 ⟨rfl,T⟩;have Q:=O.trans (T.mono O.size);obtain⟨a9,_⟩:=bcell T;go_wp2_with (fail)
  first|refine(a4k _ _ _ _ _ (by rw[o.out];decide)).mono ?_|refine(a2N _ _ _ _ _ o.out).mono ?_
  rintro e w8 ⟨rfl,a0⟩;have S:=Q.trans (a0.mono Q.size)
  try rw[o.out]
  go_wp2
  go_ret3
  exact⟨rfl,S⟩
end Go.Proofs.YtbhdekahdnenjaaGreatDoor
namespace Go.Proofs.YtbhdekahdnenjaaGreatDoor
open Tryz Go.RowKit
variable (w:World)
theorem gbox {W a:World} {B b:Nat} {O:Obj} (o:W.heap[b]?=some O) (i:Below B W a) (s:b<B):a.heap[b]?=some O:=(i.block b s).trans o
theorem gS {w w':World} {g:Nat} {o:Obj} (h:Hid (w.heap[g]?=some o)) (k:Below w.heap.size w w'):Hid (w'.heap[g]?=some o):=Z1 (gbox h.out k (Array.getElem?_eq_some_iff.1 h.out).1)
theorem gB {n:Nat} {w w':World} {g:Nat} {o:Obj} (h:Hid (w.heap[g]?=some o)) (k:Below n w w') (e:g<n):Hid (w'.heap[g]?=some o):=Z1 (gbox h.out k e)
def RI (w:World) (B k j:Nat) (v:Value) (N D:Int):Prop :=
 ∃(E:Bool) (a:OA) (J o:Nat) (I:Bool) (i:OA) (L s:Nat),v=.agg #[E,.slice a J o,I,.slice i L s] /\
  PI w B k (.agg #[E,.slice a J o]) N/\PI w B j (.agg #[I,.slice i L s]) D
theorem PI.open {w:World} {B k:Nat} {u:Value} {z:Int} (h:PI w B k u z):∃(g:Bool) (A:OA) (n c:Nat),u=.agg #[g,.slice A n c]:=by
 obtain⟨g,A,n,c,l,e,_⟩:=h;exact⟨g,A,n,c,e⟩
theorem RI.at_ {w w':World} {k j:Nat} {v:Value} {N D:Int} (h:RI w w k j v N D) (a:Below w w w'):RI w' w' k j v N D:=by
 obtain⟨I,i,Q,s,J,o,S,E,e,L,O⟩:=h;exact⟨I,i,Q,s,J,o,S,E,e,L.at_ a,O.at_ a⟩
def redBy (N D:Int):Int:=if D<0 then-(Int.gcd N D:Int) else(Int.gcd N D:Int)
theorem b1T {N D:Int} (h:D≠0):redBy N D≠0:=by
 have:0<Int.gcd N D:=Int.gcd_pos_of_ne_zero_right _ h;unfold redBy;split <;> omega
theorem b4I {N D:Int} (h:D≠0):(Int.gcd N D:Int)<=D.natAbs:=by
 have a:Int.gcd N D ∣ D.natAbs:=Nat.gcd_dvd_right _ _;have:=Nat.le_of_dvd oM a;omega
theorem PI.other {w w':World} {B k b:Nat} {v:Value} {z:Int} {cs:AV} {t:TypeId} {J:Nat × Nat} (h:PI w B k v z) (hb:w.heap[b]?=some (.cells cs t J)) (E:∀(j:Nat) (n:Int),cs[j]?≠some (.int .u32 n)) (I:∀c,c≠b->w'.heap[c]?=w.heap[c]?):PI w' B k v z:=by
 obtain⟨g,A,n,c,l,L,O,Q,S,T,W,X,h8,h9⟩:=h;refine⟨g,A,n,c,l,L,O,Q,S,T,W,X,h8,?_⟩
 rcases h9 with h|⟨d,o,e,hl,s⟩
 ·exact .inl h
 ·rcases Y0 l.length with i|i
  ·exact .inl (List.length_eq_zero_iff.1 i)
  ·have a:d≠b:=by
    rintro rfl;have:=s.1 0 i;rw[cr9 _ hb] at this;exact E _ _ this
   exact .inr ⟨d,o,e,hl,fun j hj=>(World.cell?_of_block (w:=w) (I d a)).trans (s.1 j hj),s.2.of_block (I d a)⟩
theorem Vz {P:Program} {s:Array Oper} {i:List Oper} {o:Oper} {a:Act} {w:World} {Q:Exit->Act->World->Prop} (E:o.guard=none) (I:TypeId) (x y:Operand) (d:Option Tmp) (W:o.op=.store I x y) (O:o.dst=d)
  (b:Nat) (t:TypeId) (old cells:AV) (hx:a.eval x=.pointer (some ⟨b,0,none⟩)) (hy:a.eval y=.agg cells)
  (S:w.heap[b]?=some (.cells old t (0,0))) (X:old.size=cells.size) (T:(P.info? I).map (·.size)=some cells.size) (J:cells.all (·.oneCell'))
  (h:wpList P s Q i (a.put d undef) (w.setRow b cells)):wpList P s Q (o::i) a w :=
 Jt E fun _ L=>VQ I x y d W O b t old cells hx hy S X T J (L _ _ h)
theorem Vy:(prog.info? 52).map (·.size)=some 4:=kR
theorem b3B (s k:Nat) (o:s<=w) (v:Value) (z:Int) (hk:k<=100000000000) (h:PI w s k v z) :
  Calls prog 205 #[v] w fun e w'=>(∃u,e=.returned u/\PI w' s k u (-z))/\Below w w w':=by
 obtain⟨neg,A,n,c,l,rfl,T,hn,S,hL,_,W,I,_⟩:=h.parts;have E:Hid (-z=Big.sgn (!neg) (Big.val 1000000000 l)):=by show _=_;rw[W];cases neg <;> simp[Big.sgn]
 have H:=Z1 (((I.more o).start (.cells #[neg,.slice A n c] 50)).start (.cells #[false,.slice none 0 0] 50));have J:=((VM w w).alloc lR (.cells #[neg,.slice A n c] 50)).alloc sP (.cells #[false,.slice none 0 0] 50);have O:=Vh (w.alloc (.cells #[neg,.slice A n c] 50)) (.cells #[false,.slice none 0 0] 50);rw[show(w.alloc (.cells #[neg,.slice A n c] 50)).heap.size=w.heap.size+1 by simp] at O;have hP:=Z1 (PI.mk (neg:=!neg) T hn S hL I);clear W I h;go_enter func205,ntmps205;go_wp2_with (fail);refine(a0R _ (!neg) A n c l T oM S H).mono ?_;rintro e w1 ⟨rfl,Q⟩;have L:=J.trans (Q.mono sO);have a:=(Q.block _ sP).trans O;have X:=cr9 0 a;have z1:=cr9 1 a;have zf:=fun j=>fr0 j a;simp at X z1;clear O a;go_wp2;have i:=(L.setCell (p:=⟨w+1,0,none⟩) sP (.bool (!neg&&decide (0<(Big.trim l).length)))).setCell (p:=⟨w+1,1,none⟩) sP (.slice A (Big.trim l).length c);refine VG (v:=.agg #[.bool (!neg&&decide (0<(Big.trim l).length)),.slice A (Big.trim l).length c]) (by simp[results,results205,go_sem,X,z1]) rfl ⟨⟨_,rfl,?_⟩,i⟩;rw[E.out];exact hP.out.below i o
theorem PI.boundg {w:World} {B k:Nat} {v:Value} {z:Int} (h:PI w B k v z):(z.natAbs:Int)<1000000000 ^ k:=by
 obtain⟨g,A,n,c,l,rfl,I,J,_,a,_,i,_,_⟩:=h.parts;have s:=Big.val_lt (B:=1000000000) oM a;have o:=Big.val_nonneg (B:=1000000000) oM a;have E:=Big.pow_le (B:=1000000000) oM (show l.length<=k by omega);rw[i]
 cases g <;> simp[Big.sgn] <;> omega
theorem a1W (k j:Nat) (v:Value) (N D:Int) (hk:k<=10000000000) (hj:j<=10000000000) (hD:D≠0) (h:RI w w k j v N D) :
  Calls prog 181 #[v] w fun e w'=>(∃r,e=.returned r/\RI w' w' k j r (Int.tdiv N (redBy N D)) (Int.tdiv D (redBy N D)))/\Below w w w':=by
 obtain⟨g1,A1,n1,c1,g2,A2,n2,c2,rfl,hN,aa⟩:=h;have af:=((VM w w).alloc lR (.cells #[g1,.slice A1 n1 c1,g2,.slice A2 n2 c2] 52)).alloc sP (.cells ZR 52);have hX:=(VD (w.alloc (.cells #[g1,.slice A1 n1 c1,g2,.slice A2 n2 c2] 52)) (.cells ZR 52) w sP).trans (Vh w (.cells #[g1,.slice A1 n1 c1,g2,.slice A2 n2 c2] 52));have hZ:=Vh (w.alloc (.cells #[g1,.slice A1 n1 c1,g2,.slice A2 n2 c2] 52)) (.cells ZR 52);rw[show(w.alloc (.cells #[g1,.slice A1 n1 c1,g2,.slice A2 n2 c2] 52)).heap.size=w.heap.size+1 by simp] at hZ;obtain⟨cb,cc,b5⟩:=Z3 aa.boundg (b4I (N:=N) hD) (b1T (N:=N) hD)
 have b6:Hid (-1000000000 ^ j<redBy N D/\redBy N D<1000000000 ^ j):=by
  show _/\_;have h1:=cb.out;have h2:=cc.out;unfold redBy;split <;> omega
 by_cases a7:D<0
 ·have bc:=Z1 (a1w.2.1.2 a7)
  have bb:Hid (redBy N D=-(Int.gcd N D:Int)):=by show _=_;unfold redBy;rw[Vt a7]
  clear a7 hD;go_enter func181,ntmps181;go_wp2_with (fail);refine(a8a _ k j _ _ N D oM oM (hN.at_ af) (aa.at_ af)).mono ?_;rintro e w1 ⟨⟨r1,rfl,b2⟩,a5⟩;obtain⟨g3,A3,n3,c3,rfl⟩:=b2.open;have br:=a5.size;simp at br;have E:=af.trans (a5.mono sO);have ac:=Z1 (gbox hX a5 sO);have bk:=Z1 (gbox hZ a5 sP);have x2:=cr9 2 ac.out;have x3:=cr9 3 ac.out;simp at x2 x3;have bv:(w:Nat)<w1:=oM;have b4:(w:Nat)+1<w1:=oM;clear hX hZ;go_wp2_with (fail);refine(a0Y _ j _ D (aa.at_ (E.alloc E.size (.cells #[g3,.slice A3 n3 c3] 50)))).mono ?_;rw[bc];rintro e w2 ⟨rfl,J⟩;have bs:=J.size;simp at bs;have am:=(E.alloc E.size (.cells #[g3,.slice A3 n3 c3] 50)).trans (J.mono sO);obtain⟨av,bl,ab⟩:=Z3 (gbox ((VD w1 (.cells #[g3,.slice A3 n3 c3] 50) _ bv).trans ac.out) J sO) (gbox ((VD w1 (.cells #[g3,.slice A3 n3 c3] 50) _ b4).trans bk.out) J sO) (gbox (Vh w1 (.cells #[g3,.slice A3 n3 c3] 50)) J sP);have bu:=(b2.below ((VM w1 w1).alloc lR (.cells #[g3,.slice A3 n3 c3] 50)) lR).below J sP;have g0:=cr9 0 ab.out;have ah:=cr9 1 ab.out;simp at g0 ah;have bw:(w1:Nat)<w2:=oM;have b9:(w:Nat)<w2:=oM;have ba:(w:Nat)+1<w2:=oM;clear x2 x3;go_wp2_with (fail);refine(b3B w2 w1 (k+j) oM _ _ oM bu).mono ?_;rintro e w3 ⟨⟨r3,rfl,c4⟩,ai⟩;obtain⟨g5,A5,n5,c5,rfl⟩:=c4.open;have ce:=ai.size;have bi:=gB av ai b9;have cd:=gB bl ai ba;have b7:=gB ab ai bw;have bz:=am.trans (ai.mono oM);have y0:=cr9 0 bi.out;have y1:=cr9 1 bi.out;have k0:=cr9 0 b7.out;have k1:=cr9 1 b7.out;have kf:=fun j=>fr0 j b7.out;simp at y0 y1 k0 k1;have cf:(w1:Nat)<w3:=oM;have c0:(w:Nat)≠w1:=oM
  have aq:PI ((w3.setCell ⟨w1,0,none⟩ (.bool g5)).setCell ⟨w1,1,none⟩ (.slice A5 n5 c5)) ((w3.setCell ⟨w1,0,none⟩ (.bool g5)).setCell ⟨w1,1,none⟩ (.slice A5 n5 c5)).heap.size j (.agg #[g5,.slice A5 n5 c5]) (redBy N D):=by
   have h1:=(c4.below (((VM w1 w3).setCell (p:=⟨w1,0,none⟩) lR (.bool g5)).setCell (p:=⟨w1,1,none⟩) lR (.slice A5 n5 c5)) lR).more (C:=((w3.setCell ⟨w1,0,none⟩ (.bool g5)).setCell ⟨w1,1,none⟩ (.slice A5 n5 c5)).heap.size) (j:=k+j) sO lR;rw[<- bb] at h1;exact h1.tight b6.1 b6.2
  have ak:Below w w ((w3.setCell ⟨w1,0,none⟩ (.bool g5)).setCell ⟨w1,1,none⟩ (.slice A5 n5 c5)):=(bz.setCell (p:=⟨w1,0,none⟩) sO (.bool g5)).setCell (p:=⟨w1,1,none⟩) sO (.slice A5 n5 c5);have az:∀c,c≠w1.heap.size->((w3.setCell ⟨w1,0,none⟩ (.bool g5)).setCell ⟨w1,1,none⟩ (.slice A5 n5 c5)).heap[c]?=w3.heap[c]?:=fun c hc=>(VR _ _ _ c (fun e=>hc (by simpa using e))).trans (VR _ _ _ c (fun e=>hc (by simpa using e)));have ax:=(az w c0).trans bi.out;have ay:=(az (w+1) oM).trans cd.out;have ae:=Xh _ _ 1 _ _ (.slice A5 n5 c5) (Xh w3 w1.heap.size 0 _ _ (.bool g5) b7.out);simp at ae;obtain⟨V,b8⟩:∃V,((w3.setCell ⟨w1,0,none⟩ (.bool g5)).setCell ⟨w1,1,none⟩ (.slice A5 n5 c5))=V:=⟨_,rfl⟩;have bt:(w1:Nat)<V:=by rw[<- b8];simp;omega
  rw[b8] at aq ak ax ay ae;have ap:=aq;have aj:=ak;obtain⟨bj,bo,bh,bx⟩:=Z4 ax ay ae b8;clear b8 ax ay ae aq ak az g0 ah;go_wp2_with (fail);rw[bx];refine(a1r V k j _ _ N (redBy N D) oM oM b5 (hN.at_ aj) ap).mono ?_;clear y0 y1 k0 k1 kf bx;rintro e w4 ⟨⟨q4,g6,A6,n6,c6,rfl,b0⟩,L⟩;obtain⟨S,O,T,Q,rfl⟩:=b0.open;have ca:=L.size;have aw:=gB bj L oM;have bm:=gB bo L oM;have ao:=gB bh L bt;have X:=aj.trans (L.mono oM);have x2:=cr9 2 aw.out;have x3:=cr9 3 aw.out;have u0:=cr9 0 ao.out;have u1:=cr9 1 ao.out;simp at x2 x3 u0 u1;have s0:(w:Nat)<w4:=oM;have s1:(w:Nat)+1<w4:=oM;have s2:(w1:Nat)<w4:=oM;have bg:=(X.alloc X.size (.cells #[S,.slice O T Q] 50)).alloc sO (.cells #[g6,.slice A6 n6 c6] 50);have al:=((VM w4 w4).alloc lR (.cells #[S,.slice O T Q] 50)).alloc sP (.cells #[g6,.slice A6 n6 c6] 50);go_wp2_with (fail);refine(a1r _ j j _ _ D (redBy N D) oM oM b5 (aa.at_ bg) ((ap.at_ L).at_ al)).mono ?_;rintro e w5 ⟨⟨q5,g9,A9,n9,c9,rfl,b1⟩,a9⟩;obtain⟨o,a,I,i,rfl⟩:=b1.open;have b3:=a9.size;simp at b3;have W:=al.trans (a9.mono sO);have an:=X.trans (W.mono oM);have bn:=gB bm W s1;have ar:=Z1 (gbox ((VD (w4.alloc (.cells #[S,.slice O T Q] 50)) (.cells #[g6,.slice A6 n6 c6] 50) _ sP).trans (Vh w4 (.cells #[S,.slice O T Q] 50))) a9 sO);have q0:=cr9 0 ar.out;have q1:=cr9 1 ar.out;simp at q0 q1;have t0:(w4:Nat)<w5:=oM;have t1:(w:Nat)+1<w5:=oM;have s:=((VM w5 w5).alloc lR (.cells #[o,.slice a I i] 50)).alloc sP (.cells #[g9,.slice A9 n9 c9] 50);have bf:=an.trans (s.mono oM);have a6:=gB bn s t1
  have ad:∀(j:Nat) (n:Int),(ZR:AV)[j]?≠some (.int .u32 n):=by
   intro j n
   match j with
   |0=>simp
   |1=>simp
   |2=>simp
   |3=>simp
   |j+4=>simp
  have a4:∀c,c≠w.heap.size+1->(((w5.alloc (.cells #[o,.slice a I i] 50)).alloc (.cells #[g9,.slice A9 n9 c9] 50)).setRow (w+1) #[S,.slice O T Q,o,.slice a I i]).heap[c]?=((w5.alloc (.cells #[o,.slice a I i] 50)).alloc (.cells #[g9,.slice A9 n9 c9] 50)).heap[c]?:=fun c hc=>Vl _ _ _ _ hc;have bp:=Z1 ((((b0.at_ W).at_ s).other a6.out ad a4).more (C:=(((w5.alloc (.cells #[o,.slice a I i] 50)).alloc (.cells #[g9,.slice A9 n9 c9] 50)).setRow (w+1) #[S,.slice O T Q,o,.slice a I i]).heap.size) sP (Yh k));have bq:=Z1 (((b1.at_ s).other a6.out ad a4).more (C:=(((w5.alloc (.cells #[o,.slice a I i] 50)).alloc (.cells #[g9,.slice A9 n9 c9] 50)).setRow (w+1) #[S,.slice O T Q,o,.slice a I i]).heap.size) sP (Yh j));have be:=below_setRow bf (show(w:Nat)<=w+1 by omega) #[S,.slice O T Q,o,.slice a I i];have au:=VC ((w5.alloc (.cells #[o,.slice a I i] 50)).alloc (.cells #[g9,.slice A9 n9 c9] 50)) (w+1) _ #[S,.slice O T Q,o,.slice a I i] _ _ a6.out;have a0:=VW (P:=prog) _ _ _ 52 _ _ _ au Xf rfl Vy;have ag:Hid ((#[S,.slice O T Q,o,.slice a I i]:AV).all (·.oneCell')):=by show _=true;simp[Value.oneCell']
  have a8:=Z1 a0;clear a4 ad x2 x3 u0 u1 au a0;go_upto_region 6 with(fail);go_wp2_with (refine Vz rfl 52 (.tmp 2) (.tmp 39) none rfl rfl (w+1) 52 _ #[S,.slice O T Q,o,.slice a I i] rfl rfl a6.out rfl Vy ag ?_);refine VG (v:=.agg #[S,.slice O T Q,o,.slice a I i]) (by simp[results,results181,asAddr,Act.put,a8.out]) rfl ⟨⟨_,rfl,_,_,_,_,_,_,_,_,rfl,bp.out,bq.out⟩,be⟩
 ·have bb:Hid (redBy N D=(Int.gcd N D:Int)):=by show _=_;unfold redBy;rw[VB a7]
  have bc:Hid (sg D=1):=by show _=_;rw[a1w.1];omega
  clear a7 hD;go_enter func181,ntmps181;go_wp2_with (fail);refine(a8a _ k j _ _ N D oM oM (hN.at_ af) (aa.at_ af)).mono ?_;rintro e w1 ⟨⟨r1,rfl,b2⟩,a5⟩;obtain⟨g3,A3,n3,c3,rfl⟩:=b2.open;have br:=a5.size;simp at br;have E:=af.trans (a5.mono sO);have ac:=Z1 (gbox hX a5 sO);have bk:=Z1 (gbox hZ a5 sP);have x2:=cr9 2 ac.out;have x3:=cr9 3 ac.out;simp at x2 x3;have bv:(w:Nat)<w1:=oM;have b4:(w:Nat)+1<w1:=oM;clear hX hZ;go_wp2_with (fail);refine(a0Y _ j _ D (aa.at_ (E.alloc E.size (.cells #[g3,.slice A3 n3 c3] 50)))).mono ?_;rw[bc];rintro e w2 ⟨rfl,J⟩;have bs:=J.size;simp at bs;have am:=(E.alloc E.size (.cells #[g3,.slice A3 n3 c3] 50)).trans (J.mono sO);obtain⟨av,bl,ab⟩:=Z3 (gbox ((VD w1 (.cells #[g3,.slice A3 n3 c3] 50) _ bv).trans ac.out) J sO) (gbox ((VD w1 (.cells #[g3,.slice A3 n3 c3] 50) _ b4).trans bk.out) J sO) (gbox (Vh w1 (.cells #[g3,.slice A3 n3 c3] 50)) J sP);have bu:=(b2.below ((VM w1 w1).alloc lR (.cells #[g3,.slice A3 n3 c3] 50)) lR).below J sP;have g0:=cr9 0 ab.out;have ah:=cr9 1 ab.out;simp at g0 ah;have bw:(w1:Nat)<w2:=oM;have b9:(w:Nat)<w2:=oM;have ba:(w:Nat)+1<w2:=oM;clear x2 x3
  have ap:PI w2 w2 j (.agg #[g3,.slice A3 n3 c3]) (redBy N D):=by
   have h1:=bu.more (C:=w2.heap.size) (j:=k+j) oM lR;rw[<- bb] at h1;exact h1.tight b6.1 b6.2
  have aj:=am;have bj:=av;have bo:=bl;have bh:=ab;have bt:=bw;have y0:=cr9 0 av.out;have y1:=cr9 1 av.out;simp at y0 y1;go_wp2_with (fail);refine(a1r w2 k j _ _ N (redBy N D) oM oM b5 (hN.at_ aj) ap).mono ?_;clear y0 y1 g0 ah;rintro e w4 ⟨⟨q4,g6,A6,n6,c6,rfl,b0⟩,L⟩;obtain⟨S,O,T,Q,rfl⟩:=b0.open;have ca:=L.size;have aw:=gB bj L oM;have bm:=gB bo L oM;have ao:=gB bh L bt;have X:=aj.trans (L.mono oM);have x2:=cr9 2 aw.out;have x3:=cr9 3 aw.out;have u0:=cr9 0 ao.out;have u1:=cr9 1 ao.out;simp at x2 x3 u0 u1;have s0:(w:Nat)<w4:=oM;have s1:(w:Nat)+1<w4:=oM;have s2:(w1:Nat)<w4:=oM;have bg:=(X.alloc X.size (.cells #[S,.slice O T Q] 50)).alloc sO (.cells #[g6,.slice A6 n6 c6] 50);have al:=((VM w4 w4).alloc lR (.cells #[S,.slice O T Q] 50)).alloc sP (.cells #[g6,.slice A6 n6 c6] 50);go_wp2_with (fail);refine(a1r _ j j _ _ D (redBy N D) oM oM b5 (aa.at_ bg) ((ap.at_ L).at_ al)).mono ?_;rintro e w5 ⟨⟨q5,g9,A9,n9,c9,rfl,b1⟩,a9⟩;obtain⟨o,a,I,i,rfl⟩:=b1.open;have b3:=a9.size;simp at b3;have W:=al.trans (a9.mono sO);have an:=X.trans (W.mono oM);have bn:=gB bm W s1;have ar:=Z1 (gbox ((VD (w4.alloc (.cells #[S,.slice O T Q] 50)) (.cells #[g6,.slice A6 n6 c6] 50) _ sP).trans (Vh w4 (.cells #[S,.slice O T Q] 50))) a9 sO);have q0:=cr9 0 ar.out;have q1:=cr9 1 ar.out;simp at q0 q1;have t0:(w4:Nat)<w5:=oM;have t1:(w:Nat)+1<w5:=oM;have s:=((VM w5 w5).alloc lR (.cells #[o,.slice a I i] 50)).alloc sP (.cells #[g9,.slice A9 n9 c9] 50);have bf:=an.trans (s.mono oM);have a6:=gB bn s t1
  have ad:∀(j:Nat) (n:Int),(ZR:AV)[j]?≠some (.int .u32 n):=by
   intro j n
   match j with
   |0=>simp
   |1=>simp
   |2=>simp
   |3=>simp
   |j+4=>simp
  have a4:∀c,c≠w.heap.size+1->(((w5.alloc (.cells #[o,.slice a I i] 50)).alloc (.cells #[g9,.slice A9 n9 c9] 50)).setRow (w+1) #[S,.slice O T Q,o,.slice a I i]).heap[c]?=((w5.alloc (.cells #[o,.slice a I i] 50)).alloc (.cells #[g9,.slice A9 n9 c9] 50)).heap[c]?:=fun c hc=>Vl _ _ _ _ hc;have bp:=Z1 ((((b0.at_ W).at_ s).other a6.out ad a4).more (C:=(((w5.alloc (.cells #[o,.slice a I i] 50)).alloc (.cells #[g9,.slice A9 n9 c9] 50)).setRow (w+1) #[S,.slice O T Q,o,.slice a I i]).heap.size) sP (Yh k));have bq:=Z1 (((b1.at_ s).other a6.out ad a4).more (C:=(((w5.alloc (.cells #[o,.slice a I i] 50)).alloc (.cells #[g9,.slice A9 n9 c9] 50)).setRow (w+1) #[S,.slice O T Q,o,.slice a I i]).heap.size) sP (Yh j));have be:=below_setRow bf (show(w:Nat)<=w+1 by omega) #[S,.slice O T Q,o,.slice a I i];have au:=VC ((w5.alloc (.cells #[o,.slice a I i] 50)).alloc (.cells #[g9,.slice A9 n9 c9] 50)) (w+1) _ #[S,.slice O T Q,o,.slice a I i] _ _ a6.out;have a0:=VW (P:=prog) _ _ _ 52 _ _ _ au Xf rfl Vy;have ag:Hid ((#[S,.slice O T Q,o,.slice a I i]:AV).all (·.oneCell')):=by show _=true;simp[Value.oneCell']
  have a8:=Z1 a0;clear a4 ad x2 x3 u0 u1 au a0;go_upto_region 6 with(fail);go_wp2_with (refine Vz rfl 52 (.tmp 2) (.tmp 39) none rfl rfl (w+1) 52 _ #[S,.slice O T Q,o,.slice a I i] rfl rfl a6.out rfl Vy ag ?_);refine VG (v:=.agg #[S,.slice O T Q,o,.slice a I i]) (by simp[results,results181,asAddr,Act.put,a8.out]) rfl ⟨⟨_,rfl,_,_,_,_,_,_,_,_,rfl,bp.out,bq.out⟩,be⟩
theorem RI.open {w:World} {B k j:Nat} {v:Value} {N D:Int} (h:RI w B k j v N D):∃(E:Bool) (a:OA) (J o:Nat) (I:Bool) (i:OA) (L s:Nat),v=.agg #[E,.slice a J o,I,.slice i L s]:=by
 obtain⟨E,a,J,o,I,i,L,s,e,_⟩:=h;exact⟨E,a,J,o,I,i,L,s,e⟩
theorem RI.other {w w':World} {B k j b:Nat} {v:Value} {N D:Int} {cs:AV} {t:TypeId} {L:Nat × Nat} (h:RI w B k j v N D) (i:w.heap[b]?=some (.cells cs t L)) (a:∀(j:Nat) (n:Int),cs[j]?≠some (.int .u32 n)) (o:∀c,c≠b->w'.heap[c]?=w.heap[c]?):RI w' B k j v N D:=by
 obtain⟨O,s,W,I,Q,E,X,J,e,S,T⟩:=h;exact⟨O,s,W,I,Q,E,X,J,e,S.other i a o,T.other i a o⟩
theorem RI.more {w:World} {B C k j o i:Nat} {v:Value} {N D:Int} (h:RI w B k j v N D) (a:B<=C) (W:k<=o) (T:j<=i):RI w C o i v N D:=by
 obtain⟨L,s,X,I,O,E,n2,J,e,Q,S⟩:=h;exact⟨L,s,X,I,O,E,n2,J,e,Q.more a W,S.more a T⟩
theorem a0G:∀(j:Nat) (n:Int),(ZR:AV)[j]?≠some (.int .u32 n):=by
 intro j n
 match j with
 |0=>simp
 |1=>simp
 |2=>simp
 |3=>simp
 |j+4=>simp
theorem a7S (k j:Nat) (u v:Value) (N D:Int) (hk:k<=10000000000) (hj:j<=10000000000) (hD:D≠0) (hu:PI w w k u N) (hv:PI w w j v D) :
  Calls prog 132 #[u,v] w fun e w'=>(∃r,e=.returned (.tuple #[r,()])/\RI w' w' k j r (Int.tdiv N (redBy N D)) (Int.tdiv D (redBy N D)))/\Below w w w':=by
 obtain⟨L,I,O,J,rfl⟩:=hu.open;obtain⟨g2,Q,n2,c2,rfl⟩:=hv.open;have s:=(((VM w w).alloc lR (.cells #[L,.slice I O J] 50)).alloc sP (.cells #[g2,.slice Q n2 c2] 50)).alloc sO (.cells ZR 52);obtain⟨W1,a⟩:=eX ((((w.alloc (.cells #[L,.slice I O J] 50)).alloc (.cells #[g2,.slice Q n2 c2] 50)).alloc (.cells ZR 52)));have ac:(W1:Nat)=w+3:=by rw[a];simp
 have a9:W1.heap[w.heap.size]?=some (.cells #[L,.slice I O J] 50 (0,0)):=by rw[a,VD _ _ _ sO,VD _ _ _ sP];exact Vh w _
 have E:W1.heap[w.heap.size+1]?=some (.cells #[g2,.slice Q n2 c2] 50 (0,0)):=by
  rw[a,VD _ _ _ sP];have:=Vh (w.alloc (.cells #[L,.slice I O J] 50)) (.cells #[g2,.slice Q n2 c2] 50)
  rwa [show(w.alloc (.cells #[L,.slice I O J] 50)).heap.size=w.heap.size+1 by simp] at this
 have aa:W1.heap[w.heap.size+2]?=some (.cells ZR 52 (0,0)):=by
  rw[a];have:=Vh ((w.alloc (.cells #[L,.slice I O J] 50)).alloc (.cells #[g2,.slice Q n2 c2] 50)) (.cells ZR 52)
  rwa [show((w.alloc (.cells #[L,.slice I O J] 50)).alloc (.cells #[g2,.slice Q n2 c2] 50)).heap.size=w.heap.size+2 by simp] at this
 rw[<- a] at s;obtain⟨HW,Hz,ad⟩:=Z3 a ac aa;have ah:(sg D==0)=false:=by simp[a1w.2.2];exact hD
 have HD:=Z1 hD;have y0:=cr9 0 E;have y1:=cr9 1 E;simp at y0 y1;have s1:(w:Nat)+1<W1:=oM;clear a ac aa hD;go_enter func132,ntmps132;go_upto_region 1 with(fail);rw[<- HW];go_wp2_with (fail);refine(a0Y W1 j _ D (hv.at_ s)).mono ?_;rintro e w2 ⟨rfl,o⟩;have ag:=o.size;have i:=s.trans (o.mono s.size);have ae:=Z1 (gbox ad o (by have:=Hz.out;omega));have a0:=gbox a9 o oM;have a4:=gbox E o oM;have x0:=cr9 0 a0;have x1:=cr9 1 a0;have x2:=cr9 0 a4;have x3:=cr9 1 a4;simp at x0 x1 x2 x3;clear y0 y1 a9 E a0 a4;go_wp2_with (fail);refine(a1W w2 k j _ N D hk hj HD ⟨L,I,O,J,g2,Q,n2,c2,rfl,hu.at_ i,hv.at_ i⟩).mono ?_;rintro e w3 ⟨⟨r3,rfl,ab⟩,a6⟩;obtain⟨g3,S,n3,c3,g4,T,n4,c4,rfl⟩:=ab.open;have a7:=i.trans (a6.mono i.size);have X:=Z1 (gbox ae a6 (by have:=Hz.out;omega));have a5:Hid ((#[g3,.slice S n3 c3,g4,.slice T n4 c4]:AV).all (·.oneCell')):=by show _=true;simp[Value.oneCell']
 have a8:=VC w3 (w+2) _ #[g3,.slice S n3 c3,g4,.slice T n4 c4] _ _ X;have W:=Z1 (VW (P:=prog) _ _ _ 52 _ _ _ a8 Xf rfl Vy);have af:=below_setRow a7 (show(w:Nat)<=w+2 by omega) #[g3,.slice S n3 c3,g4,.slice T n4 c4];have hp:=Z1 ((ab.other (w':=w3.setRow (w+2) #[g3,.slice S n3 c3,g4,.slice T n4 c4]) X a0G (fun c hc=>Vl _ _ _ _ hc)).more (C:=(w3.setRow (w+2) #[g3,.slice S n3 c3,g4,.slice T n4 c4]).heap.size) sP lR lR);clear a8 x0 x1 x2 x3;go_wp2_with (refine Vz rfl 52 (.tmp 4) (.tmp 13) none rfl rfl (w+2) 52 _ #[g3,.slice S n3 c3,g4,.slice T n4 c4] rfl rfl X rfl Vy a5 ?_);refine VG (v:=.tuple #[.agg #[g3,.slice S n3 c3,g4,.slice T n4 c4],()]) (by simp[results,results132,asAddr,Act.put,W.out]) rfl ⟨⟨_,rfl,hp.out⟩,af⟩
theorem a2i (n m:Int) (a7:-9223372036854775808<=n) (a8:n<=9223372036854775807) (hm:m≠0) (a5:-9223372036854775808<=m) (a6:m<=9223372036854775807) :
  Calls prog 77 #[n,m] w fun e w'=>(∃r,e=.returned (.tuple #[r,()])/\RI w' w'.heap.size 3 3 r (Int.tdiv n (redBy n m)) (Int.tdiv m (redBy n m)))/\Below w w w':=by
 have aa:=(VM w w).alloc lR (.cells ZR 52);have hZ:=Vh w (.cells ZR 52);obtain⟨HZ,HM,Hn,Hm⟩:=Z4 hZ hm (show-9223372036854775808<=n/\n<=9223372036854775807 from⟨a7,a8⟩) (show-9223372036854775808<=m/\m<=9223372036854775807 from⟨a5,a6⟩);clear hZ hm a7 a8 a5 a6;go_enter func77,ntmps77;go_wp2_with (fail);refine(a1X _ n Hn.1 Hn.2).mono ?_;rintro e w1 ⟨⟨r1,rfl,ad⟩,Q⟩;go_wp2_with (fail);refine(a1X w1 m (by have:=Hm.out;omega) (by have:=Hm.out;omega)).mono ?_;rintro e w2 ⟨⟨r2,rfl,ae⟩,S⟩;go_wp2_with (fail);refine(a7S w2 3 3 _ _ n m oM oM HM (ad.at_ S) ae).mono ?_;rintro e w3 ⟨⟨r3,rfl,a9⟩,ab⟩;obtain⟨L,i,T,I,O,o,W,J,rfl⟩:=a9.open;have a:=Q.trans ((S.mono Q.size).trans (ab.mono (Vn Q.size S.size)));have a0:=aa.trans (a.mono sP);have E:=gB HZ a sP;have X:Hid ((#[L,.slice i T I,O,.slice o W J]:AV).all (·.oneCell')):=by show _=true;simp[Value.oneCell']
 have a4:=VC w3 w _ #[L,.slice i T I,O,.slice o W J] _ _ E;have s:=Z1 (VW (P:=prog) _ _ _ 52 _ _ _ a4 Xf rfl Vy);have ac:=below_setRow a0 (Yh w) #[L,.slice i T I,O,.slice o W J];have hp:=Z1 ((a9.other (w':=w3.setRow w #[L,.slice i T I,O,.slice o W J]) E a0G (fun c hc=>Vl _ _ _ _ hc)).more (C:=(w3.setRow w #[L,.slice i T I,O,.slice o W J]).heap.size) sP lR lR);clear a4;go_wp2_with (refine Vz rfl 52 (.tmp 4) (.tmp 11) none rfl rfl w.heap.size 52 _ #[L,.slice i T I,O,.slice o W J] rfl rfl E rfl Vy X ?_);refine VG (v:=.tuple #[.agg #[L,.slice i T I,O,.slice o W J],()]) (by simp[results,results77,asAddr,Act.put,s.out]) rfl ⟨⟨_,rfl,hp.out⟩,ac⟩
def RegP (w:World) (X:AV) (i:World):Prop :=
 Below w w i/\i.heap[w.heap.size]?=some (.cells X 52 (0,0))/\(∃a:AV,i.heap[w.heap.size+1]?=some (.cells a 50 (0,0))/\a.size=2)/\∃a:AV,i.heap[w.heap.size+2]?=some (.cells a 50 (0,0))/\a.size=2
theorem RegP.lt {w W:World} {X:AV} (h:RegP w X W):(w:Nat)+2<W:=by
 obtain⟨_,_,_,a,h,_⟩:=h;exact(Array.getElem?_eq_some_iff.1 h).1
theorem RegP.step {w W o:World} {X:AV} (h:RegP w X W) (a:Below W W o):RegP w X o:=by
 have i:=h.lt;obtain⟨s,J,⟨E,L,O⟩,I,Q,S⟩:=h;exact⟨s.trans (a.mono s.size),(a.block _ oM).trans J,⟨E,(a.block _ oM).trans L,O⟩,I,(a.block _ i).trans Q,S⟩
theorem RegP.drew {w W:World} {X:AV} (h:RegP w X W):RegP w X W.drew:=⟨Vw h.1 1,h.2⟩
theorem RegP.store1 {w W:World} {X:AV} (h:RegP w X W) (cs:AV) (J:cs.size=2):RegP w X (W.setRow (w+1) cs):=by
 obtain⟨i,o,⟨L,s,_⟩,a,E,I⟩:=h;exact⟨below_setRow i oM _,(Vl _ _ _ _ oM).trans o,⟨cs,VC _ _ _ _ _ _ s,J⟩,a,(Vl _ _ _ _ oM).trans E,I⟩
theorem RegP.store2 {w W:World} {X:AV} (h:RegP w X W) (cs:AV) (J:cs.size=2):RegP w X (W.setRow (w+2) cs):=by
 obtain⟨i,o,⟨a,s,E⟩,L,I,_⟩:=h;exact⟨below_setRow i oM _,(Vl _ _ _ _ oM).trans o,⟨a,(Vl _ _ _ _ oM).trans s,E⟩,cs,VC _ _ _ _ _ _ I,J⟩
theorem RegP.start (w:World) (X:AV):RegP w X (((w.alloc (.cells X 52)).alloc (.cells #[false,.slice none 0 0] 50)).alloc (.cells #[false,.slice none 0 0] 50)):=by
 refine⟨((bR.alloc lR _).alloc sP _).alloc sO _,?_,⟨#[false,.slice none 0 0],?_,rfl⟩,#[false,.slice none 0 0],?_,rfl⟩
 ·rw[VD _ _ _ sO,VD _ _ _ sP];exact Vh w _
 ·rw[VD _ _ _ sP]
  have:=Vh (w.alloc (.cells X 52)) (.cells #[false,.slice none 0 0] 50)
  rwa [show(w.alloc (.cells X 52)).heap.size=w.heap.size+1 by simp] at this
 ·have:=Vh ((w.alloc (.cells X 52)).alloc (.cells #[false,.slice none 0 0] 50)) (.cells #[false,.slice none 0 0] 50)
  rwa [show((w.alloc (.cells X 52)).alloc (.cells #[false,.slice none 0 0] 50)).heap.size=w.heap.size+2 by simp] at this
theorem range4 {w:World} {b:Nat} {i o s E:Value} {t:TypeId} {I:Nat × Nat} (h:w.heap[b]?=some (.cells #[i,o,s,E] t I)):w.rangeAt b 0 [i,o]/\w.rangeAt b 2 [s,E]:=by
 constructor
 all_goals
  intro j v a;rw[cr9 _ h]
  match j with
  |0=>simpa using a
  |1=>simpa using a
  |j+2=>simp at a
def PartsPost (k j:Nat) (N D:Int) (w:World) (e:Ending) (w':World):Prop :=
 (∃E a J o I i L s,e=.returned (.tuple #[.agg #[.bool E,.slice a J o],.agg #[.bool I,.slice i L s]])/\PI w' w' k (.agg #[.bool E,.slice a J o]) N/\PI w' w' j (.agg #[.bool I,.slice i L s]) D)/\Below w w w'
theorem a6f (k j:Nat) (v:Value) (N D:Int) (hD:D≠0) (h:RI w w k j v N D) :
  Calls prog 17 #[v] w (PartsPost k j N D w):=by
 obtain⟨o,a,s,i,J,E,O,I,rfl,hN,a5⟩:=h;have L:=RegP.start w #[o,.slice a s i,J,.slice E O I];obtain⟨W1,a4⟩:=eX ((((w.alloc (.cells #[o,.slice a s i,J,.slice E O I] 52)).alloc (.cells #[false,.slice none 0 0] 50)).alloc (.cells #[false,.slice none 0 0] 50)));rw[<- a4] at L;have HW:=Z1 a4;have af:(sg D==0)=false:=by simp[a1w.2.2];exact hD
 have x2:=cr9 2 L.2.1;have x3:=cr9 3 L.2.1;simp at x2 x3;clear a4 hD;go_enter func17,ntmps17;go_upto_region 1 with(fail);rw[<- HW];go_wp2_with (fail);refine(a0Y W1 j _ D (a5.at_ L.1)).mono ?_;rintro e W2 ⟨rfl,ab⟩;have ae:=L.step ab;have hS:=ae.drew;clear x2 x3;go_upto_region 3 with(fail);refine Vs (S:=RegP w #[o,.slice a s i,J,.slice E O I]) kR ?_;change wpAnyH _ _ _ _ _ _ _ _ (World.drew _);refine jT 0 hS ?_;refine jT 1 hS ?_ (v:=.agg #[o,.slice a s i]) (hy:=(Vf (by rfl) 50 _ rfl w.heap.size 0 rfl [o,.slice a s i] _ (fun W' X=>(range4 X.2.1).1) Xy rfl VZ));refine jT 2 hS ?_;refine jT 3 hS ?_ (v:=.agg #[J,.slice E O I]) (hy:=(Vf (by rfl) 50 _ rfl w.heap.size 2 rfl [J,.slice E O I] _ (fun W' X=>(range4 X.2.1).2) Xy rfl VZ));refine rZ 4 fun K hK=>?_;rw[Vt (by rfl)];obtain⟨cs,a7,a8⟩:=hS.2.2.1;refine VQ 50 _ _ none rfl rfl (w+1) 50 cs #[o,.slice a s i] rfl rfl a7 a8 VZ oC ?_;have ac:=VC W2.drew (w+1) cs #[o,.slice a s i] _ _ a7;have a0:=hS.store1 #[o,.slice a s i] rfl;refine jK hK a0 ?_;clear hK K;refine rZ 5 fun K hK=>?_;rw[Vt (by rfl)];obtain⟨ds,a9,aa⟩:=a0.2.2.2;refine VQ 50 _ _ none rfl rfl (w+2) 50 ds #[J,.slice E O I] rfl rfl a9 aa VZ oC ?_;have ad:=VC (W2.drew.setRow (w+1) #[o,.slice a s i]) (w+2) ds #[J,.slice E O I] _ _ a9;have a6:=(Vl (W2.drew.setRow (w+1) #[o,.slice a s i]) (w+2) (w+1) #[J,.slice E O I] oM).trans ac;have Q:=a0.store2 #[J,.slice E O I] rfl;refine jK hK Q ?_;clear hK K;refine VF kR ?_ _;have T:=VW (P:=prog) _ _ _ 50 _ _ _ a6 Xy rfl VZ;have W:=VW (P:=prog) _ _ _ 50 _ _ _ ad Xy rfl VZ;go_wp2;exact VG (v:=.tuple #[.agg #[o,.slice a s i],.agg #[J,.slice E O I]]) (by simp[results,results17,asAddr,Act.put,T,W]) rfl ⟨⟨o,a,s,i,J,E,O,I,rfl,hN.at_ Q.1,a5.at_ Q.1⟩,Q.1⟩
theorem RatesAt.start {w:World} {A:OA} {rs:List Rt} (h:RatesAt w w A rs) (o:Obj):RatesAt (w.alloc o) (w.alloc o).heap.size A rs :=
 (h.below ((VM w w).alloc lR o) lR).more sP
theorem RatesAt.at_ {w w':World} {B:Nat} {A:OA} {rs:List Rt} (h:RatesAt w B A rs) (a:Below B w w') (i:B<=w):RatesAt w' w' A rs :=
 (h.below a lR).more (Vn i a.size)
def Rates.whichR (g:BA) (rs:List Rt) (cur:BA) (d:Int):Rt × Int :=
 if Rates.errQ g rs cur d=0 then
  (if(cur.toList==g.toList) then(⟨cur,1,d,1000000⟩,0) else match Rates.which rs cur d with|some r=>(r,0)|none=>(Rt.zero,13))
 else(Rt.zero,Rates.errQ g rs cur d)
theorem gsize:(prog.info? 29).map (·.size)=some 21:=kR
theorem Rates.find_getD (o:Option Int):(∃v,o=some v)∨o=none:=by cases o <;> simp
end Go.Proofs.YtbhdekahdnenjaaGreatDoor
