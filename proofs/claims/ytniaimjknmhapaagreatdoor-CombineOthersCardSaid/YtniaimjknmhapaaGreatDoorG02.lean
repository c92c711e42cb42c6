/- My texts Maps, Valid, Check. -/
import Derived.Maps.Own
import Derived.Maps.OwnOps
import Derived.Maps.Views
import Derived.DeepKeys4
import Derived.ProofKit
import Derived.StillTailTactics
import Derived.Test.YtniaimjknmhapaaGreatDoorG07
set_option linter.unusedVariables false
set_option linter.unusedSimpArgs false
set_option maxRecDepth 100000
set_option maxHeartbeats 16000000
namespace Go.Proofs.YtniaimjknmhapaaGreatDoor
open Go.RowKit Go.Maps

def heldR (v:Value):Option (DataW Value × List MemPlace):=some (.held v,[])

def MapAt (w:World) (P:Program) (k:TypeId) (b n:Nat) (f:Value->Option Value):Prop :=
 ∃ D:DataW Value,w.ownsMap P k heldR b n D/\IsMap D/\∀ x kl,keyOf P k x=some kl->∀ z,D.atKey kl (.held z)=.held ((f x).getD z)

section
variable {w w':World} {P:Program} {k t e:TypeId} {b n:Nat} {f:Value->Option Value}
theorem MapAt.lt (h:MapAt w P k b n f):b<w.heap.size:=by obtain⟨D,h,_⟩:=h;exact h.lt
theorem MapAt.made (w:World) (P:Program) (k:TypeId):MapAt (w.alloc (.map #[] 0)) P k w.heap.size 0 (fun _=>none) :=
 ⟨_,World.ownsMap_made w P k heldR,isMap_empty,fun _ _ _ _=>rfl⟩
theorem MapAt.kept {row:Option Nat} (h:MapAt w P k b n f) (hg:w.grownBy w' row) (hne:some b≠row):MapAt w' P k b n f:=by
 obtain⟨D,h,r⟩:=h;exact⟨D,h.kept hg hne,r⟩
theorem MapAt.alloc (h:MapAt w P k b n f) (o:Obj):MapAt (w.alloc o) P k b n f:=by obtain⟨D,h,r⟩:=h;exact⟨D,h.alloc o,r⟩
theorem MapAt.drew (h:MapAt w P k b n f):MapAt w.drew P k b n f:=h
theorem MapAt.below {B:Nat} (h:MapAt w P k b n f) (hb:Below B w w') (hB:b<B):MapAt w' P k b n f:=by
 obtain⟨D,⟨es,clock,he,r⟩,r2⟩:=h;exact⟨D,⟨es,clock,(hb.block b hB).trans he,r⟩,r2⟩
theorem MapAt.mono (h:MapAt w P k b n f) {n':Nat} (hn:n<=n'):MapAt w P k b n' f:=by obtain⟨D,h,r⟩:=h;exact⟨D,h.mono hn,r⟩
theorem MapAt.ext {g:Value->Option Value} (h:MapAt w P k b n f) (e:∀ x kl,keyOf P k x=some kl->f x=g x):MapAt w P k b n g:=by
 obtain⟨D,h,r,s⟩:=h;exact⟨D,h,r,fun x kl hk z=>by rw [<- e x kl hk];exact s x kl hk z⟩
theorem MapAt.lookup (h:MapAt w P k b n f) (K:Keyed P k) (ht:P.underlying t=some (.map k e)) {z:Value} (hz:(zeroValue e).run P w=.ok z w)
  {key:Value} {kl:Lit} (hkey:keyOf P k key=some kl):(Instr.lookup t (.map (some b)) key false).run P w=.ok ((f key).getD z) w:=by
 obtain⟨D,h,_,s⟩:=h;obtain⟨v,ps,hrun,hv⟩:=h.lookup K ht hz (zd:=.held z) (zp:=[]) rfl hkey;rw [s key kl hkey z] at hv;simp only [heldR,Option.some.injEq,Prod.mk.injEq,DataW.held.injEq] at hv;rw [hrun,hv.1]
open Classical in
theorem MapAt.update (h:MapAt w P k b n f) (K:Keyed P k) (ht:P.underlying t=some (.map k e)) (hn:n<maxLen) {key val:Value} {kl:Lit} (hkey:keyOf P k key=some kl) :
  ∃ w',(Instr.mapUpdate t (.map (some b)) key val).run P w=.ok () w'/\MapAt w' P k b (n+1) (fun x=>if x=key then some val else f x)/\w.grownBy w' (some b):=by
 obtain⟨D,h,hm,s⟩:=h;obtain⟨w',hrun,ho,hg⟩:=h.update K ht hn hkey (d:=.held val) (ps:=[]) rfl;refine⟨w',hrun,⟨_,ho,hm.put _ _,fun x kl' hk z=>?_⟩,hg⟩
 by_cases hx:x=key
 ·subst hx
  rw [hkey] at hk;cases hk;rw [atKey_put_same hm (K.key hkey)];show _=DataW.held ((if x=x then some val else f x).getD z);rw [if_pos rfl];rfl
 ·show _=DataW.held ((if x=key then some val else f x).getD z)
  rw [if_neg hx,<- s x kl' hk z];exact atKey_put_other (fun e=>hx (K.inj (by rw [hk,e]) hkey)) _ _

open Classical in
theorem Xk {ops:Array Oper} {rest:List Oper} {o:Oper} {a:Act} {Q:Exit->Act->World->Prop}
  (hg:o.guard=none) (m x v:Operand) (hop:o.op=Op.mapUpdate t m x v) (h:MapAt w P k b n f) (K:Keyed P k) (ht:P.underlying t=some (.map k e))
  (hm:a.eval m=.map (some b)) (hn:n<maxLen) (key val:Value) (kl:Lit) (hx:a.eval x=key) (hv:a.eval v=val) (hkey:keyOf P k key=some kl)
  (hK:∀ w',MapAt w' P k b (n+1) (fun x=>if x=key then some val else f x)->w.grownBy w' (some b)->wpList P ops Q rest (a.put o.dst undef) w') :
  wpList P ops Q (o::rest) a w:=by
 refine wpList_plain hg fun K' hK'=>?_;obtain⟨w',hrun,r1,r2⟩:=h.update K ht hn (val:=val) hkey;unfold Oper.wp;simp [execOp,hop,hm,hx,hv,hrun,Result.andThen];exact hK' _ _ (hK w' r1 r2)
end
open Tryz Go.RowKit

theorem laidOut:laidOutB prog=true:=kR
theorem keyLaw:Maps.Keyed prog 175:=Maps.Keyed.of_law (deep_law_laid laidOut (m:=2) oM (of_decide_eq_true kR) kR kR)
theorem keyOk (s:ByteArray) (a b:Int) (hs:s.size<=maxLen) (ha:(Lit.int .i64 a).wf=true) (hb:(Lit.int .i64 b).wf=true):∃ kl,keyOf prog 175 (.agg #[.string s,a,b])=some kl:=by
 unfold keyOf;rw [underlying175];have h1:prog.keyType 175=true:=kR;have c3:prog.cellsOf 175=3:=kR
 have h2:(Value.agg #[.string s,a,b]).formed prog 175=true:=by
  simp [Value.formed,underlying175,c3]
 simp only [h1,h2,Bool.and_self,if_true];have h3:∃ n,prog.types.size=n+1:=⟨prog.types.size-1,by have:0<prog.types.size:=of_decide_eq_true kR;omega⟩;obtain⟨n,hn⟩:=h3;rw [hn];have c0:prog.cellsOf 9=1:=kR;have c1:prog.cellsOf 3=1:=kR;simp [Program.keyLits,underlying175,underlying9,underlying3,Value.cells,c0,c1,c3,hs,ha,hb]

def Rt.wf (r:Rt):Prop:=r.cur.size<=maxLen/\(Lit.int .i64 r.kind).wf=true/\(Lit.int .i64 r.when_).wf=true/\(Lit.int .i64 r.val).wf=true

section
variable (w:World)
def Seen (w:World) (b:Nat) (rs:List Rt) (k:Nat):Prop :=
 ∃ f,MapAt w prog 175 b k f/\∀ s a c,f (.agg #[.string s,.int .i64 a,.int .i64 c])=if (rs.take k).any (fun r=>r.at_ s a c)=true then some (.bool true) else none

theorem Seen.look {b:Nat} {rs:List Rt} {k:Nat} (h:Seen w b rs k) (s:ByteArray) (a c:Int) (hs:s.size<=maxLen) (ha:(Lit.int .i64 a).wf=true) (hb:(Lit.int .i64 c).wf=true) :
  (Instr.lookup 170 (.map (some b)) (.agg #[.string s,a,c]) false).run prog w=.ok (.bool ((rs.take k).any (fun r=>r.at_ s a c))) w:=by
 obtain⟨f,hm,hf⟩:=h;obtain⟨kl,hk⟩:=keyOk s a c hs ha hb;have hz:(zeroValue 4).run prog w=.ok (.bool false) w:=kR;rw [hm.lookup keyLaw underlying170 hz hk,hf]
 cases (rs.take k).any (fun r=>r.at_ s a c) <;> rfl
theorem Seen.below {w':World} {B b:Nat} {rs:List Rt} {k:Nat} (h:Seen w b rs k) (hb:Below B w w') (hB:b<B):Seen w' b rs k:=by
 obtain⟨f,hm,hf⟩:=h;exact⟨f,hm.below hb hB,hf⟩
theorem Seen.alloc {b:Nat} {rs:List Rt} {k:Nat} (h:Seen w b rs k) (o:Obj):Seen (w.alloc o) b rs k:=by
 obtain⟨f,hm,hf⟩:=h;exact⟨f,hm.alloc o,hf⟩
theorem Seen.lt {b:Nat} {rs:List Rt} {k:Nat} (h:Seen w b rs k):b<w.heap.size:=by obtain⟨f,hm,hf⟩:=h;exact hm.lt
theorem Seen.made (rs:List Rt):Seen (w.alloc (.map #[] 0)) w rs 0:=⟨_,MapAt.made w _ _,fun s a c=>sP⟩
open Classical in
theorem a8N (rs:List Rt) (k:Nat) (hk:k<rs.length) (f:Value->Option Value) (hf:∀ s a c,f (.agg #[.string s,.int .i64 a,.int .i64 c])=if (rs.take k).any (fun r=>r.at_ s a c)=true then some (.bool true) else none) :
  ∀ s a c,(fun x=>if x=.agg #[.string rs[k].cur,.int .i64 rs[k].kind,.int .i64 rs[k].when_] then some (Value.bool true) else f x) (.agg #[.string s,.int .i64 a,.int .i64 c])=if (rs.take (k+1)).any (fun r=>r.at_ s a c)=true then some (.bool true) else none:=by
 intro s a c;show(if _ then _ else f _)=_;rw [Rates.any_take_succ _ _ _ hk]
 by_cases h:rs[k].at_ s a c=true
 ·obtain⟨h1,h2,h3⟩:=(Rt.at_iff _ _ _ _).1 h
  rw [if_pos (by rw [Rt.toList_inj h1,h2,h3]),if_pos (by rw [h];simp)]
 ·rw [if_neg (by
   intro e;simp only [Value.agg.injEq,Array.mk.injEq,List.cons.injEq,Value.string.injEq,Value.int.injEq,true_and,and_true] at e;exact h ((Rt.at_iff _ _ _ _).2 ⟨by rw [e.1],e.2.1.symm,e.2.2.symm⟩)),hf]
  have h':rs[k].at_ s a c=false:=by simpa using h
  rw [h',Bool.or_false]

theorem a1e (A:Option Addr) (n c:Nat) (rs:List Rt) (g:ByteArray) (hl:rs.length=n) (hn:n<=100000) (hg:g.size<=maxLen) (hr:∀ r∈rs,r.wf) (h:RatesAt w w A rs) :
  CL 48 #[.string g,.slice A n c] w (Rates.valid g rs):=by
 subst hl;have hmm:=@run_makeMap prog;go_enter func48,ntmps48;go_wp2
 go_loopw [11] (fun i wr=>∃ k:Nat,k<=rs.length/\i=.int .i64 k/\Rates.Pre g rs k/\Below w w wr/\Seen wr w rs k) (fun i _=>rs.length-(intOf i).toNat)
 case atStart=>exact⟨0,Nat.zero_le _,rfl,Rates.pre_zero g rs,bR.alloc lR _,Seen.made w rs⟩
 case round =>
  obtain⟨k,hk,rfl,hp,hb,hS⟩:=hrel;have Hp:=Z1 hp;have hSl:=hS.lt _;clear hp hmm
  by_cases hlt:k<rs.length
  ·obtain⟨b,o,rfl,hbB,c0,c1,c2,c3⟩:=(h.below hb lR).look hlt
   have hbw:b<wr.heap.size:=Nat.lt_of_lt_of_le hbB hb.size;obtain⟨hw0,hw1,hw2,_⟩:=hr rs[k] (List.getElem_mem hlt);have hz:=hb.size
   by_cases hpr:Rates.proper g rs[k]=true
   ·have hpr':Rates.proper g ⟨rs[k].cur,rs[k].kind,rs[k].when_,rs[k].val⟩=true:=hpr
    have Hpr:=Z1 hpr;clear hpr;go_wp2_with (go_at_call 89;refine(a3M _ _ _ _ _ _ hw0).mono ?_;rw [hpr'];rintro e w4 ⟨rfl,hB⟩;obtain⟨hc,hf⟩:=bcell hB);have hb4:=(hb.alloc hz _).trans (hB.mono sO);have hS4:=(hS.alloc wr _).below _ hB sO;have hz4:=hB.size;simp at hz4;have hz4':wr.heap.size<w4.heap.size:=oM;have hb4':b<w4.heap.size:=oM;refine(a9i _ _ _ _ _).mono ?_;rintro e w5 ⟨rfl,hB5⟩;have hb5:=hb4.trans (hB5.mono hb4.size);have hS5:=hS4.below _ hB5 (hS4.lt _);have hz5:wr.heap.size<w5.heap.size:=Nat.lt_of_lt_of_le hz4' hB5.size;have hlk:=hS5.look _ rs[k].cur rs[k].kind rs[k].when_ hw0 hw1 hw2;obtain⟨hc5,hf5⟩:=bcell hB5
    by_cases hany:(rs.take k).any (fun r=>r.at_ rs[k].cur rs[k].kind rs[k].when_)=true
    ·have hfin:=Z1 (Rates.valid_twice' g rs k hlt hany)
     rw [hany] at hlk;clear hany;go_wp2;go_ret;exact⟨VZ hfin.out.symm,hb5⟩
    ·have hany':(rs.take k).any (fun r=>r.at_ rs[k].cur rs[k].kind rs[k].when_)=false:=by simpa using hany
     have hfin:=Z1 (Rates.pre_succ g rs k hlt Hp.out hpr' hany');rw [hany'] at hlk;clear hany hany';go_wp2_with (fail);refine(a9i _ _ _ _ _).mono ?_;rintro e w6 ⟨rfl,hB6⟩;have hb6:=hb5.trans (hB6.mono hb5.size);obtain⟨f,hm,hff⟩:=hS5.below _ hB6 (hS5.lt _);obtain⟨kl,hkl⟩:=keyOk rs[k].cur rs[k].kind rs[k].when_ hw0 hw1 hw2;have hstep:=Z1 (a8N rs k hlt f hff);clear hlk hc5 hf5 hc hf hff;go_wp2_with (at_mapUpdate;refine Xk rfl _ _ _ rfl hm keyLaw underlying170 rfl (by unfold maxLen;omega) _ _ _ rfl rfl hkl ?_;intro w7 hm7 hg7);have hb7:=hb6.grown hg7 hb6.size (fun j e=>by cases e;exact lR);go_roundw
     case rel=>exact⟨k+1,oM,by go_num,hfin.out,hb7,⟨_,hm7,hstep.out⟩⟩
     case measure=>simp [intOf];omega
   ·have hpr':Rates.proper g ⟨rs[k].cur,rs[k].kind,rs[k].when_,rs[k].val⟩=false:=by simpa using hpr
    have hf:=Z1 (Rates.valid_improper g rs k hlt hpr');clear hpr;go_wp2_with (go_at_call 89;refine(a3M _ _ _ _ _ _ hw0).mono ?_;rw [hpr'];rintro e w4 ⟨rfl,hB⟩);go_ret;exact⟨VZ hf.out.symm,(hb.alloc hz _).trans (hB.mono sO)⟩
  ·obtain rfl:k=rs.length:=oM
   have hf:=Z1 (Rates.pre_end g rs Hp.out);go_wp2_with (go_at_call 91;refine(a2i _ _ hg).mono ?_;rintro e w4 ⟨rfl,hB⟩)
   all_goals (go_ret;exact⟨VZ (by rw [hf.out];simp [*] <;> omega),hb.trans (hB.mono hb.size)⟩)
end
open Tryz Go.RowKit

structure QGrp where
 gc:ByteArray
 Y:Int
 M:Int
 N:Int
 x0:Value
 x1:Value
 x2:Value
 x3:Value
 x4:Value
 x5:Value
 x6:Value
 x7:Value
 x8:Value
 x9:Value
 x10:Value
 x11:Value
 x12:Value
 x13:Value
 x14:Value
 x15:Value
 x16:Value
instance:Coe QGrp (Array Value):=⟨fun x=>#[.string x.gc,.int .i64 x.Y,.int .i64 x.M,.int .i64 x.N,x.x0,x.x1,x.x2,x.x3,x.x4,x.x5,x.x6,x.x7,x.x8,x.x9,x.x10,x.x11,x.x12,x.x13,x.x14,x.x15,x.x16]⟩
instance:Coe QGrp Value:=⟨fun x=>.agg #[.string x.gc,.int .i64 x.Y,.int .i64 x.M,.int .i64 x.N,x.x0,x.x1,x.x2,x.x3,x.x4,x.x5,x.x6,x.x7,x.x8,x.x9,x.x10,x.x11,x.x12,x.x13,x.x14,x.x15,x.x16]⟩
instance:Coe QGrp (List Value):=⟨fun x=>[.string x.gc,.int .i64 x.Y,.int .i64 x.M,.int .i64 x.N,x.x0,x.x1,x.x2,x.x3,x.x4,x.x5,x.x6,x.x7,x.x8,x.x9,x.x10,x.x11,x.x12,x.x13,x.x14,x.x15,x.x16]⟩

section
variable (w:World)
theorem a4r (s:ByteArray) (hs:s.size<=maxLen):CL 304 #[.string s] w (.bool (!Rates.isCur s)):=by
 go_enter func304,ntmps304;go_wp2_with (go_at_call 91;refine(a2i _ _ hs).mono ?_;rintro e w4 ⟨rfl,hB⟩);go_ret;exact⟨rfl,hB⟩

theorem a6I (b c:Nat) (s:ByteArray) (hs:s.size<=maxLen) (hb:b<w.heap.size) (hc:w.cell? ⟨b,0,none⟩=some (.string s)) :
  CL 320 #[.slice (some ⟨b,0,none⟩) 1 c,.func (.func 304) #[] #[]] w (.int .i64 (if Rates.isCur s=true then -1 else 0)):=by
 by_cases h:Rates.isCur s=true
 ·rw [if_pos h]
  go_enter func320,ntmps320;go_wp2
  go_loopw [8] (fun i wr=>∃ k:Nat,k<=1/\i=.int .i64 k/\Below w w wr) (fun i _=>1-(intOf i).toNat)
  case atStart=>exact⟨0,Nat.zero_le _,rfl,bR⟩
  case round =>
   obtain⟨k,hk,rfl,hb2⟩:=hrel
   rcases(show k=0∨k=1 by omega) with rfl | rfl
   ·have hc2:wr.cell? ⟨b,0,none⟩=some (.string s):=(hb2.cell (p:=⟨b,0,none⟩) hb).trans hc
    clear hc;go_wp2_with (go_at_call 304;refine(a4r _ _ hs).mono ?_;rw [h];rintro e w4 ⟨rfl,hB⟩);go_roundw
    case rel=>exact⟨1,oM,by go_num,hb2.trans (hB.mono hb2.size)⟩
    case measure=>simp [intOf]
   ·go_wp2
    go_ret;exact⟨rfl,hb2⟩
 ·rw [if_neg h]
  have h':Rates.isCur s=false:=by simpa using h
  clear h;go_enter func320,ntmps320;go_wp2
  go_loopw [8] (fun i wr=>i=.int .i64 0/\w=wr) (fun i _=>1-(intOf i).toNat)
  case atStart=>exact⟨rfl,rfl⟩
  case round =>
   obtain⟨rfl,rfl⟩:=hrel;go_wp2_with (go_at_call 304;refine(a4r _ _ hs).mono ?_;rw [h'];rintro e w4 ⟨rfl,hB⟩);go_ret;exact⟨rfl,hB⟩
theorem a3R (b c:Nat) (s:ByteArray) (hs:s.size<=maxLen) (hb:b<w.heap.size) (hc:w.cell? ⟨b,0,none⟩=some (.string s)) :
  CL 303 #[.slice (some ⟨b,0,none⟩) 1 c,.func (.func 304) #[] #[]] w (.bool (!Rates.isCur s)):=by
 have H:=a6I w b c s hs hb hc
 by_cases h:Rates.isCur s=true
 all_goals
  first | rw [if_pos h] at H | rw [if_neg h] at H
  have H':=Z1 H;clear H hc;go_enter func303,ntmps303;go_wp2_with (go_at_call 320;refine H'.out.mono ?_;rintro e w4 ⟨rfl,hB⟩);go_ret;exact⟨VZ (by simp [h]),hB⟩

def Rates.errQ (g:ByteArray) (rs:List Rt) (cur:ByteArray) (d:Int):Int:=if Rates.valid g rs=true/\Rates.isCur cur=true then (if Rates.dateB d=true then 0 else 2) else 1

theorem b0h (g:QGrp) (A:Option Addr) (n c c' b:Nat) (rs:List Rt) (cur:ByteArray) (d:Int) (hl:rs.length=n) (hn:n<=100000) (hg:g.gc.size<=maxLen) (hcu:cur.size<=maxLen) (hr:∀ r∈rs,r.wf) (h:RatesAt w w A rs)
  (hb:b<w.heap.size) (hc:w.cell? ⟨b,0,none⟩=some (.string cur)) :
  CL 262 #[g,.slice A n c,d,.slice (some ⟨b,0,none⟩) 1 c'] w (Rates.errQ g.gc rs cur d):=by
 unfold Rates.errQ;have hc2:=fun W (hW:Below w w W)=>(hW.cell (p:=⟨b,0,none⟩) hb).trans hc;have Hc2:=Z1 hc2;clear hc2 hc;have H:=Z1 h;clear h;have hR:=(H.out.below ((Below.refl w w).alloc lR (.cells g 29)) lR).more (C:=(w.alloc (.cells g 29)).heap.size) sP;have HR:=Z1 hR;clear hR
 by_cases hv:Rates.valid g.gc rs=true
 ·by_cases hq:Rates.isCur cur=true
  ·have hpos:Rates.valid g.gc rs=true/\Rates.isCur cur=true:=⟨hv,hq⟩
   rcases(show decide (-25567<=d/\d<=84005)=true∨decide (-25567<=d/\d<=84005)=false by cases decide (-25567<=d/\d<=84005) <;> simp) with hd | hd
   all_goals
    have hd2:Rates.dateB d=_:=hd;rw [if_pos hpos,hd2];clear hpos hd2;go_enter func262,ntmps262;go_wp2_with (fail);refine(a1e _ _ _ _ rs _ hl hn hg hr HR.out).mono ?_;rw [hv];rintro e w4 ⟨rfl,hB⟩;have hB1:=((Below.refl w w).alloc lR _).trans (hB.mono sP);have hz1:=hB1.size;go_wp2_with (fail);refine(a3R _ _ _ _ hcu oM (Hc2.out _ hB1)).mono ?_;rw [hq];rintro e w5 ⟨rfl,hB5⟩;have hB2:=hB1.trans (hB5.mono hz1);go_wp2_with (go_at_call 101;refine(a0P _ _).mono ?_;rw [hd];rintro e w6 ⟨rfl,rfl⟩);go_ret;exact⟨rfl,hB2⟩
  ·have hq':Rates.isCur cur=false:=by simpa using hq
   rw [if_neg (fun hh=>hq hh.2)];clear hq;go_enter func262,ntmps262;go_wp2_with (fail);refine(a1e _ _ _ _ rs _ hl hn hg hr HR.out).mono ?_;rw [hv];rintro e w4 ⟨rfl,hB⟩;have hB1:=((Below.refl w w).alloc lR _).trans (hB.mono sP);have hz1:=hB1.size;go_wp2_with (fail);refine(a3R _ _ _ _ hcu oM (Hc2.out _ hB1)).mono ?_;rw [hq'];rintro e w5 ⟨rfl,hB5⟩;have hB2:=hB1.trans (hB5.mono hz1);go_wp2;go_ret;exact⟨rfl,hB2⟩
 ·have hv':Rates.valid g.gc rs=false:=by simpa using hv
  rw [if_neg (fun hh=>hv hh.1)];clear hv;go_enter func262,ntmps262;go_wp2_with (fail);refine(a1e _ _ _ _ rs _ hl hn hg hr HR.out).mono ?_;rw [hv'];rintro e w4 ⟨rfl,hB⟩;have hB1:=((Below.refl w w).alloc lR _).trans (hB.mono sP);go_wp2;go_ret;exact⟨rfl,hB1⟩

def Rates.errP (g:QGrp) (rs:List Rt) (cur:ByteArray) (p:Int):Int:=if Rates.valid g.gc rs=true/\Rates.isCur cur=true/\Cal.ok g.Y g.M g.N=true then (if 0<=p/\p<g.N then 0 else 2) else 1
theorem Rates.errP_zero (g:QGrp) (rs:List Rt) (cur:ByteArray) (p:Int):Rates.errP g rs cur p=0 ↔ (Rates.valid g.gc rs=true/\Rates.isCur cur=true/\Cal.err g.Y g.M g.N p=0):=by
 unfold Rates.errP;rw [Cal.err_zero]
 by_cases h:Rates.valid g.gc rs=true/\Rates.isCur cur=true/\Cal.ok g.Y g.M g.N=true
 ·rw [if_pos h];obtain⟨h1,h2,h3⟩:=h;by_cases h4:0<=p/\p<g.N <;> simp [*]
 ·rw [if_neg h];constructor
  ·intro h;cases h
  ·rintro⟨h1,h2,h3,_⟩;exact absurd ⟨h1,h2,h3⟩ h

theorem Rates.errP_cases (g:QGrp) (rs:List Rt) (cur:ByteArray) (p:Int) :
  (Rates.valid g.gc rs=false/\Rates.errP g rs cur p=1)∨(Rates.valid g.gc rs=true/\Rates.isCur cur=false/\Rates.errP g rs cur p=1) ∨
  (Rates.valid g.gc rs=true/\Rates.isCur cur=true/\Cal.ok g.Y g.M g.N=false/\Rates.errP g rs cur p=1) ∨
  (Rates.valid g.gc rs=true/\Rates.isCur cur=true/\Cal.ok g.Y g.M g.N=true/\Cal.err g.Y g.M g.N p=2/\Rates.errP g rs cur p=2) ∨
  (Rates.valid g.gc rs=true/\Rates.isCur cur=true/\Cal.ok g.Y g.M g.N=true/\Cal.err g.Y g.M g.N p=0/\Rates.errP g rs cur p=0):=by
 unfold Rates.errP Cal.err
 by_cases h4:0<=p/\p<g.N
 ·have e1:(if p<0∨g.N<=p then (2:Int) else 0)=0:=if_neg oM
  rw [e1,if_pos h4]
  cases h1:Rates.valid g.gc rs <;> cases h2:Rates.isCur cur <;> cases h3:Cal.ok g.Y g.M g.N <;> simp
 ·have e1:(if p<0∨g.N<=p then (2:Int) else 0)=2:=if_pos oM
  rw [e1,if_neg h4]
  cases h1:Rates.valid g.gc rs <;> cases h2:Rates.isCur cur <;> cases h3:Cal.ok g.Y g.M g.N <;> simp

theorem a4p (g:QGrp) (A:Option Addr) (n c:Nat) (rs:List Rt) (cur:ByteArray) (p:Int) (hl:rs.length=n) (hn:n<=100000) (hg:g.gc.size<=maxLen) (hcu:cur.size<=maxLen) (hr:∀ r∈rs,r.wf) (h:RatesAt w w A rs) :
  Calls prog 258 #[g,.slice A n c,.string cur,p] w fun e w' =>
   e=.returned (if Rates.errP g rs cur p=0 then .tuple #[(Cal.first g.Y g.M p),(Cal.last g.Y g.M p),()] else .tuple #[(),(),(Rates.errP g rs cur p)])/\Below w w w':=by
 have hR:=(h.below ((Below.refl w w).alloc lR (.cells g 29)) lR).more (C:=(w.alloc (.cells g 29)).heap.size) sP;have HR:=Z1 hR;clear hR h
 rcases Rates.errP_cases g rs cur p with⟨h1,e⟩ | ⟨h1,h2,e⟩ | ⟨h1,h2,h3,e⟩ | ⟨h1,h2,h3,h4,e⟩ | ⟨h1,h2,h3,h4,e⟩
 all_goals
  rw [e];clear e;go_enter func258,ntmps258;go_wp2_with (fail);refine(a1e _ _ _ _ rs _ hl hn hg hr HR.out).mono ?_;rw [h1];rintro e w4 ⟨rfl,hB⟩;have hB1:=((Below.refl w w).alloc lR (.cells g 29)).trans (hB.mono sP);have hz1:=hB.size;simp at hz1;have hz1':w.heap.size<w4.heap.size:=oM;obtain⟨hc,hf⟩:=bcell hB
 ·go_wp2
  go_ret3
  exact⟨rfl,hB1⟩
 ·go_wp2_with (go_at_call 91;refine(a2i _ _ hcu).mono ?_;rw [h2];rintro e w5 ⟨rfl,hB5⟩)
  go_ret3
  exact⟨rfl,hB1.trans (hB5.mono hB1.size)⟩
 ·go_wp2_with (fail)
  refine(a2i _ _ hcu).mono ?_;rw [h2];rintro e w5 ⟨rfl,hB5⟩;have hB2:=hB1.trans (hB5.mono hB1.size);obtain⟨hc5,hf5⟩:=bcell hB5;go_wp2_with (fail);refine(a0U _ _ _ _).mono ?_;rw [h3];rintro e w6 ⟨rfl,hB6⟩;go_wp2
  go_ret3
  exact⟨rfl,hB2.trans (hB6.mono hB2.size)⟩
 all_goals
  go_wp2_with (fail);refine(a2i _ _ hcu).mono ?_;rw [h2];rintro e w5 ⟨rfl,hB5⟩;have hB2:=hB1.trans (hB5.mono hB1.size);have hz5:w.heap.size<w5.heap.size:=Nat.lt_of_lt_of_le hz1' hB5.size;obtain⟨hc5,hf5⟩:=bcell hB5;go_wp2_with (fail);refine(a0U _ _ _ _).mono ?_;rw [h3];rintro e w6 ⟨rfl,hB6⟩;have hB3:=hB2.trans (hB6.mono hB2.size);have hz6:w.heap.size<w6.heap.size:=Nat.lt_of_lt_of_le hz5 hB6.size;obtain⟨hc6,hf6⟩:=bcell hB6;have h4':=Z1 h4;clear h4;go_wp2_with (fail)
  first | refine(a4D _ _ _ _ _ (by rw [h4'.out];decide)).mono ?_ | refine(a4E _ _ _ _ _ h4'.out).mono ?_
  rintro e w7 ⟨rfl,hB7⟩;have hB4:=hB3.trans (hB7.mono hB3.size);have hz7:w.heap.size<w7.heap.size:=Nat.lt_of_lt_of_le hz6 hB7.size;obtain⟨hc7,hf7⟩:=bcell hB7;go_wp2_with (fail)
  first | refine(a3Q _ _ _ _ _ (by rw [h4'.out];decide)).mono ?_ | refine(a2y _ _ _ _ _ h4'.out).mono ?_
  rintro e w8 ⟨rfl,hB8⟩;have hB5':=hB4.trans (hB8.mono hB4.size)
  try rw [h4'.out]
  go_wp2
  go_ret3
  exact⟨rfl,hB5'⟩
end
end Go.Proofs.YtniaimjknmhapaaGreatDoor
