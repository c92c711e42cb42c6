/- My texts DeskW. -/
import Derived.Test.YtniaimjknmhapaaGreatDoorG26
set_option linter.unusedVariables false
set_option linter.unusedSimpArgs false
set_option maxRecDepth 100000
set_option maxHeartbeats 16000000
namespace Go.Proofs.YtniaimjknmhapaaGreatDoor
open Go.Proofs.Tryz Go.RowKit Go.Maps
abbrev HldsAt:=RowsAt Hld.cells 4
def Hld.wf (x:Hld):Prop:=(Lit.int .i64 x.hdr).wf=true/\(Lit.int .i64 x.ent).wf=true/\(Lit.int .i64 x.date).wf=true/\(Lit.int .i64 x.shr).wf=true
structure Bks.At (w:World) (B:Nat) (b:Bks):Prop where
 hg:b.g.At w B
 hel:b.ents.length=b.en
 hen:b.en<=61
 hE:RowsAt Etr.cells 7 w B b.eA b.ents
 hEx:∀ x∈b.ents,x.At w B
 hrl:b.rates.length=b.rn
 hrn:b.rn<=300
 hR:RatesAt w B b.rA b.rates
 hRw:∀ r∈b.rates,r.wf
 hhl:b.holds.length=b.hn
 hhn:b.hn<=30
 hH:HldsAt w B b.hA b.holds
 hHw:∀ x∈b.holds,x.wf
theorem Bks.At.below {w w':World} {B C:Nat} {b:Bks} (h:b.At w B) (hb:Below C w w') (hC:B<=C):b.At w' B :=
 ⟨h.hg.below hb hC,h.hel,h.hen,RowsAt.below h.hE hb hC,fun x hx=>(h.hEx x hx).below hb hC,h.hrl,h.hrn,h.hR.below hb hC,h.hRw,h.hhl,h.hhn,RowsAt.below h.hH hb hC,h.hHw⟩
theorem Bks.At.more {w:World} {B C:Nat} {b:Bks} (h:b.At w B) (hC:B<=C):b.At w C :=
 ⟨h.hg.more hC,h.hel,h.hen,RowsAt.more h.hE hC,fun x hx=>(h.hEx x hx).more hC,h.hrl,h.hrn,h.hR.more hC,h.hRw,h.hhl,h.hhn,RowsAt.more h.hH hC,h.hHw⟩
theorem Bks.At.at_ {w w':World} {b:Bks} (h:b.At w w) (hb:Below w w w'):b.At w' w'.heap.size:=(h.below hb lR).more hb.size
theorem momLaw:Maps.Keyed prog 247:=Maps.Keyed.of_law (deep_law_laid laidOut (m:=2) oM (of_decide_eq_true kR) kR kR)
theorem momKey (a b:Int) (ha:(Lit.int .i64 a).wf=true) (hb:(Lit.int .i64 b).wf=true):∃ kl,keyOf prog 247 (.agg #[.int .i64 a,.int .i64 b])=some kl:=by
 unfold keyOf;rw [underlying247];have h1:prog.keyType 247=true:=kR;have c3:prog.cellsOf 247=2:=kR
 have h2:(Value.agg #[.int .i64 a,.int .i64 b]).formed prog 247=true:=by
  simp [Value.formed,underlying247,c3]
 simp only [h1,h2,Bool.and_self,if_true];have h3:∃ n,prog.types.size=n+1:=⟨prog.types.size-1,by have:0<prog.types.size:=of_decide_eq_true kR;omega⟩;obtain⟨n,hn⟩:=h3;rw [hn];have c1:prog.cellsOf 3=1:=kR;simp [Program.keyLits,underlying247,underlying3,Value.cells,c1,c3,ha,hb]
theorem a9n:(prog.info? 247).map (·.size)=some 2:=kR
theorem a9J:(prog.info? 249).map (·.size)=some 2:=kR
theorem Cal.perV_wf {Y M N d:Int} (h:Cal.ok Y M N=true):(Lit.int .i64 (Cal.perV Y M N d)).wf=true:=by
 have h1:=Cal.per_range Y M N d;have h2:=(Cal.ok_iff Y M N).1 h;unfold Cal.perV
 split <;> simp [Lit.wf,IntKind.min,IntKind.max,IntKind.signed,IntKind.bits] <;> omega
def Tr.keyed (b:Bks) (cur:ByteArray) (bs d:Int):Int × Int:=if bs=2 then Rates.avgG b.g b.rates cur d else Rates.spotG b.g b.rates cur d
def Tr.kdate (b:Bks) (la bs d:Int):Int:=if bs=1 then la else if bs=2 then Cal.perV b.g.Y b.g.M b.g.N d else d
theorem Tr.look_keyed {b:Bks} {cur:ByteArray} {la bs d:Int} (h:cur≠b.g.cur):Tr.look b cur la bs d=Tr.keyed b cur bs (Tr.kdate b la bs d):=by
 unfold Tr.look Tr.keyed Tr.kdate;rw [if_neg h]
 by_cases h2:bs=2
 ·subst h2;simp
 ·rw [if_neg h2,if_neg h2,if_neg h2]
structure Desk (B:Nat) (w:World) (bd mk nk:Nat) (b:Bks) (e:Nat) (p la:Int) (cur:ByteArray) (cv:Bool) (f:Value->Option Value):Prop where
 hb:w.heap[bd]?=some (.cells #[.string b.g.cur,.int .i64 b.g.Y,.int .i64 b.g.M,.int .i64 b.g.N,.slice b.g.cA b.g.cn b.g.cc,.int .i64 b.g.r0,.int .i64 b.g.r1,.int .i64 b.g.r2,.int .i64 b.g.r3,.int .i64 b.g.r4,.int .i64 b.g.r5,.int .i64 b.g.r6,.int .i64 b.g.r7,.int .i64 b.g.r8,.int .i64 b.g.r9,.int .i64 b.g.r10,.int .i64 b.g.r11,.int .i64 b.g.r12,.int .i64 b.g.r13,.int .i64 b.g.r14,.slice b.g.eA b.g.en b.g.ec,.slice b.eA b.en b.ec,.slice b.rA b.rn b.rc,.slice b.hA b.hn b.hc,b.m0,b.m1,b.m2,.int .i64 e,.int .i64 p,.int .i64 la,.map (some mk),.string cur,.bool cv] 78 (0,0))
 hB1:B<=bd
 hB2:B<=mk
 hm:MapAt w prog 247 mk nk f
 hf:∀ bs d v,f (.agg #[.int .i64 bs,.int .i64 d])=some v->v=.agg #[.int .i64 (Tr.keyed b cur bs d).1,.int .i64 (Tr.keyed b cur bs d).2]
def Desks (B:Nat) (w:World) (bd mk nk:Nat) (b:Bks) (e:Nat) (p la:Int) (cur:ByteArray) (cv:Bool):Prop:=∃ f,Desk B w bd mk nk b e p la cur cv f
structure Kp (B mk:Nat) (w w':World):Prop where
 b:Below B w w'
 k:KeepBut w (some mk) w w'
theorem Kp.of {B mk:Nat} {w w':World} (h:Below w w w') (hB:B<=w.heap.size):Kp B mk w w':=⟨h.mono hB,KeepBut.of_below h lR⟩
theorem Kp.trans {B mk:Nat} {w w' w'':World} (h:Kp B mk w w') (k:Kp B mk w' w''):Kp B mk w w'' :=
 ⟨h.b.trans k.b,fun i hi hn=>(k.k i (Nat.lt_of_lt_of_le hi h.b.size) hn).trans (h.k i hi hn)⟩
theorem Kp.grown {B mk:Nat} {w w':World} (h:w.grownBy w' (some mk)) (hB:B<=w.heap.size) (hm:B<=mk):Kp B mk w w' :=
 ⟨bR.grown h hB (fun j q=>by cases q;exact hm),fun i hi hn=>h.block i hi hn⟩
theorem Kp.box {B mk i:Nat} {w w':World} {o:Obj} (h:Kp B mk w w') (hi:w.heap[i]?=some o) (hn:i≠mk):w'.heap[i]?=some o:=(h.k i (Array.getElem?_eq_some_iff.1 hi).1 (by simpa using hn)).trans hi
section
variable {B bd mk nk e:Nat} {w w':World} {b:Bks} {p la:Int} {cur:ByteArray} {cv:Bool}
theorem Desk.below {f:Value->Option Value} (h:Desk B w bd mk nk b e p la cur cv f) (hb:Below w w w'):Desk B w' bd mk nk b e p la cur cv f :=
 ⟨gbox h.hb hb (Vq h.hb),h.hB1,h.hB2,h.hm.below hb h.hm.lt,h.hf⟩
theorem Desks.below (h:Desks B w bd mk nk b e p la cur cv) (hb:Below w w w'):Desks B w' bd mk nk b e p la cur cv:=by
 obtain⟨f,h⟩:=h;exact⟨f,gbox h.hb hb (Vq h.hb),h.hB1,h.hB2,h.hm.below hb h.hm.lt,h.hf⟩
theorem Desks.mono (h:Desks B w bd mk nk b e p la cur cv) {n':Nat} (hn:nk<=n'):Desks B w bd mk n' b e p la cur cv:=by
 obtain⟨f,h⟩:=h;exact⟨f,h.hb,h.hB1,h.hB2,h.hm.mono hn,h.hf⟩
end
open Classical in
theorem b1Q {B bd mk nk e:Nat} {w w':World} {b:Bks} {p la:Int} {cur:ByteArray} {cv:Bool} {f:Value->Option Value} (h:Desk B w bd mk nk b e p la cur cv f) {bs d:Int}
  (hm:MapAt w' prog 247 mk (nk+1) (fun v=>if v=.agg #[.int .i64 bs,.int .i64 d] then some (.agg #[.int .i64 (Tr.keyed b cur bs d).1,.int .i64 (Tr.keyed b cur bs d).2]) else f v)) (hg:w.grownBy w' (some mk)):Desks B w' bd mk (nk+1) b e p la cur cv:=by
 refine⟨_,(hg.block bd (Vq h.hb) (fun q=>a0w h.hm h.hb (Option.some.inj q).symm)).trans h.hb,h.hB1,h.hB2,hm,fun x y v hv=>?_⟩
 revert hv
 show(if _ then _ else _:Option Value)=_->_
 by_cases hk:(Value.agg #[.int .i64 x,.int .i64 y])=.agg #[.int .i64 bs,.int .i64 d]
 ·rw [if_pos hk]
  simp only [Value.agg.injEq,Array.mk.injEq,List.cons.injEq,Value.int.injEq,true_and,and_true] at hk;obtain⟨rfl,rfl⟩:=hk;intro hv;cases hv;rfl
 ·rw [if_neg hk];exact h.hf x y v
def LookPost (B bd mk nk:Nat) (b:Bks) (e:Nat) (p la:Int) (cur:ByteArray) (cv:Bool) (r:Int × Int) (w:World) (ev:Ending) (w':World):Prop :=
 Kp B mk w w'/\ev=.returned (.tuple #[.int .i64 r.1,.int .i64 r.2])/\Desks B w' bd mk nk b e p la cur cv
theorem a6O {b:Bks} {x0 x1 x2 x3 x4 x5:Value} {j:Nat} {v:Value} (hj:(b.g:List Value)[j]?=some v):(#[.string b.g.cur,.int .i64 b.g.Y,.int .i64 b.g.M,.int .i64 b.g.N,.slice b.g.cA b.g.cn b.g.cc,.int .i64 b.g.r0,.int .i64 b.g.r1,.int .i64 b.g.r2,.int .i64 b.g.r3,.int .i64 b.g.r4,.int .i64 b.g.r5,.int .i64 b.g.r6,.int .i64 b.g.r7,.int .i64 b.g.r8,.int .i64 b.g.r9,.int .i64 b.g.r10,.int .i64 b.g.r11,.int .i64 b.g.r12,.int .i64 b.g.r13,.int .i64 b.g.r14,.slice b.g.eA b.g.en b.g.ec,.slice b.eA b.en b.ec,.slice b.rA b.rn b.rc,.slice b.hA b.hn b.hc,b.m0,b.m1,b.m2,x0,x1,x2,x3,x4,x5]:Array Value)[j]?=some v:=by
 have hl:j<21:=by have:=(List.getElem?_eq_some_iff.1 hj).1;simpa using this
 have:(#[.string b.g.cur,.int .i64 b.g.Y,.int .i64 b.g.M,.int .i64 b.g.N,.slice b.g.cA b.g.cn b.g.cc,.int .i64 b.g.r0,.int .i64 b.g.r1,.int .i64 b.g.r2,.int .i64 b.g.r3,.int .i64 b.g.r4,.int .i64 b.g.r5,.int .i64 b.g.r6,.int .i64 b.g.r7,.int .i64 b.g.r8,.int .i64 b.g.r9,.int .i64 b.g.r10,.int .i64 b.g.r11,.int .i64 b.g.r12,.int .i64 b.g.r13,.int .i64 b.g.r14,.slice b.g.eA b.g.en b.g.ec,.slice b.eA b.en b.ec,.slice b.rA b.rn b.rc,.slice b.hA b.hn b.hc,b.m0,b.m1,b.m2,x0,x1,x2,x3,x4,x5]:Array Value)=(b.g++#[.slice b.eA b.en b.ec,.slice b.rA b.rn b.rc,.slice b.hA b.hn b.hc,b.m0,b.m1,b.m2,x0,x1,x2,x3,x4,x5]:Array Value):=rfl;rw [this,Array.getElem?_append_left (by simpa using hl)];simpa using hj
section
variable (w:World)
theorem b1j (B bd mk nk:Nat) (b:Bks) (e:Nat) (p la:Int) (cur:ByteArray) (cv:Bool) (bs d:Int) (hd:Desks B w bd mk nk b e p la cur cv) (hcv:cv=decide (cur≠b.g.cur)) (hB:B<=w.heap.size) (hb:b.At w B) (hok:Cal.ok b.g.Y b.g.M b.g.N=true)
  (hcu:cur.size<=maxLen) (hbs:(Lit.int .i64 bs).wf=true) (hdd:(Lit.int .i64 d).wf=true) (hla:(Lit.int .i64 la).wf=true) (hn:nk<=100000) :
  Calls prog 122 #[.pointer (some ⟨bd,0,none⟩),.int .i64 bs,.int .i64 d] w (LookPost B bd mk (nk+1) b e p la cur cv (Tr.look b cur la bs d) w):=by
 obtain⟨f,hd⟩:=hd;have Hd:=Z1 hd;have z32:=cr9 32 hd.hb;simp at z32;have sd:bd<w.heap.size:=Vq hd.hb;clear hd;go_enter func122,ntmps122
 by_cases hc:cur=b.g.cur
 ·have hcv':cv=false:=by rw [hcv];simp [hc]
  have HV:Hid (Tr.look b cur la bs d=(1000000,0)):=by show _=_;unfold Tr.look;rw [if_pos hc]
  have HD:=Z1 (Desks.mono ⟨f,Hd.out⟩ (Nat.le_succ _));subst hcv';clear hcv hc;go_wp2
  go_ret2
  exact⟨Kp.of bR hB,by rw [HV.out];rfl,HD.out⟩
 have hcv':cv=true:=by rw [hcv];simp [hc]
 have HV:Hid (Tr.look b cur la bs d=Tr.keyed b cur bs (Tr.kdate b la bs d)):=Tr.look_keyed hc;have HK:Hid (Tr.kdate b la bs d=if bs=1 then la else if bs=2 then Cal.perV b.g.Y b.g.M b.g.N d else d):=rfl;subst hcv';clear hcv hc;obtain⟨W1,hW1,hB1,hk1,hz1⟩:=nw1 w #[.int .i64 bs,.int .i64 d] 247;have HW1:=Z1 hW1;have Hk1:=Z1 hk1;have s1:w.heap.size<W1.heap.size:=oM;have hd1:=gbox Hd.out.hb hB1 sd;have z29:=cr9 29 hd1;have z1:=cr9 1 hd1;have z2:=cr9 2 hd1;have z3:=cr9 3 hd1;simp at z29 z1 z2 z3;have sd1:bd<W1.heap.size:=oM;have k1:=cr9 1 hk1;have kf:=fun j=>fr0 j hk1;simp at k1;clear hW1 hd1 hk1 hz1;go_upto_region 4 with(fail);rw [<- HW1.out]
 by_cases h1:bs=1
 focus
  have b1:(bs==1)=true:=by simp [h1]
  have b2:(bs==2)=false:=by simp [h1]
  obtain⟨kd,hkd⟩:∃ kd,kd=la:=⟨_,rfl⟩;have HKd:Hid (Tr.kdate b la bs d=kd):=by show _=_;rw [HK.out,hkd];rw [if_pos h1]
  have hkw:Hid ((Lit.int .i64 kd).wf=true):=by show _=_;rw [hkd];exact hla
  have hB2:Below w w (W1.setCell ⟨w,1,none⟩ (.int .i64 la)):=hB1.setCell (p:=⟨w,1,none⟩) lR _;have hk2:(W1.setCell ⟨w,1,none⟩ (.int .i64 la)).heap[w.heap.size]?=some (.cells #[.int .i64 bs,.int .i64 kd] 247 (0,0)):=by rw [hkd];exact heap_setCell_same W1 w.heap.size 1 _ _ (.int .i64 la) Hk1.out
  obtain⟨W2,hW2⟩:∃ W2,W2=(W1.setCell ⟨w,1,none⟩ (.int .i64 la)):=⟨_,rfl⟩;rw [<- hW2] at hB2 hk2;have HW2:=Z1 hW2;clear hW2 hkd;clear h1;go_upto_region 9 with(fail);rw [<- HW2.out]
 rotate_left;have B1:(bs==1)=false:=by simp [h1]
 by_cases h2:bs=2
 focus
  have b2:(bs==2)=true:=by simp [h2]
  go_upto_region 8 with(fail);go_wp2_with (fail);refine(a3P b.g.Y b.g.M b.g.N d W1 hok).mono ?_;rintro ev W1' ⟨rfl,hBp⟩;obtain⟨pe,hpe⟩:∃ pe,pe=Cal.perE b.g.Y b.g.M b.g.N d:=⟨_,rfl⟩;obtain⟨pv,hpv⟩:∃ pv,pv=Cal.perV b.g.Y b.g.M b.g.N d:=⟨_,rfl⟩;rw [<- hpe,<- hpv];clear hpe;have hk1':=gbox Hk1.out hBp s1;have s1':w.heap.size<W1'.heap.size:=Vq hk1';have k1':=cr9 1 hk1';have kf':=fun j=>fr0 j hk1';simp at k1';obtain⟨kd,hkd⟩:∃ kd,kd=pv:=⟨_,rfl⟩;have HKd:Hid (Tr.kdate b la bs d=kd):=by show _=_;rw [HK.out,hkd];rw [if_neg h1,if_pos h2,hpv]
  have hkw:Hid ((Lit.int .i64 kd).wf=true):=by show _=_;rw [hkd];rw [hpv];exact Cal.perV_wf hok
  have hB2:Below w w (W1'.setCell ⟨w,1,none⟩ (.int .i64 pv)):=(hB1.trans (hBp.mono hB1.size)).setCell (p:=⟨w,1,none⟩) lR _;have hk2:(W1'.setCell ⟨w,1,none⟩ (.int .i64 pv)).heap[w.heap.size]?=some (.cells #[.int .i64 bs,.int .i64 kd] 247 (0,0)):=by rw [hkd];exact heap_setCell_same W1' w.heap.size 1 _ _ (.int .i64 pv) hk1'
  obtain⟨W2,hW2⟩:∃ W2,W2=(W1'.setCell ⟨w,1,none⟩ (.int .i64 pv)):=⟨_,rfl⟩;rw [<- hW2] at hB2 hk2;have HW2:=Z1 hW2;clear hW2 hkd;clear h1 h2 hBp hk1' hpv;go_upto_region 9 with(fail);rw [<- HW2.out];clear k1' kf'
 rotate_left
 focus
  have b1:(bs==1)=false:=by simp [h1]
  have b2:(bs==2)=false:=by simp [h2]
  obtain⟨kd,hkd⟩:∃ kd,kd=d:=⟨_,rfl⟩;have HKd:Hid (Tr.kdate b la bs d=kd):=by show _=_;rw [HK.out,hkd];rw [if_neg h1,if_neg h2]
  have hkw:Hid ((Lit.int .i64 kd).wf=true):=by show _=_;rw [hkd];exact hdd
  have hB2:Below w w W1:=hB1;have hk2:W1.heap[w.heap.size]?=some (.cells #[.int .i64 bs,.int .i64 kd] 247 (0,0)):=by rw [hkd];exact Hk1.out
  obtain⟨W2,hW2⟩:∃ W2,W2=W1:=⟨_,rfl⟩;rw [<- hW2] at hB2 hk2;have HW2:=Z1 hW2;clear hW2 hkd;clear h1 h2;go_upto_region 9 with(fail);rw [<- HW2.out]
 all_goals
  obtain⟨Hk2,Hd2,HB2⟩:=Z3 hk2 (Hd.out.below hB2) hB2;have s2:w.heap.size<W2.heap.size:=Vq hk2;have sd2:bd<W2.heap.size:=Vq Hd2.out.hb;have hB2':B<=W2.heap.size:=oM;clear k1 kf z29 z1 z2 z3 hk2 z32;obtain⟨kl,hkl⟩:=momKey bs kd hbs hkw.out;have hz:∀ W,(zeroValue 249).run prog W=.ok (.agg #[.int .i64 0,.int .i64 0]) W:=fun W=>kR;obtain⟨fv,hfv⟩:∃ fv,fv=f (.agg #[.int .i64 bs,.int .i64 kd]):=⟨_,rfl⟩;have Hfv:=Z1 hfv;clear hfv
  have hsh:Hid (∃ a1 a2:Int,(fv.getD (.agg #[.int .i64 0,.int .i64 0]))=.agg #[.int .i64 a1,.int .i64 a2]):=by
   show ∃ _ _,_
   cases hq:fv with
   | none=>exact⟨0,0,rfl⟩
   | some v=>exact⟨_,_,Hd2.out.hf bs kd v (by rw [<- Hfv.out,hq])⟩
  obtain⟨a1,a2,ha⟩:=hsh.out
  have hlk:∀ W',Below W2 W2 W'->(Instr.lookup 76 (.map (some mk)) (.agg #[.int .i64 bs,.int .i64 kd]) true).run prog W'=.ok (.tuple #[.agg #[.int .i64 a1,.int .i64 a2],.bool fv.isSome]) W':=fun W' hW'=>by
   rw [MapAt.lookOk (Hd2.out.below hW').hm momLaw underlying76 (hz W') hkl,<- Hfv.out,ha]
  have Hlk:=Z1 hlk;clear hlk hz hsh;have hS:Below W2 W2 W2.drew:=Vw bR 1;refine wp_region_held (S:=Below W2 W2) kR ?_;change wpAnyH _ _ _ _ _ _ _ _ (World.drew W2);obtain⟨W_0,hWd⟩:∃ W0,W0=W2.drew:=⟨_,rfl⟩;rw [<- hWd] at hS ⊢;clear hWd;refine jT 0 hS ?_;refine jT 1 hS ?_;refine jT 2 hS ?_;refine jT 3 hS ?_ (v:=.map (some mk)) (hy:=(.inl ⟨by rfl,fun W' hS'=>by have c0:=cr9 30 (gbox Hd2.out.hb hS' sd2);simp at c0;have c9:=Vq (gbox Hd2.out.hb hS' sd2);go_simp⟩));refine jT 4 hS ?_ (v:=.agg #[.int .i64 bs,.int .i64 kd]) (hy:=(yieldsIf_load_mid (by rfl) 247 _ rfl w.heap.size 0 rfl [.int .i64 bs,.int .i64 kd] _ (fun W' hS'=>Xx (gbox Hk2.out hS' s2)) underlying247 rfl a9n));refine jT 5 hS ?_ (v:=.tuple #[.agg #[.int .i64 a1,.int .i64 a2],.bool fv.isSome]) (hy:=(.inl ⟨by rfl,fun W' hS'=>by have hl:=Hlk.out W' hS';go_simp⟩));refine jT 6 hS ?_;refine jT 7 hS ?_;refine jT 8 hS ?_ (v:=.bool fv.isSome);refine rZ 9 fun K hK=>?_;obtain⟨W3,hW3,hB3,hr3,hz3⟩:=nw1 W_0 #[.int .i64 0,.int .i64 0] 249;go_simp;rw [<- hW3];clear hW3;have hS3:=hS.trans (hB3.mono hS.size);refine jK hK hS3 ?_;clear hK K;refine rZ 10 fun K hK=>?_;rw [if_pos (by rfl)];refine VX 249 _ _ none rfl rfl W_0.heap.size 249 _ #[.int .i64 a1,.int .i64 a2] rfl rfl hr3 rfl a9J oC ?_;have hS4:=below_setRow hS3 (show W2.heap.size<=W_0.heap.size from hS.size) #[.int .i64 a1,.int .i64 a2];have hr4:=setRow_heap W3 W_0 _ #[.int .i64 a1,.int .i64 a2] _ _ hr3;refine jK hK hS4 ?_;clear hK K;refine rZ 11 fun K hK=>?_;go_simp;refine jK hK hS4 ?_;clear hK K;refine wpAnyH_done kR ?_ _
  try simp only [z]
  obtain⟨W4,hW4⟩:∃ W4,W4=W3.setRow W_0 #[.int .i64 a1,.int .i64 a2]:=⟨_,rfl⟩;have hq2:W2.heap.size<=W_0.heap.size:=hS.size;rw [<- hW4] at hS4 hr4 ⊢;clear hW4 hS hS3 hB3 hr3 hz3;obtain⟨q9,hq9⟩:∃ q9,q9=W_0.heap.size:=⟨_,rfl⟩;rw [<- hq9] at hr4 hq2 ⊢;clear hq9;have HS4:=Z1 hS4;have Hr4:=Z1 hr4;have s9:q9<W4.heap.size:=Vq hr4;have HBw4:=bT HB2 hS4;clear hr4 hS4
  cases hfs:fv.isSome with
  | true =>
   obtain⟨v,hv⟩:=Option.isSome_iff_exists.1 hfs;have hvv:=Hd2.out.hf bs kd v (by rw [<- Hfv.out,hv])
   have HR:Hid (Tr.look b cur la bs d=(a1,a2)):=by
    show _=_;rw [HV.out,HKd.out];rw [hv,Option.getD_some] at ha;rw [hvv] at ha;simp only [Value.agg.injEq,Array.mk.injEq,List.cons.injEq,Value.int.injEq,true_and,and_true] at ha;exact Prod.ext ha.1 ha.2
   have HD:=Z1 (Desks.mono ⟨f,Hd2.out.below HS4.out⟩ (Nat.le_succ nk));have c0:=cr9 0 Hr4.out;have c1:=cr9 1 Hr4.out;simp at c0 c1;clear hv hvv ha hfs;go_upto_region 15 with(fail);go_quiet (fail);go_wp2
   go_ret2
   exact⟨Kp.of (Vw HBw4.out _) hB,by rw [HR.out];rfl,HD.out.below (Vw bR _)⟩
  | false =>
  have HFN:Hid (fv=none):=by show _=_;cases fv with
   | none=>rfl
   | some v=>cases hfs
  clear hfs ha
  by_cases h2:bs=2
  try any_goals (exfalso;simp [h2] at b2;done)
  all_goals
   first
   |guard_hyp h2:bs=2
    have b3:(bs==2)=true:=by simp [h2]
    go_upto_region 12 with(fail);have hS:Below W2 W2 W4.drew:=Vw HS4.out 1;refine wp_region_held (S:=Below W2 W2) kR ?_;change wpAnyH _ _ _ _ _ _ _ _ (World.drew W4);obtain⟨W_1,hWd⟩:∃ W0,W0=W4.drew:=⟨_,rfl⟩;have hB41:Below W4 W4 W_1:=by rw [hWd];exact Vw bR 1
    rw [<- hWd] at hS ⊢;clear hWd;refine jT 0 hS ?_;refine jT 1 hS ?_;refine jT 2 hS ?_;refine jT 3 hS ?_;refine jT 4 hS ?_ (v:=b.g) (hy:=(yieldsIf_load_mid (by rfl) 29 _ rfl bd 0 rfl b.g _ (fun W' hS'=>fun j v hj=>by have:=cr9 j (gbox Hd2.out.hb hS' sd2);rw [Nat.zero_add,this];exact a6O hj) underlying29 rfl VJ));refine jT 5 hS ?_;refine jT 6 hS ?_;refine jT 7 hS ?_;refine jT 8 hS ?_;refine jT 9 hS ?_ (v:=.slice b.rA b.rn b.rc) (hy:=(.inl ⟨by rfl,fun W' hS'=>by have c0:=cr9 22 (gbox Hd2.out.hb hS' sd2);simp at c0;have c9:=Vq (gbox Hd2.out.hb hS' sd2);go_simp⟩));refine jT 10 hS ?_;refine jT 11 hS ?_;refine jT 12 hS ?_;refine jT 13 hS ?_ (v:=.string cur) (hy:=(.inl ⟨by rfl,fun W' hS'=>by have c0:=cr9 31 (gbox Hd2.out.hb hS' sd2);simp at c0;have c9:=Vq (gbox Hd2.out.hb hS' sd2);go_simp⟩));refine jT 14 hS ?_;refine jT 15 hS ?_ (v:=.int .i64 kd) (hy:=(.inl ⟨by rfl,fun W' hS'=>by have c0:=cr9 1 (gbox Hk2.out hS' s2);simp at c0;have c9:=Vq (gbox Hk2.out hS' s2);go_simp⟩));refine rZ 16 fun K hK=>?_;have hb1:=(hb.below ((HB2.out.mono hB).trans (hS.mono hB2')) lR).more (show B<=W_1.heap.size by have:=hS.size;omega);have HC:=Z1 (b2b W_1 b.g b.rA b.rn b.rc b.rates cur kd hb1.hrl (by have:=hb1.hrn;omega) hb1.hg.hn hcu hb1.hRw hb1.hR);go_simp;refine HC.out.mono ?_;rintro ev W5 ⟨rfl,hB5⟩;obtain⟨r,hr⟩:∃ r,r=Rates.avgG b.g b.rates cur kd:=⟨_,rfl⟩;rw [<- hr];have Hr:=Z1 hr;clear hr;have hS5:=hS.trans (hB5.mono hS.size);have hr5:=gbox (gbox Hr4.out hB41 s9) hB5 (Vq (gbox Hr4.out hB41 s9));refine jK hK hS5 ?_;clear hK K;refine jT 17 hS5 ?_;refine jT 18 hS5 ?_;refine jT 19 hS5 ?_;refine jT 20 hS5 ?_;refine rZ 21 fun K hK=>?_;have c0:=cr9 0 hr5;simp at c0;have cf:=fun j=>fr0 j hr5;have s5:=Vq hr5;go_simp;have hS6:=hS5.setCell (p:=⟨q9,0,none⟩) hq2 (.int .i64 r.1);have hr6:=heap_setCell_same W5 q9 0 _ _ (.int .i64 r.1) hr5;simp at hr6;refine jK hK hS6 ?_;clear hK K;obtain⟨W6,hW6⟩:∃ W6,W6=W5.setCell ⟨q9,0,none⟩ (.int .i64 r.1):=⟨_,rfl⟩;rw [<- hW6] at hS6 hr6 ⊢;clear hW6 c0 cf s5;refine jT 22 hS6 ?_;refine rZ 23 fun K hK=>?_;have c1:=cr9 1 hr6;simp at c1;have cf:=fun j=>fr0 j hr6;have s6:=Vq hr6;go_simp;have hS7:=hS6.setCell (p:=⟨q9,1,none⟩) hq2 (.int .i64 r.2);have hr7:=heap_setCell_same W6 q9 1 _ _ (.int .i64 r.2) hr6;simp at hr7;refine jK hK hS7 ?_;clear hK K;refine wpAnyH_done kR ?_ _
    try simp only [z]
    obtain⟨W7,hW7⟩:∃ W7,W7=W6.setCell ⟨q9,1,none⟩ (.int .i64 r.2):=⟨_,rfl⟩;rw [<- hW7] at hS7 hr7 ⊢;have HRK:Hid (Tr.keyed b cur bs kd=r):=by show _=_;unfold Tr.keyed;rw [if_pos h2];exact Hr.out.symm
    have HS7:=Z1 hS7;have Hr7:=Z1 hr7;clear hW7 hS hS5 hS6 hS7 hr5 hr6 hr7 c1 cf s6 hB5 hB41 h2;go_upto_region 14 with(fail)
   |have b3:(bs==2)=false:=by simp [h2]
    go_upto_region 13 with(fail);have hS:Below W2 W2 W4.drew:=Vw HS4.out 1;refine wp_region_held (S:=Below W2 W2) kR ?_;change wpAnyH _ _ _ _ _ _ _ _ (World.drew W4);obtain⟨W_1,hWd⟩:∃ W0,W0=W4.drew:=⟨_,rfl⟩;have hB41:Below W4 W4 W_1:=by rw [hWd];exact Vw bR 1
    rw [<- hWd] at hS ⊢;clear hWd;refine jT 0 hS ?_;refine jT 1 hS ?_;refine jT 2 hS ?_;refine jT 3 hS ?_;refine jT 4 hS ?_ (v:=b.g) (hy:=(yieldsIf_load_mid (by rfl) 29 _ rfl bd 0 rfl b.g _ (fun W' hS'=>fun j v hj=>by have:=cr9 j (gbox Hd2.out.hb hS' sd2);rw [Nat.zero_add,this];exact a6O hj) underlying29 rfl VJ));refine jT 5 hS ?_;refine jT 6 hS ?_;refine jT 7 hS ?_;refine jT 8 hS ?_;refine jT 9 hS ?_ (v:=.slice b.rA b.rn b.rc) (hy:=(.inl ⟨by rfl,fun W' hS'=>by have c0:=cr9 22 (gbox Hd2.out.hb hS' sd2);simp at c0;have c9:=Vq (gbox Hd2.out.hb hS' sd2);go_simp⟩));refine jT 10 hS ?_;refine jT 11 hS ?_;refine jT 12 hS ?_;refine jT 13 hS ?_ (v:=.string cur) (hy:=(.inl ⟨by rfl,fun W' hS'=>by have c0:=cr9 31 (gbox Hd2.out.hb hS' sd2);simp at c0;have c9:=Vq (gbox Hd2.out.hb hS' sd2);go_simp⟩));refine jT 14 hS ?_;refine jT 15 hS ?_ (v:=.int .i64 kd) (hy:=(.inl ⟨by rfl,fun W' hS'=>by have c0:=cr9 1 (gbox Hk2.out hS' s2);simp at c0;have c9:=Vq (gbox Hk2.out hS' s2);go_simp⟩));refine rZ 16 fun K hK=>?_;have hb1:=(hb.below ((HB2.out.mono hB).trans (hS.mono hB2')) lR).more (show B<=W_1.heap.size by have:=hS.size;omega);have HC:=Z1 (a8F W_1 b.g b.rA b.rn b.rc b.rates cur kd hb1.hrl (by have:=hb1.hrn;omega) hb1.hg.hn hcu hb1.hRw hb1.hR);go_simp;refine HC.out.mono ?_;rintro ev W5 ⟨rfl,hB5⟩;obtain⟨r,hr⟩:∃ r,r=Rates.spotG b.g b.rates cur kd:=⟨_,rfl⟩;rw [<- hr];have Hr:=Z1 hr;clear hr;have hS5:=hS.trans (hB5.mono hS.size);have hr5:=gbox (gbox Hr4.out hB41 s9) hB5 (Vq (gbox Hr4.out hB41 s9));refine jK hK hS5 ?_;clear hK K;refine jT 17 hS5 ?_;refine jT 18 hS5 ?_;refine jT 19 hS5 ?_;refine jT 20 hS5 ?_;refine rZ 21 fun K hK=>?_;have c0:=cr9 0 hr5;simp at c0;have cf:=fun j=>fr0 j hr5;have s5:=Vq hr5;go_simp;have hS6:=hS5.setCell (p:=⟨q9,0,none⟩) hq2 (.int .i64 r.1);have hr6:=heap_setCell_same W5 q9 0 _ _ (.int .i64 r.1) hr5;simp at hr6;refine jK hK hS6 ?_;clear hK K;obtain⟨W6,hW6⟩:∃ W6,W6=W5.setCell ⟨q9,0,none⟩ (.int .i64 r.1):=⟨_,rfl⟩;rw [<- hW6] at hS6 hr6 ⊢;clear hW6 c0 cf s5;refine jT 22 hS6 ?_;refine rZ 23 fun K hK=>?_;have c1:=cr9 1 hr6;simp at c1;have cf:=fun j=>fr0 j hr6;have s6:=Vq hr6;go_simp;have hS7:=hS6.setCell (p:=⟨q9,1,none⟩) hq2 (.int .i64 r.2);have hr7:=heap_setCell_same W6 q9 1 _ _ (.int .i64 r.2) hr6;simp at hr7;refine jK hK hS7 ?_;clear hK K;refine wpAnyH_done kR ?_ _
    try simp only [z]
    obtain⟨W7,hW7⟩:∃ W7,W7=W6.setCell ⟨q9,1,none⟩ (.int .i64 r.2):=⟨_,rfl⟩;rw [<- hW7] at hS7 hr7 ⊢;have HRK:Hid (Tr.keyed b cur bs kd=r):=by show _=_;unfold Tr.keyed;rw [if_neg h2];exact Hr.out.symm
    have HS7:=Z1 hS7;have Hr7:=Z1 hr7;clear hW7 hS hS5 hS6 hS7 hr5 hr6 hr7 c1 cf s6 hB5 hB41 h2;go_upto_region 14 with(fail)
  all_goals
   have hd7:=Hd2.out.below HS7.out;have hk7:=gbox Hk2.out HS7.out s2;have s97:=Vq Hr7.out;have hS:(fun W':World=>W'.heap[bd]?=some (.cells #[.string b.g.cur,.int .i64 b.g.Y,.int .i64 b.g.M,.int .i64 b.g.N,.slice b.g.cA b.g.cn b.g.cc,.int .i64 b.g.r0,.int .i64 b.g.r1,.int .i64 b.g.r2,.int .i64 b.g.r3,.int .i64 b.g.r4,.int .i64 b.g.r5,.int .i64 b.g.r6,.int .i64 b.g.r7,.int .i64 b.g.r8,.int .i64 b.g.r9,.int .i64 b.g.r10,.int .i64 b.g.r11,.int .i64 b.g.r12,.int .i64 b.g.r13,.int .i64 b.g.r14,.slice b.g.eA b.g.en b.g.ec,.slice b.eA b.en b.ec,.slice b.rA b.rn b.rc,.slice b.hA b.hn b.hc,b.m0,b.m1,b.m2,.int .i64 e,.int .i64 p,.int .i64 la,.map (some mk),.string cur,.bool true] 78 (0,0))/\W'.heap[w.heap.size]?=some (.cells #[.int .i64 bs,.int .i64 kd] 247 (0,0))/\W'.heap[q9]?=some (.cells #[.int .i64 r.1,.int .i64 r.2] 249 (0,0))) W7.drew:=⟨hd7.hb,hk7,Hr7.out⟩;refine wp_region_held (S:=fun W':World=>W'.heap[bd]?=some (.cells #[.string b.g.cur,.int .i64 b.g.Y,.int .i64 b.g.M,.int .i64 b.g.N,.slice b.g.cA b.g.cn b.g.cc,.int .i64 b.g.r0,.int .i64 b.g.r1,.int .i64 b.g.r2,.int .i64 b.g.r3,.int .i64 b.g.r4,.int .i64 b.g.r5,.int .i64 b.g.r6,.int .i64 b.g.r7,.int .i64 b.g.r8,.int .i64 b.g.r9,.int .i64 b.g.r10,.int .i64 b.g.r11,.int .i64 b.g.r12,.int .i64 b.g.r13,.int .i64 b.g.r14,.slice b.g.eA b.g.en b.g.ec,.slice b.eA b.en b.ec,.slice b.rA b.rn b.rc,.slice b.hA b.hn b.hc,b.m0,b.m1,b.m2,.int .i64 e,.int .i64 p,.int .i64 la,.map (some mk),.string cur,.bool true] 78 (0,0))/\W'.heap[w.heap.size]?=some (.cells #[.int .i64 bs,.int .i64 kd] 247 (0,0))/\W'.heap[q9]?=some (.cells #[.int .i64 r.1,.int .i64 r.2] 249 (0,0))) kR ?_;change wpAnyH _ _ _ _ _ _ _ _ (World.drew W7);obtain⟨W_1,hWd⟩:∃ W0,W0=W7.drew:=⟨_,rfl⟩;have hB71:Below W7 W7 W_1:=by rw [hWd];exact Vw bR 1
   rw [<- hWd] at hS ⊢;clear hWd;refine jT 0 hS ?_;refine jT 1 hS ?_;refine jT 2 hS ?_;refine jT 3 hS ?_ (v:=.map (some mk)) (hy:=(.inl ⟨by rfl,fun W' hS'=>by have c0:=cr9 30 hS'.1;simp at c0;have c9:=Vq hS'.1;go_simp⟩));refine jT 4 hS ?_ (v:=.agg #[.int .i64 bs,.int .i64 kd]) (hy:=(yieldsIf_load_mid (by rfl) 247 _ rfl w.heap.size 0 rfl [.int .i64 bs,.int .i64 kd] _ (fun W' hS'=>Xx hS'.2.1) underlying247 rfl a9n));refine jT 5 hS ?_ (v:=.agg #[.int .i64 r.1,.int .i64 r.2]) (hy:=(yieldsIf_load_mid (by rfl) 249 _ rfl q9 0 rfl [.int .i64 r.1,.int .i64 r.2] _ (fun W' hS'=>Xx hS'.2.2) underlying249 rfl a9J));refine rZ 6 fun K hK=>?_;have hm7:=(hd7.below hB71).hm;have hmx:nk<maxLen:=by unfold maxLen;omega
   refine a1E _ _ _ rfl hm7 momLaw underlying76 rfl hmx _ _ _ rfl rfl hkl ?_;intro W8 hm8 hg8;have e1:=(hg8.block bd (Vq hS.1) (fun q=>a0w hm7 hS.1 (Option.some.inj q).symm)).trans hS.1;have e2:=(hg8.block w (Vq hS.2.1) (fun q=>a0w hm7 hS.2.1 (Option.some.inj q).symm)).trans hS.2.1;have e3:=(hg8.block q9 (Vq hS.2.2) (fun q=>a0w hm7 hS.2.2 (Option.some.inj q).symm)).trans hS.2.2;refine jK hK ⟨e1,e2,e3⟩ ?_;clear hK K;refine wpAnyH_done kR ?_ _
   try simp only [z]
   have HD8:=Z1 (b1Q (hd7.below hB71) (bs:=bs) (d:=kd) (by rw [HRK.out];exact hm8) hg8);have hB7:B<=W_1.heap.size:=by have:=HS7.out.size;have:=hB71.size;omega
   have HB8:=Z1 ((Kp.of (mk:=mk) ((HB2.out.trans (HS7.out.mono HB2.out.size)).trans (hB71.mono (by have:=HS7.out.size;omega))) hB).trans (Kp.grown hg8 hB7 Hd2.out.hB2));have HR:Hid (Tr.look b cur la bs d=(r.1,r.2)):=by show _=_;rw [HV.out,HKd.out,HRK.out]
   have c0:=cr9 0 e3;have c1:=cr9 1 e3;simp at c0 c1;have s98:=Vq e3;have hB8:B<=W8.heap.size:=by have:=hg8.size;omega
   clear hS hd7 hk7 hm7 hm8 hg8 e1 e2 e3 hB71;go_upto_region 15 with(fail);go_quiet (fail);go_wp2
   go_ret2
   exact⟨HB8.out.trans (Kp.of (Vw bR _) hB8),by rw [HR.out];rfl,HD8.out.below (Vw bR _)⟩
end
end Go.Proofs.YtniaimjknmhapaaGreatDoor
