/- My texts CtQ, PropP, LawProp. -/
import Derived.Test.YtniaimjknmhapaaGreatDoorG55
import Derived.Test.YtniaimjknmhapaaGreatDoorG44
set_option linter.unusedVariables false
set_option linter.unusedSimpArgs false
set_option maxRecDepth 100000
set_option maxHeartbeats 16000000
namespace Go.Proofs.YtniaimjknmhapaaGreatDoor
namespace Ct
def one (e:Nat) (dt:Int):List Hld:=[⟨0,e,dt,10000⟩]
theorem at_one (e:Nat) (dt d:Int) (h k:Nat):Hd.at_ (one e dt) h k d=if h=0/\k=e/\dt<=d then 10000 else 0:=by
 unfold Hd.at_ Hd.last one
 by_cases h1:h=0/\k=e
 ·obtain⟨rfl,rfl⟩:=h1
  by_cases h2:dt<=d
  ·simp [Hd.pair,Hd.see,Hd.later,h2]
  ·simp [Hd.pair,Hd.see,Hd.later,h2]
 ·have hp:Hd.pair h k (⟨0,e,dt,10000⟩:Hld)=false:=by
   unfold Hd.pair;simp;omega
  rw [List.filter_cons_of_neg (by simp [hp]),if_neg (fun q=>h1 ⟨q.1,q.2.1⟩)];rfl
theorem a9r (n e:Nat) (dt d:Int) (h k:Nat) (hh:h<n) (hk:k<n):mat (Hd.matrix n (one e dt) d) h k=if h=0/\k=e/\dt<=d then 10000 else 0:=by
 rw [<- at_one];unfold mat Hd.matrix;simp [hh,hk]
theorem a3A (n:Nat) (l:List Hld) (d:Int):(Hd.matrix n l d).length=n:=by unfold Hd.matrix;simp
theorem a5m (n e:Nat) (dt d:Int) (set k:Nat) (hk:k<n) (hs:set.testBit 0=true) (hd:dt<=d):∀ q,q<=n->votes (Hd.matrix n (one e dt) d) set k q=if 0<q/\k=e then 10000 else 0
 | 0,_=>by simp [votes]
 | q+1,hq=>by
  unfold votes;rw [a5m n e dt d set k hk hs hd q oM,a9r n e dt d q k oM hk]
  by_cases hke:k=e
  ·cases q with
   | zero=>simp [hke,hs,hd]
   | succ q=>simp [hke]
  ·simp [hke]
theorem a3G (n e:Nat) (dt d:Int) (all:Nat) (hn:0<n) (hs:all.testBit 0=true) (hd:dt<=d):∀ q,q<=n->fresh (Hd.matrix n (one e dt) d) all q=if e<q/\all.testBit e=false then 2 ^ e else 0
 | 0,_=>by simp [fresh]
 | q+1,hq=>by
  unfold fresh;rw [a3G n e dt d all hn hs hd q oM,a3A,a5m n e dt d all q oM hs hd n lR]
  by_cases hqe:q=e
  ·subst hqe
   by_cases ht:all.testBit q=false
   ·simp [ht,hn]
   ·simp [ht]
  ·by_cases ht:all.testBit e=false
   ·by_cases h1:e<q
    ·simp [hqe,ht,h1,show e<q+1 by omega]
    ·simp [hqe,ht,h1,show ¬ e<q+1 by omega]
   ·simp [hqe,ht]
theorem b1W (n e:Nat) (dt d:Int) (he:0<e) (hen:e<n) (hd:dt<=d):(ctrl (Hd.matrix n (one e dt) d)).testBit e=true:=by
 have h1:∀ k all,sets (Hd.matrix n (one e dt) d) k all 0=[]:=fun k all=>by cases k <;> rfl
 have b0:Nat.testBit 1 0=true:=rfl
 have be:Nat.testBit 1 e=false:=by
  rw [Nat.testBit_eq_decide_div_mod_eq];have:1 / 2 ^ e=0:=Nat.div_eq_of_lt (Nat.one_lt_two_pow oM);rw [this];rfl
 have f1:fresh (Hd.matrix n (one e dt) d) 1 n=2 ^ e:=by rw [a3G n e dt d 1 oM b0 hd n lR,if_pos ⟨hen,be⟩]
 have t0:(1 ||| 2 ^ e).testBit 0=true:=by rw [Nat.testBit_or,b0];rfl
 have te:(1 ||| 2 ^ e).testBit e=true:=by rw [Nat.testBit_or,Nat.testBit_two_pow_self];simp
 have f2:fresh (Hd.matrix n (one e dt) d) (1 ||| 2 ^ e) n=0:=by rw [a3G n e dt d _ oM t0 hd n lR,if_neg (by rw [te];simp)]
 have hp:(2 ^ e:Nat)≠0:=by have:=Nat.two_pow_pos e;omega
 have h2:steps (Hd.matrix n (one e dt) d)=[1,2 ^ e]:=by
  unfold steps;show(if (1:Nat)=0 then [] else 1::sets (Hd.matrix n (one e dt) d) 4099 (1 ||| fresh (Hd.matrix n (one e dt) d) 1 (Hd.matrix n (one e dt) d).length) (fresh (Hd.matrix n (one e dt) d) 1 (Hd.matrix n (one e dt) d).length))=_;rw [a3A,f1,if_neg oM];show 1::(if (2 ^ e:Nat)=0 then [] else 2 ^ e::sets (Hd.matrix n (one e dt) d) 4098 ((1 ||| 2 ^ e) ||| fresh (Hd.matrix n (one e dt) d) (1 ||| 2 ^ e) (Hd.matrix n (one e dt) d).length) (fresh (Hd.matrix n (one e dt) d) (1 ||| 2 ^ e) (Hd.matrix n (one e dt) d).length))=_;rw [a3A,f2,h1,if_neg hp]
 unfold ctrl;rw [h2];show((0 ||| 1) ||| 2 ^ e).testBit e=true;rw [Nat.testBit_or,Nat.testBit_two_pow_self];simp
theorem a7j (g:Grp) (e:Nat) (dt d:Int) (he:0<e) (hen:e<g.ents.length) (hd:dt<=d):meth g (one e dt) e d=3:=by
 unfold meth;rw [if_pos (b1W _ e dt d he hen hd)]
theorem a2e (n e:Nat) (dt d:Int) (set k:Nat) (hk:k<n) (hd:¬ dt<=d):∀ q,q<=n->votes (Hd.matrix n (one e dt) d) set k q=0
 | 0,_=>rfl
 | q+1,hq=>by
  unfold votes;have hz:mat (Hd.matrix n (one e dt) d) q k=0:=by rw [a9r n e dt d q k oM hk];exact if_neg (fun h=>hd h.2.2)
  rw [a2e n e dt d set k hk hd q oM,hz]
  split <;> rfl
theorem a3J (n e:Nat) (dt d:Int) (all:Nat) (hd:¬ dt<=d):∀ q,q<=n->fresh (Hd.matrix n (one e dt) d) all q=0
 | 0,_=>rfl
 | q+1,hq=>by
  unfold fresh;rw [a3A,a2e n e dt d all q oM hd n lR,if_neg oM];exact a3J n e dt d all hd q oM
theorem a8a (g:Grp) (e:Nat) (dt d:Int) (he:0<e) (hen:e<g.ents.length) (hd:¬ dt<=d):meth g (one e dt) e d=0:=by
 have h1:∀ k all,sets (Hd.matrix g.ents.length (one e dt) d) k all 0=[]:=fun k all=>by cases k <;> rfl
 have hc:ctrl (Hd.matrix g.ents.length (one e dt) d)=1:=by
  unfold ctrl steps
  have h2:sets (Hd.matrix g.ents.length (one e dt) d) 4100 1 1=[1]:=by
   show(if (1:Nat)=0 then [] else 1::sets (Hd.matrix g.ents.length (one e dt) d) 4099 (1 ||| fresh (Hd.matrix g.ents.length (one e dt) d) 1 (Hd.matrix g.ents.length (one e dt) d).length) (fresh (Hd.matrix g.ents.length (one e dt) d) 1 (Hd.matrix g.ents.length (one e dt) d).length))=[1];rw [a3A,a3J _ e dt d 1 hd _ lR,h1];rfl
  rw [h2];rfl
 unfold meth;rw [hc,a2e _ e dt d 1 e hen hd _ lR]
 have be:Nat.testBit 1 e=false:=by
  rw [Nat.testBit_eq_decide_div_mod_eq];have:1 / 2 ^ e=0:=Nat.div_eq_of_lt (Nat.one_lt_two_pow oM);rw [this];rfl
 rw [be];simp
theorem b1R (e:Nat) (dt:Int):days (one e dt)=-25567::(if -25567<dt then [dt] else []):=by
 unfold days Hd.dates Hd.keys one;have e1:([dt]:List Int).eraseDups=[dt]:=rfl
 by_cases h:-25567<dt
 ·simp [e1,h]
 ·simp [e1,h]
theorem intervals_one (g:Grp) (e:Nat) (dt:Int) (he:0<e) (hen:e<g.ents.length) (hd:-25567<=dt) :
  intervals g (one e dt) e=if -25567<dt then [⟨-25567,dt,0⟩,⟨dt,84006,3⟩] else [⟨-25567,84006,3⟩]:=by
 unfold intervals;rw [if_neg oM,b1R]
 by_cases h:-25567<dt
 ·rw [if_pos h,if_pos h]
  show add (add [] (-25567) (meth g (one e dt) e (-25567))) dt (meth g (one e dt) e dt)=_;rw [a8a g e dt (-25567) he hen oM,a7j g e dt dt he hen (Int.le_refl _)];rfl
 ·rw [if_neg h,if_neg h]
  show add [] (-25567) (meth g (one e dt) e (-25567))=_;rw [a7j g e dt (-25567) he hen oM];rfl
end Ct
def Bks.whole (b:Bks) (A:Option Addr) (e:Nat) (dt:Int):Bks:={ b with hA:=A,hn:=1,hc:=1,holds:=Ct.one e dt }
theorem Hd.one_valid {n e:Nat} {dt:Int} (h1:1<=n) (h2:n<=12) (he:0<e) (hen:e<n) (hd:-25567<=dt/\dt<=84005):Hd.valid n (Ct.one e dt)=true:=by
 have hp:Hd.proper n (⟨0,e,dt,10000⟩:Hld)=true:=by
  unfold Hd.proper Gr.date;simp only [Bool.and_eq_true,decide_eq_true_eq];refine⟨⟨⟨?_,?_,?_,?_,?_⟩,hd⟩,?_⟩ <;> omega
 have hk:(Hd.keys ((Ct.one e dt).map (·.hdr)))=[0]:=rfl
 have hds:Hd.dates (Ct.one e dt)=[dt]:=by
  have e1:([dt]:List Int).eraseDups=[dt]:=rfl;unfold Hd.dates Hd.keys Ct.one;simp [e1]
 unfold Hd.valid;simp only [Bool.and_eq_true,decide_eq_true_eq];refine⟨⟨⟨⟨h1,h2⟩,by unfold Ct.one;simp⟩,?_⟩,?_⟩
 ·show(List.range 1).all _=true
  simp only [List.all_eq_true,List.mem_range];intro i hi;obtain rfl:i=0:=oM;unfold Hd.keyAt Hd.hat Ct.one;simp [hp]
 ·rw [hds]
  simp only [List.all_cons,List.all_nil,Bool.and_true];unfold Hd.most;simp only [List.all_eq_true,List.mem_range,decide_eq_true_eq];intro k _;have ha:=Ct.at_one e dt dt 0 k;unfold Hd.total;rw [hk];simp only [List.map_cons,List.map_nil,List.sum_cons,List.sum_nil]
  have ha':Hd.at_ (Ct.one e dt) (0:Int) (k:Int) dt<=10000:=by
   have:Hd.at_ (Ct.one e dt) ((0:Nat):Int) (k:Int) dt<=10000:=by rw [ha];split <;> omega
   exact this
  omega
theorem Ct.current_one (b:Bks) (A:Option Addr) (e:Nat) (dt d:Int) (he:0<e) (hen:e<b.g.ents.length) (hd:-25567<=dt) (h1:dt<=d) (h2:d<84006):Ct.current (b.whole A e dt).g (b.whole A e dt).holds e d=some ⟨dt,84006,3⟩:=by
 show Ct.current b.g (Ct.one e dt) e d=_;unfold Ct.current;rw [Ct.intervals_one b.g e dt he hen hd]
 by_cases h:-25567<dt
 ·rw [if_pos h]
  have h3:¬ d<dt:=oM;simp [h1,h2,h3]
 ·obtain rfl:dt=-25567:=oM
  rw [if_neg h];simp [h1,h2]
theorem a4L {α:Type}:∀(l:List (Option α)) (s:List α),allSome l=some s->∀(k:Nat) (hk:k<s.length),l[k]?=some (some s[k])
 | [],s,h,k,hk=>by cases h;cases hk
 | none::_,_,h,_,_=>by cases h
 | some y::l,s,h,k,hk=>by
  unfold allSome at h
  cases ha:allSome l with
  | none=>rw [ha] at h;cases h
  | some r =>
   rw [ha] at h;have e:s=y::r:=(Option.some.inj h).symm;subst e
   cases k with
   | zero=>rfl
   | succ k=>exact a4L l r ha k (by simpa using hk)
theorem Cb.scaled_at {N D:Int} {l r:List Itm} (h:Cb.scaled N D l=some r) {k:Nat} (hk:k<l.length) (hk2:k<r.length):∃ n,Sc.out l[k].amt N D=some n/\r[k]={ l[k] with amt:=n }:=by
 have h1:=a4L _ _ h k hk2;rw [List.getElem?_map,List.getElem?_eq_getElem hk] at h1;have h2:Cb.scale1 N D l[k]=some r[k]:=by simpa using h1
 unfold Cb.scale1 at h2
 cases ho:Sc.out l[k].amt N D with
 | none=>rw [ho] at h2;cases h2
 | some n=>rw [ho] at h2;exact⟨n,rfl,(Option.some.inj h2).symm⟩
theorem Cb.prop_law {b:Bks} {E p:Int} {x:Ctn} {its sh:List Itm} {N D:Int} (h:OfPure b E p x its sh N D) (hm:x.meth=2) (hl:b.holds.length<=200) :
  ∃(e:Nat) (l:List Itm),E=e/\0<e/\Tr.items b e p=some l/\Cb.scaled N D (l.map (Cb.acq b.g x.since))=some its/\its.length<=3660/\x.n=its.length/\(-25567<=x.since/\x.since<=84005) /\
   ∀ A,¬ OfWhy (b.whole A e x.since) E p/\∀ y its2 sh2 N2 D2,OfPure (b.whole A e x.since) E p y its2 sh2 N2 D2->y.meth=3/\y.since=x.since/\its2=l.map (Cb.acq b.g x.since)/\y.n=its2.length:=by
 obtain⟨hv,e,now,rfl,he,hp,hcur,h1,h2,h3,h4,h5,hct⟩:=h;have hnm:now.meth=2:=oM;have hgv:Gr.valid b.g=true:=by unfold Cb.valid Tr.valid Jr.ok at hv;simp only [Bool.and_eq_true] at hv;exact hv.1.1.1
 have hhv:Hd.valid b.g.ents.length b.holds=true:=by unfold Cb.valid at hv;simp only [Bool.and_eq_true] at hv;exact hv.2
 have htv:Tr.valid b=true:=by unfold Cb.valid at hv;simp only [Bool.and_eq_true] at hv;exact hv.1
 have hok:Cal.ok b.g.Y b.g.M b.g.N=true:=by unfold Gr.valid Gr.books at hgv;simp only [Bool.and_eq_true] at hgv;exact hgv.1.1.1.1.1.2
 have hbd:=Cal.first_bd b.g.Y b.g.M b.g.N p hok hp.1 hp.2
 have he0:0<e:=by
  rcases Nat.eq_zero_or_pos e with rfl | h
  ·exfalso
   unfold Ct.current Ct.intervals at hcur;rw [if_pos rfl] at hcur;have:=List.mem_of_find?_eq_some hcur;simp at this;rw [this] at hnm
   cases hnm
  ·exact h
 have hg:=(Ct.ivs_good b.g b.holds e oM hl (Hd.valid_date hhv)).1;have hmem:=List.mem_of_find?_eq_some hcur;have hfd:=List.find?_some hcur;simp only [decide_eq_true_eq] at hfd;have hfr:=hg.frm now hmem
 rcases hct with⟨q,_⟩ | ⟨_,l,q1,q2,q3,_⟩
 ·omega
 have hsc:Cb.scaled N D (l.map (Cb.acq b.g x.since))=some its:=by
  unfold Cb.its at q2;rw [if_neg oM,if_pos hnm] at q2;rw [h3];exact q2
 have hw:Hd.valid b.g.ents.length (Ct.one e x.since)=true:=by
  have h12:=hhv;unfold Hd.valid at h12;simp only [Bool.and_eq_true,decide_eq_true_eq] at h12;exact Hd.one_valid oM h12.1.1.1.2 he0 he oM
 refine⟨e,l,rfl,he0,q1,hsc,q3,h4,oM,fun A=>?_⟩;have hc1:Ct.current (b.whole A e x.since).g (b.whole A e x.since).holds e (Cal.last b.g.Y b.g.M p)=some ⟨x.since,84006,3⟩:=Ct.current_one b A e x.since _ he0 he oM oM oM
 have hv1:Cb.valid (b.whole A e x.since)=true:=by
  unfold Cb.valid;rw [Bool.and_eq_true];exact⟨htv,hw⟩
 refine⟨fun hw=>?_,fun y its2 sh2 N2 D2 hy=>?_⟩
 ·rcases hw e rfl he hv1 hp with h | ⟨n2,h,h'⟩
  ·have:Tr.items b e p=none:=h
   rw [q1] at this;cases this
  ·have h'':Ct.current (b.whole A e x.since).g (b.whole A e x.since).holds e (Cal.last b.g.Y b.g.M p)=some n2:=h
   rw [hc1] at h'';obtain rfl:=Option.some.inj h''
   cases h'
 ·obtain⟨_,e2,n2,he2,_,_,hc2,k1,k2,k3,k4,k5,kct⟩:=hy
  obtain rfl:e=e2:=oM;have h'':Ct.current (b.whole A e x.since).g (b.whole A e x.since).holds e (Cal.last b.g.Y b.g.M p)=some n2:=hc2;rw [hc1] at h'';obtain rfl:=Option.some.inj h'';refine⟨k2,k3,?_,k4⟩
  rcases kct with⟨q,_⟩ | ⟨_,l2,r1,r2,_⟩
  ·cases q
  have r1':Tr.items b e p=some l2:=r1;rw [q1] at r1';obtain rfl:=Option.some.inj r1';unfold Cb.its at r2;rw [if_pos rfl] at r2;exact(Option.some.inj r2).symm
open Go.Proofs.Tryz Go.RowKit
theorem itms7P {w:World} {B:Nat} {A:Option Addr} {l:List Itm} (h:RowsAt Itm.cells 7 w B A l) {k:Nat} (hk:k<l.length):∃ b o,A=some ⟨b,o,none⟩/\b<B/\w.rangeAt b (o+k*7) (l[k]):=RowsAt.look h hk
section
variable (w:World)
theorem b1n (b:Bks) (E p:Int) (h1:b.One) (hb:b.Out w w) (hT:Tab w w):CL 5 #[b,E,p] w true:=by
 obtain⟨W1,hW1,hB0,hb0,hz⟩:=nw1 w b 36;obtain⟨HW,HO1,HB0,Hb0⟩:=Z4 hW1 (hb.at_ hB0) hB0 hb0;have s0:=Vq hb0;have H1:=Z1 h1;have Haw:=Z1 (a2k W1 (fun W h=>hT W (hB0.trans (h.mono hB0.size))));clear hW1 hz hb0 hb hB0 hT h1;go_enter func5,ntmps5;go_upto_region 1 with(fail);rw [<- HW.out];go_wp2_with (fail);refine Haw.out.mono ?_;rintro ev W2 ⟨rfl,hB2⟩;have HB2:=bT HB0 hB2;have Hb2:=gB Hb0 hB2 s0;have s2:=Vq Hb2.out;have HO2:=Z1 (HO1.out.at_ hB2);have Hfew:=Z1 (a3L W2 b HO2.out);have hld:=Hb2.out;clear hB2;go_wp2_with (refine wpList_load_row rfl 36 _ rfl _ rfl _ _ _ _ hld underlying36 rfl a0B ?_);refine Hfew.out.mono ?_;rintro ev W3 ⟨⟨r,rfl,hr⟩,hB3⟩;have HB3:=bT HB2 hB3;have Hb3:=gB Hb2 hB3 s2;have s3:=Vq Hb3.out;have HO3:=Z1 (HO2.out.at_ hB3);have Hr:=Z1 hr;clear hB3 hr hld
 cases r with
 | false =>
  go_wp2;go_ret;exact⟨rfl,HB3.out⟩
 | true =>
 have hat:=HO3.out.at_few (Hr.out rfl);have HA3:=Z1 hat;have hld:=Hb3.out;have Hof:=Z1 (a1i W3 b E p HA3.out);clear hat;go_wp2_with (refine wpList_load_row rfl 36 _ rfl _ rfl _ _ _ _ hld underlying36 rfl a0B ?_);refine Hof.out.mono ?_;rintro ev W4 ⟨hB4,hof⟩;have HB4:=bT HB3 hB4;have Hb4:=gB Hb3 hB4 s3;have HA4:=Z1 (HA3.out.at_ hB4);clear hB4 hld
 rcases hof with⟨_,n,hn,rfl⟩ | ⟨its,sh,x,N,D,rfl,hpu,hA,_,_,_,hRI,_⟩
 ·have k1:(n != 0)=true:=by simpa using hn
  have h1d:∀ v∈(ZC:Array Value).toList,v.oneCell'=true:=oC;obtain⟨W5,hW5,hB5,hc5,hz5⟩:=nw1 W4 ZC 46;have HW5:=Z1 hW5;have HB5:=bT HB4 hB5;unfold Ctn.zero Ctn.v Rn.zero;clear hn hW5 hB5 hc5 hz5;go_upto_region 6 with(refine Xw rfl 46 _ _ rfl 46 _ ZC rfl rfl rfl h1d a0u ?_);rw [<- HW5.out];clear h1d;go_wp2;go_ret;exact⟨by first | rfl | simp,HB5.out⟩
 have hhl:b.holds.length<=200:=by have:=HA4.out.hhl;have:=HA4.out.hhn;omega
 obtain⟨Hhl,HPu,HIA⟩:=Z3 hhl hpu hA;obtain⟨W5,hW5,hB5,hc5,hz5⟩:=nw1 W4 x 46;have HW5:=Z1 hW5;have HB5:=bT HB4 hB5;have Hb5:=gS Hb4 hB5;obtain⟨HA5,HI5,HR5⟩:=Z3 (HA4.out.at_ hB5) (RowsAt.at_ HIA.out hB5) (hRI.at_ hB5);have s5:=Vq Hb5.out;have Hc5:=Z1 hc5;have sc5:=Vq hc5;have z1:=cr9 1 hc5;simp at z1;have hld:=Hb5.out;have h1d:∀ v∈(x:Array Value).toList,v.oneCell'=true:=oC;unfold Ctn.v;obtain⟨mt,hmt⟩:∃ mt,mt=x.meth:=⟨_,rfl⟩;have Hmt:=Z1 hmt;clear hpu hA hRI hhl hW5 hB5 hz5 hc5;go_upto_region 6 with(refine Xw rfl 46 _ _ rfl 46 _ x rfl rfl rfl h1d a0u ?_);rw [<- HW5.out];clear h1d;rw [<- hmt] at z1;clear hmt
 by_cases hm:mt=2
 rotate_left
 ·have k1:(mt != 2)=true:=by simpa using hm
  clear hm;go_wp2;go_ret;exact⟨by first | rfl | simp,HB5.out⟩
 subst hm;obtain⟨e,l,rfl,he0,hit,hsc,hlen,hxn,hdt,hall⟩:=Cb.prop_law HPu.out Hmt.out.symm Hhl.out
 have he:(e:Int)<13:=by
  obtain⟨hv,e2,now,he2,hlt,_⟩:=HPu.out;have h12:Hd.valid b.g.ents.length b.holds=true:=by unfold Cb.valid at hv;simp only [Bool.and_eq_true] at hv;exact hv.2
  unfold Hd.valid at h12;simp only [Bool.and_eq_true,decide_eq_true_eq] at h12;have:=h12.1.1.1.2;omega
 obtain⟨Hall,Hsc,Hlen,Hxn⟩:=Z4 hall hsc hlen hxn;obtain⟨sc,hscx⟩:∃ sc,sc=x.since:=⟨_,rfl⟩;have Hsx:=Z1 hscx;rw [<- hscx] at hdt Hall Hsc;have Hdt:=Z1 hdt;obtain⟨W6,hW6,hB6,hb6,hz6⟩:=nw1 W5 b 36;obtain⟨W7,hW7⟩:∃ W7,W7=W6.setCell ⟨W5,23,none⟩ (.slice (some ⟨W6,0,none⟩) 1 1):=⟨_,rfl⟩;have hr7:=heap_setCell_same W6 W5.heap.size 23 _ _ (.slice (some ⟨W6,0,none⟩) 1 1) hb6;simp at hr7;rw [<- hW7] at hr7;have hB57:Below W5 W5 W7:=by rw [hW7];exact hB6.setCell (p:=⟨W5,23,none⟩) lR _
 have hs7:W7.heap.size=W6.heap.size:=by rw [hW7];simp [World.setCell]
 obtain⟨W8,hW8,hB8,hh8,hz8⟩:=nw1 W7 #[(),.int .i64 (e:Int),sc,(10000:Int)] 61;rw [hs7] at hh8;have hr8:=gbox hr7 hB8 (Vq hr7);have hB58:Below W5 W5 W8:=hB57.trans (hB8.mono hB57.size);have hb8:=HA5.out.at_ hB58;have hhA:HldsAt W8 W8 (some ⟨W6,0,none⟩) (Ct.one e sc):=a0z (f:=Hld.cells) (l:=Ct.one e sc) hh8 (Vq hh8) (fun a ha=>by unfold Ct.one at ha;simp at ha;subst ha;rfl)
 have hbk:(b.whole (some ⟨W6,0,none⟩) e sc).At W8 W8.heap.size:=⟨hb8.hg,hb8.hel,hb8.hen,hb8.hE,hb8.hEx,hb8.hrl,hb8.hrn,hb8.hR,hb8.hRw,rfl,by show 1<=30;omega,hhA,by
  intro a ha;have ha2:a=⟨0,e,sc,10000⟩:=by simpa [Bks.whole,Ct.one] using ha
  subst ha2;have h1:=Hdt.out;refine⟨rfl,?_,?_,rfl⟩
  ·simp [Lit.wf,IntKind.min,IntKind.max,IntKind.signed,IntKind.bits];omega
  ·simp [Lit.wf,IntKind.min,IntKind.max,IntKind.signed,IntKind.bits];omega⟩
 have Hof2:Hid (Calls prog 9 #[.agg #[.string (b.g).cur,.int .i64 (b.g).Y,.int .i64 (b.g).M,.int .i64 (b.g).N,.slice (b.g).cA (b.g).cn (b.g).cc,.int .i64 (b.g).r0,.int .i64 (b.g).r1,.int .i64 (b.g).r2,.int .i64 (b.g).r3,.int .i64 (b.g).r4,.int .i64 (b.g).r5,.int .i64 (b.g).r6,.int .i64 (b.g).r7,.int .i64 (b.g).r8,.int .i64 (b.g).r9,.int .i64 (b.g).r10,.int .i64 (b.g).r11,.int .i64 (b.g).r12,.int .i64 (b.g).r13,.int .i64 (b.g).r14,.slice (b.g).eA (b.g).en (b.g).ec,.slice b.eA b.en b.ec,.slice b.rA b.rn b.rc,.slice (some ⟨W6,0,none⟩) 1 1,b.m0,b.m1,b.m2],.int .i64 (e:Int),p] W8 (OfAny (b.whole (some ⟨W6,0,none⟩) e sc) e p W8)):=Z1 (a1i W8 _ e p hbk);have HW6:=Z1 hW6;have Hb6:=Z1 hb6;have HW8:Hid (W7=W6.setCell ⟨W5,23,none⟩ (.slice (some ⟨W6,0,none⟩) 1 1)/\W8=W7.alloc (.cells #[(),.int .i64 (e:Int),sc,(10000:Int)] 61)):=Z1 ⟨hW7,hW8⟩;have HB8:=bT HB5 hB58;have Hr8:=Z1 hr8;have Hc8:=gB Hc5 hB58 sc5;have HI8:=Z1 (RowsAt.at_ HI5.out hB58);have HR8:=Z1 (HR5.out.at_ hB58);have sc8:=Vq Hc8.out;have z2:=cr9 2 (gbox Hc5.out hB6 sc5);simp at z2;rw [<- hscx] at z2;have s6:=Vq hb6;have y23:=cr9 23 hb6;simp at y23;have yf:=fun j=>fr0 j hb6
 have h1b:∀ v∈(b:Array Value).toList,v.oneCell'=true:=by
  have o0:=H1.out.h0;have o1:=H1.out.h1;have o2:=H1.out.h2;intro v hv;simp only [List.mem_cons,List.not_mem_nil,or_false] at hv
  rcases hv with rfl | rfl | rfl | rfl | rfl | rfl | rfl | rfl | rfl | rfl | rfl | rfl | rfl | rfl | rfl | rfl | rfl | rfl | rfl | rfl | rfl | rfl | rfl | rfl | rfl | rfl | rfl <;> first | rfl | assumption
 clear hit hsc hlen hxn hscx hdt hall hb6 hz6 hz8 hs7 hW6 hW7 hW8 hr7 hr8 hB57 hB58 hh8 hb8 hhA hbk hB6 hB8;go_upto_region 9 with(first | (refine wpList_load_row rfl 36 _ rfl _ rfl _ _ _ _ hld underlying36 rfl a0B ?_) | (refine Xw rfl 36 _ _ rfl 36 _ b rfl rfl rfl h1b a0B ?_));rw [<- HW6.out];clear h1b;go_upto_region 10 with(fail);rw [<- HW8.out.1,<- HW8.out.2];clear z1 z2 s6 hld y23 yf;have hld:=Hr8.out;go_wp2_with (refine wpList_load_row rfl 36 _ rfl _ rfl _ _ _ _ hld underlying36 rfl a0B ?_);refine Hof2.out.mono ?_;rintro ev W9 ⟨hB9,hof2⟩;have HB9:=bT HB8 hB9;have Hc9:=gB Hc8 hB9 sc8;have HI9:=Z1 (RowsAt.at_ HI8.out hB9);have HR9:=Z1 (HR8.out.at_ hB9)
 rcases hof2 with⟨hno,_⟩ | ⟨its2,sh2,y,N2,D2,rfl,hpu2,hA2,_,_,_,_⟩
 ·exact absurd hno (Hall.out _).1
 obtain⟨k1,k2,k3,k4⟩:=(Hall.out _).2 _ _ _ _ _ hpu2;obtain⟨W10,hW10,hB10,hd10,hz10⟩:=nw1 W9 y 46;have HW10:=Z1 hW10;have HB10:=bT HB9 hB10;have Hc10:=gS Hc9 hB10;obtain⟨HI10,HR10,HJ10,Hd10⟩:=Z4 (RowsAt.at_ HI9.out hB10) (HR9.out.at_ hB10) (RowsAt.at_ hA2 hB10) hd10;have t10:=Vq Hc10.out;have r10:=Vq hd10;have h1d:∀ v∈(y:Array Value).toList,v.oneCell'=true:=oC;obtain⟨q,hq⟩:∃ q,q=its.length:=⟨_,rfl⟩;have hq2:its2.length=q:=by rw [hq,Cb.scaled_len Hsc.out,k3]
 have hxq:x.n=q:=by rw [hq];exact Hxn.out
 have hyq:y.n=q:=by rw [k4,hq2]
 have hq4:q<=3660:=by rw [hq];exact Hlen.out
 obtain⟨A5,hA5⟩:∃ A5,A5=x.A:=⟨_,rfl⟩;obtain⟨c5,hc5⟩:∃ c5,c5=x.c:=⟨_,rfl⟩;obtain⟨A6,hA6⟩:∃ A6,A6=y.A:=⟨_,rfl⟩;obtain⟨c6,hc6⟩:∃ c6,c6=y.c:=⟨_,rfl⟩;have v1:=cr9 1 hd10;have v2:=cr9 2 hd10;have v11:=cr9 11 hd10;have x2:=cr9 2 Hc10.out;have x11:=cr9 11 Hc10.out;simp at v1 v2 v11 x2 x11;rw [k1] at v1;rw [k2] at v2;rw [hyq,<- hA6,<- hc6] at v11;rw [<- Hsx.out] at x2;rw [hxq,<- hA5,<- hc5] at x11;rw [<- hA6] at HJ10;rw [<- hA5] at HI10
 have hz:∀ W,Below W10 W10 W->W.cell? ⟨W4,11,none⟩=some (.slice A5 q c5)/\W.cell? ⟨W9,11,none⟩=some (.slice A6 q c6)/\W.rangeAt W4.heap.size 3 x.s:=fun W hB=>by
  have hc:=gbox Hc10.out hB t10;have hd:=gbox Hd10.out hB r10;have e11:=cr9 11 hc;have f11:=cr9 11 hd;simp at e11 f11;rw [hxq,<- hA5,<- hc5] at e11;rw [hyq,<- hA6,<- hc6] at f11;refine⟨e11,f11,fun j v hj=>?_⟩;have hlj:j<4:=by have:=(List.getElem?_eq_some_iff.1 hj).1;simpa using this
  have:=cell_of_row _ _ (3+j) _ _ _ hc;rw [this,<- hj];have hjc:j=0∨j=1∨j=2∨j=3:=oM
  rcases hjc with rfl | rfl | rfl | rfl <;> rfl
 obtain⟨HZ,K3,Hq,Hq2⟩:=Z4 hz k3 hq hq2;clear hW10 hB10 hd10 hz10 hB9 hpu2 hA2 hld k1 k2 k3 k4 hz hxq hyq hA5 hc5 hA6 hc6 hq hq2;unfold Ctn.v;go_upto_region 11 with(refine Xw rfl 46 _ _ rfl 46 _ y rfl rfl rfl h1d a0u ?_);rw [<- HW10.out];clear h1d;go_wp2
 go_loopw [12] (fun i wr=>∃ k:Nat,k<=q/\i=.int .i64 k/\Below W10 W10 wr) (fun i _=>q-(intOf i).toNat)
 case atStart=>exact⟨0,Nat.zero_le _,rfl,by first | exact Below.refl _ _ | exact Vw bR _⟩
 case round =>
  obtain⟨k,hk,rfl,hbw⟩:=hrel;obtain⟨zc,zd,zr⟩:=HZ.out wr hbw;have hsw:=hbw.size;have s4w:W4.heap.size<wr.heap.size:=oM;have s9w:W9.heap.size<wr.heap.size:=oM
  by_cases hlt:k<q
  case neg =>
   obtain rfl:k=q:=oM;have HF:=bT HB10 hbw;clear hbw v1 v2 v11 x2 x11 zr;go_wp2;go_ret;exact⟨rfl,HF.out⟩
  have hkl:k<its2.length:=by have:=Hq2.out;omega
  have hki:k<its.length:=by have:=Hq.out;omega
  obtain⟨b2,o2,hA2,hbB2,d0⟩:=itms7P (RowsAt.at_ HJ10.out hbw) hkl;obtain⟨b1,o1,hA1,hbB1,c0⟩:=itms7P (RowsAt.at_ HI10.out hbw) hki;subst hA1 hA2
  obtain⟨un,hun,hik⟩:∃ n,Sc.out (its2[k]).amt N D=some n/\its[k]={ its2[k] with amt:=n }:=by
   have h1:=Hsc.out;rw [<- K3.out] at h1;exact Cb.scaled_at h1 hkl hki
  rw [hik] at c0;obtain⟨u0,hu0⟩:∃ u,u=its2[k].ent0:=⟨_,rfl⟩;obtain⟨u1,hu1⟩:∃ u,u=its2[k].lin:=⟨_,rfl⟩;obtain⟨u2,hu2⟩:∃ u,u=its2[k].ent:=⟨_,rfl⟩;obtain⟨u3,hu3⟩:∃ u,u=its2[k].acct:=⟨_,rfl⟩;obtain⟨u4,hu4⟩:∃ u,u=its2[k].partner:=⟨_,rfl⟩;obtain⟨u5,hu5⟩:∃ u,u=its2[k].date:=⟨_,rfl⟩;obtain⟨u6,hu6⟩:∃ u,u=its2[k].amt:=⟨_,rfl⟩;simp only [<- hu0,<- hu1,<- hu2,<- hu3,<- hu4,<- hu5,<- hu6] at c0 d0 hun;have hd0:wr.rangeAt b2 (o2+k*7) [u0,u1,u2,u3,u4,u5,u6]:=d0;have HC0:Hid (wr.rangeAt b1 (o1+k*7) [u0,u1,u2,u3,u4,u5,un]):=Z1 c0;have Hun:=Z1 hun;obtain⟨Wa,hWa,hBa,hra,hza⟩:=nw1 wr #[u0,u1,u2,u3,u4,u5,u6] 57;obtain⟨HWa,Hra,HBa,HB10a⟩:=Z4 hWa hra hBa (hbw.trans (hBa.mono hsw));have hb1w:b1<wr.heap.size:=hbB1;have hb2w:b2<wr.heap.size:=hbB2;have HRa:=Z1 (HR10.out.at_ HB10a.out);have y6:=cr9 6 hra;simp at y6;obtain⟨ib,hib⟩:∃ ib,ib=wr.heap.size:=⟨_,rfl⟩;rw [<- hib] at Hra y6;have Hib:=Z1 hib;have sb1:ib<Wa.heap.size:=oM;have s16:W10.heap.size<=ib:=oM;have sb2:b1<ib:=oM;have hrs:=(HZ.out Wa HB10a.out).2.2;have s4a:W4.heap.size<Wa.heap.size:=oM;have hks:=KSmax;have HSc:Hid (Calls prog 14 #[u6,x.s] Wa (ScPost (Sc.out u6 N D) Wa)):=Z1 (a5A Wa u6 KS KS x.s.v N D oM HRa.out);clear hik hun hu0 hu1 hu2 hu3 hu4 hu5 hu6 c0 d0 hWa hra hza hBa hbB1 hbB2 hib hbw v1 v2 v11 x2 x11 zr hks;go_upto_region 17 with(refine wpList_load_mid rfl 57 (.tmp 82) rfl b2 (o2+k*7) rfl [u0,u1,u2,u3,u4,u5,u6] _ hd0 underlying57 rfl a0J ?_);rw [<- HWa.out,<- Hib.out];clear zc zd hd0;go_wp2_with (refine wpList_load_mid rfl 43 (.tmp 87) rfl W4.heap.size 3 rfl x.s _ hrs underlying43 rfl Vy ?_);refine HSc.out.mono ?_;rintro ev Wb ⟨hBb,hsc⟩
  rcases hsc with⟨hno,_⟩ | ⟨n2,hso,rfl⟩
  ·rw [Hun.out] at hno;cases hno
  rw [Hun.out] at hso;obtain rfl:=Option.some.inj hso;have hsb:=hBb.size;have HB10b:=bT HB10a hBb;have Hrb:=gB Hra hBb sb1;have HCb:=Z1 (VV HC0.out (HBa.out.trans (hBb.mono HBa.out.size)) hb1w);have hr5:=heap_setCell_same Wb ib 6 _ _ (.int .i64 un) Hrb.out;simp at hr5;obtain⟨W5',hW5⟩:∃ W5',W5'=Wb.setCell ⟨ib,6,none⟩ (.int .i64 un):=⟨_,rfl⟩;have hBs:Below ib Wb W5':=by rw [hW5];exact(Below.refl _ Wb).setCell (p:=⟨ib,6,none⟩) lR _
  rw [<- hW5] at hr5;have HW5':=Z1 hW5;have HB65:Hid (Below W10 W10 W5'):=by show Below _ _ _;rw [hW5];exact HB10b.out.setCell (p:=⟨ib,6,none⟩) s16 _
  have HD5:=VV HCb.out hBs sb2;have y6:=cr9 6 Hrb.out;have uf:=fun j=>fr0 j Hrb.out;simp at y6;have scw:=Vq Hrb.out;obtain⟨zc,zd,zr⟩:=HZ.out W5' HB65.out;clear hW5 hBs hBb hrs zr zd;go_upto_region 19 with(fail);rw [<- HW5'.out];have p0:=cr9 0 hr5;have p1:=cr9 1 hr5;have p2:=cr9 2 hr5;have p3:=cr9 3 hr5;have p4:=cr9 4 hr5;have p5:=cr9 5 hr5;have p6:=cr9 6 hr5;simp at p0 p1 p2 p3 p4 p5 p6;have q0:W5'.cell? ⟨b1,o1+k*7,none⟩=some (.int .i64 u0):=HD5 0 _ rfl;have q1:=HD5 1 _ rfl;have q2:=HD5 2 _ rfl;have q3:=HD5 3 _ rfl;have q4:=HD5 4 _ rfl;have q5:=HD5 5 _ rfl;have q6:=HD5 6 _ rfl;have s5w:=Vq hr5;have s25:b1<W5'.heap.size:=oM;have s4b:W4.heap.size<W5'.heap.size:=oM;clear hr5 HD5 y6 uf;go_quiet (fail);go_wp2;go_roundw
  case rel=>exact⟨k+1,oM,by go_num,by first | exact HB65.out | exact Vw HB65.out _⟩
  case measure=>simp [intOf];omega
end
end Go.Proofs.YtniaimjknmhapaaGreatDoor
