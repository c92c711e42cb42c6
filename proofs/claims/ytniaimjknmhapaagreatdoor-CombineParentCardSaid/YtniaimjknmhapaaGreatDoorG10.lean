/- My texts EntP, HoldP, HoldQ, CalN. -/
import Derived.Test.YtniaimjknmhapaaGreatDoorG00
set_option linter.unusedVariables false
set_option linter.unusedSimpArgs false
set_option maxRecDepth 100000
set_option maxHeartbeats 16000000
namespace Go.Proofs.YtniaimjknmhapaaGreatDoor
structure Lin where
 acct:Int
 amt:Int
 prt:Int
structure EtC where
 id:Int
 ent:Int
 date:Int
 kind:Int
 of_:Int
 text:ByteArray
 lines:List Lin
structure Etr where
 c:EtC
 lA:Option Addr
 ln:Nat
 lc:Nat
def Lin.zero:Lin:=⟨0,0,0⟩
def EtC.zero:EtC:=⟨0,0,0,0,0,ByteArray.empty,[]⟩
def Etr.zero:Etr:=⟨EtC.zero,none,0,0⟩
def Lin.cells (x:Lin):List Value:=[.int .i64 x.acct,.int .i64 x.amt,.int .i64 x.prt]
def Etr.cells (x:Etr):List Value:=[.int .i64 x.c.id,.int .i64 x.c.ent,.int .i64 x.c.date,.int .i64 x.c.kind,.int .i64 x.c.of_,.string x.c.text,.slice x.lA x.ln x.lc]
namespace Cal
def per (Y M N d:Int):Int:=match (List.range N.toNat).find? (fun(p:Nat)=>decide (first Y M p<=d/\d<=last Y M p)) with
 | some p=>p
 | none=>-1
def begin_ (Y M p:Int):Int:=first Y M (p-p % 12)
def perV (Y M N d:Int):Int:=if per Y M N d<0 then 0 else per Y M N d
def perE (Y M N d:Int):Int:=if per Y M N d<0 then 2 else 0
theorem first_eq (Y M p:Int):first Y M p=num (py Y M p) (pm Y M p) 1:=rfl
theorem in_month (y m k:Int) (h:vld y m k) (Y M:Int):py Y M (12*y+m-12*Y-M)=y/\pm Y M (12*y+m-12*Y-M)=m:=by
 obtain⟨_,_,h1,h2,_⟩:=h
 unfold py pm;omega
theorem month_in (y m k:Int) (h:vld y m k) (Y M:Int):first Y M (12*y+m-12*Y-M)<=num y m k/\num y m k<=last Y M (12*y+m-12*Y-M):=by
 obtain⟨e1,e2⟩:=in_month y m k h Y M
 obtain⟨_,_,_,_,h1,h2⟩:=h
 unfold last first
 rw [e1,e2]
 unfold num;omega
theorem of_month (y m k:Int) (h:vld y m k) (Y M N p:Int) (ho:ok Y M N=true) (h0:0<=p) (h1:p<N) (ha:first Y M p<=num y m k) (hb:num y m k<=last Y M p):p=12*y+m-12*Y-M:=by
 have hv:=pvld Y M N p ho h0 h1
 obtain⟨j,hj⟩:∃ j,num y m k=num (py Y M p) (pm Y M p) j:=⟨num y m k-first Y M p+1,by rw [first_eq];unfold num;omega⟩
 have hv2:vld (py Y M p) (pm Y M p) j:=by
  refine⟨hv.1,hv.2.1,hv.2.2.1,hv.2.2.2,?_,?_⟩
  ·rw [hj,first_eq] at ha;unfold num at ha;omega
  ·rw [hj] at hb;unfold last at hb;rw [first_eq] at hb;unfold num at hb;omega
 obtain⟨e1,e2,_⟩:=num_inj _ _ _ _ _ _ h hv2 hj
 unfold py pm at *;omega
theorem per_in (y m k:Int) (h:vld y m k) (Y M N:Int) (ho:ok Y M N=true) (h0:0<=12*y+m-12*Y-M) (h1:12*y+m-12*Y-M<N):per Y M N (num y m k)=12*y+m-12*Y-M:=by
 unfold per
 cases hf:(List.range N.toNat).find? (fun(p:Nat)=>decide (first Y M p<=num y m k/\num y m k<=last Y M p)) with
 | none =>
  rw [List.find?_eq_none] at hf
  have:=hf (12*y+m-12*Y-M).toNat (by simp;omega)
  simp only [decide_eq_true_eq,Int.toNat_of_nonneg h0] at this
  exact(this (month_in y m k h Y M)).elim
 | some p =>
  have h2:=List.find?_some hf
  have h3:=List.mem_of_find?_eq_some hf
  simp only [decide_eq_true_eq,List.mem_range] at h2 h3
  exact of_month y m k h Y M N p ho (by omega) (by omega) h2.1 h2.2
theorem per_out (y m k:Int) (h:vld y m k) (Y M N:Int) (ho:ok Y M N=true) (h1:12*y+m-12*Y-M<0∨N<=12*y+m-12*Y-M):per Y M N (num y m k)=-1:=by
 unfold per
 rw [List.find?_eq_none.2]
 intro p hp hq
 simp only [decide_eq_true_eq,List.mem_range] at hp hq
 have:=of_month y m k h Y M N p ho (by omega) (by omega) hq.1 hq.2
 omega
theorem per_date (Y M N d:Int) (ho:ok Y M N=true) (h1:¬ (-25567<=d/\d<=84005)):per Y M N d=-1:=by
 unfold per
 rw [List.find?_eq_none.2]
 intro p hp hq
 simp only [decide_eq_true_eq,List.mem_range] at hp hq
 have:=first_bd Y M N p ho (by omega) (by omega)
 omega
theorem per_range (Y M N d:Int):-1<=per Y M N d/\(per Y M N d<N∨per Y M N d=-1):=by
 unfold per
 split
 ·rename_i p hp
  have h3:=List.mem_of_find?_eq_some hp
  simp only [List.mem_range] at h3
  omega
 ·omega
end Cal
namespace Jr
def okAmt (n:Int):Bool:=decide (-1000000000000<=n/\n<=1000000000000)
def print (c:UInt8):Bool:=decide (32<=(c.toNat:Int)/\(c.toNat:Int)<=126)
def plain (s:ByteArray):Bool:=s.data.toList.all print&&decide (s.size<=80)
def lineOk (n:Nat) (ent:Int) (l:Lin):Bool:=decide (l.amt≠0)&&okAmt l.amt&&decide (-1<=l.prt)&&decide (l.prt<n)&&decide (l.prt≠ent)
def shape (n:Nat) (x:EtC):Bool:=decide (1<=x.id/\0<=x.ent/\x.ent<n/\1<=x.kind/\x.kind<=3/\(x.kind=3->1<=x.of_)/\(x.kind≠3->x.of_=0))
def formed (g:Grp) (x:EtC):Bool:=Gr.valid g&&shape g.ents.length x&&plain x.text&&decide (2<=x.lines.length/\x.lines.length<=40)&&x.lines.all (lineOk g.ents.length x.ent)
def chartOf (g:Grp) (e:Int):List Acc:=(Gr.eat g.ents e.toNat).chart
def charted (g:Grp) (x:EtC):Bool:=x.lines.all (fun l=>Ch.has (chartOf g x.ent) l.acct)
def dated (g:Grp) (x:EtC):Bool:=decide (0<=Cal.per g.Y g.M g.N x.date)
def total (l:List Lin):Int:=(l.map (·.amt)).sum
def fine (g:Grp) (x:EtC):Bool:=formed g x&&charted g x&&dated g x&&decide (total x.lines=0)
def oppL (a b:Lin):Bool:=decide (a.acct=b.acct/\a.prt=b.prt/\a.amt=-b.amt)
def opposite:List Lin->List Lin->Bool
 | [],[]=>true
 | a::l,b::m=>oppL a b&&opposite l m
 | _,_=>false
def get (p:List EtC) (id:Int):Option EtC:=p.find? (fun y=>decide (y.id=id))
def revd (p:List EtC) (id:Int):Bool:=p.any (fun y=>decide (y.kind=3)&&decide (y.of_=id))
def revOk (p:List EtC) (x:EtC):Bool:=match get p x.of_ with
 | none=>false
 | some o=>!revd p x.of_&&decide (o.kind≠3)&&decide (o.ent=x.ent)&&decide (o.date<=x.date)&&opposite x.lines o.lines
def postOk (g:Grp) (p:List EtC) (x:EtC):Bool:=fine g x&&(get p x.id).isNone&&(decide (x.kind≠3)||revOk p x)&&decide (p.length<2000)
def ok (g:Grp) (l:List EtC):Bool:=Gr.valid g&&(List.range l.length).all (fun i=>postOk g (l.take i) (l.getD i EtC.zero))
end Jr
end Go.Proofs.YtniaimjknmhapaaGreatDoor
namespace Go.Proofs.YtniaimjknmhapaaGreatDoor
structure Hld where
 hdr:Int
 ent:Int
 date:Int
 shr:Int
def Hld.zero:Hld:=⟨0,0,0,0⟩
def Hld.cells (x:Hld):List Value:=[.int .i64 x.hdr,.int .i64 x.ent,.int .i64 x.date,.int .i64 x.shr]
structure Itv where
 frm:Int
 to:Int
 meth:Int
namespace Hd
def pair (h e:Int) (x:Hld):Bool:=decide (x.hdr=h)&&decide (x.ent=e)
def later (s:Option (Int × Int)) (d:Int):Bool:=match s with
 | none=>true
 | some y=>decide (y.2<d)
def see (d:Int) (s:Option (Int × Int)) (x:Hld):Option (Int × Int):=if (decide (x.date<=d)&&later s x.date)=true then some (x.shr,x.date) else s
def last (l:List Hld) (h e d:Int):Option (Int × Int):=(l.filter (pair h e)).foldl (see d) none
def at_ (l:List Hld) (h e d:Int):Int:=((last l h e d).getD (0,0)).1
def keys (l:List Int):List Int:=l.eraseDups
def total (l:List Hld) (e d:Int):Int:=((keys (l.map (·.hdr))).map (fun h=>at_ l h e d)).sum
def dates (l:List Hld):List Int:=(keys (l.map (·.date))).mergeSort (fun x y=>decide (x<=y))
def proper (n:Int) (x:Hld):Bool:=decide (0<=x.hdr/\x.hdr<n/\0<=x.ent/\x.ent<n/\x.hdr≠x.ent)&&Gr.date x.date&&decide (0<=x.shr/\x.shr<=10000)
def same (x y:Hld):Bool:=decide (x.hdr=y.hdr)&&decide (x.ent=y.ent)&&decide (x.date=y.date)
def hat (l:List Hld) (i:Nat):Hld:=l.getD i Hld.zero
def keyAt (n:Int) (l:List Hld) (i:Nat):Bool:=proper n (hat l i)&&!(l.take i).any (fun y=>same y (hat l i))
def most (l:List Hld) (n:Nat) (d:Int):Bool:=(List.range n).all (fun(e:Nat)=>decide (total l e d<=10000))
def valid (n:Nat) (l:List Hld):Bool :=
 decide (1<=n/\n<=12)&&decide (l.length<=200)&&(List.range l.length).all (keyAt n l)&&(dates l).all (most l n)
def matrix (n:Nat) (l:List Hld) (d:Int):List (List Int):=(List.range n).map (fun(h:Nat)=>(List.range n).map (fun(e:Nat)=>at_ l h e d))
end Hd
namespace Ct
def mat (m:List (List Int)) (h e:Nat):Int:=(m.getD h []).getD e 0
def votes (m:List (List Int)) (set e:Nat):Nat->Int
 | 0=>0
 | k+1=>votes m set e k+(if set.testBit k then mat m k e else 0)
def fresh (m:List (List Int)) (all:Nat):Nat->Nat
 | 0=>0
 | k+1=>if all.testBit k=false/\5000<votes m all k m.length then fresh m all k ||| 2 ^ k else fresh m all k
def sets (m:List (List Int)):Nat->Nat->Nat->List Nat
 | 0,_,_=>[]
 | k+1,all,f=>if f=0 then [] else f::sets m k (all ||| fresh m all m.length) (fresh m all m.length)
def steps (m:List (List Int)):List Nat:=sets m 4100 1 1
def union (l:List Nat):Nat:=l.foldl (· ||| ·) 0
def ctrl (m:List (List Int)):Nat:=union (steps m)
def meth (g:Grp) (l:List Hld) (e:Nat) (d:Int):Int :=
 if (ctrl (Hd.matrix g.ents.length l d)).testBit e then 3
 else if votes (Hd.matrix g.ents.length l d) (ctrl (Hd.matrix g.ents.length l d)) e g.ents.length<2000 then 0
 else if (Gr.eat g.ents e).joint then 2 else 1
def days (l:List Hld):List Int:=-25567::(Hd.dates l).filter (fun d=>decide (-25567<d))
def add (acc:List Itv) (d m:Int):List Itv:=match acc.getLast? with
 | none=>[⟨d,84006,m⟩]
 | some x=>if x.meth=m then acc else acc.dropLast++[⟨x.frm,d,x.meth⟩,⟨d,84006,m⟩]
end Ct
end Go.Proofs.YtniaimjknmhapaaGreatDoor
namespace Go.Proofs.YtniaimjknmhapaaGreatDoor
namespace Hd
theorem see_bd (d:Int) (x:Hld) (s:Option (Int × Int)) (hx:0<=x.shr/\x.shr<=10000) (hs:0<=(s.getD (0,0)).1/\(s.getD (0,0)).1<=10000):0<=((see d s x).getD (0,0)).1/\((see d s x).getD (0,0)).1<=10000:=by
 unfold see
 split
 ·exact hx
 ·exact hs
theorem fold_bd (d:Int):∀(l:List Hld) (s:Option (Int × Int)),(∀ x∈l,0<=x.shr/\x.shr<=10000)->(0<=(s.getD (0,0)).1/\(s.getD (0,0)).1<=10000)->0<=((l.foldl (see d) s).getD (0,0)).1/\((l.foldl (see d) s).getD (0,0)).1<=10000
 | [],_,_,hs=>hs
 | x::l,s,hl,hs=>fold_bd d l (see d s x) (fun y hy=>hl y (List.mem_cons_of_mem _ hy)) (see_bd d x s (hl x (List.mem_cons_self)) hs)
theorem at_bd (l:List Hld) (h e d:Int) (hl:∀ x∈l,0<=x.shr/\x.shr<=10000):0<=at_ l h e d/\at_ l h e d<=10000 :=
 fold_bd d _ none (fun x hx=>hl x (List.mem_filter.1 hx).1) (by simp)
theorem proper_shr {n:Int} {x:Hld} (h:proper n x=true):0<=x.shr/\x.shr<=10000:=by
 unfold proper at h;simp only [Bool.and_eq_true,decide_eq_true_eq] at h;exact h.2
end Hd
end Go.Proofs.YtniaimjknmhapaaGreatDoor
namespace Go.Proofs.YtniaimjknmhapaaGreatDoor
namespace Cal
theorem first_succ (Y M p:Int):first Y M (p+1)=last Y M p+1:=by
 obtain⟨t,ht⟩:∃ t,t=12*Y+M-1+p:=⟨_,rfl⟩
 have e1:py Y M p=t / 12:=by unfold py;rw [ht]
 have e2:pm Y M p=t % 12+1:=by unfold pm;rw [ht]
 have e3:py Y M (p+1)=(t+1) / 12:=by unfold py;rw [ht];congr 1;omega
 have e4:pm Y M (p+1)=(t+1) % 12+1:=by unfold pm;rw [ht];congr 2;omega
 unfold last first num
 rw [e1,e2,e3,e4]
 by_cases h:t % 12=11
 ·have h1:(t+1) / 12=t / 12+1:=by omega
  have h2:(t+1) % 12=0:=by omega
  rw [h1,h2,h,byear_succ]
  have c1:=cum_succ (t / 12) 12 (by omega) (by omega)
  have c2:cum (t / 12) (12+1)=365+lp (t / 12):=cum_end _
  have c3:cum (t / 12+1) (0+1)=0:=cum_one _
  have c4:cum (t / 12) (11+1)=cum (t / 12) 12:=rfl
  have c5:mlen (t / 12) (11+1)=mlen (t / 12) 12:=rfl
  omega
 ·have h1:(t+1) / 12=t / 12:=by omega
  have h2:(t+1) % 12=t % 12+1:=by omega
  rw [h1,h2]
  have c1:=cum_succ (t / 12) (t % 12+1) (by omega) (by omega)
  omega
theorem last_ge (Y M p:Int):first Y M p<=last Y M p:=by
 have:=mlen_bd (py Y M p) (pm Y M p)
 unfold last;omega
theorem first_mono (Y M p:Int):∀ k:Nat,first Y M p<=first Y M (p+k)
 | 0=>by simp
 | k+1=>by
  have h1:=first_mono Y M p k
  have h2:=first_succ Y M (p+k)
  have h3:=last_ge Y M (p+k)
  have e:p+((k+1:Nat):Int)=p+k+1:=by omega
  rw [e];omega
theorem last_mono (Y M p:Int) (k:Nat):last Y M p<=last Y M (p+k):=by
 have h1:=first_mono Y M (p+1) k
 have h2:=first_succ Y M p
 have h3:=first_succ Y M (p+k)
 have e:p+1+(k:Int)=p+k+1:=by omega
 rw [e] at h1;omega
theorem per_span {Y M N d:Int} (h:0<=per Y M N d):first Y M 0<=d/\d<=last Y M (N-1):=by
 unfold per at h
 cases hf:(List.range N.toNat).find? (fun(p:Nat)=>decide (first Y M p<=d/\d<=last Y M p)) with
 | none=>rw [hf] at h;simp at h
 | some p =>
  have h1:=List.find?_some hf
  have h2:=List.mem_range.1 (List.mem_of_find?_eq_some hf)
  simp only [decide_eq_true_eq] at h1
  have h3:=first_mono Y M 0 p
  have h4:=last_mono Y M p (N.toNat-1-p)
  have e:(p:Int)+((N.toNat-1-p:Nat):Int)=N-1:=by omega
  rw [e] at h4
  have e0:(0:Int)+p=p:=by omega
  rw [e0] at h3
  omega
end Cal
end Go.Proofs.YtniaimjknmhapaaGreatDoor
