/- Lemmas. -/
import Derived.Test.YtbhdekahdnenjaaGreatDoorG00
set_option linter.unusedVariables false
set_option linter.unusedSimpArgs false
set_option maxRecDepth 100000
set_option maxHeartbeats 16000000
namespace Go.Proofs.YtbhdekahdnenjaaGreatDoor
structure Lin where
 acct:Int
 amt:Int
 prt:Int
instance:Coe Lin (Array Value):=⟨fun x=>#[.int .i64 x.acct,.int .i64 x.amt,.int .i64 x.prt]⟩
instance:Coe Lin Value:=⟨fun x=>.agg #[.int .i64 x.acct,.int .i64 x.amt,.int .i64 x.prt]⟩
instance:Coe Lin (List Value):=⟨fun x=>[.int .i64 x.acct,.int .i64 x.amt,.int .i64 x.prt]⟩
structure EtC where
 id:Int
 ent:Int
 date:Int
 kind:Int
 of_:Int
 text:ByteArray
 lines:List Lin
structure Etr where
 c:EtC
 lA:Option Addr
 ln:Nat
 lc:Nat
structure TE0 where
 a:Unit
def TE:TE0:=⟨()⟩
instance:CoeFun TE0 (fun _=>EtC->Option Addr->Nat->Nat->Array Value):=⟨fun _ c A n k=>#[.int .i64 c.id,.int .i64 c.ent,.int .i64 c.date,.int .i64 c.kind,.int .i64 c.of_,.string c.text,.slice A n k]⟩
instance:Coe Etr (Array Value):=⟨fun x=>#[.int .i64 x.c.id,.int .i64 x.c.ent,.int .i64 x.c.date,.int .i64 x.c.kind,.int .i64 x.c.of_,.string x.c.text,.slice x.lA x.ln x.lc]⟩
instance:Coe Etr Value:=⟨fun x=>.agg #[.int .i64 x.c.id,.int .i64 x.c.ent,.int .i64 x.c.date,.int .i64 x.c.kind,.int .i64 x.c.of_,.string x.c.text,.slice x.lA x.ln x.lc]⟩
instance:Coe Etr (List Value):=⟨fun x=>[.int .i64 x.c.id,.int .i64 x.c.ent,.int .i64 x.c.date,.int .i64 x.c.kind,.int .i64 x.c.of_,.string x.c.text,.slice x.lA x.ln x.lc]⟩
def Lin.zero:Lin:=⟨0,0,0⟩
def EtC.zero:EtC:=⟨0,0,0,0,0,ByteArray.empty,[]⟩
def Etr.zero:Etr:=⟨EtC.zero,none,0,0⟩
def Lin.cells (x:Lin):List Value:=x
def Etr.cells (x:Etr):List Value:=x
namespace Cal
def per (Y M N d:Int):Int:=match (List.range N.toNat).find? (fun(p:Nat)=>decide (first Y M p<=d/\d<=last Y M p)) with
 |some p=>p
 |none=>-1
def begin_ (Y M p:Int):Int:=first Y M (p-p % 12)
def perV (Y M N d:Int):Int:=if per Y M N d<0 then 0 else per Y M N d
def perE (Y M N d:Int):Int:=if per Y M N d<0 then 2 else 0
theorem a5x (Y M p:Int):first Y M p=num (py Y M p) (pm Y M p) 1:=rfl
theorem b2J (y m k:Int) (h:vld y m k) (Y M:Int):py Y M (12*y+m-12*Y-M)=y/\pm Y M (12*y+m-12*Y-M)=m:=by
 obtain⟨_,_,a,i,_⟩:=h;unfold py pm;omega
theorem b2s (y m k:Int) (h:vld y m k) (Y M:Int):first Y M (12*y+m-12*Y-M)<=num y m k/\num y m k<=last Y M (12*y+m-12*Y-M):=by
 obtain⟨a,i⟩:=b2J y m k h Y M;obtain⟨_,_,_,_,o,s⟩:=h;unfold last first;rw[a,i];unfold num;omega
theorem a7R (y m k:Int) (h:vld y m k) (Y M N p:Int) (J:ok Y M N) (E:0<=p) (I:p<N) (s:first Y M p<=num y m k) (a:num y m k<=last Y M p):p=12*y+m-12*Y-M:=by
 have hv:=pvld Y M N p J E I;obtain⟨j,i⟩:∃j,num y m k=num (py Y M p) (pm Y M p) j:=⟨num y m k-first Y M p+1,by rw[a5x];unfold num;omega⟩
 have o:vld (py Y M p) (pm Y M p) j:=by
  refine⟨hv.1,hv.2.1,hv.2.2.1,hv.2.2.2,?_,?_⟩
  ·rw[i,a5x] at s;unfold num at s;omega
  ·rw[i] at a;unfold last at a;rw[a5x] at a;unfold num at a;omega
 obtain⟨L,O,_⟩:=num_inj _ _ _ _ _ _ h o i;unfold py pm at *;omega
theorem per_in (y m k:Int) (h:vld y m k) (Y M N:Int) (E:ok Y M N) (o:0<=12*y+m-12*Y-M) (I:12*y+m-12*Y-M<N):per Y M N (num y m k)=12*y+m-12*Y-M:=by
 unfold per
 cases a:(List.range N.toNat).find? (fun(p:Nat)=>decide (first Y M p<=num y m k/\num y m k<=last Y M p)) with
 |none =>
  rw[List.find?_eq_none] at a;have:=a (12*y+m-12*Y-M).toNat sO;simp only[Xm,KM o] at this;exact(this (b2s y m k h Y M)).elim
 |some p =>
  have i:=List.find?_some a;have s:=List.mem_of_find?_eq_some a;simp only[Xm,XK] at i s;exact a7R y m k h Y M N p E oM oM i.1 i.2
theorem per_out (y m k:Int) (h:vld y m k) (Y M N:Int) (i:ok Y M N) (s:12*y+m-12*Y-M<0∨N<=12*y+m-12*Y-M):per Y M N (num y m k)=-1:=by
 unfold per;rw[List.find?_eq_none.2];intro p o a;simp only[Xm,XK] at o a;have:=a7R y m k h Y M N p i oM oM a.1 a.2;omega
theorem per_date (Y M N d:Int) (a:ok Y M N) (s:¬ (-25567<=d/\d<=84005)):per Y M N d=-1:=by
 unfold per;rw[List.find?_eq_none.2];intro p i o;simp only[Xm,XK] at i o;have:=first_bd Y M N p a oM oM;omega
theorem per_range (Y M N d:Int):-1<=per Y M N d/\(per Y M N d<N∨per Y M N d=-1):=by
 unfold per
 split
 ·rename_i p i
  have a:=List.mem_of_find?_eq_some i;simp only[XK] at a;omega
 ·omega
end Cal
namespace Jr
def okAmt (n:Int):Bool:=decide (-1000000000000<=n/\n<=1000000000000)
def print (c:UInt8):Bool:=decide (32<=(c.toNat:Int)/\(c.toNat:Int)<=126)
def plain (s:BA):Bool:=s.data.toList.all print&&decide (s.size<=80)
def lineOk (n:Nat) (ent:Int) (l:Lin):Bool:=decide (l.amt≠0)&&okAmt l.amt&&decide (-1<=l.prt)&&decide (l.prt<n)&&decide (l.prt≠ent)
def shape (n:Nat) (x:EtC):Bool:=decide (1<=x.id/\0<=x.ent/\x.ent<n/\1<=x.kind/\x.kind<=3/\(x.kind=3->1<=x.of_)/\(x.kind≠3->x.of_=0))
def formed (g:Grp) (x:EtC):Bool:=Gr.valid g&&shape g.ents.length x&&plain x.text&&decide (2<=x.lines.length/\x.lines.length<=40)&&x.lines.all (lineOk g.ents.length x.ent)
def chartOf (g:Grp) (e:Int):List Acc:=(Gr.eat g.ents e.toNat).chart
def charted (g:Grp) (x:EtC):Bool:=x.lines.all (fun l=>Ch.has (chartOf g x.ent) l.acct)
def dated (g:Grp) (x:EtC):Bool:=decide (0<=Cal.per g.Y g.M g.N x.date)
def total (l:List Lin):Int:=(l.map (·.amt)).sum
def fine (g:Grp) (x:EtC):Bool:=formed g x&&charted g x&&dated g x&&decide (total x.lines=0)
def oppL (a b:Lin):Bool:=decide (a.acct=b.acct/\a.prt=b.prt/\a.amt=-b.amt)
def opposite:List Lin->List Lin->Bool
 |[],[]=>true
 |a::l,b::m=>oppL a b&&opposite l m
 |_,_=>false
def get (p:List EtC) (a:Int):Option EtC:=p.find? (fun y=>decide (y.id=a))
def revd (p:List EtC) (a:Int):Bool:=p.any (fun y=>decide (y.kind=3)&&decide (y.of_=a))
def revOk (p:List EtC) (x:EtC):Bool:=match get p x.of_ with
 |none=>false
 |some o=>!revd p x.of_&&decide (o.kind≠3)&&decide (o.ent=x.ent)&&decide (o.date<=x.date)&&opposite x.lines o.lines
def postOk (g:Grp) (p:List EtC) (x:EtC):Bool:=fine g x&&(get p x.id).isNone&&(decide (x.kind≠3)||revOk p x)&&decide (p.length<2000)
def ok (g:Grp) (l:List EtC):Bool:=Gr.valid g&&(List.range l.length).all (fun i=>postOk g (l.take i) (l.getD i EtC.zero))
end Jr
structure Hld where
 hdr:Int
 ent:Int
 date:Int
 shr:Int
instance:Coe Hld (Array Value):=⟨fun x=>#[.int .i64 x.hdr,.int .i64 x.ent,.int .i64 x.date,.int .i64 x.shr]⟩
instance:Coe Hld Value:=⟨fun x=>.agg #[.int .i64 x.hdr,.int .i64 x.ent,.int .i64 x.date,.int .i64 x.shr]⟩
instance:Coe Hld (List Value):=⟨fun x=>[.int .i64 x.hdr,.int .i64 x.ent,.int .i64 x.date,.int .i64 x.shr]⟩
def Hld.zero:Hld:=⟨0,0,0,0⟩
def Hld.cells (x:Hld):List Value:=x
structure Itv where
 frm:Int
 to:Int
 meth:Int
namespace Hd
def pair (h e:Int) (x:Hld):Bool:=decide (x.hdr=h)&&decide (x.ent=e)
def later (s:Option (Int × Int)) (d:Int):Bool:=match s with
 |none=>true
 |some y=>decide (y.2<d)
def see (d:Int) (s:Option (Int × Int)) (x:Hld):Option (Int × Int):=if(decide (x.date<=d)&&later s x.date) then some (x.shr,x.date) else s
def last (l:List Hld) (h e d:Int):Option (Int × Int):=(l.filter (pair h e)).foldl (see d) none
def at_ (l:List Hld) (h e d:Int):Int:=((last l h e d).getD (0,0)).1
def keys (l:LI):List Int:=l.eraseDups
def total (l:List Hld) (e d:Int):Int:=((keys (l.map (·.hdr))).map (fun h=>at_ l h e d)).sum
def dates (l:List Hld):List Int:=(keys (l.map (·.date))).mergeSort (fun x y=>decide (x<=y))
def proper (n:Int) (x:Hld):Bool:=decide (0<=x.hdr/\x.hdr<n/\0<=x.ent/\x.ent<n/\x.hdr≠x.ent)&&Gr.date x.date&&decide (0<=x.shr/\x.shr<=10000)
def same (x y:Hld):Bool:=decide (x.hdr=y.hdr)&&decide (x.ent=y.ent)&&decide (x.date=y.date)
def hat (l:List Hld) (i:Nat):Hld:=l.getD i Hld.zero
def keyAt (n:Int) (l:List Hld) (i:Nat):Bool:=proper n (hat l i)&&!(l.take i).any (fun y=>same y (hat l i))
def most (l:List Hld) (n:Nat) (d:Int):Bool:=(List.range n).all (fun(e:Nat)=>decide (total l e d<=10000))
def valid (n:Nat) (l:List Hld):Bool :=
 decide (1<=n/\n<=12)&&decide (l.length<=200)&&(List.range l.length).all (keyAt n l)&&(dates l).all (most l n)
def matrix (n:Nat) (l:List Hld) (d:Int):List (List Int):=(List.range n).map (fun(h:Nat)=>(List.range n).map (fun(e:Nat)=>at_ l h e d))
end Hd
namespace Ct
def mat (m:List (List Int)) (h e:Nat):Int:=(m.getD h []).getD e 0
def votes (m:List (List Int)) (set e:Nat):Nat->Int
 |0=>0
 |k+1=>votes m set e k+(if set.testBit k then mat m k e else 0)
def fresh (m:List (List Int)) (a:Nat):Nat->Nat
 |0=>0
 |k+1=>if a.testBit k=false/\5000<votes m a k m.length then fresh m a k ||| 2 ^ k else fresh m a k
def sets (m:List (List Int)):Nat->Nat->Nat->List Nat
 |0,_,_=>[]
 |k+1,all,f=>if f=0 then[] else f::sets m k (all ||| fresh m all m.length) (fresh m all m.length)
def steps (m:List (List Int)):List Nat:=sets m 4100 1 1
def union (l:List Nat):Nat:=l.foldl (· ||| ·) 0
def ctrl (m:List (List Int)):Nat:=union (steps m)
def meth (g:Grp) (l:List Hld) (e:Nat) (d:Int):Int :=
 if(ctrl (Hd.matrix g.ents.length l d)).testBit e then 3
 else if votes (Hd.matrix g.ents.length l d) (ctrl (Hd.matrix g.ents.length l d)) e g.ents.length<2000 then 0
 else if(Gr.eat g.ents e).joint then 2 else 1
def days (l:List Hld):List Int:=-25567::(Hd.dates l).filter (fun d=>decide (-25567<d))
def add (acc:List Itv) (d m:Int):List Itv:=match acc.getLast? with
 |none=>[⟨d,84006,m⟩]
 |some x=>if x.meth=m then acc else acc.dropLast++[⟨x.frm,d,x.meth⟩,⟨d,84006,m⟩]
def intervals (g:Grp) (l:List Hld) (e:Nat):List Itv :=
 if e=0 then[⟨-25568,84006,3⟩] else(days l).foldl (fun acc d=>add acc d (meth g l e d)) []
def current (g:Grp) (l:List Hld) (e:Nat) (d:Int):Option Itv:=(intervals g l e).find? (fun x=>decide (x.frm<=d/\d<x.to))
end Ct
namespace Hd
theorem b4w (d:Int) (x:Hld) (s:Option (Int × Int)) (i:0<=x.shr/\x.shr<=10000) (a:0<=(s.getD (0,0)).1/\(s.getD (0,0)).1<=10000):0<=((see d s x).getD (0,0)).1/\((see d s x).getD (0,0)).1<=10000:=by
 unfold see
 split
 ·exact i
 ·exact a
theorem b0R (d:Int):∀(l:List Hld) (s:Option (Int × Int)),(∀x∈l,0<=x.shr/\x.shr<=10000)->(0<=(s.getD (0,0)).1/\(s.getD (0,0)).1<=10000)->0<=((l.foldl (see d) s).getD (0,0)).1/\((l.foldl (see d) s).getD (0,0)).1<=10000
 |[],_,_,hs=>hs
 |x::l,s,hl,hs=>b0R d l (see d s x) (fun y a=>hl y (XZ _ a)) (b4w d x s (hl x (XN)) hs)
theorem at_bd (l:List Hld) (h e d:Int) (a:∀x∈l,0<=x.shr/\x.shr<=10000):0<=at_ l h e d/\at_ l h e d<=10000 :=
 b0R d _ none (fun x i=>a x (Yw.1 i).1) sP
theorem proper_shr {n:Int} {x:Hld} (h:proper n x):0<=x.shr/\x.shr<=10000:=by
 unfold proper at h;simp only[Vp,Xm] at h;exact h.2
theorem valid_shr {n:Nat} {l:List Hld} (h:valid n l):∀x∈l,0<=x.shr/\x.shr<=10000:=by
 intro x s;obtain⟨i,o,rfl⟩:=XD s;unfold valid at h;simp only[Vp,Xb,XK] at h;have a:=h.1.2 i o;unfold keyAt at a;simp only[Vp] at a;have e:hat l i=l[i]:=by unfold hat;simp[o]
 rw[e] at a;exact proper_shr a.1
end Hd
end Go.Proofs.YtbhdekahdnenjaaGreatDoor
