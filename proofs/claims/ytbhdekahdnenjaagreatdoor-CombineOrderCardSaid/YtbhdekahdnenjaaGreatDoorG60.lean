/- Lemmas. -/
import Derived.Test.YtbhdekahdnenjaaGreatDoorG30
import Derived.Test.YtbhdekahdnenjaaGreatDoorG21
set_option linter.unusedVariables false
set_option linter.unusedSimpArgs false
set_option maxRecDepth 100000
set_option maxHeartbeats 16000000
namespace Go.Proofs.YtbhdekahdnenjaaGreatDoor
namespace Cal
theorem a1G (Y M p:Int):first Y M (p+1)=last Y M p+1:=by
 obtain⟨t,a⟩:=eX (12*Y+M-1+p);have E:py Y M p=t / 12:=by unfold py;rw[a]
 have I:pm Y M p=t % 12+1:=by unfold pm;rw[a]
 have J:py Y M (p+1)=(t+1) / 12:=by unfold py;rw[a];congr 1;omega
 have L:pm Y M (p+1)=(t+1) % 12+1:=by unfold pm;rw[a];congr 2;omega
 unfold last first num;rw[E,I,J,L]
 by_cases h:t % 12=11
 ·have i:(t+1) / 12=t / 12+1:=oM
  have o:(t+1) % 12=0:=oM;rw[i,o,h,byear_succ];have s:=cum_succ (t / 12) 12 oM oM;have O:cum (t / 12) (12+1)=365+lp (t / 12):=cum_end _;have Q:cum (t / 12+1) (0+1)=0:=cum_one _;have S:cum (t / 12) (11+1)=cum (t / 12) 12:=rfl;have T:mlen (t / 12) (11+1)=mlen (t / 12) 12:=rfl;omega
 ·have i:(t+1) / 12=t / 12:=oM
  have o:(t+1) % 12=t % 12+1:=oM;rw[i,o];have s:=cum_succ (t / 12) (t % 12+1) oM oM;omega
theorem b4c (Y M p:Int):first Y M p<=last Y M p:=by
 have:=mlen_bd (py Y M p) (pm Y M p);unfold last;omega
theorem a3b (Y M p:Int):∀k:Nat,first Y M p<=first Y M (p+k)
 |0=>sP
 |k+1=>by
  have a:=a3b Y M p k;have i:=a1G Y M (p+k);have o:=b4c Y M (p+k);have e:p+((k+1:Nat):Int)=p+k+1:=oM;rw[e];omega
theorem b0E (Y M p:Int) (k:Nat):last Y M p<=last Y M (p+k):=by
 have a:=a3b Y M (p+1) k;have i:=a1G Y M p;have o:=a1G Y M (p+k);have e:p+1+(k:Int)=p+k+1:=oM;rw[e] at a;omega
theorem b2g {Y M N d:Int} (h:0<=per Y M N d):first Y M 0<=d/\d<=last Y M (N-1):=by
 unfold per at h
 cases a:(List.range N.toNat).find? (fun(p:Nat)=>decide (first Y M p<=d/\d<=last Y M p)) with
 |none=>rw[a] at h;simp at h
 |some p =>
  have o:=List.find?_some a;have I:=XK.1 (List.mem_of_find?_eq_some a);simp only[Xm] at o;have s:=a3b Y M 0 p;have E:=b0E Y M p (N.toNat-1-p);have e:(p:Int)+((N.toNat-1-p:Nat):Int)=N-1:=oM;rw[e] at E;have i:(0:Int)+p=p:=oM;rw[i] at s;omega
end Cal
open Go.Proofs.Tryz Go.RowKit
variable (w:World)
theorem a8C (A:OA) (n c:Nat) (l:List Lin) (T:l.length=n) (hn:n<=60) (X:∀x∈l,x.wf) (h:LinsAt w w A l) :
  Calls prog 113 #[.slice A n c] w fun e w'=>e=.returned (.int .i64 (Jr.total l))/\w=w':=by
 have HW:=Z1 X;have S:=Z1 T;clear X T;go_enter func113,ntmps113;go_wp2
 go_loop [3,4] (fun s i=>∃k:Nat,k<=n/\i=k/\s=.int .i64 (Jr.total (l.take k))) (fun _ i=>n-(intOf i).toNat)
 case atStart=>exact⟨0,Vb _,rfl,rfl⟩
 case round =>
  obtain⟨k,hk,rfl,rfl⟩:=hrel
  by_cases a5:k<n
  ·have J:k<l.length:=by have:=S.out;omega
   obtain⟨b,o,rfl,a4,O⟩:=LinsAt.three h J;obtain⟨x,L⟩:=eX (l[k]);rw[<- L] at O;have a:=Z1 (Jr.total_take J);have I:=Jr.total_bd (l.take (k+1)) fun y hy=>HW y (ZV hy);rw[a,<- L] at I;rw[<- L] at a;simp only[XF] at I;have E:-67553994410557440<=Jr.total (l.take k)+x.amt/\Jr.total (l.take k)+x.amt<=67553994410557440:=oM;obtain⟨t,W⟩:=eX (Jr.total (l.take k));rw[<- W] at E a⊢;have c1:=a2j O 1 _ rfl;obtain⟨E,a0⟩:=E;clear O L I W h;go_wp2
   go_round
   case rel=>exact⟨k+1,oM,by go_num,by rw[a]⟩
   case measure=>exact mS
  ·obtain rfl:k=n:=oM
   have Q:l.take k=l:=Vg (by have:=S.out;omega);rw[Q];go_wp2;go_ret;exact⟨rfl,rfl⟩
theorem ItmsAt.seven {w:World} {B:Nat} {A:OA} {l:LT} (h:RowsAt Itm.cells 7 w B A l) {k:Nat} (a:k<l.length):∃b o,A=some ⟨b,o,none⟩/\b<B/\w.rangeAt b (o+k*7) (l[k]):=RowsAt.look h a
theorem EtrsAt.seven {w:World} {B:Nat} {A:OA} {l:List Etr} (h:RowsAt Etr.cells 7 w B A l) {k:Nat} (a:k<l.length):∃b o,A=some ⟨b,o,none⟩/\b<B/\w.rangeAt b (o+k*7) (l[k]):=RowsAt.look h a
theorem a4C (A A':OA) (n c c':Nat) (l:LT) (hl:l.length=n) (hn:n<=100000) (h:RowsAt Itm.cells 7 w w A l) (h':RowsAt Itm.cells 7 w w A' l) :
  CL 9 #[.slice A n c,.slice A' n c'] w true:=by
 obtain⟨Hl,H,H'⟩:=Z3 hl h h';clear hl h h';go_enter func9,ntmps9;go_wp2
 go_loopw [5] (fun i wr=>∃(j q:Nat),j<=n/\i=j/\wr=w.drewN q) (fun i _=>n-(intOf i).toNat)
 case atStart=>exact⟨0,0,Vb _,rfl,rfl⟩
 case round =>
  obtain⟨j,q,hj,rfl,rfl⟩:=hrel
  by_cases a6:j<n
  ·have I:j<l.length:=by have:=Hl.out;omega
   obtain⟨b,o1,X,a0,a⟩:=ItmsAt.seven H I;obtain⟨b',o2,s,E,o⟩:=ItmsAt.seven H' I;subst X s;obtain⟨u0,J⟩:=eX (l[j].ent0);obtain⟨u1,L⟩:=eX (l[j].lin);obtain⟨u2,O⟩:=eX (l[j].ent);obtain⟨u3,Q⟩:=eX (l[j].acct);obtain⟨u4,S⟩:=eX (l[j].partner);obtain⟨u5,T⟩:=eX (l[j].date);obtain⟨u6,W⟩:=eX (l[j].amt);rw[<- J,<- L,<- O,<- Q,<- S,<- T,<- W] at a o;have p0:w.cell? ⟨b,o1+j*7,none⟩=some (.int .i64 u0):=a 0 _ rfl;have p1:=a 1 _ rfl;have p2:=a 2 _ rfl;have p3:=a 3 _ rfl;have p4:=a 4 _ rfl;have p5:=a 5 _ rfl;have p6:=a 6 _ rfl;have q0:w.cell? ⟨b',o2+j*7,none⟩=some (.int .i64 u0):=o 0 _ rfl;have q1:=o 1 _ rfl;have q2:=o 2 _ rfl;have q3:=o 3 _ rfl;have q4:=o 4 _ rfl;have q5:=o 5 _ rfl;have q6:=o 6 _ rfl;have a5:b<w:=a0;have a4:b'<w:=E;clear J L O Q S T W a o;go_wp2;go_quiet (fail);go_wp2;go_roundw
   case rel=>exact⟨j+1,_,oM,by go_num,rfl⟩
   case measure=>exact mS
  ·obtain rfl:j=n:=oM
   go_wp2;go_ret;exact⟨rfl,Vw bR _⟩
def GetIs (l:List Etr) (a i:Int):Prop:=(Jr.get (l.map (·.c)) a=none/\i=-1)∨∃k,∃o:k<l.length,i=k/\Jr.get (l.map (·.c)) a=some l[k].c
theorem b4g {l:List EtC} {k:Nat} {a:Int} (s:k<l.length) (i:Jr.get (l.take k) a=none) (o:l[k].id=a):Jr.get l a=some l[k]:=by
 unfold Jr.get at *;have e:l=l.take k++l[k]::l.drop (k+1):=by rw[Kw,X7]
 generalize E:l[k]=x at *
 rw[e,List.find?_append,i];simp[o]
theorem b2M {l:List EtC} {k:Nat} {a:Int} (i:k<l.length) (o:Jr.get (l.take k) a=none) (s:l[k].id≠a):Jr.get (l.take (k+1)) a=none:=by
 unfold Jr.get at *;rw[tse i,List.find?_append,o];simp[s]
theorem b1S (A:OA) (n c:Nat) (l:List Etr) (a:Int) (hl:l.length=n) (hn:n<=1000) (h:RowsAt Etr.cells 7 w w A l) :
  Calls prog 59 #[.slice A n c,a] w fun e w'=>(∃i:Int,e=.returned (.int .i64 i)/\GetIs l a i)/\w=w':=by
 have W:=Z1 hl;have H:=Z1 h;clear hl h;go_enter func59,ntmps59;go_wp2
 go_loop [5] (fun i=>∃j:Nat,j<=n/\i=j/\Hid (Jr.get ((l.map (·.c)).take j) a=none)) (fun i=>n-(intOf i).toNat)
 case atStart=>exact⟨0,Vb _,rfl,Z1 rfl⟩
 case round =>
  obtain⟨j,hj,rfl,L⟩:=hrel
  by_cases a4:j<n
  ·have E:j<l.length:=by have:=W.out;omega
   have I:j<(l.map (·.c)).length:=by rw[Xt];exact E
   obtain⟨b,o,rfl,a0,X⟩:=EtrsAt.seven H E;have O:(l.map (·.c))[j]=l[j].c:=sP;have J:Hid (l[j].c.id=a->GetIs l a j):=Z1 (fun s=>.inr ⟨j,E,rfl,by rw[<- O];exact b4g I L (by rw[O];exact s)⟩);have T:Hid (l[j].c.id≠a->Jr.get ((l.map (·.c)).take (j+1)) a=none):=Z1 (fun s=>b2M I L (by rw[O];exact s));obtain⟨u,hu⟩:=eX (l[j].c.id);have p0:w.cell? ⟨b,o+j*7,none⟩=some (.int .i64 l[j].c.id):=X 0 _ rfl;rw[<- hu] at p0 J T;clear hu X O L
   by_cases s:u=a
   ·have k1:(u==a):=by simp[s]
    have Q:=Z1 (J s);clear s;go_wp2;go_ret;exact⟨⟨_,rfl,Q⟩,rfl⟩
   ·have k1:(u==a)=false:=by simp[s]
    have S:=Z1 (T s);clear s;go_wp2
    go_round
    case rel=>exact⟨j+1,oM,by go_num,S⟩
    case measure=>exact mS
  ·obtain rfl:j=n:=oM
   have J:Hid (GetIs l a (-1)):=Z1 (.inl ⟨by have:=L.out;rw[Vg (by rw[Xt];have:=W.out;omega)] at this;exact this,rfl⟩);go_wp2;go_ret;exact⟨⟨_,rfl,J⟩,rfl⟩
def Lin.opp (x:Lin):Lin:=⟨x.acct,-x.amt,x.prt⟩
theorem a3S:∀(a b:List Lin),Jr.opposite a b->a=b.map Lin.opp
 |[],[],_=>rfl
 |[],_::_,h=>by cases h
 |_::_,[],h=>by cases h
 |x::a,y::b,h=>by
  simp only[Jr.opposite,Vp] at h;obtain⟨i,I⟩:=h;unfold Jr.oppL at i;rw[Xm] at i;rw[X5,a3S a b I]
  congr 1
  obtain⟨J,L,O⟩:=x;obtain⟨o,s,E⟩:=i;simp only at o s E;subst o s E;rfl
theorem linInfoQ:(prog.info? 66).map (fun i=>(i.zero,i.size,i.bytes))=some (some (.agg #[(),(),()]),3,24):=kR
theorem a3R:∀(b:List Lin),Jr.opposite (b.map Lin.opp) b
 |[]=>rfl
 |y::b=>by
  rw[X5];simp only[Jr.opposite,Vp];exact⟨by unfold Jr.oppL Lin.opp;simp,a3R b⟩
theorem a6i (a b:List Lin):Jr.opposite a b ↔ a=b.map Lin.opp:=⟨a3S a b,fun h=>by rw[h];exact a3R b⟩
def SameP (p:Prop) (w:World) (e:Ending) (w':World):Prop:=(∃v,e=.returned (.bool v)/\(v ↔ p))/\Below w w w'
theorem a8B (A A':OA) (n m c c':Nat) (l o:List Lin) (hl:l.length=n) (s:o.length=m) (hn:n<=100000) (h:LinsAt w w A l) (h':LinsAt w w A' o) :
  Calls prog 114 #[.slice A n c,.slice A' m c'] w (SameP (l=o) w):=by
 by_cases J:n=m
 case neg =>
  have k0:((n:Int) != (m:Int)):=sO;have HV:Hid (¬ l=o):=fun e=>J (by rw[<- hl,<- s,e]);clear hl s h h' J;go_enter func114,ntmps114;go_wp2;go_ret;exact⟨⟨false,rfl,by simp[HV.out]⟩,bR⟩
 subst J;have S:=Z1 s;clear s;obtain⟨Hl,H,H'⟩:=Z3 hl h h';clear hl h h';go_enter func114,ntmps114;go_wp2
 go_loopw [5] (fun i wr=>∃(j q:Nat),j<=n/\i=j/\wr=w.drewN q/\l.take j=o.take j) (fun i _=>n-(intOf i).toNat)
 case atStart=>exact⟨0,0,Vb _,rfl,rfl,rfl⟩
 case round =>
  obtain⟨j,q,hj,rfl,rfl,ht⟩:=hrel;have Ht:=Z1 ht;clear ht
  by_cases ad:j<n
  ·have a5:j<l.length:=by have:=Hl.out;omega
   obtain⟨b,o1,a7,a8,T⟩:=LinsAt.three H a5;have E:j<o.length:=by have:=S.out;omega
   obtain⟨b',o2,a0,a4,W⟩:=LinsAt.three H' E;subst a7 a0;obtain⟨x,hx⟩:=eX (l[j]);obtain⟨y,hy⟩:=eX (o[j]);rw[<- hx] at T;rw[<- hy] at W;have a:Hid (x≠y->¬ l=o):=fun aa e=>aa (by rw[hx,hy];subst e;rfl);have I:Hid (x=y->l.take (j+1)=o.take (j+1)):=fun e=>by rw[tse a5,tse E,Ht,<- hx,<- hy,e]
   have ac:b<w:=a8;have ab:b'<w:=a4;clear hx hy;obtain⟨O,x1,x2⟩:=x;obtain⟨Q,y1,y2⟩:=y;have p0:w.cell? ⟨b,o1+j*3,none⟩=some (.int .i64 O):=T 0 _ rfl;have p1:w.cell? ⟨b,o1+j*3+1,none⟩=some (.int .i64 x1):=T 1 _ rfl;have p2:w.cell? ⟨b,o1+j*3+2,none⟩=some (.int .i64 x2):=T 2 _ rfl;have q0:w.cell? ⟨b',o2+j*3,none⟩=some (.int .i64 Q):=W 0 _ rfl;have q1:w.cell? ⟨b',o2+j*3+1,none⟩=some (.int .i64 y1):=W 1 _ rfl;have q2:w.cell? ⟨b',o2+j*3+2,none⟩=some (.int .i64 y2):=W 2 _ rfl;clear T W
   by_cases he:O=Q/\x1=y1/\x2=y2
   ·obtain⟨rfl,rfl,rfl⟩:=he
    have a6:=Z1 (I rfl);clear a I;go_wp2;go_quiet (fail);go_wp2;go_roundw
    case rel=>exact⟨j+1,_,oM,by go_num,rfl,a6⟩
    case measure=>exact mS
   ·have HB:=Z1 (a (fun e=>he (by injection e with L X e2;exact⟨L,X,e2⟩)))
    have a9:(O==Q)=false∨((O==Q)/\(x1==y1)=false)∨((O==Q)/\(x1==y1)/\(x2==y2)=false):=by
     by_cases L:O=Q
     ·by_cases X:x1=y1
      ·right;right;simp[L,X];exact fun e2=>he ⟨L,X,e2⟩
      ·right;left;simp[L,X]
     ·left;simp[L]
    clear he a I
    rcases a9 with k0|⟨k0,k1⟩|⟨k0,k1,k2⟩
    all_goals
     go_wp2;go_quiet (fail);go_wp2;go_ret;exact⟨⟨false,rfl,by simp[HB.out]⟩,Vw (Vw bR _) _⟩
  ·obtain rfl:j=n:=oM
   have HV:Hid (l=o):=by
    show _=_;have:=Ht.out;rwa [Vg (by rw[Hl];exact lR),Vg (by rw[S];exact lR)] at this
   go_wp2;go_ret;exact⟨⟨true,rfl,by simp[HV.out]⟩,Vw bR _⟩
theorem a8D (A:OA) (n c:Nat) (l:List Etr) (a:Int) (hl:l.length=n) (hn:n<=1000) (h:RowsAt Etr.cells 7 w w A l) :
  Calls prog 60 #[.slice A n c,a] w fun e w'=>(∃r:Int,e=.returned (.int .i64 r)/\((r=0/\Jr.revd (l.map (·.c)) a=false)∨(Jr.revd (l.map (·.c)) a/\∃y∈l,r=y.c.id)))/\w=w':=by
 have Hl:=Z1 hl;have H:=Z1 h;clear hl h;go_enter func60,ntmps60;go_wp2
 go_loop [5] (fun i=>∃j:Nat,j<=n/\i=j/\Jr.revd ((l.map (·.c)).take j) a=false) (fun i=>n-(intOf i).toNat)
 case atStart=>exact⟨0,Vb _,rfl,rfl⟩
 case round =>
  obtain⟨j,hj,rfl,hr⟩:=hrel;have HR:=Z1 hr;clear hr
  by_cases a4:j<n
  ·have s:j<l.length:=by have:=Hl.out;omega
   obtain⟨b,o,rfl,a0,I⟩:=EtrsAt.seven H s;have W:j<(l.map (·.c)).length:=by simpa using s
   obtain⟨u,J⟩:=eX (l[j].c.kind);obtain⟨v,hv⟩:=eX (l[j].c.of_);obtain⟨i,T⟩:=eX (l[j].c.id);have p0:w.cell? ⟨b,o+j*7,none⟩=some (.int .i64 l[j].c.id):=I 0 _ rfl;have p3:w.cell? ⟨b,o+j*7+3,none⟩=some (.int .i64 l[j].c.kind):=I 3 _ rfl;have p4:w.cell? ⟨b,o+j*7+4,none⟩=some (.int .i64 l[j].c.of_):=I 4 _ rfl;rw[<- J] at p3;rw[<- hv] at p4;rw[<- T] at p0
   have E:Hid (Jr.revd ((l.map (·.c)).take (j+1)) a=(decide (u=3)&&decide (v=a))):=by
    show _=_;unfold Jr.revd at *;rw[tse W,YD,show((l.map (·.c)).take j).any _=false from HR,J,hv];simp
   have Q:Hid (Jr.revd (l.map (·.c)) a/\(∃y∈l,i=y.c.id)∨(decide (u=3)&&decide (v=a))=false):=by
    cases hq:(decide (u=3)&&decide (v=a)) with
    |false=>exact .inr rfl
    |true =>
     refine .inl ⟨?_,l[j],Vm s,T⟩;unfold Jr.revd;exact YY.2 ⟨l[j].c,List.mem_map_of_mem (Vm s),by rw[<- J,<- hv];exact hq⟩
   have S:(u==3)=false∨((u==3)/\(v==a)=false)∨((u==3)/\(v==a)):=by
    by_cases g:u=3
    ·by_cases g2:v=a
     ·right;right;simp[g,g2]
     ·right;left;simp[g,g2]
    ·left;simp[g]
   clear J hv T I
   rcases S with L|⟨L,X⟩|⟨L,X⟩
   case inr.inr =>
    have HF:Hid (Jr.revd (l.map (·.c)) a/\∃y∈l,i=y.c.id):=by
     rcases Q.out with h|h
     ·exact h
     ·simp only[QL] at L X;simp[L,X] at h
    clear Q E;go_wp2;go_ret;exact⟨⟨i,rfl,.inr HF⟩,rfl⟩
   all_goals
    have O:Hid (Jr.revd ((l.map (·.c)).take (j+1)) a=false):=by
     show _=_;rw[E];simp only[Jf,QL,Q5] at *;simp[*]
    clear Q E;go_wp2
    go_round
    case rel=>exact⟨j+1,oM,by go_num,O⟩
    case measure=>exact mS
  ·obtain rfl:j=n:=oM
   have HV:Hid (Jr.revd (l.map (·.c)) a=false):=by
    have:=HR.out;rwa [Vg (by rw[Xt,Hl];exact lR)] at this
   go_wp2;go_ret;exact⟨⟨0,rfl,.inl ⟨rfl,HV⟩⟩,rfl⟩
theorem a9U (A B:OA) (n c m d:Nat) (la lb:List Lin) (a9:la.length=n) (hn:n<=100000) (aa:lb.length=m) (hm:m<=60) (hw:∀x∈lb,x.wf) (hA:LinsAt w w A la) (hB:LinsAt w w B lb) :
  Calls prog 61 #[.slice A n c,.slice B m d] w (SameP (Jr.opposite la lb) w):=by
 obtain⟨HA,HB,aj,J,ai⟩:=Z5 hA hB a9 aa hw;obtain⟨i0,hi,aq,ar,au⟩:=XW linInfoQ;clear a9 aa hw hA hB;go_enter func61,ntmps61;go_wp2
 go_loopw [5,6] (fun v i wr=>∃k:Nat,k<=m/\i=k/\wr.ownsRow w.heap.size 66 3 v ((lb.take k).map Lin.opp).length (((lb.take k).map Lin.opp).flatMap Lin.cells)/\Below w w wr) (fun _ i _=>m-(intOf i).toNat)
 case atStart=>exact⟨0,Vb _,rfl,Xp _ _ _ _,bR⟩
 case round =>
  obtain⟨k,hk,rfl,a,o⟩:=hrel;have E:=o.size
  by_cases ay:k<m
  case neg =>
   obtain rfl:k=m:=oM;rw[Vg (by have:=J.out;omega)] at a;obtain⟨A2,c2,rfl,a4⟩:=Xw (f:=Lin.cells) (sz:=3) dC (fun _=>rfl) a rfl;have S:(lb.map Lin.opp).length=k:=by rw[Xt,J]
   rw[S];have Hs:=Z1 (a8B wr A A2 n k c c2 la (lb.map Lin.opp) aj S hn (RowsAt.more (RowsAt.below HA o lR) E) a4);have ag:=Z1 o;clear a a4 o S;go_wp2_with (fail);refine Hs.mono ?_;rintro ev W2 ⟨⟨v,rfl,hv⟩,a5⟩;have af:=Z1 (ag.out.trans (a5.mono E));have Hv:Hid (v ↔ Jr.opposite la lb):=hv.trans (a6i la lb).symm;clear hv a5;go_wp2;go_ret;exact⟨⟨v,rfl,Hv⟩,af⟩
  have a8:k<lb.length:=by have:=J.out;omega
  obtain⟨bl,ol,ao,ax,hr⟩:=LinsAt.three (RowsAt.below HB o lR) a8;subst ao;obtain⟨x,hx⟩:=eX (lb[k]);have X:Hid ((lb.take (k+1)).map Lin.opp=(lb.take k).map Lin.opp++[Lin.opp x]):=by show _=_;rw[tse a8,Xn,hx];rfl
  have ab:((lb.take k).map Lin.opp).length<=60:=sO;have ap:=(ai x (by rw[hx];exact Vm _)).2.1;have az:-9223372036854775808<=-x.amt:=oM;have b0:-x.amt<=9223372036854775807:=oM;rw[<- hx] at hr;have Hr:=Z1 hr;have aw:bl<wr:=oM;obtain⟨L,hL⟩:=eX ((lb.take k).map Lin.opp);rw[<- hL] at a X ab;obtain⟨Wa,a6,O,ae,av⟩:=nw1 wr #[x.acct,(-x.amt:Int),x.prt] 66;obtain⟨ah,ak,I,W⟩:=Z4 a6 ae (o.trans (O.mono E)) (Vj a O);have sa:(wr:Nat)<Wa:=oM;clear a o hr hx hL a6 ae av O ap;go_upto_region 7 with(refine VH rfl 66 (.tmp 16) rfl bl (ol+k*3) rfl x _ Hr Zx rfl a1a ?_);rw[<- ah];have s:=W.out.alloc (.cells #[x.acct,(-x.amt:Int),x.prt] 66);have ac:=Xk Wa [x.acct,(-x.amt:Int),x.prt] 66;have ad:∀u∈([x.acct,(-x.amt:Int),x.prt]:List Value),u.oneCell':=oC;have al:L.length+1<=maxLen:=by unfold maxLen;omega
  have am:(L.length+1)*24<=140737488355328:=oM;have a0:w.heap.size<=(Wa.alloc (.cells #[x.acct,(-x.amt:Int),x.prt] 66)).heap.size:=by have:=I.out.size;simp;omega
  have a7:=I.out.alloc I.size (.cells #[x.acct,(-x.amt:Int),x.prt] 66);go_wp2_with (first|(refine Vd rfl 66 _ rfl _ rfl _ _ _ _ ak Zx rfl a1a ?_)|(at_builtin;refine Hid.out ?_));show wpList _ _ _ _ _ _;refine Xd _ rfl _ _ 44 rfl w.heap.size 66 i0 (.agg #[(),(),()]) 3 24 underlying44 hi aq ar au rfl dC _ _ _ rfl s ⟨Wa,0,none⟩ 1 1 [x.acct,(-x.amt:Int),x.prt] rfl rfl ac ad al am a0 ?_;intro v' w1 T Q _;have an:=a7.grown Q a0 (fun j hj=>(s.lt j hj).1);go_wp2;go_roundw
  case rel=>exact⟨k+1,oM,by go_num,by rw[X,Vc,VL];simpa[Lin.cells,Lin.opp] using T,an⟩
  case measure=>exact mS
namespace Cal
theorem a8d (Y M d:Int):∀n:Nat,first Y M 0<=d->d<first Y M n->∃p:Nat,p<n/\first Y M p<=d/\d<=last Y M p
 |0,h0,h1=>by exfalso;have:first Y M ((0:Nat):Int)=first Y M 0:=rfl;omega
 |n+1,h0,h1=>by
  by_cases h:d<first Y M n
  ·obtain⟨p,o,a,i⟩:=a8d Y M d n h0 h
   exact⟨p,oM,a,i⟩
  ·refine⟨n,oM,oM,?_⟩
   have e:first Y M ((n:Int)+1)=first Y M ((n+1:Nat):Int):=by congr 1
   have:=a1G Y M n;omega
theorem per_iff {Y M N d:Int} (J:1<=N):0<=per Y M N d ↔ first Y M 0<=d/\d<=last Y M (N-1):=by
 refine⟨b2g,fun⟨i,I⟩=>?_⟩;obtain⟨n,rfl⟩:∃n:Nat,N=n:=⟨N.toNat,oM⟩
 have o:d<first Y M n:=by
  have e:first Y M ((n:Int)-1+1)=first Y M (n:Int):=by congr 1;omega
  have:=a1G Y M ((n:Int)-1);omega
 obtain⟨p,L,s,E⟩:=a8d Y M d n i o;unfold per
 cases a:(List.range (n:Int).toNat).find? (fun(p:Nat)=>decide (first Y M p<=d/\d<=last Y M p)) with
 |none =>
  rw[List.find?_eq_none] at a;have:=a p sO;simp[s,E] at this
 |some q=>simp
end Cal
theorem a9W (n:Int):Calls prog 213 #[n] w fun e w'=>e=.returned (.bool (Jr.okAmt n))/\w=w':=by
 by_cases i:-1000000000000<=n
 ·have s:decide (n ≥ -1000000000000):=by simpa using i
  by_cases o:n<=1000000000000
  ·have a:Hid (Jr.okAmt n):=Z1 (VT ⟨i,o⟩)
   go_enter func213,ntmps213;go_wp2;go_ret;exact⟨by rw[a];first|rfl|(simp;omega),rfl⟩
  ·have a:Hid (Jr.okAmt n=false):=Z1 (Vr (fun q=>o q.2))
   go_enter func213,ntmps213;go_wp2;go_ret;exact⟨by rw[a];first|rfl|(simp;omega),rfl⟩
 ·have s:decide (n ≥ -1000000000000)=false:=by simpa using i
  have a:Hid (Jr.okAmt n=false):=Z1 (Vr (fun q=>i q.1));go_enter func213,ntmps213;go_wp2;go_ret;exact⟨by rw[a];first|rfl|(simp;omega),rfl⟩
theorem Jr.plain_no {s:BA} {k:Nat} (a:k<s.data.toList.length) (h:Jr.print (s.data.toList[k])=false):Jr.plain s=false:=by
 unfold Jr.plain
 have:s.data.toList.all Jr.print=false:=by
  rw[Yb];exact⟨_,Vm a,by simpa using h⟩
 rw[this];rfl
theorem a7d (s:BA) (O:s.size<=maxLen):Calls prog 159 #[.string s] w fun e w'=>e=.returned (.bool (Jr.plain s))/\w=w':=by
 have a:s.data.toList.length=s.size:=sP;have X:s.size<=9223372036854775807:=by unfold maxLen at O;omega
 have T:=Z1 a;clear O;go_enter func159,ntmps159;go_wp2
 go_loop [3] (fun i=>∃k:Nat,k<=s.size/\i=k/\(s.data.toList.take k).all Jr.print) (fun i=>s.size-(intOf i).toNat)
 case atStart=>exact⟨0,Vb _,rfl,rfl⟩
 case round =>
  obtain⟨k,hk,rfl,L⟩:=hrel;have J:=Z1 L;clear L
  by_cases W:k<s.size
  ·have o:k<s.data.toList.length:=oM
   have E:s.data.toList[k]'o=s[k]:=rfl;have Hg:=Z1 E
   by_cases h1:(s[k].toNat:Int)<32
   ·have I:Hid (Jr.plain s=false):=Z1 (Jr.plain_no o (by rw[E];unfold Jr.print;simp;omega))
    clear E a;go_wp2;go_ret;exact⟨by rw[I];rfl,rfl⟩
   ·by_cases h2:126<(s[k].toNat:Int)
    ·have I:Hid (Jr.plain s=false):=Z1 (Jr.plain_no o (by rw[E];unfold Jr.print;simp;omega))
     clear E a;go_wp2;go_ret;exact⟨by rw[I];rfl,rfl⟩
    ·have S:Hid ((s.data.toList.take (k+1)).all Jr.print):=by
      show _=_;rw[tse o,Yp,J,E];unfold Jr.print;simp;omega
     clear E a;go_wp2
     go_round
     case rel=>exact⟨k+1,oM,by go_num,S⟩
     case measure=>exact mS
  ·obtain rfl:k=s.size:=oM
   have Q:Hid (Jr.plain s=decide (s.size<=80)):=by
    show _=_;unfold Jr.plain;have:=J.out;rw[Vg oM] at this;rw[this];rfl
   clear a;go_wp2;go_ret;exact⟨by rw[Q];first|rfl|(congr 2;simp<;> omega),rfl⟩
theorem a8J (g:Grp) (x:Lin) (e:Nat) (hl:g.ents.length=g.en) (hn:g.en<=maxLen) :
  CL 160 #[g,e,x] w (Jr.lineOk g.ents.length e x):=by
 obtain⟨W1,a0,a,S,E,hz⟩:=nw2 w g x 29 66;have J:=Z1 a0;have a4:=cr9 20 S;have z1:=cr9 1 E;have z2:=cr9 2 E;simp at a4 z1 z2;have s1:=Vq S;have s2:=Vq E;have Q:=a9W W1 x.amt;have HV:Hid (Jr.lineOk g.ents.length e x=(decide (x.amt≠0)&&Jr.okAmt x.amt&&decide (-1<=x.prt)&&decide (x.prt<(g.en:Int))&&decide (x.prt≠(e:Int)))):=Z1 (by unfold Jr.lineOk;rw[hl]);clear a0 hz S E hl hn
 by_cases O:x.amt=0
 ·have q1:(x.amt==0):=by simp[O]
  have o:Hid (Jr.lineOk g.ents.length e x=false):=Z1 (by rw[HV];simp[O]);clear O Q;go_enter func160,ntmps160;go_upto_region 1 with(fail);rw[<- J];go_wp2;go_ret;exact⟨by rw[o];rfl,a⟩
 have q1:(x.amt==0)=false:=by simp[O]
 cases T:Jr.okAmt x.amt with
 |false =>
  have o:Hid (Jr.lineOk g.ents.length e x=false):=Z1 (by rw[HV,T];simp);rw[T] at Q;have L:=Z1 Q;clear O Q T;go_enter func160,ntmps160;go_upto_region 1 with(fail);rw[<- J];go_wp2_with (fail);refine L.mono ?_;rintro ev X ⟨rfl,rfl⟩;go_wp2;go_ret;exact⟨by rw[o];rfl,a⟩
 |true =>
 rw[T] at Q;have L:=Z1 Q;have W:Hid (Jr.lineOk g.ents.length e x=(decide (-1<=x.prt)&&decide (x.prt<(g.en:Int))&&decide (x.prt≠(e:Int)))):=Z1 (by rw[HV,T];simp[O]);clear O Q T HV;have hw:(x.prt=-1)∨(x.prt≠-1/\¬ 0<=x.prt)∨(x.prt≠-1/\0<=x.prt/\¬ x.prt<(g.en:Int))∨(x.prt≠-1/\0<=x.prt/\x.prt<(g.en:Int)/\x.prt=(e:Int))∨(x.prt≠-1/\0<=x.prt/\x.prt<(g.en:Int)/\x.prt≠(e:Int)):=oM
 rcases hw with i|⟨i,s⟩|⟨i,s,I⟩|⟨i,s,I,h4⟩|⟨i,s,I,h4⟩
 all_goals
  have HR:Hid (Jr.lineOk g.ents.length e x∨Jr.lineOk g.ents.length e x=false):=Z1 (by cases Jr.lineOk g.ents.length e x <;> simp)
 ·have o:Hid (Jr.lineOk g.ents.length e x):=Z1 (by rw[W];simp;omega)
  have q2:(x.prt==-1):=by simp[i]
  clear i;go_enter func160,ntmps160;go_upto_region 1 with(fail);rw[<- J];go_wp2_with (fail);refine L.mono ?_;rintro ev X ⟨rfl,rfl⟩;go_wp2;go_ret;exact⟨by rw[o];rfl,a⟩
 ·have o:Hid (Jr.lineOk g.ents.length e x=false):=Z1 (by rw[W];simp;omega)
  have q2:(x.prt==-1)=false:=by simp[i]
  have q3:decide (x.prt ≥ 0)=false:=by simpa using s
  clear i s;go_enter func160,ntmps160;go_upto_region 1 with(fail);rw[<- J];go_wp2_with (fail);refine L.mono ?_;rintro ev X ⟨rfl,rfl⟩;go_wp2;go_ret;exact⟨by rw[o];first|rfl|simp,a⟩
 ·have o:Hid (Jr.lineOk g.ents.length e x=false):=Z1 (by rw[W];simp;omega)
  have q2:(x.prt==-1)=false:=by simp[i]
  have q3:decide (x.prt ≥ 0):=by simpa using s
  have q4:decide (x.prt<(g.en:Int))=false:=Vr I;clear i s I;go_enter func160,ntmps160;go_upto_region 1 with(fail);rw[<- J];go_wp2_with (fail);refine L.mono ?_;rintro ev X ⟨rfl,rfl⟩;go_wp2;go_ret;exact⟨by rw[o];first|rfl|simp,a⟩
 ·have o:Hid (Jr.lineOk g.ents.length e x=false):=Z1 (by rw[W];simp;omega)
  have q2:(x.prt==-1)=false:=by simp[i]
  have q3:decide (x.prt ≥ 0):=by simpa using s
  have q4:decide (x.prt<(g.en:Int)):=VT I;have q5:(x.prt != (e:Int))=false:=by simp[h4]
  clear i s I h4;go_enter func160,ntmps160;go_upto_region 1 with(fail);rw[<- J];go_wp2_with (fail);refine L.mono ?_;rintro ev X ⟨rfl,rfl⟩;go_wp2;go_ret;exact⟨by rw[o];first|rfl|simp,a⟩
 ·have o:Hid (Jr.lineOk g.ents.length e x):=Z1 (by rw[W];simp;omega)
  have q2:(x.prt==-1)=false:=by simp[i]
  have q3:decide (x.prt ≥ 0):=by simpa using s
  have q4:decide (x.prt<(g.en:Int)):=VT I;have q5:(x.prt != (e:Int)):=by simp[h4]
  clear i s I h4;go_enter func160,ntmps160;go_upto_region 1 with(fail);rw[<- J];go_wp2_with (fail);refine L.mono ?_;rintro ev X ⟨rfl,rfl⟩;go_wp2;go_ret;exact⟨by rw[o];first|rfl|simp,a⟩
theorem a7f (Y M N d:Int) (s:Cal.ok Y M N) :
  CL 112 #[.agg #[Y,M,N],d] w (.bool (decide (0<=Cal.per Y M N d))):=by
 have hi:=(Cal.ok_iff Y M N).1 s;have h0:Cal.err Y M N 0=0:=(Cal.err_zero Y M N 0).2 ⟨s,oM,oM⟩;have h1:Cal.err Y M N (N-1)=0:=(Cal.err_zero Y M N (N-1)).2 ⟨s,oM,oM⟩;have O:=Cal.per_iff (Y:=Y) (M:=M) (N:=N) (d:=d) oM;obtain⟨f,J⟩:=eX (Cal.first Y M 0);obtain⟨l,L⟩:=eX (Cal.last Y M (N-1));rw[<- J,<- L] at O;have T:Hid (decide (0<=Cal.per Y M N d)=(decide (f<=d)&&decide (d<=l))):=Z1 (by rw[<- Bool.decide_and];exact decide_eq_decide.2 O);obtain⟨Q,S,W,X⟩:=Z4 h0 h1 J L;have a0:1<=N:=oM;have a4:N<=120:=oM;clear h0 h1 J L s hi O
 by_cases a:f<=d
 ·have k1:decide (d ≥ f):=by simpa using a
  have E:Hid (decide (0<=Cal.per Y M N d)=decide (d<=l)):=Z1 (by rw[T,VT a];rfl);go_enter func112,ntmps112;go_wp2_with (go_at_call 11;refine(a2k _ _ _ _ _ Q).mono ?_;rw[<- W];rintro e w4 ⟨rfl,i⟩;obtain⟨hc,I⟩:=bcell i);refine(a6c _ _ _ _ _ S).mono ?_;rw[<- X];rintro e w5 ⟨rfl,o⟩;go_wp2;go_ret;exact⟨by rw[E];first|rfl|simp,((bR.alloc lR _).trans (i.mono sP)).trans (o.mono (by have:=i.size;simp at this;omega))⟩
 ·have k1:decide (d ≥ f)=false:=by simpa using a
  have E:Hid (decide (0<=Cal.per Y M N d)=false):=Z1 (by rw[T,Vr a];rfl);go_enter func112,ntmps112;go_wp2_with (go_at_call 11;refine(a2k _ _ _ _ _ Q).mono ?_;rw[<- W];rintro e w4 ⟨rfl,i⟩;obtain⟨hc,I⟩:=bcell i);refine(a6c _ _ _ _ _ S).mono ?_;rw[<- X];rintro e w5 ⟨rfl,o⟩;go_wp2;go_ret;exact⟨by rw[E];first|rfl|simp,((bR.alloc lR _).trans (i.mono sP)).trans (o.mono (by have:=i.size;simp at this;omega))⟩
theorem a7c (g:Grp) (c:EtC) (A:OA) (n kc:Nat) (hg:g.At w w) (hx:(⟨c,A,n,kc⟩:Etr).At w w) :
  CL 110 #[g,.agg (TE c A n kc)] w (Jr.formed g c):=by
 obtain⟨W1,an,a4,ap,aq,hz⟩:=nw2 w g (TE c A n kc) 29 46;obtain⟨HW,b3,ab⟩:=Z3 an (hg.at_ a4) hg.hel;have b2:g.en<=maxLen:=by have:=hg.hen;unfold maxLen;omega
 have T:Hid (c.lines.length=n):=hx.hl;have b6:n<=60:=by have h1:c.lines.length<=60:=hx.hw.hln;have h2:c.lines.length=n:=hx.hl;omega
 have ay:Hid (c.text.size<=maxLen):=hx.hw.htx;have hA:Hid (LinsAt W1 W1 A c.lines):=RowsAt.at_ hx.hA a4;have aa:=Z1 ap;have ah:=Z1 aq;have s1:(w:Nat)<W1:=oM;have au:(w:Nat)+1<W1:=oM;have aw:=Z1 (a7Z W1 g b3.out);have O:=Z1 a4;clear an hz ap aq hg hx a4;go_enter func110,ntmps110;go_upto_region 1 with(fail);rw[<- HW];have a0:W1.rangeAt w.heap.size 0 g:=Xq aa;go_wp2_with (refine Vv (by rfl) 29 (.tmp 2) rfl w.heap.size 0 rfl _ _ a0 VS rfl VJ ?_);refine aw.mono ?_;rintro ev W2 ⟨rfl,X⟩;have E:=gbox ah X au;have ae:=gbox aa X s1;have z0:=cr9 0 E;have z1:=cr9 1 E;have z3:=cr9 3 E;have z4:=cr9 4 E;have z5:=cr9 5 E;have z6:=cr9 6 E;have al:=cr9 20 ae;simp at z0 z1 z3 z4 z5 z6 al;have s2:=Vq E;have s3:=Vq ae;have a:=bT O X;have av:=Z1 X;clear E ae a0 X
 cases h1:Gr.valid g with
 |false =>
  have I:Hid (Jr.formed g c=false):=by show _=_;unfold Jr.formed;rw[h1];rfl
  clear h1;go_wp2;go_ret;exact⟨by rw[I];rfl,a⟩
 |true =>
 have H1:=Z1 h1;clear h1
 by_cases hs:Jr.shape g.ents.length c
 case neg =>
  have I:=Z1 (Jr.formed_shape (g:=g) (x:=c) (by simpa using hs))
  have hd:c.id<1∨(¬ c.id<1/\c.ent<0)∨(¬ c.id<1/\¬ c.ent<0/\c.ent ≥ (g.en:Int))∨(¬ c.id<1/\¬ c.ent<0/\¬ c.ent ≥ (g.en:Int)/\c.kind<1)∨(¬ c.id<1/\¬ c.ent<0/\¬ c.ent ≥ (g.en:Int)/\¬ c.kind<1/\c.kind > 3) ∨
    (¬ c.id<1/\¬ c.ent<0/\¬ c.ent ≥ (g.en:Int)/\¬ c.kind<1/\¬ c.kind > 3/\c.kind=3/\c.of_<1)∨(¬ c.id<1/\¬ c.ent<0/\¬ c.ent ≥ (g.en:Int)/\¬ c.kind<1/\¬ c.kind > 3/\c.kind≠3/\c.of_≠0):=by
   simp only[Jr.shape,Xm,ab.out] at hs;omega
  clear hs
  rcases hd with h|⟨h,h2⟩|⟨h,h2,h3⟩|⟨h,h2,h3,h4⟩|⟨h,h2,h3,h4,h5⟩|⟨h,h2,h3,h4,h5,h6,h7⟩|⟨h,h2,h3,h4,h5,h6,h7⟩
  case inr.inr.inr.inr.inr.inl =>
   have k3:(c.kind==3):=by simp[h6]
   have k4:(c.kind != 3)=false:=by simp[h6]
   clear h6;go_wp2;go_ret;exact⟨by rw[I];rfl,a⟩
  case inr.inr.inr.inr.inr.inr =>
   have k3:(c.kind==3)=false:=by simp[h6]
   have k4:(c.kind != 3):=by simp[h6]
   have k5:(c.of_ != 0):=by simp[h7]
   clear h6 h7;go_wp2;go_ret;exact⟨by rw[I];rfl,a⟩
  all_goals
   go_wp2;go_ret;exact⟨by rw[I];rfl,a⟩
 have Hs:=Z1 hs;simp only[Jr.shape,Xm,ab.out] at hs;obtain⟨i1,i2,i3,i4,i5,i6,i7⟩:=hs;obtain⟨ke,af⟩:∃ke:Nat,c.ent=ke:=⟨c.ent.toNat,oM⟩;have ad:=Z1 af;rw[af] at i3 z1;have n1:¬ c.id<1:=oM;have n2:¬ (ke:Int)<0:=oM;have n3:¬ (ke:Int) ≥ (g.en:Int):=oM;have n4:¬ c.kind<1:=oM;have n5:¬ c.kind > 3:=oM
 have b1:((c.kind==3)/\(c.kind != 3)=false/\¬ c.of_<1)∨((c.kind==3)=false/\(c.kind != 3)/\(c.of_ != 0)=false):=by
  by_cases h:c.kind=3
  ·left;have:=i6 h;simp[h];omega
  ·right;have:=i7 h;simp[h,this]
 have ax:=Z1 (a7d W2 c.text ay);clear af i1 i2 i3 i4 i5 i6 i7
 rcases b1 with⟨q1,q2,q3⟩|⟨q1,q2,q3⟩
 all_goals
  go_wp2_with (fail);refine ax.mono ?_;rintro ev W3 ⟨rfl,rfl⟩
  cases hp:Jr.plain c.text with
  |false =>
   have I:Hid (Jr.formed g c=false):=by show _=_;unfold Jr.formed;rw[hp];simp
   clear hp;go_wp2;go_ret;exact⟨by rw[I];rfl,a⟩
  |true =>
  have HP:=Z1 hp;clear hp
  by_cases b8:(n:Int)<2
  ·have I:Hid (Jr.formed g c=false):=by show _=_;unfold Jr.formed;rw[T,Vr oM];simp
   go_wp2;go_ret;exact⟨by rw[I];rfl,a⟩
  by_cases b9:(n:Int) > 40
  ·have I:Hid (Jr.formed g c=false):=by show _=_;unfold Jr.formed;rw[T,Vr oM];simp
   go_wp2;go_ret;exact⟨by rw[I];rfl,a⟩
  go_wp2
  go_loopw [5] (fun i wr=>∃k:Nat,k<=n/\i=k/\Below W1 W1 wr/\(c.lines.take k).all (Jr.lineOk g.ents.length c.ent)) (fun i _=>n-(intOf i).toNat)
  case atStart=>exact⟨0,Vb _,rfl,av,rfl⟩
  case round =>
   obtain⟨k,hk,rfl,hb,a9⟩:=hrel;have a8:=Z1 a9;clear z0 z1 z3 z4 z5 z6 al a9;have J:=gbox ah hb au;have a6:=gbox aa hb s1;have y1:=cr9 1 J;have y6:=cr9 6 J;simp at y1 y6;rw[ad] at y1;have t2:=Vq J;have t3:=Vq a6;have am:=O.out.trans (hb.mono O.size)
   by_cases b7:k<n
   case neg =>
    obtain rfl:k=n:=oM
    have I:Hid (Jr.formed g c):=by
     show _=_;unfold Jr.formed;have:=a8.out;rw[Vg (by rw[T];exact lR)] at this;rw[H1,Hs,HP,this,T,VT oM];rfl
    clear J a6;go_wp2;go_ret;exact⟨by rw[I];rfl,am⟩
   have ag:k<c.lines.length:=by have:=T.out;omega
   obtain⟨bb,o,rfl,b0,hr⟩:=LinsAt.three (RowsAt.below hA.out hb lR) ag;obtain⟨x,hx⟩:=eX (c.lines[k]);rw[<- hx] at hr;obtain⟨lk,a7⟩:=eX (Jr.lineOk g.ents.length ke x);have ai:Hid (lk=false->Jr.formed g c=false):=Z1 fun e=>Jr.formed_line ag (by rw[ad,<- hx,<- a7];exact e)
   have ac:Hid (lk->(c.lines.take (k+1)).all (Jr.lineOk g.ents.length c.ent)):=Z1 fun e=>by
    rw[tse ag,Yp,a8,<- hx,ad];simp[<- a7,e]
   have Hr:=Z1 hr;have b5:bb<wr:=Xg b0 hb.size;have Q:=Z1 (fun W:World=>a8J W g x ke ab b2);rw[<- a7] at Q;have aj:=Z1 J;have ak:=Z1 a6;clear J a6 hx hr a7;go_upto_region 8 with(fail);have L:Below wr wr wr.drew:=Vw bR 1;refine Vs (S:=Below wr wr) kR ?_;change wpAnyH _ _ _ _ _ _ _ _ (World.drew wr);obtain⟨b4,ao⟩:=eX wr.drew;rw[<- ao] at L⊢;clear ao;refine jT 0 L ?_ (v:=g) (hy:=(Vf (by rfl) 29 _ rfl w.heap.size 0 rfl g _ (fun W' s=>Xq (gbox ak s t3)) VS rfl VJ));refine jT 1 L ?_;refine jT 2 L ?_ (v:=.int .i64 ke) (hy:=(.inl ⟨by rfl,fun W' s=>by have c0:=(s.cell (p:=⟨w+1,1,none⟩) oM).trans y1;have c9:=Vq (gbox aj s t2);go_simp⟩));refine jT 3 L ?_;refine jT 4 L ?_ (v:=.slice (some ⟨bb,o,none⟩) n kc) (hy:=(.inl ⟨by rfl,fun W' s=>by have c0:=(s.cell (p:=⟨w+1,6,none⟩) oM).trans y6;have c9:=Vq (gbox aj s t2);go_simp⟩));refine jT 5 L ?_;refine jT 6 L ?_;refine jT 7 L ?_ (v:=x) (hy:=(Vf (by rfl) 66 _ rfl bb (o+k*3) rfl x _ (fun W' s=>fun j v hj=>(s.cell (p:=⟨bb,o+k*3+j,none⟩) oM).trans (Hr j v hj)) Zx rfl a1a));refine rZ 8 fun K hK=>?_;go_simp;refine(Q _).mono ?_;rintro ev W4 ⟨rfl,az⟩;have a5:=L.trans (az.mono L.size);refine jK hK a5 ?_;clear hK K;refine rZ 9 fun K hK=>?_;go_simp;refine jK hK a5 ?_;clear hK K;refine VF kR ?_ _
   try simp only[z]
   have ar:=hb.trans (a5.mono hb.size);clear y1 y6 L a5
   cases lk with
   |false =>
    have hF:=ai.out rfl;have HF:=Z1 hF;clear hF;go_wp2;go_ret;exact⟨by rw[HF];rfl,O.out.trans (ar.mono O.size)⟩
   |true =>
    go_wp2;go_roundw
    case rel=>exact⟨k+1,oM,by go_num,ar,ac rfl⟩
    case measure=>exact mS
theorem a7i (g:Grp) (c:EtC) (A:Option Addr) (n kc:Nat) (hg:g.At w w) (hx:(⟨c,A,n,kc⟩:Etr).At w w) :
  Calls prog 58 #[g,.agg (TE c A n kc)] w (FinePost (Jr.fine g c) w):=by
 obtain⟨W1,b8,E,ba,bb,hz⟩:=nw2 w g (TE c A n kc) 29 46;obtain⟨HW,bg,bz,bq⟩:=Z4 b8 (hg.at_ E) (hx.at_ E) hg.hel;have c7:=hg.hen;have al:Hid (c.lines.length=n):=hx.hl;have bx:n<=60:=by have h1:c.lines.length<=60:=hx.hw.hln;have h2:c.lines.length=n:=hx.hl;omega
 have hA:Hid (LinsAt W1 W1 A c.lines):=RowsAt.at_ hx.hA E;have s1:w.heap.size<W1.heap.size:=oM;have c1:w.heap.size+1<W1.heap.size:=oM;have b0:=Z1 ba;have b1:=Z1 bb;have bo:Hid (∀l∈c.lines,l.wf):=hx.hw.hlw;have aa:=Z1 (a7c W1 g c A n kc bg.out bz.out);clear b8 hz ba bb hg hx;go_enter func58,ntmps58;go_upto_region 1 with(fail);rw[<- HW.out];have a7:W1.rangeAt w.heap.size 0 g:=Xq b0.out;have X:=b1.out;go_wp2_with (first|(refine Vv (by rfl) 29 (.tmp 2) rfl w.heap.size 0 rfl _ _ a7 VS rfl VJ ?_)|(refine Vd rfl 46 _ rfl _ rfl _ _ _ _ X X0 rfl a0v ?_));refine aa.out.mono ?_;rintro ev W2 ⟨rfl,b7⟩;clear a7 X;have ay:=Z1 (E.trans (b7.mono E.size))
 cases a5:Jr.formed g c with
 |false =>
  have HV:Hid (Jr.fine g c=false):=by show _=_;unfold Jr.fine;rw[a5];rfl
  clear a5;go_wp2;go_ret;exact FinePost.bad HV.out dC ay.out
 |true =>
 have br:=Z1 a5;obtain⟨ae,ke,bi,bj⟩:=Jr.fine_parts a5;have bk:Cal.ok g.Y g.M g.N=true:=by unfold Gr.valid Gr.books at ae;simp only[Vp] at ae;exact ae.1.1.1.1.1.2
 obtain⟨b4,a9,ag⟩:=Z3 bi bj (fun W=>a7f W g.Y g.M g.N c.date bk);obtain⟨dt,ao⟩:=eX (Jr.dated g c);have b2:=Z1 ao;have aj:Hid (∀W,CL 112 #[.agg #[g.Y,g.M,g.N],c.date] W dt):=Z1 (fun W=>by rw[ao];exact ag.out W);clear a5 ae bi bj bk ag ao;go_wp2
 go_loopw [5] (fun i wr=>∃k:Nat,k<=n/\i=.int .i64 k/\Below W1 W1 wr/\(c.lines.take k).all (fun l=>Ch.has (Jr.chartOf g c.ent) l.acct)=true) (fun i _=>n-(intOf i).toNat)
 case atStart=>exact⟨0,Vb _,rfl,b7,rfl⟩
 case round =>
  obtain⟨k,hk,rfl,L,ah⟩:=hrel;have af:=Z1 ah;clear ah;have c2:=E.trans (L.mono E.size);have Q:=gbox b1.out L c1;have O:=gbox b0.out L s1;have e1:=cr9 1 Q;have e2:=cr9 2 Q;have e6:=cr9 6 Q;have g4:=cr9 20 O;have g1:=cr9 1 O;have g2:=cr9 2 O;have g3:=cr9 3 O;simp at e1 e2 e6 g4 g1 g2 g3;rw[b4.out] at e1;have s2:w.heap.size+1<wr.heap.size:=Vq Q;have s3:w.heap.size<wr.heap.size:=Vq O;have bl:=L.size
  by_cases c8:k<n
  case neg =>
   obtain rfl:k=n:=oM;have az:=Z1 Q;clear Q O g4 e1
   have bp:Hid (Jr.charted g c=true):=by
    have:=af.out;rw[Vg (by rw[al.out];exact lR)] at this;exact this
   go_wp2_with (fail);refine(aj.out _).mono ?_;rintro ev W3 ⟨rfl,am⟩;have an:=L.trans (am.mono bl);have a4:=E.trans (an.mono E.size);have f6:=cr9 6 (gbox az.out am s2);simp at f6;have s4:=Vq (gbox az.out am s2);have Hs:=Z1 (a8C W3 A k kc c.lines al.out bx bo.out ((RowsAt.below hA.out an lR).more an.size));clear e2 e6 g1 g2 g3
   cases dt with
   |false =>
    have HV:Hid (Jr.fine g c=false):=by show _=_;unfold Jr.fine;rw[<- b2.out];simp
    go_wp2;go_ret;exact FinePost.bad HV.out dC a4
   |true =>
   obtain⟨tt,ax⟩:=eX (Jr.total c.lines);have b5:=Z1 ax;rw[<- ax] at Hs;clear ax;go_wp2_with (fail);refine Hs.out.mono ?_;rintro ev W4 ⟨rfl,rfl⟩
   by_cases h0:tt=0
   ·have k0:(tt != 0)=false:=by simp[h0]
    have HV:Hid (Jr.fine g c=true):=by show _=_;unfold Jr.fine;rw[br.out,bp.out,<- b2.out,<- b5.out,h0];rfl
    clear h0;go_wp2;go_ret;exact⟨⟨0,rfl,by rw[HV.out];decide⟩,a4⟩
   ·have k0:(tt != 0)=true:=by simp[h0]
    have HV:Hid (Jr.fine g c=false):=by show _=_;unfold Jr.fine;rw[<- b5.out,Vr h0,Yc]
    clear h0;go_wp2;go_ret;exact FinePost.bad HV.out dC a4
  have a6:k<c.lines.length:=by have:=al.out;omega
  obtain⟨b,o,rfl,c4,hr⟩:=LinsAt.three (RowsAt.below hA.out L lR) a6;obtain⟨l,hl⟩:=eX (c.lines[k]);rw[<- hl] at hr;obtain⟨e,he⟩:=eX (g.ents[ke]'a9.out);have ab:=Jr.chartOf_eq b4.out a9.out;rw[<- he] at ab
  have bu:Hid (Ch.has e.chart l.acct=false->Jr.fine g c=false):=fun q=>by
   have h1:=Jr.charted_bad (g:=g) (x:=c) a6 (by rw[ab,<- hl];exact q);unfold Jr.fine;rw[h1];simp
  have bt:Hid (Ch.has e.chart l.acct=true->(c.lines.take (k+1)).all (fun l=>Ch.has (Jr.chartOf g c.ent) l.acct)=true):=fun q=>by
   rw[tse a6,Yp,af.out,<- hl];simp[ab,q]
  have l0:wr.cell? ⟨b,o+k*3,none⟩=some (.int .i64 l.acct):=a2j hr 0 _ rfl;have c6:b<wr.heap.size:=oM;have bh:=Z1 ((bg.out.below L lR).more bl);obtain⟨be,oe,b6,c5,aw⟩:=RowsAt.look bh.out.he a9.out;rw[<- he] at aw;have bv:=Z1 aw;have ak:=Z1 (bh.out.hea e (by rw[he];exact Vm _));rw[b6] at g4;have q2:=a2j bv.out 2 _ rfl;have c3:(ke:Int)<(g.en:Int):=by have:=a9.out;have:=bq.out;omega
  clear hr hl Q O he ab b6 aw e2 g1 g2 g3;go_upto_region 6 with(fail);have s:Below wr wr wr.drew:=Vw bR 1;refine Vs (S:=Below wr wr) kR ?_;change wpAnyH _ _ _ _ _ _ _ _ (World.drew wr);obtain⟨a0,b9⟩:=eX wr.drew;rw[<- b9] at s⊢;clear b9;refine jT 0 s ?_;refine jT 1 s ?_ (v:=.slice (some ⟨be,oe,none⟩) g.en g.ec) (hy:=(.inl ⟨by rfl,fun W' a=>by have c0:=(a.cell (p:=⟨w,20,none⟩) (by show _<_;omega)).trans g4;go_simp⟩));refine jT 2 s ?_;refine jT 3 s ?_ (v:=.int .i64 ke) (hy:=(.inl ⟨by rfl,fun W' a=>by have c0:=(a.cell (p:=⟨w.heap.size+1,1,none⟩) (by show _<_;omega)).trans e1;go_simp⟩));refine jT 4 s ?_;refine jT 5 s ?_;refine jT 6 s ?_ (v:=.slice e.cA e.cn e.cc) (hy:=(.inl ⟨by rfl,fun W' a=>by have c0:=(a.cell (p:=⟨be,oe+ke*5+2,none⟩) (by show _<_;omega)).trans q2;go_simp⟩));refine jT 7 s ?_;refine jT 8 s ?_ (v:=.slice (some ⟨b,o,none⟩) n kc) (hy:=(.inl ⟨by rfl,fun W' a=>by have c0:=(a.cell (p:=⟨w.heap.size+1,6,none⟩) (by show _<_;omega)).trans e6;go_simp⟩));refine jT 9 s ?_;refine jT 10 s ?_;refine jT 11 s ?_;refine jT 12 s ?_ (v:=.int .i64 l.acct) (hy:=(.inl ⟨by rfl,fun W' a=>by have c0:=(a.cell (p:=⟨b,o+k*3,none⟩) (by show _<_;omega)).trans l0;go_simp⟩));have bw:=s.size;refine a0w fun bm ai Q' a' ar au av aq=>?_;obtain⟨RG,ac⟩:=eX (Below wr wr:World->Prop);rw[<- ac] at s⊢
  have n1:∀(m:Nat) (W:World) (I:Bool) (vf:Value) (pf:Nat),2+cond I 0 1<=m->RG W->a0.heap.size<=W.heap.size->Mk a0 W I vf pf #[(),(),(),()] 113->wpAnyH prog bm ai Q' RG m #[true,true,true,true,true,true,true,true,true,true,true,true,true,true,true,true,true,I,false,false] (((((a'.put (some 33) (.tuple #[(Ch.found e.chart l.acct),.bool (Ch.has e.chart l.acct)])).put (some 19) (.tuple #[(Ch.found e.chart l.acct),.bool (Ch.has e.chart l.acct)])).put (some 34) ((Ch.found e.chart l.acct))).put (some 35) (.bool (Ch.has e.chart l.acct))).put (some 6) vf) W:=by
   intro m
   induction m with
   |zero=>intros;omega
   |succ m ih =>
   intro W I vf pf hm s hz Hf;subst ar au av aq ac
   try simp only[z]
   by_cases L:I=true
   rotate_left
   ·refine Xc (rs:=(cond I [] [17]++[])) (by revert L;cases I <;> intro L <;> first|exact absurd dC L|kernel_rfl) (by revert L;cases I <;> decide) (ropt (fun hf=>.cons rfl (fun K T=>?_) .nil) .nil)
    ·subst hf
     obtain⟨W',J,hB,a8,_⟩:=nw1 W #[(),(),(),()] 113;go_simp;rw[<- J];clear J;have a:=s.trans (hB.mono s.size);refine jK T a ?_;clear T K;have hn:=ih W' true (.pointer (some ⟨W,0,none⟩)) W (by simp only[YP,Y6] at hm⊢;omega) a (Vn hz hB.size) (fun _=>⟨rfl,hz,a8⟩) 
     try simp only[z] at hn
     exact hn
   subst L;obtain⟨rfl,gf,hf⟩:=Hf rfl;obtain⟨m,rfl⟩:∃k,m=k+1:=⟨m-1,by simp only[YP] at hm;omega⟩;clear ih hm;obtain⟨q,hq⟩:=eX (Ch.found e.chart l.acct);rw[<- hq];obtain⟨hs,ap⟩:=eX (Ch.has e.chart l.acct);rw[<- ap];have b3:=Z1 ap;clear hq ap;refine rZ 18 fun K T=>?_;rw[Vt (by rfl)];refine VQ 113 _ _ none rfl rfl pf 113 _ q rfl rfl hf rfl a0F oC ?_;have ad:=below_setRow s (Vn (show wr.heap.size<=a0.heap.size from bw) gf) q;refine jK T ad ?_;clear T K;refine rZ 19 fun K T=>?_;go_simp;refine jK T ad ?_;clear T K;refine VF kR ?_ _
   try simp only[z]
   obtain⟨V4,J⟩:=eX (W.setRow pf q);rw[<- J] at ad⊢;clear J s hf hz gf;have bc:=L.trans (ad.mono L.size);clear e1 g4 l0 e6 q2 L
   cases hs with
   |false =>
    have hF:=bu.out b3.out.symm;have HF:=Z1 hF;clear hF;go_wp2;go_ret;exact FinePost.bad HF.out dC (E.trans (bc.mono E.size))
   |true =>
    have bs:=Z1 (bt.out b3.out.symm);go_wp2;go_roundw
    case rel=>exact⟨k+1,oM,by go_num,bc,bs.out⟩
    case measure=>exact mS
  have n0:∀(m:Nat) (W:World) (I:Bool) (vf:Value) (pf:Nat),6+cond I 0 1<=m->RG W->a0.heap.size<=W.heap.size->Mk a0 W I vf pf #[(),(),(),()] 113->wpAnyH prog bm ai Q' RG m #[true,true,true,true,true,true,true,true,true,true,true,true,true,false,false,false,false,I,false,false] (a'.put (some 6) vf) W:=by
   intro m
   induction m with
   |zero=>intros;omega
   |succ m ih =>
   intro W I vf pf hm s hz Hf;subst ar au av aq ac
   try simp only[z]
   refine Xc (rs:=13::(cond I [] [17]++[])) (by cases I <;> kernel_rfl) sP (.cons rfl (fun K T=>?_) (ropt (fun hf=>.cons rfl (fun K T=>?_) .nil) .nil))
   ·clear ih
    have bn:=Z1 (a1u W e.cA e.cn e.cc e.chart l.acct ak.out.hcl ak.out.hcn (RowsAt.at_ ak.out.hc s));go_simp;refine bn.out.mono ?_;rintro r W' ⟨rfl,hB⟩;have a:=s.trans (hB.mono s.size);refine jK T a ?_;clear T K;obtain⟨m,rfl⟩:∃k,m=k+3:=⟨m-3,oM⟩;refine ZP (i:=14) (v:=.tuple #[(Ch.found e.chart l.acct),.bool (Ch.has e.chart l.acct)]) rfl kR (by cases I <;> kernel_rfl) (by cases I <;> kernel_rfl) (fun _ _ _ h=>h) (.inl ⟨by rfl,fun W' a=>by go_simp⟩) a ?_
    try simp only[z]
    refine ZP (i:=15) (v:=(Ch.found e.chart l.acct)) rfl kR (by cases I <;> kernel_rfl) (by cases I <;> kernel_rfl) (fun _ _ _ h=>h) (.inl ⟨by rfl,fun W' a=>by go_simp⟩) a ?_
    try simp only[z]
    refine ZP (i:=16) (v:=.bool (Ch.has e.chart l.acct)) rfl kR (by cases I <;> kernel_rfl) (by cases I <;> kernel_rfl) (fun _ _ _ h=>h) (.inl ⟨by rfl,fun W' a=>by go_simp⟩) a ?_
    try simp only[z]
    have hn:=n1 m W' I vf pf oM a (Vn hz hB.size) (Hf.step hB)
    try simp only[z] at hn
    exact hn
   ·subst hf
    obtain⟨W',J,hB,a8,_⟩:=nw1 W #[(),(),(),()] 113;go_simp;rw[<- J];clear J;have a:=s.trans (hB.mono s.size);refine jK T a ?_;clear T K;have hn:=ih W' true (.pointer (some ⟨W,0,none⟩)) W (by simp only[YP,Y6] at hm⊢;omega) a (Vn hz hB.size) (fun _=>⟨rfl,hz,a8⟩) 
    try simp only[z] at hn
    exact hn
  have hn:=n0 _ a0 false u6 0 lR s lR  (fun h=>nomatch h);subst ar au av aq ac;exact hn
theorem a8E (g:Grp) (B:OA) (m d:Nat) (l:List Etr) (c:EtC) (A:OA) (n kc:Nat) (hg:g.At w w) (hx:(⟨c,A,n,kc⟩:Etr).At w w) (ax:l.length=m) (hm:m<=100) (hB:RowsAt Etr.cells 7 w w B l) (aq:∀y∈l,y.At w w) (aw:∀y∈l,1<=y.c.id) :
  Calls prog 29 #[g,.slice B m d,.agg (TE c A n kc)] w (FinePost (Jr.postOk g (l.map (·.c)) c) w):=by
 obtain⟨W1,ar,X,av,ai,hz⟩:=nw2 w g (TE c A n kc) 29 46;obtain⟨HW,bh,b0,b4,b5,ah,b6⟩:=Z7 ar (hg.at_ X) (hx.at_ X) (RowsAt.at_ hB X) (fun y hy=>(aq y hy).at_ X) ax ai;have s1:(w:Nat)<W1:=oM;have bi:(w:Nat)+1<W1:=oM;have b7:=Z1 (a7i W1 g c A n kc bh.out b0.out);have Q:W1.rangeAt w.heap.size 0 g:=Xq av;have L:=ai;have ao:=Z1 aw
 have HP:Hid (Jr.postOk g (l.map (·.c)) c=(Jr.fine g c&&(Jr.get (l.map (·.c)) c.id).isNone&&(decide (c.kind≠3)||Jr.revOk (l.map (·.c)) c))):=by
  show _=_;unfold Jr.postOk;rw[VT (show(l.map (·.c)).length<2000 by rw[Xt];omega),Qn]
 have b3:=Z1 X;have bm:¬ (m:Int) ≥ 2000:=oM;clear ar hz av ai hg hx ax hB aq aw X;go_enter func29,ntmps29;go_upto_region 1 with(fail);rw[<- HW];go_wp2_with (first|(refine Vv (by rfl) 29 (.tmp 3) rfl w.heap.size 0 rfl _ _ Q VS rfl VJ ?_)|(refine Vd rfl 46 _ rfl _ rfl _ _ _ _ L X0 rfl a0v ?_));refine b7.mono ?_;rintro ev W2 ⟨⟨e0,rfl,ae⟩,O⟩;have s:=bT b3 O
 by_cases a8:e0=0
 case neg =>
  have k0:(e0 != 0):=by simp[a8]
  have b8:=Z1 a8
  have I:Hid (Jr.postOk g (l.map (·.c)) c=false):=by
   show _=_;rw[HP]
   cases hf:Jr.fine g c with
   |false=>rfl
   |true=>exact absurd (ae.2 hf) a8
  clear a8 ae Q L O;go_wp2;go_ret;exact FinePost.bad I b8 s
 subst a8;have Hf:Hid (Jr.fine g c):=ae.1 rfl;clear ae;have a7:=Z1 (RowsAt.at_ b4 O);have J:=gbox b6 O bi;have ad:=Z1 (b0.out.at_ O);have ak:=Z1 (fun y hy=>(b5 y hy).at_ O);have z0:=cr9 0 J;have z1:=cr9 1 J;have z2:=cr9 2 J;have z3:=cr9 3 J;have z4:=cr9 4 J;have z6:=cr9 6 J;simp at z0 z1 z2 z3 z4 z6;have s2:=Vq J;have bj:=Z1 J;have af:=Z1 (fun id=>b1S W2 B m d l id ah oM a7);clear Q L O J;go_wp2_with (fail);refine(af c.id).mono ?_;rintro ev W3 ⟨⟨i,rfl,hi⟩,rfl⟩
 rcases hi with⟨a9,rfl⟩|⟨k,hk,rfl,aa⟩
 rotate_left
 ·have I:Hid (Jr.postOk g (l.map (·.c)) c=false):=by show _=_;rw[HP,aa];simp
  have k0:(k:Int) ≥ 0:=oM;clear aa;go_wp2;go_ret;exact FinePost.bad I dC s
 have al:Hid (Jr.postOk g (l.map (·.c)) c=(decide (c.kind≠3)||Jr.revOk (l.map (·.c)) c)):=by show _=_;rw[HP,Hf,a9];rfl
 clear a9
 by_cases a4:c.kind=3
 case neg =>
  have k1:(c.kind==3)=false:=by simp[a4]
  have I:Hid (Jr.postOk g (l.map (·.c)) c):=by show _=_;rw[al,VT a4];rfl
  clear a4;go_wp2;go_ret;exact FinePost.good I s
 have k1:(c.kind==3):=by simp[a4]
 have am:Hid (Jr.postOk g (l.map (·.c)) c=Jr.revOk (l.map (·.c)) c):=by show _=_;rw[al,Vr (by simp[a4])];rfl
 clear a4;go_wp2_with (fail);refine(af c.of_).mono ?_;rintro ev W3 ⟨⟨i,rfl,hi⟩,rfl⟩
 rcases hi with⟨a9,rfl⟩|⟨k,hk,rfl,aa⟩
 ·have I:Hid (Jr.postOk g (l.map (·.c)) c=false):=by show _=_;rw[am];unfold Jr.revOk;rw[a9]
  clear a9;go_wp2;go_ret;exact FinePost.bad I dC s
 have ac:Hid (Jr.postOk g (l.map (·.c)) c=(!Jr.revd (l.map (·.c)) c.of_&&decide (l[k].c.kind≠3)&&decide (l[k].c.ent=c.ent)&&decide (l[k].c.date<=c.date)&&Jr.opposite c.lines l[k].c.lines)):=by
  show _=_;rw[am];unfold Jr.revOk;rw[aa]
 clear aa;obtain⟨b,o,rfl,bg,c0⟩:=EtrsAt.seven a7 hk;obtain⟨y,hy⟩:=eX (l[k]);have a5:=ak.out y (by rw[hy];exact Vm _);rw[<- hy] at c0 ac;have bb:=Z1 a5;have p1:=c0 1 _ rfl;have p2:=c0 2 _ rfl;have p3:=c0 3 _ rfl;have p6:=c0 6 _ rfl;have bk:b<W2:=bg;have bl:(k:Int)<(m:Int):=by have:=ah.out;omega
 have k0:¬ (k:Int)<0:=oM;have ba:=Z1 (a8D W2 (some ⟨b,o,none⟩) m d l c.of_ ah oM a7);have b9:=Z1 (fun(W:World) (h1:LinsAt W W A c.lines) (h2:LinsAt W W y.lA y.c.lines)=>a9U W A y.lA n kc y.ln y.lc c.lines y.c.lines (show c.lines.length=n from ad.hl) (by have h1:c.lines.length<=60:=ad.hw.hln;have h2:c.lines.length=n:=ad.hl;omega) a5.hl (by have h1:y.c.lines.length<=60:=a5.hw.hln;have h2:=a5.hl;omega) (fun z hz=>a5.hw.hlw z hz) h1 h2);have b2:Hid (LinsAt W2 W2 A c.lines):=ad.hA;clear hy a5 c0 z0
 by_cases a6:y.c.kind=3
 ·have k2:(y.c.kind==3):=by simp[a6]
  have I:Hid (Jr.postOk g (l.map (·.c)) c=false):=by show _=_;rw[ac,Vr (show¬ y.c.kind≠3 by simp[a6])];simp
  clear a6;go_wp2;go_ret;exact FinePost.bad I dC s
 have k2:(y.c.kind==3)=false:=by simp[a6]
 have bc:=Z1 a6;clear a6;go_upto_region 10 with(fail);go_wp2_with (fail);refine ba.mono ?_;rintro ev W3 ⟨⟨r,rfl,hr⟩,rfl⟩
 rcases hr with⟨rfl,ab⟩|⟨ab,y2,b1,rfl⟩
 rotate_left
 ·have ay:y2.c.id≠0:=by have:=ao.out y2 b1;omega
  have k3:(y2.c.id != 0):=by simp[ay]
  have I:Hid (Jr.postOk g (l.map (·.c)) c=false):=by show _=_;rw[ac,ab];rfl
  clear ay ab b1;go_wp2;go_ret;exact FinePost.bad I dC s
 have ag:Hid (Jr.postOk g (l.map (·.c)) c=(decide (y.c.ent=c.ent)&&decide (y.c.date<=c.date)&&Jr.opposite c.lines y.c.lines)):=by show _=_;rw[ac,ab,VT bc.out];rfl
 clear ab;go_upto_region 12 with(fail)
 by_cases T:y.c.ent=c.ent
 case neg =>
  have k3:(y.c.ent != c.ent):=by simp[T]
  have I:Hid (Jr.postOk g (l.map (·.c)) c=false):=by show _=_;rw[ag,Vr T];rfl
  clear T;go_quiet (fail);go_wp2;go_ret;exact FinePost.bad I dC (s.out.trans ((Vw bR _).mono s.size))
 have k3:(y.c.ent != c.ent)=false:=by simp[T]
 by_cases bn:y.c.date > c.date
 ·have I:Hid (Jr.postOk g (l.map (·.c)) c=false):=by show _=_;rw[ag,Vr (show¬ y.c.date<=c.date by omega)];simp
  clear T;go_quiet (fail);go_wp2;go_ret;exact FinePost.bad I dC (s.out.trans ((Vw bR _).mono s.size))
 have an:Hid (Jr.postOk g (l.map (·.c)) c=Jr.opposite c.lines y.c.lines):=by show _=_;rw[ag,VT T,VT (show y.c.date<=c.date by omega)];rfl
 clear T;have a:Below W2 W2 W2.drew:=Vw bR 1;refine Vs (S:=Below W2 W2) kR ?_;change wpAnyH _ _ _ _ _ _ _ _ (World.drew W2);obtain⟨be,au⟩:=eX W2.drew;rw[<- au] at a⊢;clear au;refine jT 0 a ?_;refine jT 1 a ?_;refine jT 2 a ?_;refine jT 3 a ?_;refine jT 4 a ?_ (v:=.int .i64 y.c.ent) (hy:=(.inl ⟨by rfl,fun W' E=>by have c0:=(E.cell (p:=⟨b,o+k*7+1,none⟩) (by show _<_;omega)).trans p1;go_simp⟩));refine jT 5 a ?_;refine jT 6 a ?_ (v:=.int .i64 c.ent) (hy:=(.inl ⟨by rfl,fun W' E=>by have c0:=(E.cell (p:=⟨w+1,1,none⟩) (by show _<_;omega)).trans z1;go_simp⟩));refine jT 7 a ?_ (v:=.bool false);refine jT 8 a ?_ (v:=.bool false);refine jT 9 a ?_;refine jT 10 a ?_;refine jT 11 a ?_;refine jT 12 a ?_;refine jT 13 a ?_ (v:=.int .i64 y.c.date) (hy:=(.inl ⟨by rfl,fun W' E=>by have c0:=(E.cell (p:=⟨b,o+k*7+2,none⟩) (by show _<_;omega)).trans p2;go_simp⟩));refine jT 14 a ?_;refine jT 15 a ?_ (v:=.int .i64 c.date) (hy:=(.inl ⟨by rfl,fun W' E=>by have c0:=(E.cell (p:=⟨w+1,2,none⟩) (by show _<_;omega)).trans z2;go_simp⟩));refine jT 16 a ?_ (v:=.bool false);refine jT 17 a ?_ (v:=.bool false);refine jT 18 a ?_ (v:=.bool false);refine jT 19 a ?_;refine jT 20 a ?_ (v:=.slice A n kc) (hy:=(.inl ⟨by rfl,fun W' E=>by have c0:=(E.cell (p:=⟨w+1,6,none⟩) (by show _<_;omega)).trans z6;go_simp⟩));refine jT 21 a ?_;refine jT 22 a ?_;refine jT 23 a ?_;refine jT 24 a ?_;refine jT 25 a ?_ (v:=.slice y.lA y.ln y.lc) (hy:=(.inl ⟨by rfl,fun W' E=>by have c0:=(E.cell (p:=⟨b,o+k*7+6,none⟩) (by show _<_;omega)).trans p6;go_simp⟩));refine rZ 26 fun K hK=>?_;have HC:=Z1 (b9 be (RowsAt.at_ b2 a) (RowsAt.at_ bb.hA a));go_simp;refine HC.mono ?_;rintro ev W4 ⟨⟨ov,rfl,az⟩,bf⟩;have ap:=Z1 az;clear az;have a0:=a.trans (bf.mono a.size);refine jK hK a0 ?_;clear hK K;refine rZ 27 fun K hK=>?_;go_simp;refine jK hK a0 ?_;clear hK K;refine rZ 28 fun K hK=>?_;go_simp;refine jK hK a0 ?_;clear hK K;refine rZ 29 fun K hK=>?_;go_simp;refine jK hK a0 ?_;clear hK K;refine VF kR ?_ _
 try simp only[z]
 have aj:=bT s a0;clear a a0 z1 z2 z3 z4 z6 p1 p2 p3 p6
 cases ov with
 |true =>
  have I:Hid (Jr.postOk g (l.map (·.c)) c):=by show _=_;rw[an];exact ap.1 rfl
  go_wp2;go_ret;exact FinePost.good I aj
 |false =>
  have I:Hid (Jr.postOk g (l.map (·.c)) c=false):=by
   show _=_;rw[an]
   cases hq:Jr.opposite c.lines y.c.lines with
   |false=>rfl
   |true=>exact absurd (ap.2 hq) dC
  go_wp2;go_ret;exact FinePost.bad I dC aj
theorem a8F {α:Type} {f:α->List Value} {sz:Nat} {w:World} {B:Nat} {A:OA} {l:List α} (h:RowsAt f sz w B A l) (k:Nat):RowsAt f sz w B A (l.take k):=by
 rcases h with h|⟨b,o,e,E,i⟩
 ·exact .inl (by rw[h];simp)
 ·refine .inr ⟨b,o,e,E,fun j s=>?_⟩
  have a:j<l.length:=by rw[XF] at s;omega
  have:=i j a;rw[List.getElem_take];exact this
theorem Jr.post_id {g:Grp} {p:List EtC} {x:EtC} (h:Jr.postOk g p x):1<=x.id:=by
 unfold Jr.postOk Jr.fine Jr.formed Jr.shape at h;simp only[Vp,Xm] at h;exact h.1.1.1.1.1.1.1.1.1.2.1
theorem a5o (g:Grp) (B:OA) (m d:Nat) (l:List Etr) (hg:g.At w w) (ap:l.length=m) (hm:m<=100) (b8:m<=d) (hB:RowsAt Etr.cells 7 w w B l) (aj:∀y∈l,y.At w w) :
  Calls prog 14 #[g,.slice B m d] w (JPost (Jr.ok g (l.map (·.c))) w):=by
 obtain⟨W1,ak,E,ac,hz⟩:=nw1 w g 29;obtain⟨HW,an,ae,af,ai⟩:=Z5 ak (hg.at_ E) (RowsAt.at_ hB E) (fun y hy=>(aj y hy).at_ E) ap
 have b0:Hid (Gr.valid g->(∀k (h:k<l.length),Jr.postOk g ((l.take k).map (·.c)) (l[k]'h).c)->Jr.ok g (l.map (·.c))):=fun h1 h2=>by
  unfold Jr.ok;rw[h1,Y7,Xb];intro i hi;rw[XK,Xt] at hi;have:=h2 i hi;rw[<- Qt];simpa[hi] using this
 have au:=Z1 ac;have O:=Z1 E;have s1:(w:Nat)<W1:=oM;have I:W1.rangeAt w.heap.size 0 g:=Xq ac;have ay:=Z1 (a7Z W1 g an.out);clear ak hz ac hg ap hB aj E;go_enter func14,ntmps14;go_upto_region 1 with(fail);rw[<- HW];go_wp2_with (refine Vv (by rfl) 29 (.tmp 2) rfl w.heap.size 0 rfl _ _ I VS rfl VJ ?_);refine ay.mono ?_;rintro ev W2 ⟨rfl,aa⟩;clear I
 cases X:Gr.valid g with
 |false =>
  have HV:Hid (Jr.ok g (l.map (·.c))=false):=by show _=_;unfold Jr.ok;rw[X];rfl
  have a8:=bT O aa;clear X aa;go_wp2
  go_ret2
  exact⟨⟨_,_,rfl,by rw[HV];decide⟩,a8⟩
 |true =>
 have az:=Z1 X;clear X;go_wp2
 go_loopw [6] (fun i wr=>∃k:Nat,k<=m/\i=k/\Below W1 W1 wr/\∀j,j<k->∀(h:j<l.length),Jr.postOk g ((l.take j).map (·.c)) (l[j]'h).c) (fun i _=>m-(intOf i).toNat)
 case atStart=>exact⟨0,Vb _,rfl,aa,fun j hj=>absurd hj (QY j)⟩
 case round =>
  obtain⟨k,hk,rfl,T,a6⟩:=hrel;have s:=Z1 a6;clear a6;have b3:=O.out.trans (T.mono O.size);have L:=T.size
  by_cases b7:k<m
  case neg =>
   obtain rfl:k=m:=oM;have HV:Hid (Jr.ok g (l.map (·.c))):=b0 az (fun j hj=>s j (by have:=ai.out;omega) hj);go_wp2
   go_ret2
   exact⟨⟨_,_,rfl,by rw[HV];decide⟩,b3⟩
  have ao:k<l.length:=by have:=ai.out;omega
  obtain⟨b,o,rfl,b4,c0⟩:=EtrsAt.seven (RowsAt.below ae T lR) ao;have J:RowsAt Etr.cells 7 wr wr (some ⟨b,o,none⟩) (l.take k):=a8F (RowsAt.more (RowsAt.below ae T lR) L) k;obtain⟨x,hx⟩:=eX (l[k]);rw[<- hx] at c0;obtain⟨po,a0⟩:=eX (Jr.postOk g ((l.take k).map (·.c)) x.c)
  have ag:Hid (po=false->Jr.ok g (l.map (·.c))=false):=fun e=>by
   refine Jr.ok_bad (k:=k) (by rw[Xt];exact ao) ?_;rw[<- Qt];simp only[Zw];rw[<- hx,<- a0];exact e
  have ax:Hid (po->∀j,j<k+1->∀(h:j<l.length),Jr.postOk g ((l.take j).map (·.c)) (l[j]'h).c):=fun e j hj h=>by
   by_cases q:j=k
   ·subst q;rw[<- hx,<- a0];exact e
   ·exact s j oM h
  have a7:∀y∈l.take k,1<=y.c.id:=fun y hy=>by
   rw[XT] at hy;obtain⟨i,hi,rfl⟩:=hy;exact Jr.post_id (s i oM oM)
  have ar:x.At wr wr.heap.size:=((af x (by rw[hx];exact Vm _)).below T lR).more L;have aq:∀y∈l.take k,y.At wr wr.heap.size:=fun y hy=>((af y (ZV hy)).below T lR).more L;obtain⟨⟨id,ent,dt,kd,a4,tx,ls⟩,lA,ln,lc⟩:=x
  have a9:Hid (∀(W:World),Below wr wr W->Calls prog 29 #[g,.slice (some ⟨b,o,none⟩) k d,.agg #[id,ent,dt,kd,a4,.string tx,.slice lA ln lc]] W (FinePost po W)):=fun W a=>by
   rw[a0];exact a8E W g (some ⟨b,o,none⟩) k d (l.take k) ⟨id,ent,dt,kd,a4,tx,ls⟩ lA ln lc (((an.out.below T lR).more L).at_ a) (ar.at_ a) (by rw[XF];omega) oM (RowsAt.at_ J a) (fun y hy=>(aq y hy).at_ a) a7
  have av:=Z1 c0;have a5:=gB au T s1;have s2:=Vq a5;have b5:b<wr:=oM;have b6:(k:Int)<=(d:Int):=oM;clear J hx a0 ar aq a7 c0;go_upto_region 6 with(fail);have a:Below wr wr wr.drew:=Vw bR 1;refine Vs (S:=Below wr wr) kR ?_;change wpAnyH _ _ _ _ _ _ _ _ (World.drew wr);obtain⟨b1,al⟩:=eX wr.drew;rw[<- al] at a⊢;clear al;refine jT 0 a ?_ (v:=g) (hy:=(Vf (by rfl) 29 _ rfl w.heap.size 0 rfl g _ (fun W' ab=>Xq (gbox a5 ab s2)) VS rfl VJ));refine jT 1 a ?_;refine jT 2 a ?_;refine jT 3 a ?_;refine jT 4 a ?_;refine jT 5 a ?_;refine jT 6 a ?_;refine jT 7 a ?_ (v:=.agg #[id,ent,dt,kd,a4,.string tx,.slice lA ln lc]) (hy:=(Vf (by rfl) 46 _ rfl b (o+k*7) rfl [id,ent,dt,kd,a4,.string tx,.slice lA ln lc] _ (fun W' ab=>fun j v hj=>(ab.cell (p:=⟨b,o+k*7+j,none⟩) (by show _<_;omega)).trans (av j v hj)) X0 rfl a0v));refine rZ 8 fun K hK=>?_;have HC:=Z1 (a9 b1 a);go_simp;refine HC.mono ?_;rintro ev W4 ⟨⟨e0,rfl,am⟩,b2⟩;have ah:=Z1 am;clear am;have Q:=a.trans (b2.mono a.size);refine jK hK Q ?_;clear hK K;refine rZ 9 fun K hK=>?_;go_simp;refine jK hK Q ?_;clear hK K;refine VF kR ?_ _
  try simp only[z]
  have ad:=T.trans (Q.mono L);clear a Q
  by_cases hz:e0=0
  ·have k0:(e0 != 0)=false:=by simp[hz]
   have aw:=Z1 (ax (ah.1 hz));clear hz;go_wp2;go_roundw
   case rel=>exact⟨k+1,oM,by go_num,ad,aw⟩
   case measure=>exact mS
  ·have k0:(e0 != 0):=by simp[hz]
   have Hz:=Z1 hz;have HF:Hid (Jr.ok g (l.map (·.c))=false):=ag (by cases po with|false=>rfl|true=>exact absurd (ah.2 rfl) hz);have a8:=bT O ad;clear hz ad;go_wp2
   go_ret2
   exact⟨⟨_,_,rfl,by rw[HF];simp[Hz.out]⟩,a8⟩
theorem a2G (g:Grp) (B:OA) (m d:Nat) (l:List Etr) (X:g.At w w) (L:l.length=m) (hm:m<=100) (T:m<=d) (W:RowsAt Etr.cells 7 w w B l) (s:∀y∈l,y.At w w) :
  CL 6 #[g,.slice B m d] w (.bool (Jr.ok g (l.map (·.c)))):=by
 obtain⟨W1,E,a,I,hz⟩:=nw1 w g 29;have HW:=Z1 E;have O:=Z1 a;have o:W1.rangeAt w.heap.size 0 g:=Xq I;have s1:(w:Nat)<W1:=oM;have Hc:=Z1 (a5o W1 g B m d l (X.at_ a) L hm T (RowsAt.at_ W a) (fun y hy=>(s y hy).at_ a));clear E hz I X L W s a;go_enter func6,ntmps6;go_upto_region 1 with(fail);rw[<- HW];go_wp2_with (refine Vv (by rfl) 29 (.tmp 2) rfl w.heap.size 0 rfl _ _ o VS rfl VJ ?_);refine Hc.mono ?_;rintro ev W2 ⟨⟨i,e0,rfl,J⟩,S⟩;have Q:=Z1 J;clear o J
 have HV:Hid ((e0==0)=Jr.ok g (l.map (·.c))):=by
  show _=_;rw[XX,QL];exact Q
 go_wp2;go_ret;exact⟨by rw[HV];rfl,O.out.trans (S.mono oM)⟩
end Go.Proofs.YtbhdekahdnenjaaGreatDoor
