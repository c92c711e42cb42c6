/- Lemmas. -/
import Derived.Laws.IdiomCopy
import Derived.Test.YtbhdekahdnenjaaGreatDoorG17
import Derived.Test.YtbhdekahdnenjaaGreatDoorG39
set_option linter.unusedVariables false
set_option linter.unusedSimpArgs false
set_option maxRecDepth 100000
set_option maxHeartbeats 16000000
namespace Go.Proofs.YtbhdekahdnenjaaGreatDoor
namespace Hd
def Top (L:List Hld) (d:Int) (s:Option (Int × Int)):Prop :=
 (s=none/\∀x∈L,¬ x.date<=d)∨∃x∈L,x.date<=d/\s=some (x.shr,x.date)/\∀y∈L,y.date<=d->y.date<=x.date
theorem b3M {P:List Hld} {d:Int} {s:Option (Int × Int)} (h:Top P d s) (x:Hld):Top (P++[x]) d (see d s x):=by
 by_cases o:x.date<=d
 ·rcases h with⟨rfl,h⟩|⟨y,J,E,rfl,I⟩
  ·right
   refine⟨x,sP,o,by simp[see,later,o],fun z a i=>?_⟩
   rcases V9.1 a with a|a
   ·exact absurd i (h z a)
   ·obtain rfl:z=x:=by simpa using a
    exact J7 _
  ·by_cases L:y.date<x.date
   ·right
    refine⟨x,sP,o,by simp[see,later,o,L],fun z a i=>?_⟩
    rcases V9.1 a with a|a
    ·have:=I z a i;omega
    ·obtain rfl:z=x:=by simpa using a
     exact J7 _
   ·right
    refine⟨y,by simp[J],E,by simp[see,later,L],fun z a i=>?_⟩
    rcases V9.1 a with a|a
    ·exact I z a i
    ·obtain rfl:z=x:=by simpa using a
     omega
 ·have O:see d s x=s:=by simp[see,o]
  rw[O]
  rcases h with⟨rfl,h⟩|⟨y,J,E,rfl,I⟩
  ·left
   refine⟨rfl,fun z a=>?_⟩
   rcases V9.1 a with a|a
   ·exact h z a
   ·obtain rfl:z=x:=by simpa using a
    exact o
  ·right
   refine⟨y,by simp[J],E,rfl,fun z a i=>?_⟩
   rcases V9.1 a with a|a
   ·exact I z a i
   ·obtain rfl:z=x:=by simpa using a
    exact absurd i o
theorem a7H (d:Int):∀(L P:List Hld) (s:Option (Int × Int)),Top P d s->Top (P++L) d (L.foldl (see d) s)
 |[],P,s,h=>by simpa using h
 |x::L,P,s,h=>by
  have:=a7H d L (P++[x]) (see d s x) (b3M h x);simpa using this
theorem b1y {L L':List Hld} {d:Int} {s S:Option (Int × Int)} (i:∀x,x∈L' ↔ x∈L) (T:∀x∈L,∀y∈L,x.date=y.date->x.shr=y.shr) (h:Top L d s) (E:Top L' d S):S=s:=by
 rcases h with⟨rfl,h⟩|⟨x,J,o,rfl,O⟩
 ·rcases E with⟨rfl,_⟩|⟨y,I,a,_,_⟩
  ·rfl
  ·exact absurd a (h y ((i y).1 I))
 ·rcases E with⟨_,E⟩|⟨y,I,a,rfl,Q⟩
  ·exact absurd o (E x ((i x).2 J))
  ·have W:=O y ((i y).1 I) a
   have X:=Q x ((i x).2 J) o;have e:x.date=y.date:=oM;rw[T x J y ((i y).1 I) e,e]
def One (l:List Hld):Prop:=∀x∈l,∀y∈l,x.hdr=y.hdr->x.ent=y.ent->x.date=y.date->x.shr=y.shr
theorem a5e {l i:List Hld} (O:∀x,x∈i ↔ x∈l) (J:One l) (h e d:Int):at_ i h e d=at_ l h e d:=by
 have s:∀L:List Hld,Top (L.filter (pair h e)) d ((L.filter (pair h e)).foldl (see d) none):=fun L=>by
  have:=a7H d (L.filter (pair h e)) [] none (.inl ⟨rfl,fun x o=>by cases o⟩);simpa using this
 have Q:=b1y (L:=l.filter (pair h e)) (L':=i.filter (pair h e)) (d:=d) (fun x=>by simp only[Yw,O]) (fun x o y S I=>by
  obtain⟨a1,a2⟩:=Yw.1 o;obtain⟨E,a⟩:=Yw.1 S;unfold pair at a2 a;simp only[Vp,Xm] at a2 a;exact J x a1 y E (a2.1.trans a.1.symm) (a2.2.trans a.2.symm) I) (s l) (s i)
 unfold at_ last;rw[Q]
theorem a6l {l o:LI} (s:∀x,x∈o ↔ x∈l):(keys o).Perm (keys l):=by
 have i:∀(m:LI) (a:Int),(keys m).count a=if a∈m then 1 else 0:=fun m a=>by
  by_cases h:a∈m
  ·rw[Vt h]
   have E:=List.count_pos_iff.2 (mem_keys.2 h);have I:=List.nodup_iff_count.1 (nodup_keys m) a;omega
  ·rw[VB h]
   exact List.count_eq_zero.2 (fun q=>h (mem_keys.1 q))
 refine List.perm_iff_count.2 (fun a=>?_);rw[i,i];simp only[s]
theorem a9w {l o:List Hld} (a:∀x,x∈o ↔ x∈l) (E:One l) (e d:Int):total o e d=total l e d:=by
 unfold total;have s:∀h,at_ o h e d=at_ l h e d:=fun h=>a5e a E h e d;simp only[s];refine sum_perm (List.Perm.map _ (a6l fun x=>?_));simp only[Yg];exact⟨fun⟨y,i,e⟩=>⟨y,(a y).1 i,e⟩,fun⟨y,i,e⟩=>⟨y,(a y).2 i,e⟩⟩
theorem dates_mem {l s:List Hld} (J:∀x,x∈s ↔ x∈l):dates s=dates l:=by
 have O:(keys (s.map (·.date))).Perm (keys (l.map (·.date))):=a6l fun x=>by
  simp only[Yg];exact⟨fun⟨y,o,e⟩=>⟨y,(J y).1 o,e⟩,fun⟨y,o,e⟩=>⟨y,(J y).2 o,e⟩⟩
 unfold dates
 have L:∀a b c:Int,decide (a<=b)->decide (b<=c)->decide (a<=c):=fun a b c E I=>by
  simp only[Xm] at *;omega
 have i:∀a b:Int,(decide (a<=b)||decide (b<=a)):=fun a b=>by
  simp only[QK,Xm];omega
 refine JT (le:=fun x y=>decide (x<=y)) ?_ (ZJ L i _) (ZJ L i _) ((Zs _ _).trans (O.trans (Zs _ _).symm));intro a b _ _ E I;simp only[Xm] at E I;omega
theorem a5W (x y:Hld):same x y=same y x:=by
 unfold same
 congr 1
 ·congr 1
  ·exact decide_eq_decide.2 ⟨Eq.symm,Eq.symm⟩
  ·exact decide_eq_decide.2 ⟨Eq.symm,Eq.symm⟩
 ·exact decide_eq_decide.2 ⟨Eq.symm,Eq.symm⟩
theorem b0K {l:List Hld} {i:Nat} (a:i<l.length):hat l i=l[i]:=by unfold hat;simp[a]
theorem a3B (n:Int) (l:List Hld):(List.range l.length).all (keyAt n l) ↔ (∀x∈l,proper n x)/\l.Pairwise (fun x y=>same x y=false):=by
 simp only[Xb,XK]
 constructor
 ·intro h
  refine⟨fun x L=>?_,YN.2 fun i j a o I=>?_⟩
  ·obtain⟨i,a,rfl⟩:=XD L
   have:=h i a;unfold keyAt at this;rw[b0K a] at this;simp only[Vp] at this;exact this.1
  ·have:=h j o
   unfold keyAt at this;rw[b0K o] at this;simp only[Vp,J9,Z9] at this;have J:l[i]∈l.take j:=XT.2 ⟨i,oM,rfl⟩;simpa using this.2 _ J
 ·rintro⟨s,E⟩ i a
  unfold keyAt;rw[b0K a];simp only[Vp,J9,Z9];refine⟨s _ (Vm a),fun y O=>?_⟩;obtain⟨k,Q,rfl⟩:=XT.1 O;have:=YN.1 E k i oM a oM;simp[this]
theorem valid_one {n:Nat} {l:List Hld} (h:valid n l):One l:=by
 unfold valid at h;simp only[Vp] at h;have o:=((a3B n l).1 h.1.2).2;intro x Q y S J L O;obtain⟨i,s,rfl⟩:=XD Q;obtain⟨j,E,rfl⟩:=XD S;have I:same l[i] l[j]:=by unfold same;simp[J,L,O]
 rcases Kz i j with a|rfl|a
 ·have:=YN.1 o i j s E a
  rw[I] at this;cases this
 ·rfl
 ·have:=YN.1 o j i E s a
  rw[a5W,I] at this;cases this
theorem a5I {n:Nat} {l:List Hld} (h:valid n l):valid n l.reverse:=by
 have E:=valid_one h;unfold valid at h⊢;simp only[Vp] at h⊢;obtain⟨⟨⟨a,b⟩,c⟩,d⟩:=h;have i:∀x,x∈l.reverse ↔ x∈l:=fun x=>JH;refine⟨⟨⟨a,by simpa using b⟩,(a3B n l.reverse).2 ⟨fun x o=>((a3B n l).1 c).1 x ((i x).1 o),?_⟩⟩,?_⟩
 ·refine List.pairwise_reverse.2 (((a3B n l).1 c).2.imp fun h=>?_)
  rw[a5W];exact h
 ·rw[dates_mem i]
  simp only[Xb] at d⊢;intro x o;have:=d x o;unfold most at this⊢;simp only[Xb,XK,Xm] at this⊢;intro e s;rw[a9w i E];exact this e s
theorem valid_reverse (n:Nat) (l:List Hld):valid n l.reverse=valid n l:=by
 cases h:valid n l with
 |true=>exact a5I h
 |false =>
  cases a:valid n l.reverse with
  |false=>rfl
  |true =>
   have:=a5I a;rw[KY,h] at this
   cases this
theorem matrix_mem {l a:List Hld} (o:∀x,x∈a ↔ x∈l) (i:One l) (n:Nat) (d:Int):matrix n a d=matrix n l d:=by
 unfold matrix;simp only[a5e o i]
end Hd
namespace Ct
theorem b2t {l a:List Hld} (o:∀x,x∈a ↔ x∈l) (i:Hd.One l) (g:Grp) (e:Nat) (d:Int):meth g a e d=meth g l e d:=by
 unfold meth;rw[Hd.matrix_mem o i]
theorem intervals_mem {l i:List Hld} (a:∀x,x∈i ↔ x∈l) (o:Hd.One l) (g:Grp) (e:Nat):intervals g i e=intervals g l e:=by
 unfold intervals days;rw[Hd.dates_mem a];simp only[b2t a o]
end Ct
namespace Rates
theorem a5d (l m:List Rt) (c:BA):∀(k:Nat) (d:Int),(∀j:Nat,j<k->find l c 1 (d-j)=find m c 1 (d-j))->back l c d k=back m c d k
 |0,_,_=>rfl
 |k+1,d,h=>by
  have a:=h 0 oM;simp only[Int.natCast_zero,QZ] at a;unfold back
  rw[a,a5d l m c k (d-1) (fun j i=>by
   have:=h (j+1) oM
   rwa [show d-1-(j:Int)=d-((j+1:Nat):Int) by omega])]
theorem a6R (l m:List Rt) (c:BA) (d:Int) (h:∀x,d-40<=x->x<=d->find l c 1 x=find m c 1 x):which l c d=which m c d:=by
 rw[a2D,a2D];exact a5d l m c 41 d fun j a=>h _ oM oM
theorem a4i (l m:List Rt) (c:BA) (a:Int):∀(k:Nat),(∀j:Nat,j<k->find l c 1 (a+j)=find m c 1 (a+j))->daily l c a k=daily m c a k
 |0,_=>rfl
 |k+1,h=>by
  unfold daily;rw[h k oM,a4i l m c a k (fun j i=>h j oM)]
theorem a9o (l m:List Rt) (c:BA) (a b:Int) (h:∀x,a<=x->x<=b->find l c 1 x=find m c 1 x):days l c a b=days m c a b :=
 a4i l m c a _ fun j i=>h _ oM oM
theorem a5F (g:BA) (l m:List Rt) (cur:BA) (d:Int) (hv:valid g l=valid g m) (h:valid g l->∀x,d-40<=x->x<=d->find l cur 1 x=find m cur 1 x):whichR g l cur d=whichR g m cur d:=by
 unfold whichR errQ;rw[hv]
 by_cases a:valid g m
 ·rw[a6R l m cur d (h (hv.trans a))]
 ·simp[a]
theorem b1s (g:QGrp) (l m:List Rt) (cur:BA) (p:Int) (hv:valid g.gc l=valid g.gc m) (i:valid g.gc l->find l cur 2 p=find m cur 2 p)
  (h:valid g.gc l->∀x,Cal.first g.Y g.M p<=x->x<=Cal.last g.Y g.M p->find l cur 1 x=find m cur 1 x):avg g l cur p=avg g m cur p:=by
 unfold avg errP daysP;rw[hv]
 by_cases a:valid g.gc m
 ·rw[a9o l m cur _ _ (h (hv.trans a)),i (hv.trans a)]
 ·simp[a]
theorem b0U (l m:List Rt) (i:l.Perm m) (s:Fresh m) (c:BA) (k d:Int):find l c k d=find m c k d:=by
 cases h:find l c k d with
 |none =>
  symm
  rw[a4c] at h⊢;exact fun r a=>h r (i.mem_iff.2 a)
 |some v =>
  obtain⟨r,a,o,rfl⟩:=find_some _ _ _ _ _ h;exact(a2q m s r c k d (i.mem_iff.1 a) o).symm
theorem a1M (l:List Rt) (h:Fresh l):Fresh l.reverse:=by
 unfold Fresh at h⊢;rw[List.pairwise_reverse];refine h.imp fun{a b} hab=>?_;rw[Zv] at hab⊢;intro i;obtain⟨o,s,E⟩:=(Rt.at_iff _ _ _ _).1 i;exact hab ((Rt.at_iff _ _ _ _).2 ⟨o.symm,s.symm,E.symm⟩)
theorem valid_reverse (g:BA) (l:List Rt):valid g l.reverse=valid g l:=by
 rw[XX,valid_iff,valid_iff]
 constructor
 ·rintro⟨a,i,o,s⟩
  exact⟨fun r E=>a r (by simpa using E),by simpa using a1M _ i,o,by simpa using s⟩
 ·rintro⟨a,i,o,s⟩
  exact⟨fun r E=>a r (by simpa using E),a1M _ i,o,by simpa using s⟩
theorem a2c (g:BA) (l:List Rt) (hv:valid g l) (c:BA) (k d:Int):find l c k d=find l.reverse c k d:=by
 obtain⟨_,h,_⟩:=(valid_iff _ _).1 hv;exact b0U l l.reverse l.reverse_perm.symm (a1M l h) c k d
theorem whichR_reverse (g:BA) (l:List Rt) (cur:BA) (d:Int):whichR g l cur d=whichR g l.reverse cur d :=
 a5F g _ _ cur d (valid_reverse g l).symm fun hv x _ _=>a2c g l hv cur 1 x
theorem avg_reverse (g:QGrp) (l:List Rt) (cur:BA) (p:Int):avg g l cur p=avg g l.reverse cur p :=
 b1s g _ _ cur p (valid_reverse g.gc l).symm (fun hv=>a2c g.gc l hv cur 2 p) fun hv x _ _=>a2c g.gc l hv cur 1 x
end Rates
structure Bks.Like (b b':Bks):Prop where
 g:b'.g=b.g
 ents:(b'.ents.map (·.c)).Perm (b.ents.map (·.c))
 rates:b'.rates=b.rates.reverse
 holds:b'.holds=b.holds.reverse
 ok:Jr.ok b.g (b'.ents.map (·.c))=Jr.ok b.g (b.ents.map (·.c))
section
variable {b b':Bks} (h:Bks.Like b b')
include h
theorem Bks.Like.trValid:Tr.valid b'=Tr.valid b:=by
 unfold Tr.valid;rw[h.g,h.ok,h.rates,Rates.valid_reverse]
theorem Bks.Like.cbValid:Cb.valid b'=Cb.valid b:=by
 unfold Cb.valid;rw[h.trValid,h.g,h.holds,Hd.valid_reverse]
theorem Bks.Like.look (cur:BA) (la a date:Int):Tr.look b' cur la a date=Tr.look b cur la a date:=by
 unfold Tr.look Rates.avgG Rates.spotG;rw[h.g,h.rates,<- Rates.avg_reverse,<- Rates.whichR_reverse]
theorem Bks.Like.rateOf (e:Nat) (la a date:Int):Tr.rateOf b' e la a date=Tr.rateOf b e la a date:=by
 unfold Tr.rateOf;simp only[h.look,h.g]
theorem Bks.Like.item (e:Nat) (p:Int) (x:EtC) (k:Nat):Tr.item b' e p x k=Tr.item b e p x k:=by
 unfold Tr.item;simp only[h.rateOf,h.g]
theorem Bks.Like.entries (hv:Tr.valid b) (e:Nat) (p:Int):Tr.entries b' e p=Tr.entries b e p:=by
 have I:Jr.ok b.g (b.ents.map (·.c)):=by unfold Tr.valid at hv;simp only[Vp] at hv;exact hv.1
 have E:(Tr.entries b' e p).Perm (Tr.entries b e p):=by
  unfold Tr.entries;rw[h.g];exact(Zs _ _).trans ((h.ents.filter _).trans (Zs _ _).symm)
 have a:∀x∈Tr.entries b e p,x∈b.ents.map (·.c):=fun x i=>by
  unfold Tr.entries at i;exact(Yw.1 ((Zs _ _).mem_iff.1 i)).1
 refine JT (le:=fun x y=>Tr.before x y) ?_ ?_ ?_ E
 ·intro x y i J o s
  exact Jr.id_inj I (a x (E.mem_iff.1 i)) (a y J) (by unfold Tr.before at o s;simp at o s;omega)
 ·exact ZJ Tr.before_tr Tr.before_to _
 ·exact ZJ Tr.before_tr Tr.before_to _
theorem Bks.Like.items (e:Nat) (p:Int):Tr.items b' e p=Tr.items b e p:=by
 unfold Tr.items;rw[h.trValid,h.g]
 by_cases a:Tr.valid b/\e<b.g.ents.length/\0<=p/\p<b.g.N
 ·rw[Vt a,Vt a,h.entries a.1]
  have i:Tr.tries b' e p=Tr.tries b e p:=by
   funext x
   unfold Tr.tries;have:Tr.item b' e p x=Tr.item b e p x:=by funext k;exact h.item e p x k
   rw[this]
  rw[i]
 ·rw[VB a,VB a]
theorem Bks.Like.intervals (hv:Hd.valid b.g.ents.length b.holds) (e:Nat):Ct.intervals b'.g b'.holds e=Ct.intervals b.g b.holds e:=by
 rw[h.g,h.holds];exact Ct.intervals_mem (fun x=>JH) (Hd.valid_one hv) b.g e
theorem Bks.Like.matrix (hv:Hd.valid b.g.ents.length b.holds) (d:Int):Hd.matrix b'.g.ents.length b'.holds d=Hd.matrix b.g.ents.length b.holds d:=by
 rw[h.g,h.holds];exact Hd.matrix_mem (fun x=>JH) (Hd.valid_one hv) _ d
end
end Go.Proofs.YtbhdekahdnenjaaGreatDoor
namespace Go.Proofs.YtbhdekahdnenjaaGreatDoor
section
variable {b b':Bks} (h:Bks.Like b b')
include h
theorem Bks.Like.rateErr (e:Nat) (la a date:Int):Tr.rateErr b' e la a date=Tr.rateErr b e la a date:=by
 unfold Tr.rateErr;simp only[h.look,h.g]
theorem Bks.Like.itemErr (e:Nat) (p:Int) (x:EtC) (k:Nat):Tr.itemErr b' e p x k=Tr.itemErr b e p x k:=by
 unfold Tr.itemErr;rw[h.item,h.rateOf,h.rateErr,h.g]
theorem Bks.Like.err (e:Nat) (p:Int):Tr.err b' e p=Tr.err b e p:=by
 unfold Tr.err;rw[h.trValid,h.g]
 by_cases hv:Tr.valid b
 ·rw[Vt hv,Vt hv,h.entries hv]
  have a:Tr.errsOf b' e p=Tr.errsOf b e p:=by
   funext x
   unfold Tr.errsOf;rw[show Tr.itemErr b' e p x=Tr.itemErr b e p x from funext (h.itemErr e p x)]
  rw[a]
 ·rw[VB hv,VB hv]
theorem Bks.Like.full (p:Int) (L:List Itv):Cb.full b' p L=Cb.full b p L:=by unfold Cb.full;rw[h.g]
theorem Bks.Like.hv (a:Cb.valid b):Hd.valid b.g.ents.length b.holds:=by have:=h;unfold Cb.valid at a;simp only[Vp] at a;exact a.2
theorem Bks.Like.current (a:Cb.valid b) (e:Nat) (d:Int):Ct.current b'.g b'.holds e d=Ct.current b.g b.holds e d:=by
 unfold Ct.current;rw[h.intervals (h.hv a)]
theorem Bks.Like.qof (a:Cb.valid b) (e:Nat):QOf b' e=QOf b e:=by
 funext d N D
 unfold QOf QSh;rw[h.matrix (h.hv a),h.g]
theorem Bks.Like.oferr (i:Cb.valid b) {e:Nat} {p n:Int} {L:List Itv} {a:Itv} {Q:Int->Int->Int->Prop} (k:OfErr b' e p L a Q n):OfErr b e p L a Q n:=by
 unfold OfErr at *;rw[h.full,h.items,h.err,h.g] at k;exact k
theorem Bks.Like.ofex {E p n:Int} (k:OfEx b' E p n):OfEx b E p n:=by
 unfold OfEx at *;rw[h.cbValid] at k
 rcases k with k|⟨s,i,o⟩|⟨a,e,I,s,i,o,J,L⟩
 ·exact .inl k
 ·rw[h.g] at i;exact .inr (.inl ⟨s,i,o⟩)
 ·rw[h.current a,h.g] at J
  rw[h.intervals (h.hv a),h.qof a] at L;rw[h.g] at i o;exact .inr (.inr ⟨a,e,I,s,i,o,J,h.oferr a L⟩)
theorem Bks.Like.pure {E p:Int} {x:Ctn} {its T:LT} {N D N' D':Int} (k:OfPureX b' E p x its T N D N' D'):OfPureX b E p x its T N D N' D':=by
 unfold OfPureX OfPure at *;obtain⟨⟨i,e,s,X,I,J,L,k5,k6,k7,k8,k9,a⟩,W,o,q1,O,Q,S⟩:=k;rw[h.cbValid] at i;rw[h.current i,h.g] at L O;rw[h.intervals (h.hv i)] at a;unfold CtnOf at a;rw[h.full,h.items,h.g] at a;rw[h.qof i,h.g] at Q;rw[h.qof i] at S;rw[h.g] at I J;exact⟨⟨i,e,s,X,I,J,L,k5,k6,k7,k8,k9,a⟩,W,o,q1,O,Q,S⟩
end
theorem OfErr.one {b:Bks} {e:Nat} {p n I:Int} {L:List Itv} {i:Itv} {Q:Int->Int->Int->Prop} (h:OfErr b e p L i Q n) (k:OfErr b e p L i Q I):n=I:=by
 rcases h.2 with⟨o,s⟩|⟨l,N,D,o,_,_,s⟩
 ·rcases k.2 with⟨_,E⟩|⟨J,_,_,a,_⟩
  ·rw[s,E]
  ·rw[o] at a;cases a
 ·rcases k.2 with⟨a,_⟩|⟨_,_,_,_,_,_,E⟩
  ·rw[o] at a;cases a
  ·rw[s,E]
theorem OfEx.one {b:Bks} {E p n O:Int} (h:OfEx b E p n) (k:OfEx b E p O):n=O:=by
 unfold OfEx at *
 rcases h with⟨i,o⟩|⟨i,o,I⟩|⟨i,e,a0,o,I,S,T,W⟩ <;> rcases k with⟨a,s⟩|⟨a,s,J⟩|⟨a,e',Q,s,J,X,L,k6⟩
 ·rw[o,s]
 ·rw[i] at a;cases a
 ·rw[i] at a;cases a
 ·rw[i] at a;cases a
 ·rw[I,J]
 ·exact absurd ⟨X,oM⟩ o
 ·rw[i] at a;cases a
 ·exact absurd ⟨S,oM⟩ s
 ·obtain rfl:e=e':=oM
  rw[T] at L
  cases L
  exact W.one k6
theorem OfEx.not {b:Bks} {E p n:Int} {x:Ctn} {its sh:LT} {N D N' D':Int} (h:OfEx b E p n) (k:OfPureX b E p x its sh N D N' D'):False:=by
 unfold OfPureX OfPure at k;obtain⟨⟨J,e,a0,k1,k2,k3,L,_,_,_,_,_,k5⟩,e2,Q,q1,S,q3,_⟩:=k;obtain rfl:e=e2:=oM;rw[L] at S
 cases S
 unfold OfEx at h
 rcases h with⟨W,_⟩|⟨_,s,_⟩|⟨_,e',O,s,_,_,I,X,h7⟩
 ·rw[W] at J;cases J
 ·exact s ⟨k3,oM⟩
 ·obtain rfl:e=e':=oM
  rw[L] at I
  cases I
  rcases k5 with⟨i,o,_⟩|⟨_,l,i,o,_⟩
  ·exact X ⟨i,o⟩
  ·rcases h7 with⟨a,_⟩|⟨l',N2,D2,a,y2,T,_⟩
   ·rw[i] at a;cases a
   ·rw[i] at a;cases a
    obtain⟨rfl,rfl⟩:=q3.one y2;rw[o] at T;cases T
theorem OfPureX.one {b:Bks} {E p:Int} {x T:Ctn} {its sh o O:LT} {N D M C N' D' M' C':Int} (h:OfPureX b E p x its sh N D M C) (k:OfPureX b E p T o O N' D' M' C') :
  x.meth=T.meth/\x.since=T.since/\its=o/\sh=O/\(N=N'/\D=D')/\M=M'/\C=C':=by
 unfold OfPureX OfPure at *;obtain⟨⟨hc,e,a5,h1,h2,h3,h4,h5,h6,h7,h8,h9,L⟩,Q,a4,q1,q2,q3,q4⟩:=h;obtain⟨⟨_,e',a0,k1,k2,k3,k4,k5,k6,k7,k8,k9,a⟩,e2',S,r1,r2,r3,r4⟩:=k;obtain rfl:e=Q:=oM;obtain rfl:e=e':=oM;obtain rfl:e=e2':=oM;rw[h4] at q2 k4 r2
 cases q2;cases k4;cases r2
 have e1:=q3.one r3;have Q:=q4.one r4;obtain⟨rfl,rfl⟩:=e1;refine⟨by rw[h6,k6],by rw[h7,k7],?_,?_,⟨rfl,rfl⟩,Q⟩
 ·rcases L with⟨I,J,z3,_⟩|⟨z0,l,I,J,_⟩
  ·rcases a with⟨_,_,X,_⟩|⟨W,_⟩
   ·rw[z3,X]
   ·exact absurd ⟨I,J⟩ W
  ·rcases a with⟨i,s,_⟩|⟨_,l',i,s,_⟩
   ·exact absurd ⟨i,s⟩ z0
   ·rw[I] at i;cases i
    rw[J] at s;cases s;rfl
 ·rcases L with⟨I,J,_,z3⟩|⟨z0,l,I,_,_,J⟩
  ·rcases a with⟨_,_,_,X⟩|⟨W,_⟩
   ·rw[z3,X]
   ·exact absurd ⟨I,J⟩ W
  ·rcases a with⟨i,s,_⟩|⟨_,l',i,_,_,s⟩
   ·exact absurd ⟨i,s⟩ z0
   ·rw[I] at i;cases i
    rw[J,s]
theorem a5N {α:Type}:∀(l:List α) (i:Nat) (h:i+1<l.length),((l.set i (l[i+1]'h)).set (i+1) (l[i]' oM)).Perm l
 |x::y::t,0,_=>List.Perm.swap ..
 |a::t,i+1,h=>by simpa using(a5N t i (by simpa using h)).cons a
open Go.Proofs.Tryz Go.RowKit
variable (w:World)
structure OthK (w0:World) (ob:Nat) (cs:Array Value) (W:World):Prop where
 os:W.os=w0.os
 tape:W.tape=w0.tape
 output:W.output=w0.output
 size:(w0:Nat)<=W
 block:∀c,c<w0.heap.size->c≠ob->W.heap[c]?=w0.heap[c]?
 hob:W.heap[ob]?=some (.cells cs 36 (0,0))
theorem OthK.start {a:World} {ob:Nat} {cs:AV} (h:a.heap[ob]?=some (.cells cs 36 (0,0))):OthK a ob cs a:=⟨rfl,rfl,rfl,lR,fun _ _ _=>rfl,h⟩
theorem OthK.step {i W o:World} {ob:Nat} {cs:AV} (h:OthK i ob cs W) (a:Below i W o) (I:ob<i):OthK i ob cs o :=
 ⟨a.os.trans h.os,a.tape.trans h.tape,a.output.trans h.output,Vn h.size a.size,fun c s E=>(a.block c s).trans (h.block c s E),(a.block ob I).trans h.hob⟩
theorem OthK.put {o W:World} {ob i:Nat} {cs:AV} (h:OthK o ob cs W) (v:Value):OthK o ob (cs.setIfInBounds i v) (W.setCell ⟨ob,i,none⟩ v) :=
 ⟨h.os,h.tape,h.output,by simpa[World.setCell] using h.size,fun c s a=>(VR _ _ _ _ (by show c≠ob;exact a)).trans (h.block c s a),Xh W ob i _ _ v h.hob⟩
theorem OthK.old {a o W:World} {ob n:Nat} {cs:AV} (h:OthK o ob cs W) (i:Below n a o) (I:n<=ob) (E:n<=o):Below n a W :=
 ⟨h.os.trans i.os,h.tape.trans i.tape,h.output.trans i.output,Vn i.size h.size,fun c s=>(h.block c oM oM).trans (i.block c s)⟩
theorem RatesAt.rows {w:World} {B:Nat} {A:OA} {l:List Rt} (h:RatesAt w B A l):RowsAt Rt.cells 4 w B A l:=by
 rcases h with h|⟨b,o,e,L,I⟩
 ·exact .inl h
 ·refine .inr ⟨b,o,e,L,fun k J j v hv=>?_⟩
  obtain⟨a,i,s,E⟩:=I k J
  match j,hv with
  |0,hv=>cases hv;exact a
  |1,hv=>cases hv;exact i
  |2,hv=>cases hv;exact s
  |3,hv=>cases hv;exact E
theorem RatesAt.ofRows {w:World} {B:Nat} {A:OA} {l:List Rt} (h:RowsAt Rt.cells 4 w B A l):RatesAt w B A l:=by
 rcases h with h|⟨b,o,e,s,a⟩
 ·exact .inl h
 ·exact .inr ⟨b,o,e,s,fun k i=>⟨a k i 0 _ rfl,a k i 1 _ rfl,a k i 2 _ rfl,a k i 3 _ rfl⟩⟩
theorem RowsAt.stay {α:Type} {f:α->List Value} {sz B C:Nat} {w w':World} {A:OA} {l:List α} (h:RowsAt f sz w B A l) (s:∀ad,A=some ad->ad.block<B->w'.heap[ad.block]?=w.heap[ad.block]?) (J:B<=C):RowsAt f sz w' C A l:=by
 rcases h with h|⟨b,o,e,I,i⟩
 ·exact .inl h
 ·have a:w'.heap[b]?=w.heap[b]?:=s _ e I
  exact .inr ⟨b,o,e,oM,fun k E j v hv=>(World.cell?_of_block (w:=w) a).trans (i k E j v hv)⟩
theorem a7N {α:Type} {f:α->List Value} {sz:Nat} {w:World} {B b:Nat} {l:List α} (a:∀x,(f x).length=sz) (h:RowsAt f sz w B (some ⟨b,0,none⟩) l) {k:Nat} (L:k<l.length) (x:α):RowsAt f sz (w.setCells b (k*sz) (f x)) B (some ⟨b,0,none⟩) (l.set k x):=by
 rcases h with h|⟨b',o,e,S,I⟩
 ·subst h;simp at L
 ·cases e
  refine .inr ⟨b,0,rfl,S,fun j Q i v hv=>?_⟩;have J:i<sz:=by have:=(List.getElem?_eq_some_iff.1 hv).1;rwa [a] at this
  have s:j<l.length:=by simpa using Q
  by_cases e:j=k
  ·subst e
   simp only[List.getElem_set_self] at hv
   have:=World.cell?_setCells_in b (f x) (j*sz) w (fun q O=>by
    rw[a] at O;have:=I j L q _ (List.getElem?_eq_getElem (by rw[a];exact O));simp only[VN] at this;rw[this];rfl) i (by rw[a];exact J)
   simp only[VN];rw[this,<- List.getElem?_eq_getElem (by rw[a];exact J)];exact hv
  ·have E:(f l[j])[i]?=some v:=by rwa [KC (fun q=>e q.symm)] at hv
   rw[World.cell?_setCells_out b (f x) (k*sz) w ⟨b,0+j*sz+i,none⟩ (fun _ _=>?_)]
   ·exact I j s i v E
   ·show 0+j*sz+i<k*sz∨k*sz+(f x).length<=0+j*sz+i
    rw[a]
    rcases Nat.lt_or_gt_of_ne e with q|q
    ·left;have:=Jw sz (show j+1<=k from q);rw[Jq] at this;omega
    ·right;have:=Jw sz (show k+1<=j from q);rw[Jq] at this;omega
theorem b3z {α:Type} {l:List α} {n m:Nat} (a:l.length=n) (i:m<n):(l.reverse.take (m+1))=l.reverse.take m++[l[n-1-m]' oM]:=by
 rw[tse (by simpa[a] using i),List.getElem_reverse];simp only[a]
theorem a8m {P:Program} {T:Array Oper} {L:List Oper} {o:Oper} {a:Act} {Q:Exit->Act->World->Prop} {W:World} {base:Nat} {e t:TypeId} {sz n:Nat} {v:Value} {xs:List Value} (E:Elt P t e sz) (J:W.ownsRow base e sz v n xs) (X:Addr) (m c:Nat) (I:List Value)
  {s x:Operand} (a5:o.guard=none) (ho:o.op=.call { callee:=.builtin .append,args:=#[s,x],argTypes:=#[t,t] }) (hs:a.eval s=v) (hx:a.eval x=.slice (some X) m c) (hl:I.length=m*sz) (O:∀j u,I[j]?=some u->W.cell? (X.add j)=some u) (h1:I.all (·.oneCell')) (hn:n+m<=100000) (hb:base<=W)
  (h:∀v' w',w'.ownsRow base e sz v' (n+m) (xs++I)->Below base W w'->(∀b,b<W.heap.size->some b≠v.ownBlock->w'.heap[b]?=W.heap[b]?)->wpList P T Q L (a.put o.dst v') w'):wpList P T Q (o::L) a W:=by
 obtain⟨i,z,S,hu,hi,hz,a7,a4,a8,h0,a0⟩:=E;have a9:(n+m)*S<=100000*1000:=ZL hn a0;refine Xd W a5 s x t ho base e i z sz S hu hi hz a7 a4 a8 h0 v n xs hs J X m c I hx hl O (fun u hu=>by simpa using Xb.1 h1 u hu) (by unfold maxLen;omega) oM hb ?_;intro v' w' a6 hg _;exact h v' w' a6 ((VM _ W).grown hg hb (fun k hk=>(J.lt k hk).1)) hg.block
theorem eltRt:Elt prog 31 41 4:=a4e underlying31 (show _=some (some (.agg #[.string ByteArray.empty,(),(),()]),4,40) by kernel_rfl) rfl dC dC
theorem eltHd:Elt prog 32 43 4:=a4e underlying32 (show _=some (some (.agg #[(),(),(),()]),4,32) by kernel_rfl) rfl dC dC
theorem eltEt:Elt prog 30 46 7:=a4e underlying30 (show _=some (some (.agg #[(),(),(),(),(),.string ByteArray.empty,.slice none 0 0]),7,80) by kernel_rfl) rfl dC dC
theorem rtSizeO:(prog.info? 41).map (·.size)=some 4:=kR
theorem hldSizeO:(prog.info? 43).map (·.size)=some 4:=kR
theorem a6h {o a:World} {n ob:Nat} {b:Bks} {I s E:OA} {T Q S:Nat} {L:List Etr} (hA:b.At o o) (W:Below n o a) (hn:o<=n) (J:L.Perm b.ents) (O:Jr.ok b.g (L.map (·.c))=Jr.ok b.g (b.ents.map (·.c))) (hE:RowsAt Etr.cells 7 a a.heap.size I L) (X:RowsAt Rt.cells 4 a a.heap.size s b.rates.reverse) (h2:RowsAt Hld.cells 4 a a.heap.size E b.holds.reverse)
  (ho:a.heap[ob]?=some (.cells #[.string (b.g).cur,.int .i64 (b.g).Y,.int .i64 (b.g).M,.int .i64 (b.g).N,.slice (b.g).cA (b.g).cn (b.g).cc,.int .i64 (b.g).r0,.int .i64 (b.g).r1,.int .i64 (b.g).r2,.int .i64 (b.g).r3,.int .i64 (b.g).r4,.int .i64 (b.g).r5,.int .i64 (b.g).r6,.int .i64 (b.g).r7,.int .i64 (b.g).r8,.int .i64 (b.g).r9,.int .i64 (b.g).r10,.int .i64 (b.g).r11,.int .i64 (b.g).r12,.int .i64 (b.g).r13,.int .i64 (b.g).r14,.slice (b.g).eA (b.g).en (b.g).ec,.slice I b.en T,.slice s b.rn Q,.slice E b.hn S,b.m0,b.m1,b.m2] 36 (0,0))) :
  ∃c:Bks,Bks.Like b c/\c.At a a.heap.size/\a.heap[ob]?=some (.cells c 36 (0,0)):=by
 have h:=(hA.below W hn).more W.size
 exact⟨{ b with eA:=I,ec:=T,ents:=L,rA:=s,rc:=Q,rates:=b.rates.reverse,hA:=E,hc:=S,holds:=b.holds.reverse },
  ⟨rfl,J.map _,rfl,rfl,O⟩,
  ⟨h.hg,J.length_eq.trans h.hel,h.hen,hE,fun x i=>h.hEx x (J.mem_iff.1 i),(ZG ..).trans h.hrl,h.hrn,RatesAt.ofRows X,fun x i=>h.hRw x (JH.1 i),(ZG ..).trans h.hhl,h.hhn,h2,fun x i=>h.hHw x (JH.1 i)⟩,ho⟩
theorem Tr.items_len {b:Bks} {w:World} {B e:Nat} {p:Int} {l:LT} (i:b.At w B) (h:Tr.items b e p=some l):l.length<=3660:=by
 unfold Tr.items at h
 split at h
 ·rw[a2A _ _ h]
  have s:(Tr.entries b e p).Perm ((b.ents.map (·.c)).filter (fun x=>decide (x.ent=(e:Int))&&decide (x.date<=Cal.last b.g.Y b.g.M p))):=Zs _ _
  have Q:(Tr.entries b e p).length<=61:=by
   rw[s.length_eq];refine Vn (XY _ _) ?_;rw[Xt];have:=i.hel;have:=i.hen;omega
  have E:∀x∈Tr.entries b e p,x.lines.length<=60:=fun x a=>by
   have:=(Yw.1 (s.mem_iff.1 a)).1;obtain⟨y,o,rfl⟩:=Yg.1 this;exact(i.hEx y o).hw.hln
  have I:∀L:List EtC,(∀x∈L,x.lines.length<=60)->(L.flatMap (Tr.tries b e p)).length<=L.length*60:=fun L=>by
   induction L with
   |nil=>intro _;simp
   |cons x t ih =>
    intro a;have:=ih (fun y o=>a y (XZ _ o));have O:=a x (XN ..);rw[XB,Vc,Xl];have J:(Tr.tries b e p x).length=x.lines.length:=by simp[Tr.tries]
    omega
  have:=I _ E;omega
 ·cases h
structure HoldX (w:World) (x:Ctn) (its sh:List Itm) (N D N' D':Int):Prop where
 n:x.n=its.length
 m:x.m=sh.length
 hn:its.length<=3660
 hm:sh.length<=3660
 hA:RowsAt Itm.cells 7 w w x.A its
 hB:RowsAt Itm.cells 7 w w x.B sh
 hR:RI2 w w KS x.s.v x.f.v N D N' D'
theorem HoldX.at_ {w w':World} {x:Ctn} {its i:LT} {N D N' D':Int} (h:HoldX w x its i N D N' D') (a:Below w w w'):HoldX w' x its i N D N' D' :=
 ⟨h.n,h.m,h.hn,h.hm,RowsAt.at_ h.hA a,RowsAt.at_ h.hB a,h.hR.at_ a⟩
def OutX (b:Bks) (E p:Int) (w:World) (a:Int) (x:Ctn):Prop :=
 (a≠0/\OfEx b E p a/\x=Ctn.zero)∨(a=0/\∃its i N D N' D',OfPureX b E p x its i N D N' D'/\HoldX w x its i N D N' D')
theorem RI2.zero (w:World) (B:Nat):RI2 w B KS Ctn.zero.s.v Ctn.zero.f.v 0 0 0 0:=⟨Rn.zero_at w B KS,Rn.zero_at w B KS⟩
theorem OfAnyX.out {b:Bks} {E p:Int} {w w':World} {B:Nat} {L:Ending} (T:b.At w B) (h:OfAnyX b E p w L w'):Below w w w'/\∃(J:Int) (x:Ctn),L=.returned (.tuple #[x.v,J])/\OutX b E p w' J x:=by
 obtain⟨O,⟨_,n,W,s,rfl⟩|⟨its,sh,x,N,D,N',D',rfl,a,Q,o,_,_,S,_⟩⟩:=h
 ·exact⟨O,n,Ctn.zero,rfl,.inl ⟨W,s,rfl⟩⟩
 ·refine⟨O,0,x,rfl,.inr ⟨rfl,its,sh,N,D,N',D',a,?_⟩⟩
  obtain⟨⟨hc,e,a0,k1,k2,k3,k4,k5,k6,k7,X,k9,i⟩,_⟩:=a;refine⟨X,k9,?_,?_,Q,o,S⟩
  ·rcases i with⟨_,_,rfl,_⟩|⟨_,l,_,_,I,_⟩
   ·simp
   ·exact I
  ·rcases i with⟨_,_,_,rfl⟩|⟨_,l,I,_,_,rfl⟩
   ·simp
   ·split
    ·rw[Xt];exact Tr.items_len T I
    ·simp
theorem OutX.both {b b':Bks} {E p:Int} {Q S:World} {L a:Int} {x y:Ctn} (o:Bks.Like b b') (h:OutX b E p Q L x) (k:OutX b' E p S a y) :
  L=a/\x.meth=y.meth/\x.since=y.since/\∃its sh N D N' D',HoldX Q x its sh N D N' D'/\HoldX S y its sh N D N' D':=by
 rcases h with⟨I,i,rfl⟩|⟨rfl,its,sh,N,D,N',D',I,i⟩ <;> rcases k with⟨J,s,rfl⟩|⟨rfl,O,X,M,C,M',C',J,s⟩
 ·exact⟨i.one (o.ofex s),rfl,rfl,[],[],0,0,0,0,⟨rfl,rfl,sP,sP,.inl rfl,.inl rfl,RI2.zero _ _⟩,⟨rfl,rfl,sP,sP,.inl rfl,.inl rfl,RI2.zero _ _⟩⟩
 ·exact absurd (o.pure J) (fun q=>i.not q)
 ·exact absurd I (fun q=>(o.ofex s).not q)
 ·obtain⟨T,W,rfl,rfl,⟨rfl,rfl⟩,rfl,rfl⟩:=I.one (o.pure J)
  exact⟨rfl,T,W,its,sh,N,D,N',D',i,s⟩
theorem a8j (k1 j1 k2 j2:Nat) (u v:Value) (N1 D1 N2 D2:Int) (hk:3*k1+3*k2+3*j1+3*j2+100<=10000000000) (hu:RI w w k1 j1 u N1 D1) (hv:RI w w k2 j2 v N2 D2) :
  CL 8 #[u,v] w (.int .i64 (cm (N1*dz D2) (N2*dz D1))):=by
 obtain⟨J1,an⟩:=eX (max j1 3);obtain⟨J2,ao⟩:=eX (max j2 3);obtain⟨E1,ab⟩:=eX (dz D1);obtain⟨E2,ac⟩:=eX (dz D2);have ap:=fun W h=>a0Z W k1 j1 u N1 D1 h;have aq:=fun W h=>a0Z W k2 j2 v N2 D2 h;rw[<- ab,<- ac];have bk:J1<=j1+3/\J2<=j2+3:=oM;have ax:Hid (∀W,RI W W k1 j1 u N1 D1->Calls prog 17 #[u] W (PartsPost k1 J1 N1 E1 W)):=by rw[an,ab];exact ap
 have ay:Hid (∀W,RI W W k2 j2 v N2 D2->Calls prog 17 #[v] W (PartsPost k2 J2 N2 E2 W)):=by rw[ao,ac];exact aq
 clear ap aq an ao ab ac;obtain⟨g1,A1,n1,c1,g2,A2,n2,c2,rfl⟩:=hu.open;obtain⟨g3,A3,n3,c3,g4,A4,n4,c4,rfl⟩:=hv.open;obtain⟨X,s,ah,hz⟩:=rows2 w #[g1,.slice A1 n1 c1,g2,.slice A2 n2 c2] #[g3,.slice A3 n3 c3,g4,.slice A4 n4 c4] 52;obtain⟨W1,ae⟩:=eX (((w.alloc (.cells #[g1,.slice A1 n1 c1,g2,.slice A2 n2 c2] 52)).alloc (.cells #[g3,.slice A3 n3 c3,g4,.slice A4 n4 c4] 52)));rw[<- ae] at X s ah hz;obtain⟨HW,Hz,b1⟩:=Z3 ae hz ah;have x0:=cr9 0 s;have x1:=cr9 1 s;have x2:=cr9 2 s;have x3:=cr9 3 s;simp at x0 x1 x2 x3;have s1:(w:Nat)<W1:=oM;clear ae hz s ah;go_enter func8,ntmps8;go_upto_region 1 with(fail);rw[<- HW];go_wp2_with (fail);refine(ax W1 (hu.at_ X)).mono ?_;rintro e W2 ⟨⟨a1,B1,m1,d1,a2,B2,m2,d2,rfl,ba,bb⟩,a9⟩;have bi:=a9.size;have bl:=Hz.out;have a6:=X.trans (a9.mono X.size);have b2:=gB b1 a9 oM;have s2:(w:Nat)+1<W2:=oM;obtain⟨a0,L,O,a5⟩:=rows2 W2 #[a1,.slice B1 m1 d1] #[a2,.slice B2 m2 d2] 50;have o:=a6.trans (a0.mono a6.size);obtain⟨Wa,ag⟩:=eX (((W2.alloc (.cells #[a1,.slice B1 m1 d1] 50)).alloc (.cells #[a2,.slice B2 m2 d2] 50)));have hy:=gbox b2 a0 s2;rw[<- ag] at a0 L O a5 o hy;obtain⟨ak,al,b3,b0⟩:=Z4 L O a5 ag;have y0:=cr9 0 hy;have y1:=cr9 1 hy;have y2:=cr9 2 hy;have y3:=cr9 3 hy;simp at y0 y1 y2 y3;have s4:(w:Nat)+1<Wa:=oM;clear x0 x1 x2 x3 L O a5 ag hy;go_upto_region 2 with(fail);rw[<- b0];go_wp2_with (fail);refine(ay Wa (hv.at_ o)).mono ?_;rintro e W3 ⟨⟨a3,B3,m3,d3,a4,B4,m4,d4,rfl,bc,be⟩,I⟩;have a5:=b3.out;have bj:=I.size;have a7:=o.trans (I.mono o.size);have av:=gbox ak I oM;have aw:=gbox al I oM;obtain⟨a,Q,T,bh⟩:=rows2 W3 #[a3,.slice B3 m3 d3] #[a4,.slice B4 m4 d4] 50;have a8:=a7.trans (a.mono a7.size);have ai:=gbox av a oM;have aj:=gbox aw a oM;have E:=(a0.trans (I.mono oM)).trans (a.mono oM);obtain⟨W4,af⟩:=eX (((W3.alloc (.cells #[a3,.slice B3 m3 d3] 50)).alloc (.cells #[a4,.slice B4 m4 d4] 50)));rw[<- af] at a Q T bh a8 ai aj E;have b9:RegM w w W2 (W2+1) W3 (W3+1) #[a1,.slice B1 m1 d1] #[a2,.slice B2 m2 d2] #[a3,.slice B3 m3 d3] #[a4,.slice B4 m4 d4] W4:=⟨a8,ai,aj,Q,T⟩;have hS:=b9.drew;have az:=Z1 af;have b7:=ba.at_ (Vw E 1);have b5:=bb.at_ (Vw E 1);have b8:=bc.at_ (Vw a 1);have b6:=be.at_ (Vw a 1);clear af Q T ai aj av aw y0 y1 y2 y3;go_upto_region 3 with(fail);rw[<- az];refine Vs (S:=RegM w w W2 (W2+1) W3 (W3+1) #[a1,.slice B1 m1 d1] #[a2,.slice B2 m2 d2] #[a3,.slice B3 m3 d3] #[a4,.slice B4 m4 d4]) kR ?_;change wpAnyH _ _ _ _ _ _ _ _ (World.drew _);refine jT 0 hS ?_ (v:=.agg #[a1,.slice B1 m1 d1]) (hy:=(Vf (by rfl) 50 _ rfl W2.heap.size 0 rfl [a1,.slice B1 m1 d1] _ (fun W' i=>range2 i.2.1) Xy rfl VZ));refine jT 1 hS ?_ (v:=.agg #[a4,.slice B4 m4 d4]) (hy:=(Vf (by rfl) 50 _ rfl (W3+1) 0 rfl [a4,.slice B4 m4 d4] _ (fun W' i=>range2 i.2.2.2.2) Xy rfl VZ));refine jT 3 hS ?_ (v:=.agg #[a3,.slice B3 m3 d3]) (hy:=(Vf (by rfl) 50 _ rfl W3.heap.size 0 rfl [a3,.slice B3 m3 d3] _ (fun W' i=>range2 i.2.2.2.1) Xy rfl VZ));refine jT 4 hS ?_ (v:=.agg #[a2,.slice B2 m2 d2]) (hy:=(Vf (by rfl) 50 _ rfl (W2+1) 0 rfl [a2,.slice B2 m2 d2] _ (fun W' i=>range2 i.2.2.1) Xy rfl VZ));refine rZ 2 fun K J=>?_;go_simp;refine(a1s W4.drew k1 J2 _ _ N1 E2 oM oM b7 b6).mono ?_;rintro e W5 ⟨⟨r5,rfl,bf⟩,aa⟩;have ar:=hS.step lR aa;refine jK J ar ?_;clear J K;refine rZ 5 fun K J=>?_;go_simp;refine(a1s W5 k2 J1 _ _ N2 E1 oM oM (b8.at_ aa) (b5.at_ aa)).mono ?_;rintro e W6 ⟨⟨r6,rfl,bg⟩,am⟩;have au:=ar.step lR am;refine jK J au ?_;clear J K;refine rZ 6 fun K J=>?_;go_simp;refine(a2d W6 (k1+J2) (k2+J1) _ _ (N1*E2) (N2*E1) oM oM (bf.at_ am) bg).mono ?_;rintro e W7 ⟨rfl,b4⟩;have ad:=au.step lR b4;refine jK J ad ?_;clear J K;refine rZ 7 fun K J=>?_;go_simp;refine jK J ad ?_;clear J K;refine VF kR ?_ _
 try simp only[z]
 go_wp2;go_ret;exact⟨rfl,ad.1⟩
end Go.Proofs.YtbhdekahdnenjaaGreatDoor
