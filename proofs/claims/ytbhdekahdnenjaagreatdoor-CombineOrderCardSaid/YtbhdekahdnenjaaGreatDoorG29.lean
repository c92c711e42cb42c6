/- Lemmas. -/
import Derived.Test.YtbhdekahdnenjaaGreatDoorG28
set_option linter.unusedVariables false
set_option linter.unusedSimpArgs false
set_option maxRecDepth 100000
set_option maxHeartbeats 16000000
namespace Go.Proofs.YtbhdekahdnenjaaGreatDoor
open Go.Proofs.Tryz Go.RowKit Go.Shelf Go.Lib Go.Sort
variable (w:World)
def cmpE (x y:EtC):Int:=if Lib.compareInt x.date y.date≠0 then Lib.compareInt x.date y.date else Lib.compareInt x.id y.id
theorem a6C (a b:Int):Lib.compareInt a b<0 ↔ a<b:=by unfold Lib.compareInt;by_cases i:a<b <;> by_cases o:b<a <;> simp[i,o] <;> omega
theorem a7B (a b:Int):Lib.compareInt a b=0 ↔ a=b:=by unfold Lib.compareInt;by_cases i:a<b <;> by_cases o:b<a <;> simp[i,o] <;> omega
def cmpT (x y:Etr):Int:=cmpE x.c y.c
theorem ltT (x y:Etr):ltOf cmpT x y=(decide (x.c.date<y.c.date)||(decide (x.c.date=y.c.date)&&decide (x.c.id<y.c.id))):=by
 have a1:=a6C x.c.date y.c.date;have a2:=a7B x.c.date y.c.date;have a3:=a6C x.c.id y.c.id;unfold ltOf cmpT cmpE
 by_cases h:Lib.compareInt x.c.date y.c.date=0
 ·have e:=a2.1 h
  rw[VB (by simp[h])]
  by_cases a:x.c.id<y.c.id
  ·have:=a3.2 a;simp[e,a,this]
  ·have:¬ Lib.compareInt x.c.id y.c.id<0:=fun q=>a (a3.1 q)
   simp[e,a,this]
 ·have e:¬ x.c.date=y.c.date:=fun q=>h (a2.2 q)
  rw[Vt h]
  by_cases a:x.c.date<y.c.date
  ·have:=a1.2 a;simp[a,this]
  ·have:¬ Lib.compareInt x.c.date y.c.date<0:=fun q=>a (a1.1 q)
   simp[e,a,this]
theorem swoT:SWO (ltOf cmpT) where
 irrefl x:=by rw[ltT];simp
 trans x y z h1 h2:=by rw[ltT] at *;simp at *;omega
 ntrans x y z h1 h2:=by rw[ltT] at *;simp at *;omega
theorem b1j (G:Nat) (a b:Int) (O:w.cell? ⟨G,0,none⟩=some (.int .i64 a)) (Q:w.cell? ⟨G,1,none⟩=some (.int .i64 b)) (S:G<w) :
  Calls prog 85 #[.slice (some ⟨G,0,none⟩) 2 2] w fun e w'=>e=.returned (.int .i64 (if a≠0 then a else b))/\w=w':=by
 obtain⟨v,hv⟩:=eX (if a≠0 then a else b);rw[<- hv];have I:=Z1 hv;clear hv;go_enter func85,ntmps85
 by_cases s:a=0
 case neg =>
  have L:(a != 0):=by simpa using s
  have o:Hid (v=a):=by show _=_;rw[I,Vt s]
  clear s;go_wp2
  go_loop [8] (fun i=>i=.int .i64 0) (fun _=>0)
  case atStart=>rfl
  case round =>
   obtain rfl:=hrel;go_wp2;go_ret;exact⟨by rw[o];rfl,rfl⟩
 subst s;have o:Hid (v=b):=by show _=_;rw[I,VB sP]
 by_cases E:b=0
 case neg =>
  have L:(b != 0):=by simpa using E
  clear E;go_wp2
  go_loop [8] (fun i=>∃k:Nat,k<2/\i=k) (fun i=>2-(intOf i).toNat)
  case atStart=>exact⟨0,dC,rfl⟩
  case round =>
   obtain⟨k,J,rfl⟩:=hrel;obtain rfl|rfl:k=0∨k=1:=oM
   ·go_wp2
    go_round
    case rel=>exact⟨1,dC,rfl⟩
    case measure=>simp[intOf]
   ·go_wp2
    go_ret;exact⟨by rw[o];rfl,rfl⟩
 subst E;go_wp2
 go_loop [8] (fun i=>∃k:Nat,k<=2/\i=k) (fun i=>2-(intOf i).toNat)
 case atStart=>exact⟨0,dC,rfl⟩
 case round =>
  obtain⟨k,J,rfl⟩:=hrel;obtain rfl|rfl|rfl:k=0∨k=1∨k=2:=oM
  ·go_wp2
   go_round
   case rel=>exact⟨1,dC,rfl⟩
   case measure=>simp[intOf]
  ·go_wp2
   go_round
   case rel=>exact⟨2,dC,rfl⟩
   case measure=>simp[intOf]
  ·go_wp2
   go_ret;exact⟨by rw[o];rfl,rfl⟩
theorem b3l (x y:Etr):Calls prog 84 #[x,y] w fun e w'=>e=.returned (.int .i64 (cmpT x y))/\∃q os',w'=grow (w.drewN q) os':=by
 have s:=fun W' a b=>AnyG.cmp_Compare_int Tryz.cmpInt a b W';change ∀W' a b,Calls prog 86 _ _ _ at s;obtain⟨r1,a0⟩:=eX (Lib.compareInt x.c.date y.c.date);obtain⟨r2,a4⟩:=eX (Lib.compareInt x.c.id y.c.id);have a7:∀W',Calls prog 86 #[x.c.date,y.c.date] W' fun e w'=>e=.returned (.int .i64 r1)/\w'=W':=fun W'=>by rw[a0];exact s W' x.c.date y.c.date
 have a8:∀W',Calls prog 86 #[x.c.id,y.c.id] W' fun e w'=>e=.returned (.int .i64 r2)/\w'=W':=fun W'=>by rw[a4];exact s W' x.c.id y.c.id
 have HV:Hid (cmpT x y=if r1≠0 then r1 else r2):=by show _=_;unfold cmpT cmpE;rw[a0,a4]
 have aa:=Z1 a7;have ab:=Z1 a8;obtain⟨a5,W,X,hz⟩:=a1m w x y 46 46;have hG:∃os,(w.alloc (.cells x 46)).alloc (.cells y 46)=grow w os:=⟨_,by rw[alloc_eq_grow,alloc_eq_grow,grow_grow]⟩;obtain⟨W2,Q⟩:=eX (((w.alloc (.cells x 46)).alloc (.cells y 46)));rw[<- Q] at a5 W X hz hG;obtain⟨HW,ac,ad,HG⟩:=Z4 Q W X hG;clear Q W X hz hG a5 s a7 a8 a0 a4;go_enter func84,ntmps84;go_upto_region 1 with(fail);rw[<- HW];have o:(fun W':World=>W'.heap[w.heap.size]?=some (.cells x 46 (0,0))/\W'.heap[w.heap.size+1]?=some (.cells y 46 (0,0))) W2.drew:=⟨ac,ad⟩;refine Vs (S:=fun W':World=>W'.heap[w.heap.size]?=some (.cells x 46 (0,0))/\W'.heap[w.heap.size+1]?=some (.cells y 46 (0,0))) kR ?_;change wpAnyH _ _ _ _ _ _ _ _ (World.drew W2);have a9:∃os,W2.drew=grow w.drew os:=by obtain⟨os,e⟩:=HG.out;exact⟨os,by rw[e];rfl⟩
 obtain⟨ag,a6⟩:=eX W2.drew;rw[<- a6] at o a9⊢;clear a6;refine jT 0 o ?_;refine jT 1 o ?_ (v:=.int .i64 x.c.date) (hy:=(.inl ⟨by rfl,fun W' i=>by have E:=cr9 2 i.1;simp at E;have c9:=Vq i.1;go_simp⟩));refine jT 2 o ?_;refine jT 3 o ?_ (v:=.int .i64 y.c.date) (hy:=(.inl ⟨by rfl,fun W' i=>by have E:=cr9 2 i.2;simp at E;have c9:=Vq i.2;go_simp⟩));refine jT 5 o ?_;refine jT 6 o ?_ (v:=.int .i64 x.c.id) (hy:=(.inl ⟨by rfl,fun W' i=>by have E:=cr9 0 i.1;simp at E;have c9:=Vq i.1;go_simp⟩));refine jT 7 o ?_;refine jT 8 o ?_ (v:=.int .i64 y.c.id) (hy:=(.inl ⟨by rfl,fun W' i=>by have E:=cr9 0 i.2;simp at E;have c9:=Vq i.2;go_simp⟩));refine rZ 4 fun K I=>?_;go_simp;refine(aa _).mono ?_;rintro ev W' ⟨rfl,rfl⟩;refine jK I o ?_;clear I K;refine rZ 9 fun K I=>?_;go_simp;refine(ab _).mono ?_;rintro ev W' ⟨rfl,rfl⟩;refine jK I o ?_;clear I K;refine rZ 10 fun K I=>?_;obtain⟨W4,T,L,J,af⟩:=nw1 W' #[r1,r2] 3;go_simp;have ae:∃os,W4=grow w.drew os:=by obtain⟨os,e⟩:=a9;exact⟨_,by rw[T,e,alloc_eq_grow,grow_grow]⟩
 have O:Hid (W4.heap[w.heap.size]?=some (.cells x 46 (0,0))/\W4.heap[w.heap.size+1]?=some (.cells y 46 (0,0))):=⟨gbox o.1 L (Vq o.1),gbox o.2 L (Vq o.2)⟩;have E:=cr9 0 J;have c1:=cr9 1 J;simp at E c1;have HO:=Z1 (b1j W4 W' r1 r2 E c1 (Vq J));rw[<- T];clear T J af E c1 L;refine jK I O.out ?_;clear I K;refine rZ 11 fun K I=>?_;go_simp;refine HO.mono ?_;rintro ev W5 ⟨rfl,rfl⟩;rw[<- HV];refine jK I O.out ?_;clear I K;refine jT 12 O.out ?_;refine VF kR ?_ _
 try simp only[z]
 go_wp2;go_ret;obtain⟨os,e⟩:=ae;exact⟨rfl,1,os,e⟩
instance:Inhabited Etr:=⟨Etr.zero⟩
theorem a6r (l:List Etr) (t:Nat) (h:t<l.length*7):(l.flatMap Etr.cells)[t]?=some ((flatK Etr.cells 7 l.toArray)[t]!):=by
 have a:t / 7<l.length:=oM;have s:t % 7<7:=QJ _ oM;rw[get_flatK _ _ _ _ (by simpa using h)];have e:t=t / 7*7+t % 7:=oM
 conv=>lhs;rw[e]
 rw[a1x Etr.cells 7 l (fun _ _=>rfl) (t / 7) a (t % 7) s];have o:l.toArray[t / 7]! = l[t / 7]:=by simp[a]
 rw[o];have i:(Etr.cells l[t / 7]).length=7:=rfl;rw[List.getElem?_eq_getElem oM,getElem!_pos _ _ oM]
theorem a9c {W:World} {base g n i:Nat} {l:List Etr} (h:W.ownsRow base 46 7 (.slice (some ⟨g,0,none⟩) n i) n (l.flatMap Etr.cells)) (O:n=l.length):HoldsK Etr.cells 7 W g 0 l.toArray:=by
 subst O
 rcases h.2 with⟨e,_⟩|⟨g',s,cur,e,_,I,L,_,Q,o⟩
 ·cases e
 ·simp only[Value.slice.injEq,Option.some.injEq,Addr.mk.injEq,KF,Jl] at e
  obtain⟨rfl,rfl⟩:=e;intro j J;have a:j<l.length*7:=by simpa using J
  refine⟨?_,?_⟩
  ·rw[VN,cr9 _ I,id]
   have E:=a6r l j a;rw[<- o,List.getElem?_take,Vt a] at E;simpa using E
  ·rw[VN];exact fr0 _ I
theorem a5X {W:World} {g B:Nat} {l:List Etr} (h:HoldsK Etr.cells 7 W g 0 l.toArray) (i:g<B):RowsAt Etr.cells 7 W B (some ⟨g,0,none⟩) l:=by
 refine .inr ⟨g,0,rfl,i,fun k s j v hv=>?_⟩;have o:j<7:=by have:=(List.getElem?_eq_some_iff.1 hv).1;exact this
 have a:=(h (k*7+j) sO).1;rw[VN] at a⊢;rw[a,id,<- a6r l (k*7+j) oM,a1x Etr.cells 7 l (fun _ _=>rfl) k s j o,hv]
theorem a5S (l:List Etr) (d:Array Etr) (S:PermIn 0 l.toArray.size l.toArray d) (T:SortedIn (ltOf cmpT) 0 l.toArray.size d):d.toList.Perm l/\d.toList.Pairwise (fun x y=>ltOf cmpT y x=false):=by
 obtain⟨L,_,E⟩:=S;have I:d.extract 0 l.toArray.size=d:=by rw[<- L];simp
 have J:l.toArray.extract 0 l.toArray.size=l.toArray:=sP;rw[I,J] at E;refine⟨by simpa using E,?_⟩;rw[YN];intro i j O Q o;have a:i<d.size:=by simpa using O
 have s:j<d.size:=by simpa using Q
 have:=T i j (Vb _) o oM;rw[getElem!_pos d i a,getElem!_pos d j s] at this;simpa using this
theorem a5C (w:World) (a off n:Nat) (d:Array Etr) (os:Array Obj) (B:Nat) (i:B<=a) (s:B<=w):RowKit.Below B w (sortWorldK Etr.cells 7 w a off n d os):=by
 refine⟨rfl,rfl,rfl,size_sortWorldK_c Etr.cells 7 w a off n d os,fun k o=>?_⟩;show(w.heap.modify a _++os)[k]?=w.heap[k]?;rw[Array.getElem?_append_left sO,Array.getElem?_modify,VB oM]
theorem isAggT:∀w,(isAgg 46).run prog w=.ok true w:=fun w=>kR
theorem sizeOfT:∀w,(Go.sizeOf 46).run prog w=.ok 7 w:=fun w=>kR
theorem cmpLaysT (a off size:Nat) (w:World):CmpLays prog 84 #[] Etr.cells 7 cmpT a off size w :=
 fun _ _ _ _ x y=>b3l _ x y
theorem a8t (base g i:Nat) (l:List Etr) (hl:l.length<=1000) (h:w.ownsRow base 46 7 (.slice (some ⟨g,0,none⟩) l.length i) l.length (l.flatMap Etr.cells)) (X:base<=g) :
  Calls prog 83 #[.slice (some ⟨g,0,none⟩) l.length i,.func (.func 84) #[] #[]] w fun e w' =>
   e=.returned (.tuple #[])/\RowKit.Below (min base w) w w'/\∃s:List Etr,s.Perm l/\s.Pairwise (fun x y=>ltOf cmpT y x=false)/\RowsAt Etr.cells 7 w' w' (some ⟨g,0,none⟩) s:=by
 have O:=a9c h rfl
 have E:g<w:=by
  rcases h.2 with⟨e,_⟩|⟨g',L,cur,e,_,E,_⟩
  ·cases e
  ·simp only[Value.slice.injEq,Option.some.injEq,Addr.mk.injEq,KF,Jl] at e
   rw[e.1];exact(Array.getElem?_eq_some_iff.1 E).1
 have a:=AnyQ.slices_SortFunc Tryz.sortEt 7 isAggT sizeOfT Etr.cells (fun _=>rfl) (fun x v hv=>by simp[Etr.cells] at hv;rcases hv with rfl|rfl|rfl|rfl|rfl|rfl|rfl <;> rfl) cmpT swoT 84 #[] g 0 i l.toArray w
  (enters_of func84 kR rfl) (cmpLaysT g 0 _ w) O E sO
 change Calls prog 83 _ _ _ at a;have o:l.toArray.size=l.length:=sP;rw[o] at a;refine a.mono ?_;rintro e w' ⟨rfl,d,n,J,Q,S,rfl⟩;obtain⟨T,W⟩:=a5S l d (by rw[o];exact Q) (by rw[o];exact S);refine⟨rfl,a5C w g 0 n d J _ oM oM,d.toList,T,W,?_⟩;have I:=holdsK_sortWorldK_c Etr.cells 7 w g 0 l.toArray d n J O E (by simpa using Q.1);exact a5X (by simpa using I) (Xg E (size_sortWorldK_c Etr.cells 7 w g 0 n d J))
theorem a3X:Calls prog 186 #[.slice none 0 0,(),(),.func (.func 84) #[] #[]] w fun e w'=>e=.returned (.tuple #[])/\w=w':=by
 go_enter func186,ntmps186;go_wp2
 go_loop [8] (fun i=>i=.int .i64 1) (fun _=>0)
 case atStart=>rfl
 case round =>
  obtain rfl:=hrel;go_wp2
  go_end0
  exact⟨rfl,rfl⟩
theorem b0g (i:Int):Calls prog 138 #[.slice none 0 0,(),(),i,.func (.func 84) #[] #[]] w fun e w'=>e=.returned (.tuple #[])/\w=w':=by
 go_enter func138,ntmps138;go_wp2
 go_loop [1,2] (fun a b=>a=.int .i64 0/\b=.int .i64 0) (fun _ _=>0)
 case atStart=>exact⟨rfl,rfl⟩
 case round =>
  obtain⟨rfl,rfl⟩:=hrel;go_wp2_with (go_at_call 186;refine(a3X _).mono ?_;rintro e w' ⟨rfl,rfl⟩)
  first|go_end0|refine VG (Kb rfl _ _ _) rfl ?_
  exact⟨rfl,rfl⟩
theorem a6Y:Calls prog 83 #[.slice none 0 0,.func (.func 84) #[] #[]] w fun e w'=>e=.returned (.tuple #[])/\w=w':=by
 go_enter func83,ntmps83;go_wp2_with (first|(go_at_call 139;refine(bitsLen0 _).mono ?_;rintro e w' ⟨rfl,rfl⟩)|(go_at_call 138;refine(b0g _ _).mono ?_;rintro e w' ⟨rfl,rfl⟩))
 go_end0
 exact⟨rfl,rfl⟩
def SortPost (base n a:Nat) (A:OA) (l:List Etr) (w:World) (e:Ending) (w':World):Prop :=
 e=.returned (.tuple #[])/\RowKit.Below (min base w) w w'/\∃s:List Etr,s.Perm l/\s.Pairwise (fun x y=>ltOf cmpT y x=false)/\RowsAt Etr.cells 7 w' w' A s
theorem a9F (base n a:Nat) (A:OA) (l:List Etr) (L:n=l.length) (J:n<=1000) (h:w.ownsRow base 46 7 (.slice A n a) n (l.flatMap Etr.cells)) :
  Calls prog 83 #[.slice A n a,.func (.func 84) #[] #[]] w (SortPost base n a A l w):=by
 subst L
 rcases h.2 with⟨e,O⟩|⟨g,o,s,e,I,_⟩
 ·simp only[Value.slice.injEq] at e
  obtain⟨rfl,i,rfl⟩:=e;obtain rfl:l=[]:=List.length_eq_zero_iff.1 i;exact(a6Y w).mono fun e w' ⟨i,E⟩=>⟨i,by rw[<- E];exact bR,[],QH _,List.Pairwise.nil,.inl rfl⟩
 ·simp only[Value.slice.injEq,Jl] at e
  obtain⟨rfl,rfl⟩:=e;exact a8t w base g a l J h I
theorem Jr.ids {g:Grp} {l:List EtC} (h:Jr.ok g l):∀i j (I:i<l.length) (s:j<l.length),i<j->l[i].id≠l[j].id:=by
 intro i j I s J e;unfold Jr.ok at h;simp only[Vp,Xb,XK] at h;have a:=h.2 j s;have E:l.getD j EtC.zero=l[j]:=by simp[s]
 rw[E] at a;unfold Jr.postOk at a;simp only[Vp] at a;have o:=a.1.1.2;unfold Jr.get at o;rw[Option.isNone_iff_eq_none,List.find?_eq_none] at o
 have L:l[i]∈l.take j:=by
  rw[XT];exact⟨i,oM,rfl⟩
 have:=o _ L;simp[e] at this
theorem Jr.id_inj {g:Grp} {l:List EtC} (h:Jr.ok g l) {x y:EtC} (s:x∈l) (hy:y∈l) (e:x.id=y.id):x=y:=by
 obtain⟨i,a,rfl⟩:=XD s;obtain⟨j,o,rfl⟩:=XD hy
 rcases Kz i j with q|q|q
 ·exact absurd e (Jr.ids h i j a o q)
 ·subst q;rfl
 ·exact absurd e.symm (Jr.ids h j i o a q)
theorem Tr.before_tr (a b c:EtC) (i:Tr.before a b) (o:Tr.before b c):Tr.before a c:=by
 unfold Tr.before at *;simp at *;omega
theorem Tr.before_to (a b:EtC):(Tr.before a b||Tr.before b a):=by
 unfold Tr.before;simp;omega
theorem a6G {x y:Etr} (h:ltOf cmpT y x=false):Tr.before x.c y.c:=by
 rw[ltT] at h;unfold Tr.before;simp at *;omega
def Tr.mine (b:Bks) (e:Nat) (la:Int) (x:EtC):Bool:=decide (x.ent=(e:Int))&&decide (x.date<=la)
theorem Tr.entries_eq {b:Bks} {e:Nat} {p:Int} (h:Tr.valid b) {s:List Etr} (S:s.Perm (b.ents.filter (fun x=>Tr.mine b e (Cal.last b.g.Y b.g.M p) x.c))) (T:s.Pairwise (fun x y=>ltOf cmpT y x=false)):s.map (·.c)=Tr.entries b e p:=by
 have Q:Jr.ok b.g (b.ents.map (·.c)):=by unfold Tr.valid at h;simp only[Vp] at h;exact h.1
 have O:(b.ents.filter (fun x=>Tr.mine b e (Cal.last b.g.Y b.g.M p) x.c)).map (·.c)=(b.ents.map (·.c)).filter (Tr.mine b e (Cal.last b.g.Y b.g.M p)):=by
  rw[List.filter_map];rfl
 have i:(s.map (·.c)).Perm ((b.ents.map (·.c)).filter (Tr.mine b e (Cal.last b.g.Y b.g.M p))):=by rw[<- O];exact S.map _
 have L:(Tr.entries b e p).Perm ((b.ents.map (·.c)).filter (Tr.mine b e (Cal.last b.g.Y b.g.M p))):=Zs _ _;have E:∀x∈s.map (·.c),x∈b.ents.map (·.c):=fun x o=>(Yw.1 (i.mem_iff.1 o)).1;have a:∀x∈Tr.entries b e p,x∈b.ents.map (·.c):=fun x o=>(Yw.1 (L.mem_iff.1 o)).1;refine JT (le:=fun x y=>Tr.before x y) ?_ ?_ (ZJ Tr.before_tr Tr.before_to _) (i.trans L.symm)
 ·intro x y o W I J
  exact Jr.id_inj Q (E x o) (a y W) (by unfold Tr.before at I J;simp at I J;omega)
 ·rw[List.pairwise_map]
  exact T.imp a6G
theorem Kp.grow {B mk:Nat} {w w':World} (h:Kp B mk w w'):w.grownBy w' (some mk):=⟨h.b.os,h.b.tape,h.b.output,h.b.size,fun i a o=>h.k i a o⟩
theorem b4B {B mk base sz n:Nat} {w w':World} {e:TypeId} {v:Value} {a:List Value} (h:w.ownsRow base e sz v n a) (i:Kp B mk w w') (o:mk<base):w'.ownsRow base e sz v n a:=by
 refine h.kept i.grow ?_
 cases hv:v.ownBlock with
 |none=>exact .inl rfl
 |some g=>exact .inr (fun q=>by cases q;have:=(h.lt mk hv).1;omega)
theorem b4A {base sz n i:Nat} {w:World} {e t:TypeId} {v:Value} {L:List Value} {cs:AV} {I:Nat × Nat} (h:w.ownsRow base e sz v n L) (J:w.heap[i]?=some (.cells cs t I)) (o:e≠t):some i≠v.ownBlock:=fun q=>by
 rcases h.2 with⟨rfl,_⟩|⟨g,E,s,rfl,_,a,_⟩
 ·simp[Value.ownBlock] at q
 ·simp[Value.ownBlock] at q
  subst q;rw[J] at a
  cases a
  exact o rfl
theorem b2l {base sz n i:Nat} {w w':World} {e t:TypeId} {v:Value} {I:List Value} {cs:AV} {s:Nat × Nat} (h:w.ownsRow base e sz v n I) (a:w.heap[i]?=some (.cells cs t s)) (o:e≠t) (E:w.grownBy w' v.ownBlock):w'.heap[i]?=some (.cells cs t s) :=
 (E.block i (Vq a) (b4A h a o)).trans a
theorem RowsAt.kp {α:Type} {f:α->List Value} {sz B mk C:Nat} {w w':World} {A:OA} {l:List α} (h:RowsAt f sz w C A l) (I:Kp B mk w w') (L:C<=w) (E:∀ad,A=some ad->mk<ad.block):RowsAt f sz w' C A l:=by
 rcases h with h|⟨b,o,e,J,s⟩
 ·exact .inl h
 ·have i:=E _ e
  simp at i;exact .inr ⟨b,o,e,J,fun k a j v hv=>(World.cell?_of_block (w:=w) (I.k b oM sO)).trans (s k a j v hv)⟩
theorem a1z {α:Type}:∀(l r:List (Option α)),allSome (l++none::r)=none
 |[],r=>rfl
 |none::l,r=>rfl
 |some x::l,r=>by rw[XM];unfold allSome;rw[a1z l r];rfl
theorem a2f {α:Type} (x:α):∀(l:List (Option α)) (s:List α),allSome l=some s->allSome (l++[some x])=some (s++[x])
 |[],s,h=>by cases h;rfl
 |none::l,s,h=>by cases h
 |some y::l,s,h=>by
  unfold allSome at h
  cases a:allSome l with
  |none=>rw[a] at h;cases h
  |some s' =>
   rw[a] at h
   cases h
   rw[XM];unfold allSome;rw[a2f x l s' a];rfl
theorem Desks.low {B C bd mk nk e:Nat} {w w':World} {b:Bks} {p la:Int} {cur:BA} {cv:Bool} (h:Desks B w bd mk nk b e p la cur cv) (a:Below C w w') (i:bd<C) (o:mk<C):Desks B w' bd mk nk b e p la cur cv:=by
 obtain⟨f,h⟩:=h;exact⟨f,gbox h.hb a i,h.hB1,h.hB2,h.hm.below a o,h.hf⟩
namespace Tr
def done (b:Bks) (e:Nat) (p:Int) (s:List Etr) (k:Nat):List (Option Itm):=((s.map (·.c)).take k).flatMap (tries b e p)
theorem done_succ (b:Bks) (e:Nat) (p:Int) (s:List Etr) {k:Nat} (a:k<s.length):done b e p s (k+1)=done b e p s k++tries b e p s[k].c:=by
 unfold done;rw[tse (by simpa using a),VL];simp
theorem b3b (b:Bks) (e:Nat) (p:Int) (s:List Etr):done b e p s s.length=(s.map (·.c)).flatMap (tries b e p):=by
 unfold done;rw[Vg sP]
theorem tries_succ (b:Bks) (e:Nat) (p:Int) (c:EtC) {j:Nat} (i:j<c.lines.length):(tries b e p c).take (j+1)=(tries b e p c).take j++[item b e p c j]:=by
 have o:j<(tries b e p c).length:=by unfold tries;simpa using i
 have a:(tries b e p c)[j]=item b e p c j:=by simp[tries]
 rw[tse o,a]
theorem tries_all (b:Bks) (e:Nat) (p:Int) (c:EtC) {n:Nat} (a:c.lines.length=n):(tries b e p c).take n=tries b e p c:=Vg (by unfold tries;simp[a])
theorem items_none {b:Bks} {e:Nat} {p:Int} {s:List Etr} (J:s.map (·.c)=entries b e p) {k j:Nat} (I:k<s.length) (E:j<s[k].c.lines.length) (h:item b e p s[k].c j=none):items b e p=none:=by
 unfold items
 by_cases a:valid b/\e<b.g.ents.length/\0<=p/\p<b.g.N
 ·rw[Vt a,<- J,<- X7 (k+1) (s.map (·.c)),VL]
  have i:((s.map (·.c)).take (k+1)).flatMap (tries b e p)=done b e p s k++tries b e p s[k].c:=done_succ b e p s I
  have o:tries b e p s[k].c=(tries b e p s[k].c).take j++none::(tries b e p s[k].c).drop (j+1):=by
   conv=>lhs;rw[<- X7 (j+1) (tries b e p s[k].c),tries_succ b e p _ E,h]
   simp
  rw[i,o];simp only[XH,XM];rw[<- XH];exact a1z _ _
 ·rw[VB a]
theorem items_some {b:Bks} {e:Nat} {p:Int} {s:List Etr} (a:okAt b e p) (o:s.map (·.c)=entries b e p) {l:LT} (h:allSome (done b e p s s.length)=some l):items b e p=some l:=by
 have i:valid b/\e<b.g.ents.length/\0<=p/\p<b.g.N:=a;unfold items;rw[Vt i,<- o,<- b3b];exact h
theorem err_at {b:Bks} {e:Nat} {p:Int} {s:List Etr} (J:okAt b e p) (hs:s.map (·.c)=entries b e p) {k j:Nat} (X:k<s.length) (W:j<s[k].c.lines.length) {m:LT} (h:allSome (done b e p s k++(tries b e p s[k].c).take j)=some m) (hz:itemErr b e p s[k].c j≠0):err b e p=itemErr b e p s[k].c j:=by
 have E:∀o∈done b e p s k++(tries b e p s[k].c).take j,o.isSome:=fun o ho=>by
  cases o with
  |some y=>rfl
  |none =>
   obtain⟨l,r,q⟩:=List.append_of_mem ho;rw[q,a1z] at h
   cases h
 have a:∀(x:EtC) (i:Nat),(item b e p x i).isSome->itemErr b e p x i=0:=fun x i q=>by unfold itemErr;rw[Vt q]
 have O:valid b/\e<b.g.ents.length/\0<=p/\p<b.g.N:=J;unfold err;rw[Vt O.1,Vt O.2,<- hs,<- X7 (k+1) (s.map (·.c)),tse (by simpa using X)];simp only[VL,XB,List.flatMap_nil,XG,Zw,XH];rw[a1A]
 ·have Q:errsOf b e p s[k].c=(errsOf b e p s[k].c).take j++itemErr b e p s[k].c j::(errsOf b e p s[k].c).drop (j+1):=by
   have hl:j<(errsOf b e p s[k].c).length:=by unfold errsOf;simpa using W
   have S:(errsOf b e p s[k].c)[j]=itemErr b e p s[k].c j:=by simp[errsOf]
   conv=>lhs;rw[<- X7 (j+1) (errsOf b e p s[k].c),tse hl,S]
   simp
  rw[Q];simp only[XH,XM];rw[a1A]
  ·show(if itemErr b e p s[k].c j=0 then _ else _)=_
   rw[VB hz]
  ·intro x I
   rw[XT] at I;obtain⟨i,L,rfl⟩:=I;have T:i<s[k].c.lines.length:=oM;simp only[errsOf,Zw,Jn];refine a _ _ (E _ (List.mem_append_right _ ?_));rw[XT];exact⟨i,by simp[tries];omega,by simp[tries]⟩
 ·intro x I
  obtain⟨y,hy,I⟩:=Yz.1 I;obtain⟨i,L,rfl⟩:=Yg.1 I;refine a _ _ (E _ (KW _ ?_));exact Yz.2 ⟨y,hy,Yg.2 ⟨i,L,rfl⟩⟩
theorem err_no {b:Bks} {e:Nat} {p:Int} (h:¬ okAt b e p):err b e p=if valid b then 2 else 1:=by
 unfold err
 by_cases hv:valid b
 ·rw[Vt hv,Vt hv,VB (fun q=>h ⟨hv,q⟩)]
 ·rw[VB hv,VB hv]
end Tr
def ItemsPost (o:Option (List Itm)) (w:World) (a:Ending) (w':World):Prop :=
 Below w w w'/\((o=none/\∃n,n≠0/\a=.returned (.tuple #[.slice none 0 0,.int .i64 n])) ∨
  (∃l A c,o=some l/\a=.returned (.tuple #[.slice A l.length c,()])/\l.length<=3660/\RowsAt Itm.cells 7 w' w' A l/\Fresh w A))
theorem itemInfo:(prog.info? 70).map (fun i=>(i.zero,i.size,i.bytes))=some (some (.agg #[(),(),(),(),(),(),()]),7,56):=kR
def ItemsPostE (o:Option (List Itm)) (a:Int) (w:World) (i:Ending) (w':World):Prop :=
 Below w w w'/\((o=none/\a≠0/\i=.returned (.tuple #[.slice none 0 0,a])) ∨
  (∃l A c,o=some l/\i=.returned (.tuple #[.slice A l.length c,()])/\l.length<=3660/\RowsAt Itm.cells 7 w' w' A l/\Fresh w A))
theorem ItemsPostE.post {o:Option (List Itm)} {a:Int} {w:World} {i:Ending} {w':World} (h:ItemsPostE o a w i w'):ItemsPost o w i w' :=
 ⟨h.1,h.2.imp (fun q=>⟨q.1,a,q.2.1,q.2.2⟩) id⟩
theorem a8Z (b:Bks) (e:Nat) (p:Int) (hb:b.At w w) :
  Calls prog 38 #[b,e,p] w (ItemsPostE (Tr.items b e p) (Tr.err b e p) w):=by
 obtain⟨W1,d6,c7,d7,hz⟩:=nw1 w b 36;have HW:=Z1 d6;have bx:=Z1 (hb.at_ c7);have s1:w.heap.size<W1.heap.size:=oM;have b8:w.heap.size<=W1.heap.size:=oM;have cq:=Z1 d7;have ck:=Z1 c7;have fa:=hb.hel;have fb:=hb.hen;clear d6 hz d7 hb c7;go_enter func38,ntmps38;go_upto_region 1 with(fail);rw[<- HW.out];go_wp2_with (refine Vd rfl 36 _ rfl _ rfl _ _ _ _ cq.out Zg rfl a1b ?_);refine(b2n W1 b e p bx.out).mono ?_;rintro ev Wo ⟨a6,h⟩
 rcases h with⟨cg,n,hn,dk,rfl⟩|⟨dl,bd,mk,rfl,hD,hk⟩
 ·have k1:(n != 0)=true:=by simpa using hn
  have HV:Hid (Tr.items b e p=none):=by show _=_;unfold Tr.items;exact VB cg
  have Hn:Hid (Tr.err b e p=n):=by show _=_;rw[Tr.err_no cg,dk]
  have e6:Hid (Tr.err b e p≠0):=by show _≠_;rw[Hn.out];exact hn
  have dr:=Z1 (ck.out.trans (a6.mono b8));clear hn dk cg a6;go_wp2
  go_ret2
  exact⟨dr.out,.inl ⟨HV.out,e6.out,by rw[Hn.out];rfl⟩⟩
 obtain⟨la,cf⟩:=eX (Cal.last b.g.Y b.g.M p);obtain⟨cur,bo⟩:=eX ((Gr.eat b.g.ents e).cur);obtain⟨cv,dd⟩:=eX (decide ((Gr.eat b.g.ents e).cur≠b.g.cur));rw[<- cf,<- dd,<- bo] at hD hk;obtain⟨HD,Hk,ay,e5,ds⟩:=Z5 hD hk dl cf a6;have be:=gB cq a6 s1;have cj:=cr9 21 be.out;simp at cj;have so:=Vq be.out;have b9:W1.heap.size<=Wo.heap.size:=hk.hB;have dt:=Z1 (ck.out.trans (a6.mono b8));obtain⟨f0,b3⟩:=hD;have e0:=Z1 b3.hb;have bk:=Vq b3.hb;have bu:mk<Wo.heap.size:=b3.hm.lt;obtain⟨P,hP⟩:=eX ((fun x=>Tr.mine b e la x.c):Etr->Bool);have HP:=Z1 hP;obtain⟨eA,cc⟩:=eX b.eA;have e2:=Z1 cc;rw[<- cc] at cj;obtain⟨i0,hi,ep,eq,er⟩:=XW etrInfo;clear cf bo dd hk dl a6 b3 hP cc;go_wp2
 go_loopw [10,32] (fun v i wr=>∃k:Nat,k<=b.en/\i=.int .i64 k/\wr.ownsRow Wo.heap.size 46 7 v ((b.ents.take k).filter P).length (((b.ents.take k).filter P).flatMap Etr.cells)/\Below Wo Wo wr) (fun _ i _=>b.en-(intOf i).toNat)
 case atStart=>exact⟨0,Vb _,rfl,Xp _ _ _ _,bR⟩
 case round =>
  obtain⟨k,hk,rfl,a,a9⟩:=hrel;have bi:=Z1 a;have cn:=Z1 a9;have dn:=a9.size;have de:=XY P (b.ents.take k);simp only[XF] at de;clear a cj
  by_cases fd:k<b.en
  case neg =>
   obtain rfl:k=b.en:=oM;go_upto_region 11 with(fail);have a:=bi.out;rw[Vg oM] at a;obtain⟨ls,b6⟩:=eX (b.ents.filter P);rw[<- b6] at a;have di:ls.length<=61:=by rw[b6];exact Vn (XY _ _) oM
   have bq:ls=b.ents.filter (fun x=>Tr.mine b e (Cal.last b.g.Y b.g.M p) x.c):=by rw[b6,HP.out,e5.out]
   obtain⟨A',c',rfl,hA⟩:=Xw (f:=Etr.cells) (sz:=7) dC (fun _=>rfl) a rfl;have df:∀ad,A'=some ad->mk<ad.block:=fun ad q=>Xg bu (a0K a ad q);obtain⟨HS,bh,e3⟩:=Z3 (a9F wr Wo ls.length c' A' ls rfl oM a) bq df;clear a b6 bq hA de df;go_wp2_with (fail);refine HS.out.mono ?_;rintro r W ⟨rfl,c8,s,hp,bw,av⟩;rw[JP dn] at c8;have dm:=hp.length_eq;rw[<- dm];have HE:Hid (s.map (·.c)=Tr.entries b e p):=Tr.entries_eq ay.out.1 (by rw[<- bh.out];exact hp) bw;have HX:Hid (∀x∈s,x∈b.ents):=Z1 fun x hx=>(Yw.1 (by have:=hp.mem_iff.1 hx;rwa [bh.out] at this)).1;have a5:=Z1 (cn.out.trans c8);have c4:=Z1 av;have fe:Wo.heap.size<=W.heap.size:=a5.out.size;have ez:s.length<=61:=oM;have dx:=Z1 (HD.out.low a5.out bk bu);have bt:mk<W.heap.size:=oM;have d8:bd<W.heap.size:=oM;have b1:W1.heap.size<=W.heap.size:=oM;have bb:=Z1 (dt.out.trans (a5.out.mono oM));have es:=Z1 (ds.out.trans (a5.out.mono b9));clear hp bw av c8 dm di;go_wp2
   go_loopw [13,58] (fun v i wr=>∃(k:Nat) (l:List Itm),k<=s.length/\i=.int .i64 k/\wr.ownsRow W.heap.size 70 7 v l.length (l.flatMap Itm.cells)/\allSome (Tr.done b e p s k)=some l/\l.length<=60*k/\Kp W1 mk W wr/\Desks W1 wr bd mk l.length b e p la cur cv) (fun _ i _=>s.length-(intOf i).toNat)
   case atStart=>exact⟨0,[],Vb _,rfl,Xp _ _ _ _,rfl,sP,Kp.of bR b1,dx.out⟩
   case round =>
    obtain⟨S,l,fc,rfl,ap,bj,ew,ce,d4⟩:=hrel;obtain⟨ag,bc,ax,du⟩:=Z4 ap bj ce d4;have eh:W.heap.size<=wr.heap.size:=ce.b.size;clear ap bj ce d4
    by_cases L:S<s.length
    case neg =>
     obtain rfl:S=s.length:=oM;have a:=ag.out;obtain⟨A2,c2,rfl,d1⟩:=Xw (f:=Itm.cells) (sz:=7) dC (fun _=>rfl) a rfl;have bp:=a0K a
     have bz:Hid (ItemsPostE (Tr.items b e p) (Tr.err b e p) w (.returned (.tuple #[.slice A2 l.length c2,()])) wr) :=
      Z1 ⟨bb.out.trans (ax.out.b.mono b8),.inr ⟨l,A2,c2,Tr.items_some ay.out HE.out bc.out,rfl,oM,d1,fun ad q=>Vn oM (bp ad q)⟩⟩
     clear a d1 bp;go_wp2
     go_ret2
     exact bz.out
    obtain⟨bs,os,b5,f9,hr⟩:=RowsAt.look (RowsAt.kp c4.out ax.out lR (by intro ad q;have:=e3.out ad q;exact this)) L;subst b5;obtain⟨x,hx⟩:=eX (s[S]);have br:=HX.out x (by rw[hx];exact Vm L);obtain⟨ct,cx,cy⟩:=Z3 (Tr.done_succ b e p s L) (fun(j:Nat) (h1:j<s[S].c.lines.length) (h2:Tr.item b e p s[S].c j=none)=>Tr.items_none HE.out L h1 h2) (fun(j:Nat) (h1:j<s[S].c.lines.length) (m:List Itm) (h2:allSome (Tr.done b e p s S++(Tr.tries b e p s[S].c).take j)=some m) (h3:Tr.itemErr b e p s[S].c j≠0)=>Tr.err_at ay.out HE.out L h1 h2 h3);rw[<- hx] at hr ct cx cy;clear hx;obtain⟨c,A,n,kc⟩:=x;have hr:wr.rangeAt bs (os+S*7) [c.id,c.ent,c.date,c.kind,c.of_,.string c.text,.slice A n kc]:=hr;have Hr:=Z1 hr;have ba:=Hk.out.hb.hEx _ br;have ee:c.lines.length=n:=ba.hl;have ey:n<=60:=by have h1:c.lines.length<=60:=ba.hw.hln;omega
    have d3:Below W1 Wo wr:=(a5.out.mono b9).trans ax.out.b;have ea:=Z1 ba;have f7:=Z1 (Hk.out.below d3 oM);obtain⟨Wa,aj,E,Q,ci⟩:=nw1 wr (TE c A n kc) 46;obtain⟨ac,az,J,dw,cw⟩:=Z5 aj Q (Vj ag.out E) (du.out.below E) (ax.out.then_ (E.mono eh) b1);have y6:=cr9 6 Q;simp at y6;have sa:wr.heap.size<Wa.heap.size:=oM;have bv:wr.heap.size≠mk:=oM;have da:bs<wr.heap.size:=oM;clear hr br ba d3 aj Q ci E;go_upto_region 16 with(refine VH rfl 46 (.tmp 60) rfl bs (os+S*7) rfl [c.id,c.ent,c.date,c.kind,c.of_,.string c.text,.slice A n kc] _ Hr.out X0 rfl a0v ?_);rw[<- ac.out];obtain⟨ib,cd⟩:=eX wr.heap.size;rw[<- cd] at y6 az bv sa da⊢;have f6:=Z1 cd;clear cd;go_wp2
    go_loopw [13,65] (fun v i wi=>∃(j:Nat) (m:List Itm),j<=n/\i=.int .i64 j/\wi.ownsRow W.heap.size 70 7 v m.length (m.flatMap Itm.cells)/\allSome (Tr.done b e p s S++(Tr.tries b e p c).take j)=some m/\m.length<=60*S+j/\Kp W1 mk W wi/\Desks W1 wi bd mk m.length b e p la cur cv/\wi.heap[ib]?=some (.cells (TE c A n kc) 46 (0,0))) (fun _ i _=>n-(intOf i).toNat)
    case atStart=>exact⟨0,l,Vb _,rfl,J.out,by rw[YV,XG];exact bc.out,oM,cw.out,dw.out,az.out⟩
    case round =>
     obtain⟨j,m,hj,rfl,aq,ak,ex,am,d5,bm⟩:=hrel;obtain⟨ah,T,af,co,ae⟩:=Z5 aq ak am d5 bm;have ei:W.heap.size<=wr.heap.size:=am.b.size;clear aq ak am d5 bm y6
     by_cases dj:j<n
     case neg =>
      obtain rfl:j=n:=oM;have c0:Hid (allSome (Tr.done b e p s (S+1))=some m):=by show _=_;rw[ct.out,<- T.out,Tr.tries_all _ _ _ _ ee]
      go_wp2;go_roundw
      case rel=>exact⟨S+1,m,oM,by go_num,ah.out,c0.out,oM,af.out,co.out⟩
      case measure=>exact mS
     have a0:Below W1 Wo wr:=(a5.out.mono b9).trans af.out.b;have el:=(Hk.out.hb.below a0 lR);have e4:=Z1 (Hk.out.below a0 oM);have eb:Hid ((⟨c,A,n,kc⟩:Etr).At wr W1):=Z1 ((ea.out).below a0 lR);have sb:=Vq ae.out;clear el a0;go_wp2_with (refine Vd rfl 46 _ rfl _ rfl _ _ _ _ ae.out X0 rfl a0v ?_);refine(b2H wr W1 bd mk m.length b e p la cur cv c A n kc j e4.out co.out eb.out dj oM).mono ?_;rintro ev Wt ⟨a8,d2,c9,y,q,rfl,b7,hq,hy⟩;have ej:W.heap.size<=Wt.heap.size:=Vn ei a8.b.size;obtain⟨c3,bf,cu,dy⟩:=Z4 (b4B ah.out a8 bt) (a8.box ae.out bv) (af.out.trans a8) c9;obtain⟨Wu,cb,a7,ch,dp⟩:=nw1 Wt y 70;have cp:=Z1 cb;have su:Wt.heap.size<Wu.heap.size:=oM;have ek:W.heap.size<=Wu.heap.size:=oM;have e8:=Z1 ch;have bg:=Z1 (cu.out.then_ (a7.mono ej) b1)
     by_cases aa:q=0
     case neg =>
      have k1:(q != 0)=true:=by simpa using aa
      have HN:Hid (Tr.items b e p=none):=cx.out j oM (by cases ho:Tr.item b e p c j with|none=>rfl|some v=>exact absurd (hq.2 (by rw[ho];rfl)) aa)
      have cz:Hid (Tr.err b e p=q):=by
       show _=_;rw[cy.out j oM m T.out (by rw[<- b7];exact aa),b7]
      have e7:Hid (Tr.err b e p≠0):=by show _≠_;rw[cz.out];exact aa
      clear a8 d2 c9 b7 hq hy aa cb ch dp a7;go_upto_region 20 with(fail);rw[<- cp.out];go_wp2
      go_ret2
      exact⟨bb.out.trans (bg.out.b.mono b8),.inl ⟨HN.out,e7.out,by rw[cz.out];rfl⟩⟩
     subst aa;obtain⟨v,hv⟩:=Option.isSome_iff_exists.1 (hq.1 rfl);obtain rfl:=hy v hv;have e9:=Z1 (Tr.tries_succ b e p c (show j<c.lines.length by omega))
     have c1:Hid (allSome (Tr.done b e p s S++(Tr.tries b e p c).take (j+1))=some (m++[y])):=by
      show _=_;rw[e9.out,hv,<- XH];exact a2f _ _ _ T.out
     have ar:=Vj c3.out a7;have al:=gbox bf.out a7 (Vq bf.out);have dv:=Z1 (dy.out.below a7);obtain⟨i1,ef,em,en,eo⟩:=XW itemInfo;have o:=ar.alloc (.cells y 70);have an:=Xk Wu y 70;have ao:∀u∈(y:List Value),u.oneCell'=true:=oC;have c5:m.length+1<=maxLen:=by unfold maxLen;omega
     have c6:(m.length+1)*56<=140737488355328:=oM;have ai:W.heap.size<=(Wu.alloc (.cells y 70)).heap.size:=sO;have a4:=(VM Wu Wu).alloc lR (.cells y 70);have cr:=Z1 (gbox al a4 (Vq al));clear a8 d2 c9 b7 hq hy hv cb ch dp a7 ar al;go_upto_region 20 with(fail);rw[<- cp.out];go_wp2_with (first|(refine Vd rfl 70 _ rfl _ rfl _ _ _ _ e8.out Zz rfl a0P ?_)|(at_builtin;refine Hid.out ?_));show wpList _ _ _ _ _ _;refine Xd _ rfl _ _ 53 rfl W.heap.size 70 i1 (.agg #[(),(),(),(),(),(),()]) 7 56 JN ef em en eo rfl dC _ _ _ rfl o ⟨Wu,0,none⟩ 1 1 y rfl rfl an ao c5 c6 ai ?_;intro v' w1 X I _;have bn:Below W Wu w1:=(a4.mono ek).grown I ai (fun j hj=>(o.lt j hj).1);have dh:=bg.out.then_ bn b1;have ec:=dv.out.low bn d8 bt;have dc:=b2l o cr.out dC I;go_wp2;go_roundw
     case rel=>exact⟨j+1,m++[y],oM,by go_num,by rw[Vc,VL];simpa[Itm.cells] using X,c1.out,sO,dh,by rw[Vc];exact ec,dc⟩
     case measure=>exact mS
  have dg:k<b.ents.length:=oM;have d9:=(Hk.out.hb.below (a9.mono b9) lR);obtain⟨bl,ol,b5,f8,hr⟩:=RowsAt.look d9.hE dg;rw[<- e2.out] at b5;subst b5;obtain⟨x,hx⟩:=eX (b.ents[k]);have b0:=Z1 (a1v (P:=P) dg);rw[<- hx] at hr b0;have Hr:=Z1 hr;have et:bl<wr.heap.size:=oM;have e1:=gB e0 a9 bk;clear hr hx d9;obtain⟨Wa,aj,E,Q,ci⟩:=nw1 wr x 46;have ac:=Z1 aj;have az:=Z1 Q;have sa:wr.heap.size<Wa.heap.size:=oM;have aw:=Z1 (a9.trans (E.mono dn));have J:=Z1 (Vj bi.out E);have cs:=gS e1 E;have y1:=cr9 1 Q;have y2:=cr9 2 Q;have dq:=cr9 29 cs.out;simp at y1 y2 dq;have sd:=Vq cs.out;clear aj Q ci E a9;have eu:e<1000000000:=by have h1:=ay.out.2.1;have h2:=bx.out.hg.hel;have h3:=bx.out.hg.hen;omega
  by_cases O:x.c.ent=(e:Int)
  case neg =>
   have k1:(x.c.ent==(e:Int))=false:=by simp[O]
   have ab:Hid ((b.ents.take (k+1)).filter P=(b.ents.take k).filter P):=by show _=_;rw[b0.out,VB (by rw[HP.out];simp[Tr.mine,O]),XG]
   clear O;go_upto_region 8 with(refine VH rfl 46 (.tmp 34) rfl bl (ol+k*7) rfl x _ Hr.out X0 rfl a0v ?_);rw[<- ac.out];go_quiet (fail);go_wp2;go_roundw
   case rel=>exact⟨k+1,oM,by go_num,by rw[ab.out];exact J.out,Vw aw.out _⟩
   case measure=>exact mS
  have k1:(x.c.ent==(e:Int))=true:=by simp[O]
  by_cases eg:x.c.date<=la
  case neg =>
   have ab:Hid ((b.ents.take (k+1)).filter P=(b.ents.take k).filter P):=by show _=_;rw[b0.out,VB (by rw[HP.out];simp[Tr.mine,O];omega),XG]
   clear O;go_upto_region 8 with(refine VH rfl 46 (.tmp 34) rfl bl (ol+k*7) rfl x _ Hr.out X0 rfl a0v ?_);rw[<- ac.out];go_quiet (fail);go_wp2;go_roundw
   case rel=>exact⟨k+1,oM,by go_num,by rw[ab.out];exact J.out,Vw aw.out _⟩
   case measure=>exact mS
  have ab:Hid ((b.ents.take (k+1)).filter P=(b.ents.take k).filter P++[x]):=by show _=_;rw[b0.out,Vt (by rw[HP.out];simp[Tr.mine,O,eg])]
  clear O;go_upto_region 8 with(refine VH rfl 46 (.tmp 34) rfl bl (ol+k*7) rfl x _ Hr.out X0 rfl a0v ?_);rw[<- ac.out];go_quiet (fail);obtain⟨Wd,ca⟩:=eX (Wa.drewN nq);have b2:Below Wa Wa Wd:=by rw[ca];exact Vw bR _
  rw[<- ca];have au:=Vj J.out b2;have b4:=aw.out.trans (b2.mono aw.out.size);have d0:=gB az b2 sa;have ff:=Vq d0.out;have o:=au.alloc (.cells x 46);have an:=Xk Wd x 46;have ao:∀u∈(x:List Value),u.oneCell'=true:=oC;have c5:((b.ents.take k).filter P).length+1<=maxLen:=by unfold maxLen;omega
  have c6:(((b.ents.take k).filter P).length+1)*80<=140737488355328:=oM;have ai:Wo.heap.size<=(Wd.alloc (.cells x 46)).heap.size:=by have:=b4.size;simp;omega
  have a4:=b4.alloc b4.size (.cells x 46);clear ca y1 y2 dq b2 au b4;go_wp2_with (first|(refine Vd rfl 46 _ rfl _ rfl _ _ _ _ d0.out X0 rfl a0v ?_)|(at_builtin;refine Hid.out ?_));show wpList _ _ _ _ _ _;refine Xd _ rfl _ _ 30 rfl Wo.heap.size 46 i0 (.agg #[(),(),(),(),(),.string ByteArray.empty,.slice none 0 0]) 7 80 underlying30 hi ep eq er rfl dC _ _ _ rfl o ⟨Wd,0,none⟩ 1 1 x rfl rfl an ao c5 c6 ai ?_;intro v' w1 X I _;have ed:=a4.grown I ai (fun j hj=>(o.lt j hj).1);go_wp2;go_roundw
  case rel=>exact⟨k+1,oM,by go_num,by rw[ab.out,Vc,VL];simpa[Etr.cells] using X,ed⟩
  case measure=>exact mS
theorem a1i (w:World) (X j:Nat) (v:Value):w.grownBy (w.setCell ⟨X,j,none⟩ v) (some X) :=
 ⟨rfl,rfl,rfl,by simp[World.setCell],fun k i a=>YJ w _ _ _ (fun e=>a (by rw[e]))⟩
theorem a7m {base sz n i j:Nat} {w:World} {e:TypeId} {v u:Value} {o:List Value} (h:w.ownsRow base e sz v n o) (a:some i≠v.ownBlock):(w.setCell ⟨i,j,none⟩ u).ownsRow base e sz v n o :=
 h.kept (a1i w i j u) (by cases hv:v.ownBlock with|none=>exact .inl rfl|some g=>exact .inr (fun q=>a (by rw[hv,q])))
def SlicePost (l:LT) (w:World) (a:Ending) (w':World):Prop :=
 Below w w w'/\∃A c,a=.returned (.slice A l.length c)/\RowsAt Itm.cells 7 w' w' A l/\Fresh w A
theorem a2g (g:Grp) (A:Option Addr) (n c:Nat) (l:List Itm) (a:Int) (hg:g.At w w) (hl:l.length=n) (hn:n<=4000) (hA:RowsAt Itm.cells 7 w w A l) :
  Calls prog 39 #[g,.slice A n c,a] w (SlicePost (l.map (Cb.acq g a)) w):=by
 obtain⟨W,b9,ax,bb,hz⟩:=nw1 w g 29;have HW:=Z1 b9;have bo:=Z1 (hg.at_ ax);have s1:w.heap.size<W.heap.size:=oM;obtain⟨bn,b0,HA,Hl⟩:=Z4 bb ax hA hl;obtain⟨i0,hi,aj,ak,al⟩:=XW itemInfo;clear b9 hz bb hg ax hA hl;go_enter func39,ntmps39;go_upto_region 1 with(fail);rw[<- HW.out];go_wp2
 go_loopw [7,12] (fun v i wr=>∃k:Nat,k<=n/\i=.int .i64 k/\wr.ownsRow W.heap.size 70 7 v ((l.take k).map (Cb.acq g a)).length (((l.take k).map (Cb.acq g a)).flatMap Itm.cells)/\Below W W wr) (fun _ i _=>n-(intOf i).toNat)
 case atStart=>exact⟨0,Vb _,rfl,Xp _ _ _ _,bR⟩
 case round =>
  obtain⟨k,hk,rfl,I,a9⟩:=hrel;have bk:=a9.size
  by_cases bx:k<n
  case neg =>
   obtain rfl:k=n:=oM;rw[Vg (by have:=Hl.out;omega)] at I;obtain⟨A2,c2,rfl,b8⟩:=Xw (f:=Itm.cells) (sz:=7) dC (fun _=>rfl) I rfl;have bc:=a0K I;have HP:Hid (SlicePost (l.map (Cb.acq g a)) w (.returned (.slice A2 (l.map (Cb.acq g a)).length c2)) wr):=Z1 ⟨b0.out.trans (a9.mono oM),A2,c2,rfl,b8,fun ad q=>Vn oM (bc ad q)⟩;clear I b8 bc a9;go_wp2;go_ret;exact HP.out
  have bf:k<l.length:=by have:=Hl.out;omega
  have ap:=b0.out.trans (a9.mono (XC s1));obtain⟨bl,ol,bq,bw,hr⟩:=RowsAt.look (RowsAt.below HA.out ap lR) bf;subst bq;obtain⟨x,hx⟩:=eX (l[k]);have ae:Hid ((l.take (k+1)).map (Cb.acq g a)=(l.take k).map (Cb.acq g a)++[Cb.acq g a x]):=by show _=_;rw[tse bf,Xn,hx];rfl
  have bg:((l.take k).map (Cb.acq g a)).length<=4000:=sO;rw[<- hx] at hr;have Hr:=Z1 hr;have bv:bl<wr.heap.size:=oM;obtain⟨L,hL⟩:=eX ((l.take k).map (Cb.acq g a));rw[<- hL] at I ae bg;have bp:=Z1 I.lt;obtain⟨Wa,ba,ay,ai,br⟩:=nw1 wr x 70;have b2:=Z1 ba;have aw:=Z1 ai;have sa:wr.heap.size<Wa.heap.size:=oM;have a7:=Z1 (a9.trans (ay.mono bk));have ao:=Z1 (Vj I ay);have au:=Z1 (gbox bn.out a7.out s1);have bj:=Z1 (Xq au.out);have b4:=Z1 (bo.out.at_ a7.out);have y2:=cr9 3 ai;have y4:=cr9 5 ai;simp at y2 y4;have sg:=Vq au.out;obtain⟨ib,az⟩:=eX wr.heap.size;have bh:some ib≠u7.ownBlock:=fun q=>by have:=(bp.out ib q.symm).2;omega
  have bu:bl<ib:=oM;rw[<- az] at aw sa y2 y4;have be:ib<Wa.heap.size:=oM;have aq:W.heap.size<=ib:=oM;have b6:=Z1 az;have b7:=Z1 bh;clear I a9 ap hr hx hL ba ai br ay bh az
  by_cases hd:x.date<=a
  case neg =>
   have HX:Hid (Cb.acq g a x=x):=by show _=_;unfold Cb.acq;rw[VB (fun h=>hd h.1)]
   go_upto_region 5 with(refine VH rfl 70 (.tmp 14) rfl bl (ol+k*7) rfl x _ Hr.out Zz rfl a0P ?_);rw[<- b2.out,<- b6.out];go_upto_region 7 with(fail);have o:=ao.out.alloc (.cells x 70);have S:=Xk Wa x 70;have T:∀u∈(x:List Value),u.oneCell'=true:=oC;have a4:L.length+1<=maxLen:=by unfold maxLen;omega
   have a5:(L.length+1)*56<=140737488355328:=oM;have J:W.heap.size<=(Wa.alloc (.cells x 70)).heap.size:=by have:=a7.out.size;simp;omega
   have Q:=a7.out.alloc a7.out.size (.cells x 70);go_wp2_with (first|(refine Vd rfl 70 _ rfl _ rfl _ _ _ _ aw.out Zz rfl a0P ?_)|(at_builtin;refine Hid.out ?_));show wpList _ _ _ _ _ _;refine Xd _ rfl _ _ 53 rfl W.heap.size 70 i0 (.agg #[(),(),(),(),(),(),()]) 7 56 JN hi aj ak al rfl dC _ _ _ rfl o ⟨Wa,0,none⟩ 1 1 x rfl rfl S T a4 a5 J ?_;intro v' w1 E s _;have a6:=Q.grown s J (fun j hj=>(o.lt j hj).1);go_wp2;go_roundw
   case rel=>exact⟨k+1,oM,by go_num,by rw[ae.out,HX.out,Vc,VL];simpa[Itm.cells] using E,a6⟩
   case measure=>exact mS
  go_upto_region 5 with(refine VH rfl 70 (.tmp 14) rfl bl (ol+k*7) rfl x _ Hr.out Zz rfl a0P ?_);rw[<- b2.out,<- b6.out];go_wp2_with (refine Vv (by rfl) 29 (.tmp 3) rfl w.heap.size 0 rfl _ _ bj.out VS rfl VJ ?_);refine(b4h Wa g x.acct b4.out).mono ?_;rintro ev W2 ⟨rfl,a8⟩;have ab:=gB aw a8 be;have b1:=bT a7 a8;have am:=Z1 (Vj ao.out a8);have ah:=gB au a8 sg;have bi:=Z1 (Xq ah.out);have b5:=Z1 (b4.out.at_ a8);have z2:=cr9 3 ab.out;have bm:=cr9 12 ah.out;have zf:=fun j=>fr0 j ab.out;simp at z2 bm;have s2:=Vq ab.out;have bs:=Vq ah.out;clear a8 y2 y4
  cases he:Gr.isEquity g x.acct with
  |true =>
   have HX:Hid (Cb.acq g a x={ x with acct:=g.r7 }):=by show _=_;unfold Cb.acq;rw[Vt ⟨hd,.inl he⟩]
   have X:=Xh W2 ib 3 _ _ (.int .i64 g.r7) ab.out;simp at X;obtain⟨W5,O⟩:=eX (W2.setCell ⟨ib,3,none⟩ (.int .i64 g.r7));have aa:Hid (W5.ownsRow W.heap.size 70 7 u7 L.length (L.flatMap Itm.cells)):=by show World.ownsRow _ _ _ _ _ _ _;rw[O];exact a7m am.out b7.out
   have a0:Hid (Below W W W5):=by show Below _ _ _;rw[O];exact b1.out.setCell (p:=⟨ib,3,none⟩) aq _
   rw[<- O] at X;have ar:=Z1 O;have av:=Z1 X;clear X O he;go_upto_region 7 with(fail);rw[<- ar.out];have o:=aa.out.alloc (.cells #[x.ent0,x.lin,x.ent,g.r7,x.partner,x.date,x.amt] 70);have S:=Xk W5 [x.ent0,x.lin,x.ent,g.r7,x.partner,x.date,x.amt] 70;have T:∀u∈([x.ent0,x.lin,x.ent,g.r7,x.partner,x.date,x.amt]:List Value),u.oneCell'=true:=oC;have a4:L.length+1<=maxLen:=by unfold maxLen;omega
   have a5:(L.length+1)*56<=140737488355328:=oM;have J:W.heap.size<=(W5.alloc (.cells #[x.ent0,x.lin,x.ent,g.r7,x.partner,x.date,x.amt] 70)).heap.size:=by have:=a0.out.size;simp;omega
   have Q:=a0.out.alloc a0.out.size (.cells #[x.ent0,x.lin,x.ent,g.r7,x.partner,x.date,x.amt] 70);go_wp2_with (first|(refine Vd rfl 70 _ rfl _ rfl _ _ _ _ av.out Zz rfl a0P ?_)|(at_builtin;refine Hid.out ?_));show wpList _ _ _ _ _ _;refine Xd _ rfl _ _ 53 rfl W.heap.size 70 i0 (.agg #[(),(),(),(),(),(),()]) 7 56 JN hi aj ak al rfl dC _ _ _ rfl o ⟨W5,0,none⟩ 1 1 [x.ent0,x.lin,x.ent,g.r7,x.partner,x.date,x.amt] rfl rfl S T a4 a5 J ?_;intro v' w1 E s _;have a6:=Q.grown s J (fun j hj=>(o.lt j hj).1);go_wp2;go_roundw
   case rel=>exact⟨k+1,oM,by go_num,by rw[ae.out,HX.out,Vc,VL];simpa[Itm.cells] using E,a6⟩
   case measure=>exact mS
  |false =>
  go_wp2_with (refine Vv (by rfl) 29 (.tmp 3) rfl w.heap.size 0 rfl _ _ bi.out VS rfl VJ ?_);refine(a5n W2 g x.acct b5.out).mono ?_;rintro ev W3 ⟨rfl,af⟩;have ac:=gB ab af s2;have ag:=bT b1 af;have an:=Z1 (Vj am.out af);have b3:=gB ah af bs;have u2:=cr9 3 ac.out;have bt:=cr9 12 b3.out;have uf:=fun j=>fr0 j ac.out;simp at u2 bt;have s3:=Vq ac.out;have bz:=Vq b3.out;have He:=Z1 he;clear af z2 bm zf he
  cases he:Gr.isResult g x.acct with
  |true =>
   have HX:Hid (Cb.acq g a x={ x with acct:=g.r7 }):=by show _=_;unfold Cb.acq;rw[Vt ⟨hd,.inr he⟩]
   have X:=Xh W3 ib 3 _ _ (.int .i64 g.r7) ac.out;simp at X;obtain⟨W5,O⟩:=eX (W3.setCell ⟨ib,3,none⟩ (.int .i64 g.r7));have aa:Hid (W5.ownsRow W.heap.size 70 7 u7 L.length (L.flatMap Itm.cells)):=by show World.ownsRow _ _ _ _ _ _ _;rw[O];exact a7m an.out b7.out
   have a0:Hid (Below W W W5):=by show Below _ _ _;rw[O];exact ag.out.setCell (p:=⟨ib,3,none⟩) aq _
   rw[<- O] at X;have ar:=Z1 O;have av:=Z1 X;clear X O he;go_upto_region 7 with(fail);rw[<- ar.out];have o:=aa.out.alloc (.cells #[x.ent0,x.lin,x.ent,g.r7,x.partner,x.date,x.amt] 70);have S:=Xk W5 [x.ent0,x.lin,x.ent,g.r7,x.partner,x.date,x.amt] 70;have T:∀u∈([x.ent0,x.lin,x.ent,g.r7,x.partner,x.date,x.amt]:List Value),u.oneCell'=true:=oC;have a4:L.length+1<=maxLen:=by unfold maxLen;omega
   have a5:(L.length+1)*56<=140737488355328:=oM;have J:W.heap.size<=(W5.alloc (.cells #[x.ent0,x.lin,x.ent,g.r7,x.partner,x.date,x.amt] 70)).heap.size:=by have:=a0.out.size;simp;omega
   have Q:=a0.out.alloc a0.out.size (.cells #[x.ent0,x.lin,x.ent,g.r7,x.partner,x.date,x.amt] 70);go_wp2_with (first|(refine Vd rfl 70 _ rfl _ rfl _ _ _ _ av.out Zz rfl a0P ?_)|(at_builtin;refine Hid.out ?_));show wpList _ _ _ _ _ _;refine Xd _ rfl _ _ 53 rfl W.heap.size 70 i0 (.agg #[(),(),(),(),(),(),()]) 7 56 JN hi aj ak al rfl dC _ _ _ rfl o ⟨W5,0,none⟩ 1 1 [x.ent0,x.lin,x.ent,g.r7,x.partner,x.date,x.amt] rfl rfl S T a4 a5 J ?_;intro v' w1 E s _;have a6:=Q.grown s J (fun j hj=>(o.lt j hj).1);go_wp2;go_roundw
   case rel=>exact⟨k+1,oM,by go_num,by rw[ae.out,HX.out,Vc,VL];simpa[Itm.cells] using E,a6⟩
   case measure=>exact mS
  |false =>
   have HX:Hid (Cb.acq g a x=x):=by show _=_;unfold Cb.acq;rw[VB (fun h=>by have q:=h.2;rw[He.out,he] at q;simp at q)]
   clear he;go_upto_region 7 with(fail);have o:=an.out.alloc (.cells x 70);have S:=Xk W3 x 70;have T:∀u∈(x:List Value),u.oneCell'=true:=oC;have a4:L.length+1<=maxLen:=by unfold maxLen;omega
   have a5:(L.length+1)*56<=140737488355328:=oM;have J:W.heap.size<=(W3.alloc (.cells x 70)).heap.size:=by have:=ag.out.size;simp;omega
   have Q:=ag.out.alloc ag.out.size (.cells x 70);go_wp2_with (first|(refine Vd rfl 70 _ rfl _ rfl _ _ _ _ ac.out Zz rfl a0P ?_)|(at_builtin;refine Hid.out ?_));show wpList _ _ _ _ _ _;refine Xd _ rfl _ _ 53 rfl W.heap.size 70 i0 (.agg #[(),(),(),(),(),(),()]) 7 56 JN hi aj ak al rfl dC _ _ _ rfl o ⟨W3,0,none⟩ 1 1 x rfl rfl S T a4 a5 J ?_;intro v' w1 E s _;have a6:=Q.grown s J (fun j hj=>(o.lt j hj).1);go_wp2;go_roundw
   case rel=>exact⟨k+1,oM,by go_num,by rw[ae.out,HX.out,Vc,VL];simpa[Itm.cells] using E,a6⟩
   case measure=>exact mS
theorem a4q {α:Type}:∀(l:List (Option α)) (s:List α),allSome l=some s->∀x∈s,some x∈l
 |[],s,h,x,a=>by cases h;cases a
 |none::_,_,h,_,_=>by cases h
 |some y::l,s,h,x,a=>by
  unfold allSome at h
  cases i:allSome l with
  |none=>rw[i] at h;cases h
  |some r =>
   rw[i] at h
   cases h
   rcases Yt.1 a with rfl|a
   ·exact XN
   ·exact XZ _ (a4q l r i x a)
theorem Jr.dated_in {g:Grp} {l:List EtC} (h:Jr.ok g l):∀x∈l,-25567<=x.date/\x.date<=84005:=by
 intro x Q;obtain⟨i,J,rfl⟩:=XD Q;unfold Jr.ok at h;simp only[Vp,Xb,XK] at h;obtain⟨s,h⟩:=h;have a:=h i J;have L:l.getD i EtC.zero=l[i]:=by simp[J]
 rw[L] at a;unfold Jr.postOk at a;simp only[Vp] at a;have o:=a.1.1.1;unfold Jr.fine at o;simp only[Vp] at o;have E:=o.1.2;unfold Jr.dated at E;simp only[Xm] at E;unfold Gr.valid Gr.books at s;simp only[Vp] at s;have O:=s.1.1.1.1.1.2
 by_cases I:-25567<=l[i].date/\l[i].date<=84005
 ·exact I
 ·have:=Cal.per_date g.Y g.M g.N l[i].date O I
  omega
namespace Tr
theorem b0H {b:Bks} {e:Nat} {p:Int} {y:EtC} {k:Nat} {x:Itm} (h:item b e p y k=some x):x.date=y.date:=by
 unfold item at h
 cases i:rateOf b e (Cal.last b.g.Y b.g.M p) (lat y k).acct y.date with
 |none=>rw[i] at h;cases h
 |some r =>
  rw[i] at h
  cases a:conv (lat y k).amt r.2 with
  |none=>simp[a] at h
  |some n=>simp[a] at h;rw[<- h]
theorem items_dates {b:Bks} {e:Nat} {p:Int} {l:LT} (h:items b e p=some l):∀x∈l,-25567<=x.date/\x.date<=84005:=by
 intro x I;unfold items at h
 by_cases hv:valid b/\e<b.g.ents.length/\0<=p/\p<b.g.N
 ·rw[Vt hv] at h
  have s:=a4q _ _ h x I;rw[Yz] at s;obtain⟨y,o,a⟩:=s;unfold tries at a;rw[Yg] at a;obtain⟨k,_,E⟩:=a;rw[b0H E];unfold entries at o;rw[Qq,Yw] at o;have i:=hv.1;unfold valid at i;simp only[Vp] at i;exact Jr.dated_in i.1 y o.1
 ·rw[VB hv] at h;cases h
end Tr
namespace Cb
theorem b4r {g:Grp} {a:Int} {l:LT} (h:∀x∈l,a<x.date):l.map (acq g a)=l:=by
 have:∀x∈l,acq g a x=x:=fun x i=>by unfold acq;rw[VB];have:=h x i;omega
 rw[ZH this,List.map_id']
theorem acq_parent {b:Bks} {p:Int} {l:LT} (h:Tr.items b 0 p=some l):l.map (acq b.g (-25568))=l :=
 b4r fun x a=>by have:=Tr.items_dates h x a;omega
end Cb
end Go.Proofs.YtbhdekahdnenjaaGreatDoor
