/- My texts SortT, SortU, TransQ, ItemsP, ItemsT, AcqW, ParP. -/
import Derived.Test.YtniaimjknmhapaaGreatDoorG28
set_option linter.unusedVariables false
set_option linter.unusedSimpArgs false
set_option maxRecDepth 100000
set_option maxHeartbeats 16000000
namespace Go.Proofs.YtniaimjknmhapaaGreatDoor
open Go.Proofs.Tryz Go.RowKit Go.Shelf Go.Lib Go.Sort
def cmpE (x y:EtC):Int:=if Lib.compareInt x.date y.date≠0 then Lib.compareInt x.date y.date else Lib.compareInt x.id y.id
theorem a6f (a b:Int):Lib.compareInt a b<0 ↔ a<b:=by unfold Lib.compareInt;by_cases h1:a<b <;> by_cases h2:b<a <;> simp [h1,h2] <;> omega
theorem a6S (a b:Int):Lib.compareInt a b=0 ↔ a=b:=by unfold Lib.compareInt;by_cases h1:a<b <;> by_cases h2:b<a <;> simp [h1,h2] <;> omega
def cmpT (x y:Etr):Int:=cmpE x.c y.c
theorem ltT (x y:Etr):ltOf cmpT x y=(decide (x.c.date<y.c.date)||(decide (x.c.date=y.c.date)&&decide (x.c.id<y.c.id))):=by
 have a1:=a6f x.c.date y.c.date;have a2:=a6S x.c.date y.c.date;have a3:=a6f x.c.id y.c.id;unfold ltOf cmpT cmpE
 by_cases h:Lib.compareInt x.c.date y.c.date=0
 ·have e:=a2.1 h
  rw [if_neg (by simp [h])]
  by_cases h3:x.c.id<y.c.id
  ·have:=a3.2 h3;simp [e,h3,this]
  ·have:¬ Lib.compareInt x.c.id y.c.id<0:=fun q=>h3 (a3.1 q)
   simp [e,h3,this]
 ·have e:¬ x.c.date=y.c.date:=fun q=>h (a2.2 q)
  rw [if_pos h]
  by_cases h3:x.c.date<y.c.date
  ·have:=a1.2 h3;simp [h3,this]
  ·have:¬ Lib.compareInt x.c.date y.c.date<0:=fun q=>h3 (a1.1 q)
   simp [e,h3,this]
theorem swoT:SWO (ltOf cmpT) where
 irrefl x:=by rw [ltT];simp
 trans x y z h1 h2:=by rw [ltT] at *;simp at *;omega
 ntrans x y z h1 h2:=by rw [ltT] at *;simp at *;omega
section
variable (w:World)
theorem b0b (G:Nat) (a b:Int) (c0:w.cell? ⟨G,0,none⟩=some (.int .i64 a)) (c1:w.cell? ⟨G,1,none⟩=some (.int .i64 b)) (hG:G<w.heap.size) :
  Calls prog 26 #[.slice (some ⟨G,0,none⟩) 2 2] w fun e w'=>e=.returned (.int .i64 (if a≠0 then a else b))/\w=w':=by
 obtain⟨v,hv⟩:∃ v,v=(if a≠0 then a else b):=⟨_,rfl⟩;rw [<- hv];have Hv:=Z1 hv;clear hv;go_enter func26,ntmps26
 by_cases ha:a=0
 case neg =>
  have k1:(a != 0)=true:=by simpa using ha
  have HV:Hid (v=a):=by show _=_;rw [Hv.out,if_pos ha]
  clear ha;go_wp2
  go_loop [8] (fun i=>i=.int .i64 0) (fun _=>0)
  case atStart=>rfl
  case round =>
   obtain rfl:=hrel;go_wp2;go_ret;exact⟨by rw [HV.out];rfl,rfl⟩
 subst ha;have HV:Hid (v=b):=by show _=_;rw [Hv.out,if_neg sP]
 by_cases hb:b=0
 case neg =>
  have k1:(b != 0)=true:=by simpa using hb
  clear hb;go_wp2
  go_loop [8] (fun i=>∃ k:Nat,k<2/\i=.int .i64 k) (fun i=>2-(intOf i).toNat)
  case atStart=>exact⟨0,dC,rfl⟩
  case round =>
   obtain⟨k,hk,rfl⟩:=hrel;obtain rfl | rfl:k=0∨k=1:=oM
   ·go_wp2
    go_round
    case rel=>exact⟨1,dC,rfl⟩
    case measure=>simp [intOf]
   ·go_wp2
    go_ret;exact⟨by rw [HV.out];rfl,rfl⟩
 subst hb;go_wp2
 go_loop [8] (fun i=>∃ k:Nat,k<=2/\i=.int .i64 k) (fun i=>2-(intOf i).toNat)
 case atStart=>exact⟨0,dC,rfl⟩
 case round =>
  obtain⟨k,hk,rfl⟩:=hrel;obtain rfl | rfl | rfl:k=0∨k=1∨k=2:=oM
  ·go_wp2
   go_round
   case rel=>exact⟨1,dC,rfl⟩
   case measure=>simp [intOf]
  ·go_wp2
   go_round
   case rel=>exact⟨2,dC,rfl⟩
   case measure=>simp [intOf]
  ·go_wp2
   go_ret;exact⟨by rw [HV.out];rfl,rfl⟩
theorem b1Z (x y:Etr):Calls prog 25 #[x,y] w fun e w'=>e=.returned (.int .i64 (cmpT x y))/\∃ q os',w'=grow (w.drewN q) os':=by
 have hcon:=fun W' a b=>AnyG.cmp_Compare_int Tryz.cmpInt a b W';change ∀ W' a b,Calls prog 27 _ _ _ at hcon;obtain⟨r1,hr1⟩:∃ r1,r1=Lib.compareInt x.c.date y.c.date:=⟨_,rfl⟩;obtain⟨r2,hr2⟩:∃ r2,r2=Lib.compareInt x.c.id y.c.id:=⟨_,rfl⟩;have hc1:∀ W',Calls prog 27 #[x.c.date,y.c.date] W' fun e w'=>e=.returned (.int .i64 r1)/\w'=W':=fun W'=>by rw [hr1];exact hcon W' x.c.date y.c.date
 have hc2:∀ W',Calls prog 27 #[x.c.id,y.c.id] W' fun e w'=>e=.returned (.int .i64 r2)/\w'=W':=fun W'=>by rw [hr2];exact hcon W' x.c.id y.c.id
 have HV:Hid (cmpT x y=if r1≠0 then r1 else r2):=by show _=_;unfold cmpT cmpE;rw [hr1,hr2]
 have HC1:=Z1 hc1;have HC2:=Z1 hc2;obtain⟨hB2,hb1,hb2,hz⟩:=a1g w x y 71 71;have hG:∃ os,(w.alloc (.cells x 71)).alloc (.cells y 71)=grow w os:=⟨_,by rw [alloc_eq_grow,alloc_eq_grow,grow_grow]⟩;obtain⟨W2,hW2⟩:∃ W2,W2=((w.alloc (.cells x 71)).alloc (.cells y 71)):=⟨_,rfl⟩;rw [<- hW2] at hB2 hb1 hb2 hz hG;obtain⟨HW,Hb1,Hb2,HG⟩:=Z4 hW2 hb1 hb2 hG;clear hW2 hb1 hb2 hz hG hB2 hcon hc1 hc2 hr1 hr2;go_enter func25,ntmps25;go_upto_region 1 with(fail);rw [<- HW.out];have hS:(fun W':World=>W'.heap[w.heap.size]?=some (.cells x 71 (0,0))/\W'.heap[w.heap.size+1]?=some (.cells y 71 (0,0))) W2.drew:=⟨Hb1.out,Hb2.out⟩;refine wp_region_held (S:=fun W':World=>W'.heap[w.heap.size]?=some (.cells x 71 (0,0))/\W'.heap[w.heap.size+1]?=some (.cells y 71 (0,0))) kR ?_;change wpAnyH _ _ _ _ _ _ _ _ (World.drew W2);have hg0:∃ os,W2.drew=grow w.drew os:=by obtain⟨os,e⟩:=HG.out;exact⟨os,by rw [e];rfl⟩
 obtain⟨W_0,hWd⟩:∃ W0,W0=W2.drew:=⟨_,rfl⟩;rw [<- hWd] at hS hg0 ⊢;clear hWd;refine jT 0 hS ?_;refine jT 1 hS ?_ (v:=.int .i64 x.c.date) (hy:=(.inl ⟨by rfl,fun W' hS'=>by have c0:=cr9 2 hS'.1;simp at c0;have c9:=Vq hS'.1;go_simp⟩));refine jT 2 hS ?_;refine jT 3 hS ?_ (v:=.int .i64 y.c.date) (hy:=(.inl ⟨by rfl,fun W' hS'=>by have c0:=cr9 2 hS'.2;simp at c0;have c9:=Vq hS'.2;go_simp⟩));refine jT 5 hS ?_;refine jT 6 hS ?_ (v:=.int .i64 x.c.id) (hy:=(.inl ⟨by rfl,fun W' hS'=>by have c0:=cr9 0 hS'.1;simp at c0;have c9:=Vq hS'.1;go_simp⟩));refine jT 7 hS ?_;refine jT 8 hS ?_ (v:=.int .i64 y.c.id) (hy:=(.inl ⟨by rfl,fun W' hS'=>by have c0:=cr9 0 hS'.2;simp at c0;have c9:=Vq hS'.2;go_simp⟩));refine rZ 4 fun K hK=>?_;go_simp;refine(HC1.out _).mono ?_;rintro ev W' ⟨rfl,rfl⟩;refine jK hK hS ?_;clear hK K;refine rZ 9 fun K hK=>?_;go_simp;refine(HC2.out _).mono ?_;rintro ev W' ⟨rfl,rfl⟩;refine jK hK hS ?_;clear hK K;refine rZ 10 fun K hK=>?_;obtain⟨W4,hW4,hB4,hb4,hz4⟩:=nw1 W' #[r1,r2] 3;go_simp;have hg4:∃ os,W4=grow w.drew os:=by obtain⟨os,e⟩:=hg0;exact⟨_,by rw [hW4,e,alloc_eq_grow,grow_grow]⟩
 have hS4:Hid (W4.heap[w.heap.size]?=some (.cells x 71 (0,0))/\W4.heap[w.heap.size+1]?=some (.cells y 71 (0,0))):=⟨gbox hS.1 hB4 (Vq hS.1),gbox hS.2 hB4 (Vq hS.2)⟩;have c0:=cr9 0 hb4;have c1:=cr9 1 hb4;simp at c0 c1;have HO:=Z1 (b0b W4 W' r1 r2 c0 c1 (Vq hb4));rw [<- hW4];clear hW4 hb4 hz4 c0 c1 hB4;refine jK hK hS4.out ?_;clear hK K;refine rZ 11 fun K hK=>?_;go_simp;refine HO.out.mono ?_;rintro ev W5 ⟨rfl,rfl⟩;rw [<- HV.out];refine jK hK hS4.out ?_;clear hK K;refine jT 12 hS4.out ?_;refine wpAnyH_done kR ?_ _
 try simp only [z]
 go_wp2;go_ret;obtain⟨os,e⟩:=hg4;exact⟨rfl,1,os,e⟩
end
open Go.Proofs.Tryz Go.RowKit Go.Shelf Go.Lib Go.Sort
instance:Inhabited Etr:=⟨Etr.zero⟩
theorem a5U (l:List Etr) (t:Nat) (h:t<l.length*7):(l.flatMap Etr.cells)[t]?=some ((flatK Etr.cells 7 l.toArray)[t]!):=by
 have hd:t / 7<l.length:=oM;have hm:t % 7<7:=Nat.mod_lt _ oM;rw [get_flatK _ _ _ _ (by simpa using h)];have e:t=t / 7*7+t % 7:=oM
 conv=>lhs;rw [e]
 rw [a1s Etr.cells 7 l (fun _ _=>rfl) (t / 7) hd (t % 7) hm];have e2:l.toArray[t / 7]! = l[t / 7]:=by simp [hd]
 rw [e2];have hlen:(Etr.cells l[t / 7]).length=7:=rfl;rw [List.getElem?_eq_getElem oM,getElem!_pos _ _ oM]
theorem a8h {W:World} {base g n cap:Nat} {l:List Etr} (h:W.ownsRow base 71 7 (.slice (some ⟨g,0,none⟩) n cap) n (l.flatMap Etr.cells)) (hn:n=l.length):HoldsK Etr.cells 7 W g 0 l.toArray:=by
 subst hn
 rcases h.2 with⟨e,_⟩ | ⟨g',cap',cur,e,_,hg,hle,_,hsz,htk⟩
 ·cases e
 ·simp only [Value.slice.injEq,Option.some.injEq,Addr.mk.injEq,and_true,true_and] at e
  obtain⟨rfl,rfl⟩:=e;intro j hj;have hj':j<l.length*7:=by simpa using hj
  refine⟨?_,?_⟩
  ·rw [Nat.zero_add,cr9 _ hg,id]
   have hf:=a5U l j hj';rw [<- htk,List.getElem?_take,if_pos hj'] at hf;simpa using hf
  ·rw [Nat.zero_add];exact fr0 _ hg
theorem a5B {W:World} {g B:Nat} {l:List Etr} (h:HoldsK Etr.cells 7 W g 0 l.toArray) (hB:g<B):RowsAt Etr.cells 7 W B (some ⟨g,0,none⟩) l:=by
 refine .inr ⟨g,0,rfl,hB,fun k hk j v hv=>?_⟩;have hj:j<7:=by have:=(List.getElem?_eq_some_iff.1 hv).1;exact this
 have h1:=(h (k*7+j) sO).1;rw [Nat.zero_add] at h1 ⊢;rw [h1,id,<- a5U l (k*7+j) oM,a1s Etr.cells 7 l (fun _ _=>rfl) k hk j hj,hv]
theorem a5w (l:List Etr) (d:Array Etr) (hp:PermIn 0 l.toArray.size l.toArray d) (hs:SortedIn (ltOf cmpT) 0 l.toArray.size d):d.toList.Perm l/\d.toList.Pairwise (fun x y=>ltOf cmpT y x=false):=by
 obtain⟨h1,_,h3⟩:=hp;have e1:d.extract 0 l.toArray.size=d:=by rw [<- h1];simp
 have e2:l.toArray.extract 0 l.toArray.size=l.toArray:=sP;rw [e1,e2] at h3;refine⟨by simpa using h3,?_⟩;rw [List.pairwise_iff_getElem];intro i j hi hj hij;have hi':i<d.size:=by simpa using hi
 have hj':j<d.size:=by simpa using hj
 have:=hs i j (Nat.zero_le _) hij oM;rw [getElem!_pos d i hi',getElem!_pos d j hj'] at this;simpa using this
theorem a5i (w:World) (blk off n:Nat) (d:Array Etr) (os:Array Obj) (B:Nat) (hB:B<=blk) (hw:B<=w.heap.size):RowKit.Below B w (sortWorldK Etr.cells 7 w blk off n d os):=by
 refine⟨rfl,rfl,rfl,size_sortWorldK_c Etr.cells 7 w blk off n d os,fun k hk=>?_⟩;show(w.heap.modify blk _++os)[k]?=w.heap[k]?;rw [Array.getElem?_append_left sO,Array.getElem?_modify,if_neg oM]
theorem isAggT:∀ w,(isAgg 71).run prog w=.ok true w:=fun w=>kR
theorem sizeOfT:∀ w,(Go.sizeOf 71).run prog w=.ok 7 w:=fun w=>kR
theorem cmpLaysT (blk off size:Nat) (w:World):CmpLays prog 25 #[] Etr.cells 7 cmpT blk off size w :=
 fun _ _ _ _ x y=>b1Z _ x y
section
variable (w:World)
theorem a7C (base g cap:Nat) (l:List Etr) (hl:l.length<=1000) (h:w.ownsRow base 71 7 (.slice (some ⟨g,0,none⟩) l.length cap) l.length (l.flatMap Etr.cells)) (hb:base<=g) :
  Calls prog 24 #[.slice (some ⟨g,0,none⟩) l.length cap,.func (.func 25) #[] #[]] w fun e w' =>
   e=.returned (.tuple #[])/\RowKit.Below (min base w) w w'/\∃ s:List Etr,s.Perm l/\s.Pairwise (fun x y=>ltOf cmpT y x=false)/\RowsAt Etr.cells 7 w' w' (some ⟨g,0,none⟩) s:=by
 have hH:=a8h h rfl
 have hg:g<w.heap.size:=by
  rcases h.2 with⟨e,_⟩ | ⟨g',cap',cur,e,_,hg,_⟩
  ·cases e
  ·simp only [Value.slice.injEq,Option.some.injEq,Addr.mk.injEq,and_true,true_and] at e
   rw [e.1];exact(Array.getElem?_eq_some_iff.1 hg).1
 have hcon:=AnyQ.slices_SortFunc Tryz.sortEt 7 isAggT sizeOfT Etr.cells (fun _=>rfl) (fun x v hv=>by simp [Etr.cells] at hv;rcases hv with rfl | rfl | rfl | rfl | rfl | rfl | rfl <;> rfl) cmpT swoT 25 #[] g 0 cap l.toArray w
  (enters_of func25 kR rfl) (cmpLaysT g 0 _ w) hH hg sO
 change Calls prog 24 _ _ _ at hcon;have hsz:l.toArray.size=l.length:=sP;rw [hsz] at hcon;refine hcon.mono ?_;rintro e w' ⟨rfl,d,n,os,hp,hs,rfl⟩;obtain⟨p1,p2⟩:=a5w l d (by rw [hsz];exact hp) (by rw [hsz];exact hs);refine⟨rfl,a5i w g 0 n d os _ oM oM,d.toList,p1,p2,?_⟩;have hH2:=holdsK_sortWorldK_c Etr.cells 7 w g 0 l.toArray d n os hH hg (by simpa using hp.1);exact a5B (by simpa using hH2) (Nat.lt_of_lt_of_le hg (size_sortWorldK_c Etr.cells 7 w g 0 n d os))
theorem a3C:Calls prog 110 #[.slice none 0 0,(),(),.func (.func 25) #[] #[]] w fun e w'=>e=.returned (.tuple #[])/\w=w':=by
 go_enter func110,ntmps110;go_wp2
 go_loop [8] (fun i=>i=.int .i64 1) (fun _=>0)
 case atStart=>rfl
 case round =>
  obtain rfl:=hrel;go_wp2
  go_end0
  exact⟨rfl,rfl⟩
theorem a9b (lim:Int):Calls prog 59 #[.slice none 0 0,(),(),lim,.func (.func 25) #[] #[]] w fun e w'=>e=.returned (.tuple #[])/\w=w':=by
 go_enter func59,ntmps59;go_wp2
 go_loop [1,2] (fun a b=>a=.int .i64 0/\b=.int .i64 0) (fun _ _=>0)
 case atStart=>exact⟨rfl,rfl⟩
 case round =>
  obtain⟨rfl,rfl⟩:=hrel;go_wp2_with (go_at_call 110;refine(a3C _).mono ?_;rintro e w' ⟨rfl,rfl⟩)
  first | go_end0 | refine bodyPost_ret (results_none rfl _ _ _) rfl ?_
  exact⟨rfl,rfl⟩
theorem a6v:Calls prog 24 #[.slice none 0 0,.func (.func 25) #[] #[]] w fun e w'=>e=.returned (.tuple #[])/\w=w':=by
 go_enter func24,ntmps24;go_wp2_with (first | (go_at_call 60;refine(bitsLen0 _).mono ?_;rintro e w' ⟨rfl,rfl⟩) | (go_at_call 59;refine(a9b _ _).mono ?_;rintro e w' ⟨rfl,rfl⟩))
 go_end0
 exact⟨rfl,rfl⟩
def SortPost (base n cap:Nat) (A:Option Addr) (l:List Etr) (w:World) (e:Ending) (w':World):Prop :=
 e=.returned (.tuple #[])/\RowKit.Below (min base w) w w'/\∃ s:List Etr,s.Perm l/\s.Pairwise (fun x y=>ltOf cmpT y x=false)/\RowsAt Etr.cells 7 w' w' A s
theorem a8G (base n cap:Nat) (A:Option Addr) (l:List Etr) (hn:n=l.length) (hl:n<=1000) (h:w.ownsRow base 71 7 (.slice A n cap) n (l.flatMap Etr.cells)) :
  Calls prog 24 #[.slice A n cap,.func (.func 25) #[] #[]] w (SortPost base n cap A l w):=by
 subst hn
 rcases h.2 with⟨e,h0⟩ | ⟨g,cap',cur',e,hb,_⟩
 ·simp only [Value.slice.injEq] at e
  obtain⟨rfl,h1,rfl⟩:=e;obtain rfl:l=[]:=List.length_eq_zero_iff.1 h1;exact(a6v w).mono fun e w' ⟨h1,h2⟩=>⟨h1,by rw [<- h2];exact bR,[],List.Perm.refl _,List.Pairwise.nil,.inl rfl⟩
 ·simp only [Value.slice.injEq,true_and] at e
  obtain⟨rfl,rfl⟩:=e;exact a7C w base g cap l hl h hb
end
open Go.Sort
theorem Jr.ids {g:Grp} {l:List EtC} (h:Jr.ok g l=true):∀ i j (hi:i<l.length) (hj:j<l.length),i<j->l[i].id≠l[j].id:=by
 intro i j hi hj hij e;unfold Jr.ok at h;simp only [Bool.and_eq_true,List.all_eq_true,List.mem_range] at h;have h1:=h.2 j hj;have e1:l.getD j EtC.zero=l[j]:=by simp [hj]
 rw [e1] at h1;unfold Jr.postOk at h1;simp only [Bool.and_eq_true] at h1;have h2:=h1.1.1.2;unfold Jr.get at h2;rw [Option.isNone_iff_eq_none,List.find?_eq_none] at h2
 have hm:l[i]∈l.take j:=by
  rw [List.mem_take_iff_getElem];exact⟨i,oM,rfl⟩
 have:=h2 _ hm;simp [e] at this
theorem Jr.id_inj {g:Grp} {l:List EtC} (h:Jr.ok g l=true) {x y:EtC} (hx:x∈l) (hy:y∈l) (e:x.id=y.id):x=y:=by
 obtain⟨i,hi,rfl⟩:=List.getElem_of_mem hx;obtain⟨j,hj,rfl⟩:=List.getElem_of_mem hy
 rcases Nat.lt_trichotomy i j with q | q | q
 ·exact absurd e (Jr.ids h i j hi hj q)
 ·subst q;rfl
 ·exact absurd e.symm (Jr.ids h j i hj hi q)
theorem Tr.before_tr (a b c:EtC) (h1:Tr.before a b=true) (h2:Tr.before b c=true):Tr.before a c=true:=by
 unfold Tr.before at *;simp at *;omega
theorem Tr.before_to (a b:EtC):(Tr.before a b||Tr.before b a)=true:=by
 unfold Tr.before;simp;omega
theorem a6j {x y:Etr} (h:ltOf cmpT y x=false):Tr.before x.c y.c=true:=by
 rw [ltT] at h;unfold Tr.before;simp at *;omega
def Tr.mine (b:Bks) (e:Nat) (la:Int) (x:EtC):Bool:=decide (x.ent=(e:Int))&&decide (x.date<=la)
theorem Tr.entries_eq {b:Bks} {e:Nat} {p:Int} (h:Tr.valid b=true) {s:List Etr} (hp:s.Perm (b.ents.filter (fun x=>Tr.mine b e (Cal.last b.g.Y b.g.M p) x.c))) (hs:s.Pairwise (fun x y=>ltOf cmpT y x=false)):s.map (·.c)=Tr.entries b e p:=by
 have hj:Jr.ok b.g (b.ents.map (·.c))=true:=by unfold Tr.valid at h;simp only [Bool.and_eq_true] at h;exact h.1
 have hf:(b.ents.filter (fun x=>Tr.mine b e (Cal.last b.g.Y b.g.M p) x.c)).map (·.c)=(b.ents.map (·.c)).filter (Tr.mine b e (Cal.last b.g.Y b.g.M p)):=by
  rw [List.filter_map];rfl
 have hp2:(s.map (·.c)).Perm ((b.ents.map (·.c)).filter (Tr.mine b e (Cal.last b.g.Y b.g.M p))):=by rw [<- hf];exact hp.map _
 have hm:(Tr.entries b e p).Perm ((b.ents.map (·.c)).filter (Tr.mine b e (Cal.last b.g.Y b.g.M p))):=List.mergeSort_perm _ _;have hin:∀ x∈s.map (·.c),x∈b.ents.map (·.c):=fun x hx=>(List.mem_filter.1 (hp2.mem_iff.1 hx)).1;have hin2:∀ x∈Tr.entries b e p,x∈b.ents.map (·.c):=fun x hx=>(List.mem_filter.1 (hm.mem_iff.1 hx)).1;refine List.Perm.eq_of_pairwise (le:=fun x y=>Tr.before x y=true) ?_ ?_ (List.pairwise_mergeSort Tr.before_tr Tr.before_to _) (hp2.trans hm.symm)
 ·intro x y hx hy h1 h2
  exact Jr.id_inj hj (hin x hx) (hin2 y hy) (by unfold Tr.before at h1 h2;simp at h1 h2;omega)
 ·rw [List.pairwise_map]
  exact hs.imp a6j
open Go.Proofs.Tryz Go.RowKit
theorem Kp.grow {B mk:Nat} {w w':World} (h:Kp B mk w w'):w.grownBy w' (some mk):=⟨h.b.os,h.b.tape,h.b.output,h.b.size,fun i hi hn=>h.k i hi hn⟩
theorem b3f {B mk base sz n:Nat} {w w':World} {e:TypeId} {v:Value} {xs:List Value} (h:w.ownsRow base e sz v n xs) (hk:Kp B mk w w') (hm:mk<base):w'.ownsRow base e sz v n xs:=by
 refine h.kept hk.grow ?_
 cases hv:v.ownBlock with
 | none=>exact .inl rfl
 | some g=>exact .inr (fun q=>by cases q;have:=(h.lt mk hv).1;omega)
theorem b3e {base sz n i:Nat} {w:World} {e t:TypeId} {v:Value} {xs:List Value} {cs:Array Value} {fr:Nat × Nat} (h:w.ownsRow base e sz v n xs) (hi:w.heap[i]?=some (.cells cs t fr)) (hne:e≠t):some i≠v.ownBlock:=fun q=>by
 rcases h.2 with⟨rfl,_⟩ | ⟨g,cap,cur',rfl,_,hg',_⟩
 ·simp [Value.ownBlock] at q
 ·simp [Value.ownBlock] at q
  subst q;rw [hi] at hg'
  cases hg'
  exact hne rfl
theorem b0X {base sz n i:Nat} {w w':World} {e t:TypeId} {v:Value} {xs:List Value} {cs:Array Value} {fr:Nat × Nat} (h:w.ownsRow base e sz v n xs) (hi:w.heap[i]?=some (.cells cs t fr)) (hne:e≠t) (hg:w.grownBy w' v.ownBlock):w'.heap[i]?=some (.cells cs t fr) :=
 (hg.block i (Vq hi) (b3e h hi hne)).trans hi
theorem RowsAt.kp {α:Type} {f:α->List Value} {sz B mk C:Nat} {w w':World} {A:Option Addr} {l:List α} (h:RowsAt f sz w C A l) (hk:Kp B mk w w') (hC:C<=w.heap.size) (hf:∀ ad,A=some ad->mk<ad.block):RowsAt f sz w' C A l:=by
 rcases h with h | ⟨b,o,e,hl,hc⟩
 ·exact .inl h
 ·have hne:=hf _ e
  simp at hne;exact .inr ⟨b,o,e,hl,fun k hk' j v hv=>(World.cell?_of_block (w:=w) (hk.k b oM sO)).trans (hc k hk' j v hv)⟩
theorem a1U {α:Type}:∀(l r:List (Option α)),allSome (l++none::r)=none
 | [],r=>rfl
 | none::l,r=>rfl
 | some x::l,r=>by rw [List.cons_append];unfold allSome;rw [a1U l r];rfl
theorem a1T {α:Type} (x:α):∀(l:List (Option α)) (s:List α),allSome l=some s->allSome (l++[some x])=some (s++[x])
 | [],s,h=>by cases h;rfl
 | none::l,s,h=>by cases h
 | some y::l,s,h=>by
  unfold allSome at h
  cases hl:allSome l with
  | none=>rw [hl] at h;cases h
  | some s' =>
   rw [hl] at h
   cases h
   rw [List.cons_append];unfold allSome;rw [a1T x l s' hl];rfl
theorem Desks.low {B C bd mk nk e:Nat} {w w':World} {b:Bks} {p la:Int} {cur:ByteArray} {cv:Bool} (h:Desks B w bd mk nk b e p la cur cv) (hb:Below C w w') (h1:bd<C) (h2:mk<C):Desks B w' bd mk nk b e p la cur cv:=by
 obtain⟨f,h⟩:=h;exact⟨f,gbox h.hb hb h1,h.hB1,h.hB2,h.hm.below hb h2,h.hf⟩
namespace Tr
def done (b:Bks) (e:Nat) (p:Int) (s:List Etr) (k:Nat):List (Option Itm):=((s.map (·.c)).take k).flatMap (tries b e p)
theorem done_succ (b:Bks) (e:Nat) (p:Int) (s:List Etr) {k:Nat} (hk:k<s.length):done b e p s (k+1)=done b e p s k++tries b e p s[k].c:=by
 unfold done;rw [tse (by simpa using hk),List.flatMap_append];simp
theorem b1O (b:Bks) (e:Nat) (p:Int) (s:List Etr):done b e p s s.length=(s.map (·.c)).flatMap (tries b e p):=by
 unfold done;rw [List.take_of_length_le sP]
theorem tries_succ (b:Bks) (e:Nat) (p:Int) (c:EtC) {j:Nat} (hj:j<c.lines.length):(tries b e p c).take (j+1)=(tries b e p c).take j++[item b e p c j]:=by
 have hl:j<(tries b e p c).length:=by unfold tries;simpa using hj
 have e1:(tries b e p c)[j]=item b e p c j:=by simp [tries]
 rw [tse hl,e1]
theorem tries_all (b:Bks) (e:Nat) (p:Int) (c:EtC) {n:Nat} (hn:c.lines.length=n):(tries b e p c).take n=tries b e p c:=List.take_of_length_le (by unfold tries;simp [hn])
theorem items_none {b:Bks} {e:Nat} {p:Int} {s:List Etr} (hs:s.map (·.c)=entries b e p) {k j:Nat} (hk:k<s.length) (hj:j<s[k].c.lines.length) (h:item b e p s[k].c j=none):items b e p=none:=by
 unfold items
 by_cases hq:valid b=true/\e<b.g.ents.length/\0<=p/\p<b.g.N
 ·rw [if_pos hq,<- hs,<- List.take_append_drop (k+1) (s.map (·.c)),List.flatMap_append]
  have e1:((s.map (·.c)).take (k+1)).flatMap (tries b e p)=done b e p s k++tries b e p s[k].c:=done_succ b e p s hk
  have e2:tries b e p s[k].c=(tries b e p s[k].c).take j++none::(tries b e p s[k].c).drop (j+1):=by
   conv=>lhs;rw [<- List.take_append_drop (j+1) (tries b e p s[k].c),tries_succ b e p _ hj,h]
   simp
  rw [e1,e2];simp only [List.append_assoc,List.cons_append];rw [<- List.append_assoc];exact a1U _ _
 ·rw [if_neg hq]
theorem items_some {b:Bks} {e:Nat} {p:Int} {s:List Etr} (hok:okAt b e p) (hs:s.map (·.c)=entries b e p) {l:List Itm} (h:allSome (done b e p s s.length)=some l):items b e p=some l:=by
 have hq:valid b=true/\e<b.g.ents.length/\0<=p/\p<b.g.N:=hok;unfold items;rw [if_pos hq,<- hs,<- b1O];exact h
end Tr
def ItemsPost (o:Option (List Itm)) (w:World) (ev:Ending) (w':World):Prop :=
 Below w w w'/\((o=none/\∃ n,n≠0/\ev=.returned (.tuple #[.slice none 0 0,.int .i64 n])) ∨
  (∃ l A c,o=some l/\ev=.returned (.tuple #[.slice A l.length c,()])/\l.length<=3660/\RowsAt Itm.cells 7 w' w' A l/\Fresh w A))
theorem itemInfo:(prog.info? 57).map (fun i=>(i.zero,i.size,i.bytes))=some (some (.agg #[(),(),(),(),(),(),()]),7,56):=kR
open Go.Proofs.Tryz Go.RowKit
section
variable (w:World)
theorem a5N (b:Bks) (e:Nat) (p:Int) (hb:b.At w w) :
  Calls prog 10 #[b,e,p] w (ItemsPost (Tr.items b e p) w):=by
 obtain⟨W1,hW1,hB0,hb0,hz⟩:=nw1 w b 36;have HW:=Z1 hW1;have HB1:=Z1 (hb.at_ hB0);have s1:w.heap.size<W1.heap.size:=oM;have hwB:w.heap.size<=W1.heap.size:=oM;have Hb0:=Z1 hb0;have HB0:=Z1 hB0;have hel:=hb.hel;have hen:=hb.hen;clear hW1 hz hb0 hb hB0;go_enter func10,ntmps10;go_upto_region 1 with(fail);rw [<- HW.out];go_wp2_with (refine wpList_load_row rfl 36 _ rfl _ rfl _ _ _ _ Hb0.out underlying36 rfl a0B ?_);refine(b0Z W1 b e p HB1.out).mono ?_;rintro ev Wo ⟨hBo,h⟩
 rcases h with⟨hno,n,hn,rfl⟩ | ⟨hok,bd,mk,rfl,hD,hk⟩
 ·have k1:(n != 0)=true:=by simpa using hn
  have HV:Hid (Tr.items b e p=none):=by show _=_;unfold Tr.items;exact if_neg hno
  have Hn:=Z1 hn;have HBF:=Z1 (HB0.out.trans (hBo.mono hwB));clear hn hno hBo;go_wp2
  go_ret2
  exact⟨HBF.out,.inl ⟨HV.out,n,Hn.out,rfl⟩⟩
 obtain⟨la,hla⟩:∃ la,la=Cal.last b.g.Y b.g.M p:=⟨_,rfl⟩;obtain⟨cur,hcur⟩:∃ cur,cur=(Gr.eat b.g.ents e).cur:=⟨_,rfl⟩;obtain⟨cv,hcv⟩:∃ cv,cv=decide ((Gr.eat b.g.ents e).cur≠b.g.cur):=⟨_,rfl⟩;rw [<- hla,<- hcv,<- hcur] at hD hk;obtain⟨HD,Hk,Hok,Hla,HBo⟩:=Z5 hD hk hok hla hBo;have Hb0o:=gB Hb0 hBo s1;have x21:=cr9 21 Hb0o.out;simp at x21;have so:=Vq Hb0o.out;have hwo:W1.heap.size<=Wo.heap.size:=hk.hB;have HBw:=Z1 (HB0.out.trans (hBo.mono hwB));obtain⟨f0,hDk⟩:=hD;have Hdr:=Z1 hDk.hb;have hbdo:=Vq hDk.hb;have hmko:mk<Wo.heap.size:=hDk.hm.lt;obtain⟨P,hP⟩:∃ P:Etr->Bool,P=(fun x=>Tr.mine b e la x.c):=⟨_,rfl⟩;have HP:=Z1 hP;obtain⟨eA,heA⟩:∃ eA,eA=b.eA:=⟨_,rfl⟩;have HeA:=Z1 heA;rw [<- heA] at x21;obtain⟨i0,hi,hz0,hz1,hz2⟩:=info_parts etrInfo;clear hla hcur hcv hk hok hBo hDk hP heA;go_wp2
 go_loopw [10,32] (fun v i wr=>∃ k:Nat,k<=b.en/\i=.int .i64 k/\wr.ownsRow Wo.heap.size 71 7 v ((b.ents.take k).filter P).length (((b.ents.take k).filter P).flatMap Etr.cells)/\Below Wo Wo wr) (fun _ i _=>b.en-(intOf i).toNat)
 case atStart=>exact⟨0,Nat.zero_le _,rfl,World.ownsRow_nil _ _ _ _,bR⟩
 case round =>
  obtain⟨k,hk,rfl,hown,hbw⟩:=hrel;have Hown:=Z1 hown;have HBwr:=Z1 hbw;have hsw:=hbw.size;have hfl:=List.length_filter_le P (b.ents.take k);simp only [List.length_take] at hfl;clear hown x21
  by_cases hlt:k<b.en
  case neg =>
   obtain rfl:k=b.en:=oM;go_upto_region 11 with(fail);have hown:=Hown.out;rw [List.take_of_length_le oM] at hown;obtain⟨ls,hls⟩:∃ ls,ls=b.ents.filter P:=⟨_,rfl⟩;rw [<- hls] at hown;have hlen:ls.length<=61:=by rw [hls];exact Nat.le_trans (List.length_filter_le _ _) oM
   have hls2:ls=b.ents.filter (fun x=>Tr.mine b e (Cal.last b.g.Y b.g.M p) x.c):=by rw [hls,HP.out,Hla.out]
   obtain⟨A',c',rfl,hA⟩:=Xz (f:=Etr.cells) (sz:=7) dC (fun _=>rfl) hown rfl;have hfr:∀ ad,A'=some ad->mk<ad.block:=fun ad q=>Nat.lt_of_lt_of_le hmko (a0S hown ad q);obtain⟨HS,Hls2,Hfr⟩:=Z3 (a8G wr Wo ls.length c' A' ls rfl oM hown) hls2 hfr;clear hown hls hls2 hA hfl hfr;go_wp2_with (fail);refine HS.out.mono ?_;rintro r Ws ⟨rfl,hBs,s,hp,hsrt,hrows⟩;rw [Nat.min_eq_left hsw] at hBs;have hsl:=hp.length_eq;rw [<- hsl];have HE:Hid (s.map (·.c)=Tr.entries b e p):=Tr.entries_eq Hok.out.1 (by rw [<- Hls2.out];exact hp) hsrt;have HX:Hid (∀ x∈s,x∈b.ents):=Z1 fun x hx=>(List.mem_filter.1 (by have:=hp.mem_iff.1 hx;rwa [Hls2.out] at this)).1;have HBs:=Z1 (HBwr.out.trans hBs);have Hrows:=Z1 hrows;have hwS:Wo.heap.size<=Ws.heap.size:=HBs.out.size;have hs61:s.length<=61:=oM;have HDs:=Z1 (HD.out.low HBs.out hbdo hmko);have hmkS:mk<Ws.heap.size:=oM;have hbdS:bd<Ws.heap.size:=oM;have hBS:W1.heap.size<=Ws.heap.size:=oM;have HBwS:=Z1 (HBw.out.trans (HBs.out.mono oM));have HB1S:=Z1 (HBo.out.trans (HBs.out.mono hwo));clear hp hsrt hrows hBs hsl hlen;go_wp2
   go_loopw [13,58] (fun v i wr=>∃(k:Nat) (l:List Itm),k<=s.length/\i=.int .i64 k/\wr.ownsRow Ws.heap.size 57 7 v l.length (l.flatMap Itm.cells)/\allSome (Tr.done b e p s k)=some l/\l.length<=60*k/\Kp W1 mk Ws wr/\Desks W1 wr bd mk l.length b e p la cur cv) (fun _ i _=>s.length-(intOf i).toNat)
   case atStart=>exact⟨0,[],Nat.zero_le _,rfl,World.ownsRow_nil _ _ _ _,rfl,sP,Kp.of bR hBS,HDs.out⟩
   case round =>
    obtain⟨k2,l,hk2,rfl,hown2,hall,hl60,hkp,hD2⟩:=hrel;obtain⟨Hown2,Hall,Hkp,HD2⟩:=Z4 hown2 hall hkp hD2;have hs2:Ws.heap.size<=wr.heap.size:=hkp.b.size;clear hown2 hall hkp hD2
    by_cases hlt2:k2<s.length
    case neg =>
     obtain rfl:k2=s.length:=oM;have hown:=Hown2.out;obtain⟨A2,c2,rfl,hA2⟩:=Xz (f:=Itm.cells) (sz:=7) dC (fun _=>rfl) hown rfl;have hfr2:=a0S hown
     have HPost:Hid (ItemsPost (Tr.items b e p) w (.returned (.tuple #[.slice A2 l.length c2,()])) wr) :=
      Z1 ⟨HBwS.out.trans (Hkp.out.b.mono hwB),.inr ⟨l,A2,c2,Tr.items_some Hok.out HE.out Hall.out,rfl,oM,hA2,fun ad q=>Nat.le_trans oM (hfr2 ad q)⟩⟩
     clear hown hA2 hfr2;go_wp2
     go_ret2
     exact HPost.out
    obtain⟨bs,os,hle,hbs,hr⟩:=RowsAt.look (RowsAt.kp Hrows.out Hkp.out lR (by intro ad q;have:=Hfr.out ad q;exact this)) hlt2;subst hle;obtain⟨x,hx⟩:∃ x,x=s[k2]:=⟨_,rfl⟩;have hmem:=HX.out x (by rw [hx];exact List.getElem_mem hlt2);have Hds:=Z1 (Tr.done_succ b e p s hlt2);have Hno:=Z1 (fun(j:Nat) (h1:j<s[k2].c.lines.length) (h2:Tr.item b e p s[k2].c j=none)=>Tr.items_none HE.out hlt2 h1 h2);rw [<- hx] at hr Hds Hno;clear hx;obtain⟨c,A,n,kc⟩:=x;have hr:wr.rangeAt bs (os+k2*7) [c.id,c.ent,c.date,c.kind,c.of_,.string c.text,.slice A n kc]:=hr;have Hr:=Z1 hr;have hxo:=Hk.out.hb.hEx _ hmem;have hcn:c.lines.length=n:=hxo.hl;have hn60:n<=60:=by have h1:c.lines.length<=60:=hxo.hw.hln;omega
    have hBx:Below W1 Wo wr:=(HBs.out.mono hwo).trans Hkp.out.b;have Hx0:=Z1 hxo;have Hkw:=Z1 (Hk.out.below hBx oM);obtain⟨Wa,hWa,hBa,hra,hza⟩:=nw1 wr (TE c A n kc) 71;obtain⟨HWa,Hra,Howa,HDa,Hkpa⟩:=Z5 hWa hra (Vj Hown2.out hBa) (HD2.out.below hBa) (Hkp.out.then_ (hBa.mono hs2) hBS);have y6:=cr9 6 hra;simp at y6;have sa:wr.heap.size<Wa.heap.size:=oM;have hne2:wr.heap.size≠mk:=oM;have hbsw:bs<wr.heap.size:=oM;clear hr hmem hxo hBx hWa hra hza hBa;go_upto_region 16 with(refine wpList_load_mid rfl 71 (.tmp 60) rfl bs (os+k2*7) rfl [c.id,c.ent,c.date,c.kind,c.of_,.string c.text,.slice A n kc] _ Hr.out underlying71 rfl a0H ?_);rw [<- HWa.out];obtain⟨ib,hib⟩:∃ ib,ib=wr.heap.size:=⟨_,rfl⟩;rw [<- hib] at y6 Hra hne2 sa hbsw ⊢;have Hib:=Z1 hib;clear hib;go_wp2
    go_loopw [13,65] (fun v i wi=>∃(j:Nat) (m:List Itm),j<=n/\i=.int .i64 j/\wi.ownsRow Ws.heap.size 57 7 v m.length (m.flatMap Itm.cells)/\allSome (Tr.done b e p s k2++(Tr.tries b e p c).take j)=some m/\m.length<=60*k2+j/\Kp W1 mk Ws wi/\Desks W1 wi bd mk m.length b e p la cur cv/\wi.heap[ib]?=some (.cells (TE c A n kc) 71 (0,0))) (fun _ i _=>n-(intOf i).toNat)
    case atStart=>exact⟨0,l,Nat.zero_le _,rfl,Howa.out,by rw [List.take_zero,List.append_nil];exact Hall.out,oM,Hkpa.out,HDa.out,Hra.out⟩
    case round =>
     obtain⟨j,m,hj,rfl,hown3,hall3,hm60,hkp3,hD3,hbox⟩:=hrel;obtain⟨Hown3,Hall3,Hkp3,HD3,Hbox⟩:=Z5 hown3 hall3 hkp3 hD3 hbox;have hs3:Ws.heap.size<=wr.heap.size:=hkp3.b.size;clear hown3 hall3 hkp3 hD3 hbox y6
     by_cases hlt3:j<n
     case neg =>
      obtain rfl:j=n:=oM;have Hall4:Hid (allSome (Tr.done b e p s (k2+1))=some m):=by show _=_;rw [Hds.out,<- Hall3.out,Tr.tries_all _ _ _ _ hcn]
      go_wp2;go_roundw
      case rel=>exact⟨k2+1,m,oM,by go_num,Hown3.out,Hall4.out,oM,Hkp3.out,HD3.out⟩
      case measure=>simp [intOf];omega
     have hBx3:Below W1 Wo wr:=(HBs.out.mono hwo).trans Hkp3.out.b;have hx3:=(Hk.out.hb.below hBx3 lR);have Hk3:=Z1 (Hk.out.below hBx3 oM);have Hx3:Hid ((⟨c,A,n,kc⟩:Etr).At wr W1):=Z1 ((Hx0.out).below hBx3 lR);have sb:=Vq Hbox.out;clear hx3 hBx3;go_wp2_with (refine wpList_load_row rfl 71 _ rfl _ rfl _ _ _ _ Hbox.out underlying71 rfl a0H ?_);refine(b1u wr W1 bd mk m.length b e p la cur cv c A n kc j Hk3.out HD3.out Hx3.out hlt3 oM).mono ?_;rintro ev Wt ⟨hKp,hBt,hDt,y,q,rfl,hq,hy⟩;have hst:Ws.heap.size<=Wt.heap.size:=Nat.le_trans hs3 hKp.b.size;obtain⟨Hown4,Hbx4,Hkp4,HDt⟩:=Z4 (b3f Hown3.out hKp hmkS) (hKp.box Hbox.out hne2) (Hkp3.out.trans hKp) hDt;obtain⟨Wu,hWu,hBu,hru,hzu⟩:=nw1 Wt y 57;have HWu:=Z1 hWu;have su:Wt.heap.size<Wu.heap.size:=oM;have hsu:Ws.heap.size<=Wu.heap.size:=oM;have Hru:=Z1 hru;have Hkp5:=Z1 (Hkp4.out.then_ (hBu.mono hst) hBS)
     by_cases hq0:q=0
     case neg =>
      have k1:(q != 0)=true:=by simpa using hq0
      have HN:Hid (Tr.items b e p=none):=Hno.out j oM (by cases ho:Tr.item b e p c j with | none=>rfl | some v=>exact absurd (hq.2 (by rw [ho];rfl)) hq0);have Hq0:=Z1 hq0;clear hKp hBt hDt hq hy hq0 hWu hru hzu hBu;go_upto_region 20 with(fail);rw [<- HWu.out];go_wp2
      go_ret2
      exact⟨HBwS.out.trans (Hkp5.out.b.mono hwB),.inl ⟨HN.out,q,Hq0.out,rfl⟩⟩
     subst hq0;obtain⟨v,hv⟩:=Option.isSome_iff_exists.1 (hq.1 rfl);obtain rfl:=hy v hv;have Hts:=Z1 (Tr.tries_succ b e p c (show j<c.lines.length by omega))
     have Hall5:Hid (allSome (Tr.done b e p s k2++(Tr.tries b e p c).take (j+1))=some (m++[y])):=by
      show _=_;rw [Hts.out,hv,<- List.append_assoc];exact a1T _ _ _ Hall3.out
     have hown5:=Vj Hown4.out hBu;have hbx5:=gbox Hbx4.out hBu (Vq Hbx4.out);have HD5:=Z1 (HDt.out.below hBu);obtain⟨i1,hi1,hy0,hy1,hy2⟩:=info_parts itemInfo;have hownN2:=hown5.alloc (.cells y 57);have hnew:=a0v Wu y 57;have hone:∀ u∈(y:List Value),u.oneCell'=true:=oC;have h63:m.length+1<=maxLen:=by unfold maxLen;omega
     have h64:(m.length+1)*56<=140737488355328:=oM;have h65:Ws.heap.size<=(Wu.alloc (.cells y 57)).heap.size:=sO;have hbN2:=(Below.refl Wu Wu).alloc lR (.cells y 57);have Hbx6:=Z1 (gbox hbx5 hbN2 (Vq hbx5));clear hKp hBt hDt hq hy hv hWu hru hzu hBu hown5 hbx5;go_upto_region 20 with(fail);rw [<- HWu.out];go_wp2_with (first | (refine wpList_load_row rfl 57 _ rfl _ rfl _ _ _ _ Hru.out underlying57 rfl a0J ?_) | (at_builtin;refine Hid.out ?_));show wpList _ _ _ _ _ _;refine wpList_append_own _ rfl _ _ 44 rfl Ws.heap.size 57 i1 (.agg #[(),(),(),(),(),(),()]) 7 56 underlying44 hi1 hy0 hy1 hy2 rfl dC _ _ _ rfl hownN2 ⟨Wu,0,none⟩ 1 1 y rfl rfl hnew hone h63 h64 h65 ?_;intro v' w1 hown' hgrow _;have hbw1:Below Ws Wu w1:=(hbN2.mono hsu).grown hgrow h65 (fun j hj=>(hownN2.lt j hj).1);have hkp1:=Hkp5.out.then_ hbw1 hBS;have hD1:=HD5.out.low hbw1 hbdS hmkS;have hbx1:=b0X hownN2 Hbx6.out dC hgrow;go_wp2;go_roundw
     case rel=>exact⟨j+1,m++[y],oM,by go_num,by rw [List.length_append,List.flatMap_append];simpa [Itm.cells] using hown',Hall5.out,sO,hkp1,by rw [List.length_append];exact hD1,hbx1⟩
     case measure=>simp [intOf];omega
  have hkl:k<b.ents.length:=oM;have hbk:=(Hk.out.hb.below (hbw.mono hwo) lR);obtain⟨bl,ol,hle,hbl,hr⟩:=RowsAt.look hbk.hE hkl;rw [<- HeA.out] at hle;subst hle;obtain⟨x,hx⟩:∃ x,x=b.ents[k]:=⟨_,rfl⟩;have Hst:=Z1 (a1q (P:=P) hkl);rw [<- hx] at hr Hst;have Hr:=Z1 hr;have hblw:bl<wr.heap.size:=oM;have Hdw:=gB Hdr hbw hbdo;clear hr hx hbk;obtain⟨Wa,hWa,hBa,hra,hza⟩:=nw1 wr x 71;have HWa:=Z1 hWa;have Hra:=Z1 hra;have sa:wr.heap.size<Wa.heap.size:=oM;have HBa:=Z1 (hbw.trans (hBa.mono hsw));have Howa:=Z1 (Vj Hown.out hBa);have Hda:=gS Hdw hBa;have y1:=cr9 1 hra;have y2:=cr9 2 hra;have z29:=cr9 29 Hda.out;simp at y1 y2 z29;have sd:=Vq Hda.out;clear hWa hra hza hBa hbw;have hen0:e<1000000000:=by have h1:=Hok.out.2.1;have h2:=HB1.out.hg.hel;have h3:=HB1.out.hg.hen;omega
  by_cases hpx:x.c.ent=(e:Int)
  case neg =>
   have k1:(x.c.ent==(e:Int))=false:=by simp [hpx]
   have HS2:Hid ((b.ents.take (k+1)).filter P=(b.ents.take k).filter P):=by show _=_;rw [Hst.out,if_neg (by rw [HP.out];simp [Tr.mine,hpx]),List.append_nil]
   clear hpx;go_upto_region 8 with(refine wpList_load_mid rfl 71 (.tmp 34) rfl bl (ol+k*7) rfl x _ Hr.out underlying71 rfl a0H ?_);rw [<- HWa.out];go_quiet (fail);go_wp2;go_roundw
   case rel=>exact⟨k+1,oM,by go_num,by rw [HS2.out];exact Howa.out,Vw HBa.out _⟩
   case measure=>simp [intOf];omega
  have k1:(x.c.ent==(e:Int))=true:=by simp [hpx]
  by_cases hpd:x.c.date<=la
  case neg =>
   have HS2:Hid ((b.ents.take (k+1)).filter P=(b.ents.take k).filter P):=by show _=_;rw [Hst.out,if_neg (by rw [HP.out];simp [Tr.mine,hpx];omega),List.append_nil]
   clear hpx;go_upto_region 8 with(refine wpList_load_mid rfl 71 (.tmp 34) rfl bl (ol+k*7) rfl x _ Hr.out underlying71 rfl a0H ?_);rw [<- HWa.out];go_quiet (fail);go_wp2;go_roundw
   case rel=>exact⟨k+1,oM,by go_num,by rw [HS2.out];exact Howa.out,Vw HBa.out _⟩
   case measure=>simp [intOf];omega
  have HS2:Hid ((b.ents.take (k+1)).filter P=(b.ents.take k).filter P++[x]):=by show _=_;rw [Hst.out,if_pos (by rw [HP.out];simp [Tr.mine,hpx,hpd])]
  clear hpx;go_upto_region 8 with(refine wpList_load_mid rfl 71 (.tmp 34) rfl bl (ol+k*7) rfl x _ Hr.out underlying71 rfl a0H ?_);rw [<- HWa.out];go_quiet (fail);obtain⟨Wd,hWd⟩:∃ Wd,Wd=Wa.drewN nq:=⟨_,rfl⟩;have hBd:Below Wa Wa Wd:=by rw [hWd];exact Vw bR _
  rw [<- hWd];have hownN:=Vj Howa.out hBd;have hbN:=HBa.out.trans (hBd.mono HBa.out.size);have Hrd:=gB Hra hBd sa;have sd2:=Vq Hrd.out;have hownN2:=hownN.alloc (.cells x 71);have hnew:=a0v Wd x 71;have hone:∀ u∈(x:List Value),u.oneCell'=true:=oC;have h63:((b.ents.take k).filter P).length+1<=maxLen:=by unfold maxLen;omega
  have h64:(((b.ents.take k).filter P).length+1)*80<=140737488355328:=oM;have h65:Wo.heap.size<=(Wd.alloc (.cells x 71)).heap.size:=by have:=hbN.size;simp;omega
  have hbN2:=hbN.alloc hbN.size (.cells x 71);clear hWd y1 y2 z29 hBd hownN hbN;go_wp2_with (first | (refine wpList_load_row rfl 71 _ rfl _ rfl _ _ _ _ Hrd.out underlying71 rfl a0H ?_) | (at_builtin;refine Hid.out ?_));show wpList _ _ _ _ _ _;refine wpList_append_own _ rfl _ _ 30 rfl Wo.heap.size 71 i0 (.agg #[(),(),(),(),(),.string ByteArray.empty,.slice none 0 0]) 7 80 underlying30 hi hz0 hz1 hz2 rfl dC _ _ _ rfl hownN2 ⟨Wd,0,none⟩ 1 1 x rfl rfl hnew hone h63 h64 h65 ?_;intro v' w1 hown' hgrow _;have hb1:=hbN2.grown hgrow h65 (fun j hj=>(hownN2.lt j hj).1);go_wp2;go_roundw
  case rel=>exact⟨k+1,oM,by go_num,by rw [HS2.out,List.length_append,List.flatMap_append];simpa [Etr.cells] using hown',hb1⟩
  case measure=>simp [intOf];omega
end
open Go.Proofs.Tryz Go.RowKit
theorem a1d (w:World) (X j:Nat) (v:Value):w.grownBy (w.setCell ⟨X,j,none⟩ v) (some X) :=
 ⟨rfl,rfl,rfl,by simp [World.setCell],fun k hk hne=>heap_setCell_other w _ _ _ (fun e=>hne (by rw [e]))⟩
theorem a6D {base sz n ib j:Nat} {w:World} {e:TypeId} {v u:Value} {xs:List Value} (h:w.ownsRow base e sz v n xs) (hne:some ib≠v.ownBlock):(w.setCell ⟨ib,j,none⟩ u).ownsRow base e sz v n xs :=
 h.kept (a1d w ib j u) (by cases hv:v.ownBlock with | none=>exact .inl rfl | some g=>exact .inr (fun q=>hne (by rw [hv,q])))
def SlicePost (l:List Itm) (w:World) (ev:Ending) (w':World):Prop :=
 Below w w w'/\∃ A c,ev=.returned (.slice A l.length c)/\RowsAt Itm.cells 7 w' w' A l/\Fresh w A
section
variable (w:World)
theorem a1V (g:Grp) (A:Option Addr) (n c:Nat) (l:List Itm) (since:Int) (hg:g.At w w) (hl:l.length=n) (hn:n<=4000) (hA:RowsAt Itm.cells 7 w w A l) :
  Calls prog 55 #[g,.slice A n c,since] w (SlicePost (l.map (Cb.acq g since)) w):=by
 obtain⟨W1,hW1,hB0,hb0,hz⟩:=nw1 w g 29;have HW:=Z1 hW1;have Hg1:=Z1 (hg.at_ hB0);have s1:w.heap.size<W1.heap.size:=oM;obtain⟨Hb0,HB0,HA,Hl⟩:=Z4 hb0 hB0 hA hl;obtain⟨i0,hi,hz0,hz1,hz2⟩:=info_parts itemInfo;clear hW1 hz hb0 hg hB0 hA hl;go_enter func55,ntmps55;go_upto_region 1 with(fail);rw [<- HW.out];go_wp2
 go_loopw [7,12] (fun v i wr=>∃ k:Nat,k<=n/\i=.int .i64 k/\wr.ownsRow W1.heap.size 57 7 v ((l.take k).map (Cb.acq g since)).length (((l.take k).map (Cb.acq g since)).flatMap Itm.cells)/\Below W1 W1 wr) (fun _ i _=>n-(intOf i).toNat)
 case atStart=>exact⟨0,Nat.zero_le _,rfl,World.ownsRow_nil _ _ _ _,bR⟩
 case round =>
  obtain⟨k,hk,rfl,hown,hbw⟩:=hrel;have hswr:=hbw.size
  by_cases hlt:k<n
  case neg =>
   obtain rfl:k=n:=oM;rw [List.take_of_length_le (by have:=Hl.out;omega)] at hown;obtain⟨A2,c2,rfl,hA2⟩:=Xz (f:=Itm.cells) (sz:=7) dC (fun _=>rfl) hown rfl;have hfr:=a0S hown;have HP:Hid (SlicePost (l.map (Cb.acq g since)) w (.returned (.slice A2 (l.map (Cb.acq g since)).length c2)) wr):=Z1 ⟨HB0.out.trans (hbw.mono oM),A2,c2,rfl,hA2,fun ad q=>Nat.le_trans oM (hfr ad q)⟩;clear hown hA2 hfr hbw;go_wp2;go_ret;exact HP.out
  have hkl:k<l.length:=by have:=Hl.out;omega
  have hB0r:=HB0.out.trans (hbw.mono (Nat.le_of_lt s1));obtain⟨bl,ol,hle,hbl,hr⟩:=RowsAt.look (RowsAt.below HA.out hB0r lR) hkl;subst hle;obtain⟨x,hx⟩:∃ x,x=l[k]:=⟨_,rfl⟩;have Hst:Hid ((l.take (k+1)).map (Cb.acq g since)=(l.take k).map (Cb.acq g since)++[Cb.acq g since x]):=by show _=_;rw [tse hkl,List.map_append,hx];rfl
  have hlen:((l.take k).map (Cb.acq g since)).length<=4000:=sO;rw [<- hx] at hr;have Hr:=Z1 hr;have hblw:bl<wr.heap.size:=oM;obtain⟨L,hL⟩:∃ L,L=(l.take k).map (Cb.acq g since):=⟨_,rfl⟩;rw [<- hL] at hown Hst hlen;have Hlt:=Z1 hown.lt;obtain⟨Wa,hWa,hBa,hra,hza⟩:=nw1 wr x 57;have HWa:=Z1 hWa;have Hra:=Z1 hra;have sa:wr.heap.size<Wa.heap.size:=oM;have HBa:=Z1 (hbw.trans (hBa.mono hswr));have Howa:=Z1 (Vj hown hBa);have Hga:=Z1 (gbox Hb0.out HBa.out s1);have hrga:=Z1 (Xx Hga.out);have HgA:=Z1 (Hg1.out.at_ HBa.out);have y2:=cr9 3 hra;have y4:=cr9 5 hra;simp at y2 y4;have sg:=Vq Hga.out;obtain⟨ib,hib⟩:∃ ib,ib=wr.heap.size:=⟨_,rfl⟩;have hne:some ib≠u7.ownBlock:=fun q=>by have:=(Hlt.out ib q.symm).2;omega
  have hbl2:bl<ib:=oM;rw [<- hib] at Hra sa y2 y4;have hibw:ib<Wa.heap.size:=oM;have hibB:W1.heap.size<=ib:=oM;have Hib:=Z1 hib;have Hne:=Z1 hne;clear hown hbw hB0r hr hx hL hWa hra hza hBa hne hib
  by_cases hd:x.date<=since
  case neg =>
   have HX:Hid (Cb.acq g since x=x):=by show _=_;unfold Cb.acq;rw [if_neg (fun h=>hd h.1)]
   go_upto_region 5 with(refine wpList_load_mid rfl 57 (.tmp 14) rfl bl (ol+k*7) rfl x _ Hr.out underlying57 rfl a0J ?_);rw [<- HWa.out,<- Hib.out];go_upto_region 7 with(fail);have hownN2:=Howa.out.alloc (.cells x 57);have hnew:=a0v Wa x 57;have hone:∀ u∈(x:List Value),u.oneCell'=true:=oC;have h63:L.length+1<=maxLen:=by unfold maxLen;omega
   have h64:(L.length+1)*56<=140737488355328:=oM;have h65:W1.heap.size<=(Wa.alloc (.cells x 57)).heap.size:=by have:=HBa.out.size;simp;omega
   have hbN2:=HBa.out.alloc HBa.out.size (.cells x 57);go_wp2_with (first | (refine wpList_load_row rfl 57 _ rfl _ rfl _ _ _ _ Hra.out underlying57 rfl a0J ?_) | (at_builtin;refine Hid.out ?_));show wpList _ _ _ _ _ _;refine wpList_append_own _ rfl _ _ 44 rfl W1.heap.size 57 i0 (.agg #[(),(),(),(),(),(),()]) 7 56 underlying44 hi hz0 hz1 hz2 rfl dC _ _ _ rfl hownN2 ⟨Wa,0,none⟩ 1 1 x rfl rfl hnew hone h63 h64 h65 ?_;intro v' w1 hown' hgrow _;have hb1:=hbN2.grown hgrow h65 (fun j hj=>(hownN2.lt j hj).1);go_wp2;go_roundw
   case rel=>exact⟨k+1,oM,by go_num,by rw [Hst.out,HX.out,List.length_append,List.flatMap_append];simpa [Itm.cells] using hown',hb1⟩
   case measure=>simp [intOf];omega
  go_upto_region 5 with(refine wpList_load_mid rfl 57 (.tmp 14) rfl bl (ol+k*7) rfl x _ Hr.out underlying57 rfl a0J ?_);rw [<- HWa.out,<- Hib.out];go_wp2_with (refine Vk (by rfl) 29 (.tmp 3) rfl w.heap.size 0 rfl _ _ hrga.out underlying29 rfl VJ ?_);refine(b2M Wa g x.acct HgA.out).mono ?_;rintro ev W2 ⟨rfl,hB2⟩;have Hr2:=gB Hra hB2 hibw;have HB2:=bT HBa hB2;have How2:=Z1 (Vj Howa.out hB2);have Hg2:=gB Hga hB2 sg;have hrg2:=Z1 (Xx Hg2.out);have HgA2:=Z1 (HgA.out.at_ hB2);have z2:=cr9 3 Hr2.out;have z12:=cr9 12 Hg2.out;have zf:=fun j=>fr0 j Hr2.out;simp at z2 z12;have s2:=Vq Hr2.out;have sg2:=Vq Hg2.out;clear hB2 y2 y4
  cases he:Gr.isEquity g x.acct with
  | true =>
   have HX:Hid (Cb.acq g since x={ x with acct:=g.r7 }):=by show _=_;unfold Cb.acq;rw [if_pos ⟨hd,.inl he⟩]
   have hr5:=heap_setCell_same W2 ib 3 _ _ (.int .i64 g.r7) Hr2.out;simp at hr5;obtain⟨W5,hW5⟩:∃ W5,W5=W2.setCell ⟨ib,3,none⟩ (.int .i64 g.r7):=⟨_,rfl⟩;have How5:Hid (W5.ownsRow W1.heap.size 57 7 u7 L.length (L.flatMap Itm.cells)):=by show World.ownsRow _ _ _ _ _ _ _;rw [hW5];exact a6D How2.out Hne.out
   have HB5:Hid (Below W1 W1 W5):=by show Below _ _ _;rw [hW5];exact HB2.out.setCell (p:=⟨ib,3,none⟩) hibB _
   rw [<- hW5] at hr5;have HW5:=Z1 hW5;have Hr5:=Z1 hr5;clear hr5 hW5 he;go_upto_region 7 with(fail);rw [<- HW5.out];have hownN2:=How5.out.alloc (.cells #[x.ent0,x.lin,x.ent,g.r7,x.partner,x.date,x.amt] 57);have hnew:=a0v W5 [x.ent0,x.lin,x.ent,g.r7,x.partner,x.date,x.amt] 57;have hone:∀ u∈([x.ent0,x.lin,x.ent,g.r7,x.partner,x.date,x.amt]:List Value),u.oneCell'=true:=oC;have h63:L.length+1<=maxLen:=by unfold maxLen;omega
   have h64:(L.length+1)*56<=140737488355328:=oM;have h65:W1.heap.size<=(W5.alloc (.cells #[x.ent0,x.lin,x.ent,g.r7,x.partner,x.date,x.amt] 57)).heap.size:=by have:=HB5.out.size;simp;omega
   have hbN2:=HB5.out.alloc HB5.out.size (.cells #[x.ent0,x.lin,x.ent,g.r7,x.partner,x.date,x.amt] 57);go_wp2_with (first | (refine wpList_load_row rfl 57 _ rfl _ rfl _ _ _ _ Hr5.out underlying57 rfl a0J ?_) | (at_builtin;refine Hid.out ?_));show wpList _ _ _ _ _ _;refine wpList_append_own _ rfl _ _ 44 rfl W1.heap.size 57 i0 (.agg #[(),(),(),(),(),(),()]) 7 56 underlying44 hi hz0 hz1 hz2 rfl dC _ _ _ rfl hownN2 ⟨W5,0,none⟩ 1 1 [x.ent0,x.lin,x.ent,g.r7,x.partner,x.date,x.amt] rfl rfl hnew hone h63 h64 h65 ?_;intro v' w1 hown' hgrow _;have hb1:=hbN2.grown hgrow h65 (fun j hj=>(hownN2.lt j hj).1);go_wp2;go_roundw
   case rel=>exact⟨k+1,oM,by go_num,by rw [Hst.out,HX.out,List.length_append,List.flatMap_append];simpa [Itm.cells] using hown',hb1⟩
   case measure=>simp [intOf];omega
  | false =>
  go_wp2_with (refine Vk (by rfl) 29 (.tmp 3) rfl w.heap.size 0 rfl _ _ hrg2.out underlying29 rfl VJ ?_);refine(a4T W2 g x.acct HgA2.out).mono ?_;rintro ev W3 ⟨rfl,hB3⟩;have Hr3:=gB Hr2 hB3 s2;have HB3:=bT HB2 hB3;have How3:=Z1 (Vj How2.out hB3);have Hg3:=gB Hg2 hB3 sg2;have u2:=cr9 3 Hr3.out;have u12:=cr9 12 Hg3.out;have uf:=fun j=>fr0 j Hr3.out;simp at u2 u12;have s3:=Vq Hr3.out;have sg3:=Vq Hg3.out;have He:=Z1 he;clear hB3 z2 z12 zf he
  cases he:Gr.isResult g x.acct with
  | true =>
   have HX:Hid (Cb.acq g since x={ x with acct:=g.r7 }):=by show _=_;unfold Cb.acq;rw [if_pos ⟨hd,.inr he⟩]
   have hr5:=heap_setCell_same W3 ib 3 _ _ (.int .i64 g.r7) Hr3.out;simp at hr5;obtain⟨W5,hW5⟩:∃ W5,W5=W3.setCell ⟨ib,3,none⟩ (.int .i64 g.r7):=⟨_,rfl⟩;have How5:Hid (W5.ownsRow W1.heap.size 57 7 u7 L.length (L.flatMap Itm.cells)):=by show World.ownsRow _ _ _ _ _ _ _;rw [hW5];exact a6D How3.out Hne.out
   have HB5:Hid (Below W1 W1 W5):=by show Below _ _ _;rw [hW5];exact HB3.out.setCell (p:=⟨ib,3,none⟩) hibB _
   rw [<- hW5] at hr5;have HW5:=Z1 hW5;have Hr5:=Z1 hr5;clear hr5 hW5 he;go_upto_region 7 with(fail);rw [<- HW5.out];have hownN2:=How5.out.alloc (.cells #[x.ent0,x.lin,x.ent,g.r7,x.partner,x.date,x.amt] 57);have hnew:=a0v W5 [x.ent0,x.lin,x.ent,g.r7,x.partner,x.date,x.amt] 57;have hone:∀ u∈([x.ent0,x.lin,x.ent,g.r7,x.partner,x.date,x.amt]:List Value),u.oneCell'=true:=oC;have h63:L.length+1<=maxLen:=by unfold maxLen;omega
   have h64:(L.length+1)*56<=140737488355328:=oM;have h65:W1.heap.size<=(W5.alloc (.cells #[x.ent0,x.lin,x.ent,g.r7,x.partner,x.date,x.amt] 57)).heap.size:=by have:=HB5.out.size;simp;omega
   have hbN2:=HB5.out.alloc HB5.out.size (.cells #[x.ent0,x.lin,x.ent,g.r7,x.partner,x.date,x.amt] 57);go_wp2_with (first | (refine wpList_load_row rfl 57 _ rfl _ rfl _ _ _ _ Hr5.out underlying57 rfl a0J ?_) | (at_builtin;refine Hid.out ?_));show wpList _ _ _ _ _ _;refine wpList_append_own _ rfl _ _ 44 rfl W1.heap.size 57 i0 (.agg #[(),(),(),(),(),(),()]) 7 56 underlying44 hi hz0 hz1 hz2 rfl dC _ _ _ rfl hownN2 ⟨W5,0,none⟩ 1 1 [x.ent0,x.lin,x.ent,g.r7,x.partner,x.date,x.amt] rfl rfl hnew hone h63 h64 h65 ?_;intro v' w1 hown' hgrow _;have hb1:=hbN2.grown hgrow h65 (fun j hj=>(hownN2.lt j hj).1);go_wp2;go_roundw
   case rel=>exact⟨k+1,oM,by go_num,by rw [Hst.out,HX.out,List.length_append,List.flatMap_append];simpa [Itm.cells] using hown',hb1⟩
   case measure=>simp [intOf];omega
  | false =>
   have HX:Hid (Cb.acq g since x=x):=by show _=_;unfold Cb.acq;rw [if_neg (fun h=>by have q:=h.2;rw [He.out,he] at q;simp at q)]
   clear he;go_upto_region 7 with(fail);have hownN2:=How3.out.alloc (.cells x 57);have hnew:=a0v W3 x 57;have hone:∀ u∈(x:List Value),u.oneCell'=true:=oC;have h63:L.length+1<=maxLen:=by unfold maxLen;omega
   have h64:(L.length+1)*56<=140737488355328:=oM;have h65:W1.heap.size<=(W3.alloc (.cells x 57)).heap.size:=by have:=HB3.out.size;simp;omega
   have hbN2:=HB3.out.alloc HB3.out.size (.cells x 57);go_wp2_with (first | (refine wpList_load_row rfl 57 _ rfl _ rfl _ _ _ _ Hr3.out underlying57 rfl a0J ?_) | (at_builtin;refine Hid.out ?_));show wpList _ _ _ _ _ _;refine wpList_append_own _ rfl _ _ 44 rfl W1.heap.size 57 i0 (.agg #[(),(),(),(),(),(),()]) 7 56 underlying44 hi hz0 hz1 hz2 rfl dC _ _ _ rfl hownN2 ⟨W3,0,none⟩ 1 1 x rfl rfl hnew hone h63 h64 h65 ?_;intro v' w1 hown' hgrow _;have hb1:=hbN2.grown hgrow h65 (fun j hj=>(hownN2.lt j hj).1);go_wp2;go_roundw
   case rel=>exact⟨k+1,oM,by go_num,by rw [Hst.out,HX.out,List.length_append,List.flatMap_append];simpa [Itm.cells] using hown',hb1⟩
   case measure=>simp [intOf];omega
end
theorem a3W {α:Type}:∀(l:List (Option α)) (s:List α),allSome l=some s->∀ x∈s,some x∈l
 | [],s,h,x,hx=>by cases h;cases hx
 | none::_,_,h,_,_=>by cases h
 | some y::l,s,h,x,hx=>by
  unfold allSome at h
  cases ha:allSome l with
  | none=>rw [ha] at h;cases h
  | some r =>
   rw [ha] at h
   cases h
   rcases List.mem_cons.1 hx with rfl | hx
   ·exact List.mem_cons_self
   ·exact List.mem_cons_of_mem _ (a3W l r ha x hx)
theorem Jr.dated_in {g:Grp} {l:List EtC} (h:Jr.ok g l=true):∀ x∈l,-25567<=x.date/\x.date<=84005:=by
 intro x hx;obtain⟨i,hi,rfl⟩:=List.getElem_of_mem hx;unfold Jr.ok at h;simp only [Bool.and_eq_true,List.all_eq_true,List.mem_range] at h;obtain⟨hg,h⟩:=h;have h1:=h i hi;have e1:l.getD i EtC.zero=l[i]:=by simp [hi]
 rw [e1] at h1;unfold Jr.postOk at h1;simp only [Bool.and_eq_true] at h1;have h2:=h1.1.1.1;unfold Jr.fine at h2;simp only [Bool.and_eq_true] at h2;have h3:=h2.1.2;unfold Jr.dated at h3;simp only [decide_eq_true_eq] at h3;unfold Gr.valid Gr.books at hg;simp only [Bool.and_eq_true] at hg;have hc:=hg.1.1.1.1.1.2
 by_cases hd:-25567<=l[i].date/\l[i].date<=84005
 ·exact hd
 ·have:=Cal.per_date g.Y g.M g.N l[i].date hc hd
  omega
namespace Tr
theorem a9B {b:Bks} {e:Nat} {p:Int} {y:EtC} {k:Nat} {x:Itm} (h:item b e p y k=some x):x.date=y.date:=by
 unfold item at h
 cases hr:rateOf b e (Cal.last b.g.Y b.g.M p) (lat y k).acct y.date with
 | none=>rw [hr] at h;cases h
 | some r =>
  rw [hr] at h
  cases hc:conv (lat y k).amt r.2 with
  | none=>simp [hc] at h
  | some n=>simp [hc] at h;rw [<- h]
theorem items_dates {b:Bks} {e:Nat} {p:Int} {l:List Itm} (h:items b e p=some l):∀ x∈l,-25567<=x.date/\x.date<=84005:=by
 intro x hx;unfold items at h
 by_cases hv:valid b=true/\e<b.g.ents.length/\0<=p/\p<b.g.N
 ·rw [if_pos hv] at h
  have h1:=a3W _ _ h x hx;rw [List.mem_flatMap] at h1;obtain⟨y,hy,h2⟩:=h1;unfold tries at h2;rw [List.mem_map] at h2;obtain⟨k,_,h3⟩:=h2;rw [a9B h3];unfold entries at hy;rw [List.mem_mergeSort,List.mem_filter] at hy;have hj:=hv.1;unfold valid at hj;simp only [Bool.and_eq_true] at hj;exact Jr.dated_in hj.1 y hy.1
 ·rw [if_neg hv] at h;cases h
end Tr
namespace Cb
theorem b2V {g:Grp} {since:Int} {l:List Itm} (h:∀ x∈l,since<x.date):l.map (acq g since)=l:=by
 have:∀ x∈l,acq g since x=x:=fun x hx=>by unfold acq;rw [if_neg];have:=h x hx;omega
 rw [List.map_congr_left this,List.map_id']
theorem acq_parent {b:Bks} {p:Int} {l:List Itm} (h:Tr.items b 0 p=some l):l.map (acq b.g (-25568))=l :=
 b2V fun x hx=>by have:=Tr.items_dates h x hx;omega
end Cb
end Go.Proofs.YtniaimjknmhapaaGreatDoor
