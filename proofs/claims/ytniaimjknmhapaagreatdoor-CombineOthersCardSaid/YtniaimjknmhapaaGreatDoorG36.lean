/- My texts ElimW. -/
import Derived.WalkMore
import Derived.Test.YtniaimjknmhapaaGreatDoorG22
import Derived.Test.YtniaimjknmhapaaGreatDoorG33
set_option linter.unusedVariables false
set_option linter.unusedSimpArgs false
set_option maxRecDepth 100000
set_option maxHeartbeats 16000000
namespace Go.Proofs.YtniaimjknmhapaaGreatDoor
open Go.Proofs.Tryz Go.RowKit
def kk (K0:Nat):Nat->Nat
 | 0=>K0
 | c+1=>4*kk K0 c+1
theorem b3l (K0 c:Nat):K0<=kk K0 c:=by
 induction c with
 | zero=>exact lR
 | succ c ih=>show K0<=4*kk K0 c+1;omega
theorem a3B (K0:Nat) {c d:Nat} (h:c<=d):kk K0 c<=kk K0 d:=by
 induction h with
 | refl=>exact lR
 | step _ ih=>exact Nat.le_trans ih (by show _<=4*kk K0 _+1;omega)
theorem a6K (n wd:Nat) (R:Nat->MRow):hcells n 0 wd R=((List.replicate n (0:Nat)).flatMap (fun _=>[Value.slice none 0 0])).toArray:=by
 unfold hcells
 congr 1
 apply List.ext_getElem?;intro j
 have e:(List.replicate n (0:Nat)).flatMap (fun _=>[Value.slice none 0 0])=List.replicate n (Value.slice none 0 0):=by
  induction n with
  | zero=>rfl
  | succ n ih=>rw [List.replicate_succ,List.flatMap_cons,ih];rfl
 rw [e]
 by_cases hj:j<n <;> simp [hj]
theorem a6B {cur l:List Rn} (h:cur.length=l.length):((rcells cur).toList.take 0++l.flatMap Rn.cells++(rcells cur).toList.drop (0+(l.flatMap Rn.cells).length)).toArray=rcells l:=by
 unfold rcells;have e1:=a0x (f:=Rn.cells) (sz:=4) (fun _=>rfl) cur;have e2:=a0x (f:=Rn.cells) (sz:=4) (fun _=>rfl) l;rw [List.take_zero,List.nil_append,List.drop_of_length_le (by simp [e1,e2,h])];simp
section
variable {w:World} {lo g n k wd:Nat} {R:Nat->MRow} {K:Nat->Nat}
theorem Mx.row {w':World} {b:Nat} {l:List Rn} (h:Mx w lo g n k wd R K) (hk:k<n) (hB:Below w w w') (hb:w.heap.size<=b) (hlo:lo<=b) (hrow:Row w' b 43 (rcells l)) (hl:l.length=wd) (hx:∀ x∈l,x.At w' w' (K k)) :
  Mx (w'.setCell ⟨g,k,none⟩ (.slice (some ⟨b,0,none⟩) wd wd)) lo g n (k+1) wd (fun q=>if q=k then ⟨b,l⟩ else R q) K:=by
 have h':=h.below hB;have hbg:b≠g:=by have:=Vq h.hg;omega
 have hot:∀ c,c≠g->(w'.setCell ⟨g,k,none⟩ (.slice (some ⟨b,0,none⟩) wd wd)).heap[c]?=w'.heap[c]?:=fun c hc=>Below.heap_setCell _ _ _ _ (by show c≠g;exact hc);have hsz:(w'.setCell ⟨g,k,none⟩ (.slice (some ⟨b,0,none⟩) wd wd)).heap.size=w'.heap.size:=by simp [World.setCell]
 have hlt:∀ q,q<k->(R q).b<w.heap.size:=fun q hq=>Vq (h.hr q hq).1;refine⟨?_,fun q hq=>?_,fun q hq p hp e=>?_,fun q hq y hy=>?_⟩
 ·have h4:=Row.set h'.hg k (.slice (some ⟨b,0,none⟩) wd wd)
  have e:(hcells n k wd R).setIfInBounds k (.slice (some ⟨b,0,none⟩) wd wd)=hcells n (k+1) wd (fun q=>if q=k then ⟨b,l⟩ else R q):=by
   unfold hcells;simp only [List.setIfInBounds_toArray,a2u]
   congr 1
   apply List.map_congr_left;intro q _
   by_cases e1:q=k
   ·simp [e1]
   ·have:(q<k+1) ↔ (q<k):=oM
    simp [e1,this]
  rw [<- e];exact h4
 ·by_cases e:q=k
  ·subst e;simp only [if_pos rfl];exact⟨(hot b hbg).trans hrow,hl,hlo⟩
  ·simp only [if_neg e];exact⟨(hot _ (h'.ne oM)).trans (h'.hr q oM).1,(h'.hr q oM).2⟩
 ·by_cases e1:q=k <;> by_cases e2:p=k <;> simp [e1,e2] at e ⊢
  ·have:=hlt p oM;omega
  ·have:=hlt q oM;omega
  ·exact h.inj q oM p oM e
 ·rw [hsz]
  by_cases e:q=k
  ·subst e;simp only [if_pos rfl] at hy;exact(hx y hy).other h'.hg (a1B _ _ _ _) hot
  ·simp only [if_neg e] at hy;exact(h'.hx q oM y hy).other h'.hg (a1B _ _ _ _) hot
end
theorem PI.others {w w':World} {B k:Nat} {v:Value} {z:Int} (h:PI w B k v z) {S:Nat->Prop} (hS:∀ b,S b->∃(cs:Array Value) (t:TypeId) (fr:Nat × Nat),w.heap[b]?=some (Obj.cells cs t fr)/\∀(j:Nat) (n:Int),cs[j]?≠some (.int .u32 n)) (hw:∀ c,c<B->¬ S c->w'.heap[c]?=w.heap[c]?):PI w' B k v z:=by
 obtain⟨g,A,n,c,l,h1,h2,h3,h4,h5,h6,h7,h8,h9⟩:=h;refine⟨g,A,n,c,l,h1,h2,h3,h4,h5,h6,h7,h8,?_⟩
 rcases h9 with h | ⟨d,o,e,hl,hc⟩
 ·exact .inl h
 ·rcases Nat.eq_zero_or_pos l.length with h0 | h0
  ·exact .inl (List.length_eq_zero_iff.1 h0)
  ·have hne:¬ S d:=fun hd=>by
    obtain⟨cs,t,fr,hb,hcs⟩:=hS d hd;have:=hc.1 0 h0;rw [cr9 _ hb] at this;exact hcs _ _ this
   exact .inr ⟨d,o,e,hl,fun j hj=>(World.cell?_of_block (w:=w) (hw d hl hne)).trans (hc.1 j hj),hc.2.of_block (hw d hl hne)⟩
theorem Rn.At.keepX {w w':World} {K:Nat} {x:Rn} {S:Nat->Prop} (h:x.At w w K) (hS:∀ b,S b->∃(cs:Array Value) (t:TypeId) (fr:Nat × Nat),w.heap[b]?=some (Obj.cells cs t fr)/\∀(j:Nat) (n:Int),cs[j]?≠some (.int .u32 n)) (hX:KeepX S w w'):x.At w' w' K:=by
 obtain⟨N,D,g1,A1,n1,c1,g2,A2,n2,c2,e,h1,h2⟩:=h;exact Rn.At.more ⟨N,D,g1,A1,n1,c1,g2,A2,n2,c2,e,h1.others hS hX.block,h2.others hS hX.block⟩ hX.size lR
structure EI (w wr:World) (g mb db n wd K KD:Nat) (R:Nat->MRow) (d:Rn):Prop where
 hM:Mx wr (mb+1) g n n wd R (fun _=>K)
 hlt:∀ p,p<n->(R p).b<db
 hd:Row wr db 43 d
 hda:d.At wr wr KD
 hB:Below w w wr
 hm:Row wr mb 286 #[.slice (some ⟨g,0,none⟩) n n]
 hR:Row wr w.heap.size 43 ZR
 ord:w.heap.size<g/\g<mb/\mb<db
section
variable {w wr w':World} {g mb db n wd K KD:Nat} {R:Nat->MRow} {d:Rn}
theorem EI.below (h:EI w wr g mb db n wd K KD R d) (hb:Below wr wr w'):EI w w' g mb db n wd K KD R d :=
 ⟨h.hM.below hb,h.hlt,(hb.block db (Vq h.hd)).trans h.hd,(h.hda.below hb lR).more hb.size lR,h.hB.trans (hb.mono h.hB.size),(hb.block mb (Vq h.hm)).trans h.hm,(hb.block _ (Vq h.hR)).trans h.hR,h.ord⟩
theorem EI.wider {K':Nat} (h:EI w wr g mb db n wd K K R d) (hK:K<=K'):EI w wr g mb db n wd K' K' R d :=
 ⟨h.hM.wider (fun _ _=>hK),h.hlt,h.hd,h.hda.more lR hK,h.hB,h.hm,h.hR,h.ord⟩
theorem EI.no (h:EI w wr g mb db n wd K KD R d) {b:Nat} (hb:b<=mb∨db<=b):¬ rowsOf n R b:=fun⟨q,hq,e⟩=>by
 have h1:=(h.hM.hr q hq).2.2;have h2:=h.hlt q hq;omega
theorem EI.rows {K':Nat} {R':Nat->MRow} (h:EI w wr g mb db n wd K KD R d) (hX:KeepX (rowsOf n R) wr w') (hR':∀ p,p<n->(R' p).b=(R p).b) (hM:Mx w' (mb+1) g n n wd R' (fun _=>K')):EI w w' g mb db n wd K' KD R' d:=by
 have ho:=h.ord
 exact⟨hM,fun p hp=>by rw [hR' p hp];exact h.hlt p hp,(hX.block db (Vq h.hd) (h.no (.inr lR))).trans h.hd,h.hda.keepX (fun b ⟨q,hq,e⟩=>by subst e;exact⟨_,_,_,(h.hM.hr q hq).1,a0L _⟩) hX,
  h.hB.trans (hX.to_below h.hB.size (fun b hb=>h.no (.inl oM))),(hX.block mb (Vq h.hm) (h.no (.inl lR))).trans h.hm,(hX.block _ (Vq h.hR) (h.no (.inl oM))).trans h.hR,ho⟩
theorem EI.det {K':Nat} {d':Rn} (h:EI w wr g mb db n wd K KD R d) (hd':d'.At wr wr K') :
  EI w (wr.setRow db d') g mb db n wd K K' R d':=by
 have ho:=h.ord;have hot:=fun c (hc:c≠db)=>setRow_other wr db c d' hc;have hno:∀(j:Nat) (z:Int),(d:Array Value)[j]?≠some (.int .u32 z):=a0L [d];refine⟨h.hM.other h.hd hno oM (fun i hi e=>by have:=h.hlt i hi;omega) hot sP,h.hlt,setRow_heap _ _ _ _ _ _ h.hd,?_,below_setRow h.hB oM _,(hot mb oM).trans h.hm,(hot _ oM).trans h.hR,ho⟩;exact(hd'.other h.hd hno hot).more sP lR
theorem EI.swap (h:EI w wr g mb db n wd K KD R d) {i j:Nat} (hi:i<n) (hj:j<n) :
  EI w ((wr.setCell ⟨g,i,none⟩ (.slice (some ⟨(R j).b,0,none⟩) wd wd)).setCell ⟨g,j,none⟩ (.slice (some ⟨(R i).b,0,none⟩) wd wd)) g mb db n wd K KD (fun q=>if q=j then R i else if q=i then R j else R q) d:=by
 have ho:=h.ord
 have hot:∀ c,c≠g->((wr.setCell ⟨g,i,none⟩ (.slice (some ⟨(R j).b,0,none⟩) wd wd)).setCell ⟨g,j,none⟩ (.slice (some ⟨(R i).b,0,none⟩) wd wd)).heap[c]?=wr.heap[c]?:=fun c hc=>by
  rw [Below.heap_setCell _ _ _ _ (by show c≠g;exact hc),Below.heap_setCell _ _ _ _ (by show c≠g;exact hc)]
 refine⟨h.hM.swap hi hj,fun p hp=>?_,(hot db oM).trans h.hd,?_,(h.hB.setCell (p:=⟨g,i,none⟩) (by show _<=g;omega) _).setCell (p:=⟨g,j,none⟩) (by show _<=g;omega) _,(hot mb oM).trans h.hm,(hot _ oM).trans h.hR,ho⟩
 ·show(if p=j then R i else if p=i then R j else R p).b<db
  split
  ·exact h.hlt i hi
  ·split
   ·exact h.hlt j hj
   ·exact h.hlt p hp
 ·exact(h.hda.other h.hM.hg (a1B _ _ _ _) hot).more (by simp [World.setCell]) lR
end
def ElimPost (n wd cols K0:Nat) (w:World) (e:Ending) (w':World):Prop :=
 Below w w w'/\∃ g lo R r det,e=.returned (.tuple #[.slice (some ⟨g,0,none⟩) n n,.int .i64 (r:Nat),Rn.v det])/\r<=n/\Mx w' lo g n n wd R (fun _=>kk K0 cols)
theorem rowInfo2:(prog.info? 184).map (fun i=>(i.zero,i.size,i.bytes))=some (some (.slice none 0 0),1,24):=kR
theorem ratInfo:(prog.info? 43).map (fun i=>(i.zero,i.size,i.bytes))=some (some (.agg ZR),4,64):=kR
section
variable (w:World)
theorem b1K (A:Option Addr) (n c wd cols K0:Nat) (m:List RRow) (hn0:1<=n) (hn:n<=24) (hwd:wd<=30) (hcw:cols<=wd) (hw0:1<=wd) (hK:3<=K0) (hK2:30*kk K0 cols+1000<=10000000000) (hl:m.length=n)
  (hA:MatR w w A m) (hx:∀ r∈m,r.At w w K0/\r.n=wd) :
  Calls prog 256 #[.slice A n c,cols] w (ElimPost n wd cols K0 w):=by
 obtain⟨bA,oA,rfl,hbA,hrA⟩:=RowsAt.base hA oM;obtain⟨i0,hi,hz0,hz1,hz2⟩:=info_parts rowInfo2;obtain⟨i1,hi',hy0,hy1,hy2⟩:=info_parts ratInfo
 have HRA:=fun q (hq:q<n)=>Z1 (show ∃(b o c':Nat) (l:List Rn),w.cell? ⟨bA,oA+q,none⟩=some (.slice (some ⟨b,o,none⟩) wd c')/\b<w.heap.size/\RowsAt Rn.cells 4 w w (some ⟨b,o,none⟩) l/\l.length=wd/\(∀ x∈l,x.At w w K0) from by
  have h1:q<m.length:=oM;obtain⟨⟨k1,k2,k3⟩,k4⟩:=hx m[q] (List.getElem_mem h1);have c0:=hrA q h1 0 _ rfl;obtain⟨b,o,e,hb,_⟩:=RowsAt.base k2 oM;rw [e] at c0 k2;rw [k4] at c0 k1;exact⟨b,o,m[q].c,m[q].l,by simpa using c0,hb,k2,k1,k3⟩)
 have hnn:(n:Int)<=24:=oM;have hn1:(0:Int)<(n:Int):=oM;clear hA hx hrA hl;obtain⟨W1,hW1,hB1,hr1,hz1'⟩:=nw1 w ZR 43;obtain⟨HW1,HB1,Hr1,Hz1⟩:=Z4 hW1 hB1 hr1 hz1';clear hW1 hB1 hr1 hz1';go_enter func256,ntmps256;go_upto_region 1 with(fail);rw [<- HW1.out];apply wp_scope_straight;go_wp2_with (at_make;refine a0C (fun _:Nat=>[Value.slice none 0 0]) 1 0 rfl _ _ 286 rfl 184 i0 (.slice none 0 0) rfl dC underlying286 hi hz0 rfl hz1 oM _ _ _ _ n rfl rfl rfl rfl oM ?_;intro w2 hw2);obtain⟨g,hg⟩:∃ g,g=W1.heap.size:=⟨_,rfl⟩;have Hg:=Z1 hg
 have harr:Row w2 g 184 (hcells n 0 wd (fun _=>⟨0,[]⟩)):=by
  rw [a6K];unfold Row;rw [hg,hw2.out];exact heap_alloc_new W1 _
 have hB2:Below w w w2:=by rw [hw2.out];exact HB1.out.alloc HB1.out.size _
 have hr2:Row w2 w.heap.size 43 ZR:=by rw [hw2.out];exact(Below.heap_alloc _ _ _ (by rw [Hz1.out];omega)).trans Hr1.out
 rw [<- hg];have Hz2:Hid (w2.heap.size=g+1):=Z1 (by rw [hw2.out,hg];simp);have HzG:Hid (g=w.heap.size+1):=Z1 (by rw [hg,Hz1.out]);obtain⟨W3,hW3,hB3,hm3,hz3⟩:=nw1 w2 #[.slice (some ⟨g,0,none⟩) n n] 286;obtain⟨mb,hmb⟩:∃ mb,mb=w2.heap.size:=⟨_,rfl⟩;have Hmb:=Z1 hmb;have HW3:=Z1 hW3;rw [<- hmb] at hm3;have hG3:Row W3 g 184 (hcells n 0 wd (fun _=>⟨0,[]⟩)):=gbox harr hB3 (Vq harr);have hR3:Row W3 w.heap.size 43 ZR:=gbox hr2 hB3 (Vq hr2);have HB3:=Z1 (hB2.trans (hB3.mono hB2.size));have Hz3:Hid (W3.heap.size=g+2):=Z1 (by rw [hz3,Hz2.out]);have HmbG:Hid (mb=g+1):=Z1 (hmb.trans Hz2.out);have HM3:Hid (Mx W3 (mb+1) g n 0 wd (fun _=>⟨0,[]⟩) (fun _=>K0)):=Z1 ⟨hG3,fun i hi=>oM,fun i hi=>oM,fun i hi=>oM⟩;have Hm3:=Z1 hm3;have HR3:=Z1 hR3;clear hw2 harr hB2 hr2 hg hW3 hB3 hm3 hz3 hG3 hR3;go_wp2;rw [<- HW3.out,<- hmb];clear hmb
 go_loopw [20] (fun v wr=>∃(k:Nat) (R:Nat->MRow),k<=n/\v=.int .i64 k/\Mx wr (mb+1) g n k wd R (fun _=>K0)/\Below w w wr/\Row wr mb 286 #[.slice (some ⟨g,0,none⟩) n n]/\Row wr w.heap.size 43 ZR) (fun v _=>n-(intOf v).toNat)
 case atStart=>exact⟨0,_,Nat.zero_le _,rfl,HM3.out,HB3.out,Hm3.out,HR3.out⟩
 case round =>
  obtain⟨V,rfl⟩:∃ V,V=wr:=⟨_,rfl⟩;obtain⟨k,R,hk,rfl,hM,hB,hm,hR⟩:=hrel;have hVs:=hB.size
  by_cases hlt:k<n
  case neg =>
   obtain rfl:k=n:=oM;obtain⟨HM,HB,Hm,HR⟩:=Z4 hM hB hm hR;clear hM hB hm hR HM3 HB3 Hm3 HR3;go_upto_region 8 with(fail);have Hof:=Z1 (a1W V 1 1 oM oM oM oM oM);go_wp2_with (fail);refine Hof.out.mono ?_;rintro e W2 ⟨⟨r0,rfl,hr0⟩,hB2⟩;obtain⟨d0,rfl,hd0⟩:=Rn.of_ri (K:=K0) hr0 oM oM;obtain⟨W4,hW4,hB4,hd4,hz4⟩:=nw1 W2 d0 43;obtain⟨db,hdb⟩:∃ db,db=W2.heap.size:=⟨_,rfl⟩;rw [<- hdb] at hd4;have HW4:=Z1 hW4;have Hdb:=Z1 hdb;have hBV4:Below V.heap.size V W4:=hB2.trans (hB4.mono hB2.size);have hmd:mb<db:=by have:=Vq Hm.out;have:=hB2.size;omega
   have hgd:g<db:=by have:=Vq HM.out.hg;have:=hB2.size;omega
   have hwm:w.heap.size<mb:=by have:=HzG.out;have:=HmbG.out;omega
   have hgm:g<mb:=by have:=HmbG.out;omega
   have hwg:w.heap.size<g:=by have:=HzG.out;omega
   have HE:Hid (EI w W4 g mb db k wd K0 K0 R d0):=Z1 ⟨HM.out.below hBV4,fun p hp=>by have:=Vq (HM.out.hr p hp).1;have:=hB2.size;omega,hd4,(hd0.below hB4 lR).more hB4.size lR,HB.out.trans (hBV4.mono oM),(hBV4.block mb (Vq Hm.out)).trans Hm.out,(hBV4.block _ (Vq HR.out)).trans HR.out,hwg,hgm,hmd⟩;have hcc:(cols:Int)<=30:=oM;clear hW4 hd4 hz4 hBV4 hd0 hr0 hB2 hB4 HM HB Hm HR hdb;unfold Rn.v;go_wp2;rw [<- HW4.out,<- Hdb.out];apply wp_label;go_wp2
   go_loopw [11,48] (fun vr vc wr=>∃(q r:Nat) (R:Nat->MRow) (d:Rn),q<=cols/\r<=k/\vr=.int .i64 r/\vc=.int .i64 q/\EI w wr g mb db k wd (kk K0 q) (kk K0 q) R d) (fun _ vc _=>cols-(intOf vc).toNat)
   case atStart=>exact⟨0,0,R,d0,Nat.zero_le _,Nat.zero_le _,rfl,rfl,HE.out⟩
   case round =>
    clear HE;obtain⟨U,rfl⟩:∃ U,U=wr:=⟨_,rfl⟩;obtain⟨q,r,R,d,hq,hr,rfl,rfl,hE⟩:=hrel
    by_cases hqc:q<cols
    case neg =>
     obtain rfl:q=cols:=oM;have hEm:=cr9 0 hE.hm;simp at hEm;have m2:=Vq hE.hm;have d2:=Vq hE.hd;have r2:=Vq hE.hR;have hmr:¬ mb=w.heap.size:=oM;have hdr:¬ db=w.heap.size:=oM;have hrd:=Xx hE.hd;have HRd:=Z1 hrd;have HE:=Z1 hE;clear hE hrd;go_upto_region 25 with(fail);have hS0:KeepX (fun b=>b=w.heap.size) U U.drew:=(KeepX.refl _ _).below (Vw bR 1);have hBU:Below U.heap.size U U.drew:=Vw bR 1;refine wp_region_held (S:=KeepX (fun b=>b=w.heap.size) U) kR ?_;change wpAnyH _ _ _ _ _ _ _ _ (World.drew U);obtain⟨U0,hU0⟩:∃ U0,U0=U.drew:=⟨_,rfl⟩;rw [<- hU0] at hS0 hBU ⊢;clear hU0;refine jT 0 hS0 ?_ (v:=.slice (some ⟨g,0,none⟩) k k) (hy:=(.inl ⟨by rfl,fun W' hS'=>by have c8:=(hS'.cell m2 hmr 0).trans hEm;have c9:=hS'.size;have c7:mb<W'.heap.size:=oM;go_simp⟩));refine jT 1 hS0 ?_;refine jT 2 hS0 ?_ (v:=d) (hy:=(yieldsIf_load_mid (by rfl) 43 _ rfl db 0 rfl d _ (fun W' hS'=>hS'.range HRd.out d2 hdr) underlying43 rfl Vy));refine rZ 3 fun K hK=>?_;go_simp;refine jK hK hS0 ?_;clear hK K;refine rZ 4 fun K hK=>?_;go_simp;refine jK hK hS0 ?_;clear hK K;have hE0:=HE.out.below hBU;refine rZ 5 fun K hK=>?_;rw [if_pos (by rfl)];refine VX 43 _ _ none rfl rfl w.heap.size 43 _ d rfl rfl hE0.hR rfl Vy oC ?_;have hS1:KeepX (fun b=>b=w.heap.size) U (U0.setRow w d):=hS0.trans ⟨rfl,rfl,rfl,sP,fun b _ hb=>setRow_other _ _ _ _ hb⟩;refine jK hK hS1 ?_;clear hK K;refine wpAnyH_done kR ?_ _;have hMF:=hE0.hM.other hE0.hR a0F oM (fun p hp e=>by have:=(hE0.hM.hr p hp).2.2;omega) (fun c hc=>setRow_other U0 w c d hc) sP;have hBF:=below_setRow hE0.hB lR d;have hRF:=setRow_heap U0 w _ d _ _ hE0.hR;have hload:=Z1 (run_loadVar_row (P:=prog) _ _ _ 43 _ _ _ hRF underlying43 rfl Vy);obtain⟨W9,hW9⟩:∃ W9,W9=U0.setRow w d:=⟨_,rfl⟩;rw [<- hW9] at hMF hBF hload ⊢;have HMF:=Z1 hMF;have HBF:=Z1 hBF;clear hMF hBF hRF hW9 hS1 hE0 HE HRd hEm;go_wp2;exact bodyPost_ret (v:=.tuple #[.slice (some ⟨g,0,none⟩) k k,r,d]) (by simp [results,results256,asAddr,Act.put,hload.out]) rfl ⟨HBF.out,g,_,R,r,d,rfl,hr,HMF.out⟩
    have hqc2:(q:Int)<(cols:Int):=oM;have hq0:(0:Int)<=(q:Int):=oM;have hr0:(0:Int)<=(r:Int):=oM;have hrk:(r:Int)<=24:=oM;have hqw:q<wd:=oM;have hqw2:(q:Int)<(wd:Int):=oM;have HE:=Z1 hE;clear hE;go_wp2
    go_loopw [11,14] (fun vr vi wi=>∃ i:Nat,r<=i/\i<=k/\vr=.int .i64 r/\vi=.int .i64 i/\EI w wi g mb db k wd (kk K0 q) (kk K0 q) R d) (fun _ vi _=>k-(intOf vi).toNat)
    case atStart=>exact⟨r,lR,hr,rfl,rfl,HE.out⟩
    case round =>
     clear HE;obtain⟨V,rfl⟩:∃ V,V=wr:=⟨_,rfl⟩;obtain⟨i,hri,hik,rfl,rfl,hE⟩:=hrel;have e1:=cr9 0 hE.hm;simp at e1;have e2:=Vq hE.hm;have hi0:(0:Int)<=(i:Int):=oM
     by_cases hlt:i<k
     case neg =>
      obtain rfl:i=k:=oM;have HE:=Z1 (hE.wider (K':=kk K0 (q+1)) (a3B K0 (Nat.le_succ q)));clear hE;go_wp2;go_roundw
      case rel=>exact⟨q+1,r,R,d,oM,hr,rfl,by go_num,HE.out⟩
      case measure=>simp [intOf];omega
     have hik2:(i:Int)<(k:Int):=oM;have hrk2:(r:Int)<(k:Int):=oM;have hrlt:r<k:=oM;have e3:=hE.hM.head hlt hlt;have e4:=Vq hE.hM.hg;obtain⟨x,_,hrx,hxa⟩:=hE.hM.get hlt hqw;have hbi:=Vq (hE.hM.hr i hlt).1;have Hs:=Z1 (a8T V (kk K0 q) x hxa);obtain⟨bi,hbe⟩:∃ bi,bi=(R i).b:=⟨_,rfl⟩;rw [<- hbe] at e3 hrx hbi;have Hrx:=Z1 hrx;have HE:=Z1 hE;clear hrx hxa hE hbe;go_wp2_with (refine wpList_load_mid rfl 43 (.tmp 63) rfl bi (q*4) rfl x _ Hrx.out underlying43 rfl Vy ?_);refine Hs.out.mono ?_;rintro e W5 ⟨⟨s,rfl⟩,hB5⟩;have HE5:=Z1 (HE.out.below hB5);clear HE hB5 e1 e3 Hrx Hs
     by_cases hz:s=0
     ·have k2:(s==0)=true:=by simp [hz]
      clear hz;go_wp2;go_roundw
      case rel=>exact⟨i+1,oM,oM,rfl,by go_num,HE5.out⟩
      case measure=>simp [intOf];omega
     have k2:(s==0)=false:=by simp [hz]
     clear hz
     by_cases hir:i=r
     rotate_left
     focus
      have k3:((i:Int) != (r:Int))=true:=sO;have c1:=HE5.out.hM.head hlt hlt;have c2:=HE5.out.hM.head hrlt hrlt;have m1:=cr9 0 HE5.out.hm;simp at m1;have m2:=Vq HE5.out.hm;have g5:=Vq HE5.out.hM.hg;have hmg:¬ mb=g:=oM;obtain⟨bi,hbi⟩:∃ bi,bi=(R i).b:=⟨_,rfl⟩;obtain⟨br,hbr⟩:∃ br,br=(R r).b:=⟨_,rfl⟩;rw [<- hbi] at c1;rw [<- hbr] at c2;have Hbi:=Z1 hbi;have Hbr:=Z1 hbr;have hkk:kk K0 q<=10000000000:=by have:=a3B K0 (Nat.le_of_lt hqc);omega
      clear hbi hbr;go_upto_region 19 with(fail);have hS0:KeepX (fun b=>b=g) W5 W5.drew:=(KeepX.refl _ _).below (Vw bR 1);have hBU:Below W5 W5 W5.drew:=Vw bR 1;refine wp_region_held (S:=KeepX (fun b=>b=g) W5) kR ?_;change wpAnyH _ _ _ _ _ _ _ _ (World.drew W5);obtain⟨U0,hU0⟩:∃ U0,U0=W5.drew:=⟨_,rfl⟩;rw [<- hU0] at hS0 hBU ⊢;clear hU0;refine jT 0 hS0 ?_ (v:=.slice (some ⟨g,0,none⟩) k k) (hy:=(.inl ⟨by rfl,fun W' hS'=>by have c8:=(hS'.cell m2 hmg 0).trans m1;have c9:=hS'.size;have c7:mb<W'.heap.size:=oM;go_simp⟩));refine jT 1 hS0 ?_;refine jT 2 hS0 ?_ (v:=.slice (some ⟨g,0,none⟩) k k) (hy:=(.inl ⟨by rfl,fun W' hS'=>by have c8:=(hS'.cell m2 hmg 0).trans m1;have c9:=hS'.size;have c7:mb<W'.heap.size:=oM;go_simp⟩));refine jT 3 hS0 ?_;refine jT 4 hS0 ?_ (v:=.slice (some ⟨g,0,none⟩) k k) (hy:=(.inl ⟨by rfl,fun W' hS'=>by have c8:=(hS'.cell m2 hmg 0).trans m1;have c9:=hS'.size;have c7:mb<W'.heap.size:=oM;go_simp⟩));refine jT 5 hS0 ?_;refine jT 6 hS0 ?_;refine jT 8 hS0 ?_ (v:=.slice (some ⟨g,0,none⟩) k k) (hy:=(.inl ⟨by rfl,fun W' hS'=>by have c8:=(hS'.cell m2 hmg 0).trans m1;have c9:=hS'.size;have c7:mb<W'.heap.size:=oM;go_simp⟩));refine jT 9 hS0 ?_;refine jT 10 hS0 ?_;have n1:=(hBU.cell (p:=⟨g,i,none⟩) g5).trans c1;have n2:=(hBU.cell (p:=⟨g,r,none⟩) g5).trans c2;have n3:g<U0.heap.size:=by have:=hBU.size;omega
      refine wpAnyH_ready (rs:=[7,11]) kR sP (AllReadyH.cons rfl (fun K hK=>?_) (AllReadyH.cons rfl (fun K hK=>?_) AllReadyH.nil))
      focus
       go_simp;refine jK hK hS0 ?_;clear hK K;refine rZ 11 fun K hK=>?_;go_simp;refine jK hK hS0 ?_;clear hK K
      rotate_left
      focus
       go_simp;refine jK hK hS0 ?_;clear hK K;refine rZ 7 fun K hK=>?_;go_simp;refine jK hK hS0 ?_;clear hK K
      rotate_left
      all_goals
       refine jT 12 hS0 ?_;have hS1:=hS0.put (b:=g) rfl i [.slice (some ⟨br,0,none⟩) wd wd];have f1:=fr0 i (HE5.out.below hBU).hM.hg;refine rZ 13 fun K hK=>?_;go_simp;refine jK hK hS1 ?_;clear hK K;refine jT 14 hS1 ?_;have hrow1:=Row.set (HE5.out.below hBU).hM.hg i (.slice (some ⟨br,0,none⟩) wd wd);have f2:=fr0 r hrow1
       have n4:∃ v,(U0.setCell ⟨g,i,none⟩ (.slice (some ⟨br,0,none⟩) wd wd)).cell? ⟨g,r,none⟩=some v:=by
        rw [cr9 r hrow1,Array.getElem?_eq_getElem (by unfold hcells;simp;omega)];exact⟨_,rfl⟩
       obtain⟨v4,n4⟩:=n4;obtain⟨U1,hU1⟩:∃ U1,U1=U0.setCell ⟨g,i,none⟩ (.slice (some ⟨br,0,none⟩) wd wd):=⟨_,rfl⟩;have n5:g<U1.heap.size:=by rw [hU1];simpa [World.setCell] using n3
       rw [<- hU1] at n4 f2 ⊢;change KeepX _ W5 (U0.setCell ⟨g,i,none⟩ (.slice (some ⟨br,0,none⟩) wd wd)) at hS1;rw [<- hU1] at hS1;have hS2:=hS1.put (b:=g) rfl r [.slice (some ⟨bi,0,none⟩) wd wd];have HU1:=Z1 hU1;clear hU1 hrow1;refine rZ 15 fun K hK=>?_;go_simp;refine jK hK hS2 ?_;clear hK K;refine wpAnyH_done kR ?_ _;have hE6:=(HE5.out.below hBU).swap hlt hrlt;rw [<- Hbi.out,<- Hbr.out,<- HU1.out] at hE6;obtain⟨R6,hE6⟩:∃ R6,EI w (U1.setCell ⟨g,r,none⟩ (.slice (some ⟨bi,0,none⟩) wd wd)) g mb db k wd (kk K0 q) (kk K0 q) R6 d:=⟨_,hE6⟩;obtain⟨W7,hW7⟩:∃ W7,W7=U1.setCell ⟨g,r,none⟩ (.slice (some ⟨bi,0,none⟩) wd wd):=⟨_,rfl⟩;rw [<- hW7] at hE6 ⊢;have Hneg:=Z1 (b2j W7 (kk K0 q) d hkk hE6.hda);have HE6:=Z1 hE6;have hd7:=hE6.hd;unfold Rn.v at Hneg;clear hW7 hS2 hS1 hS0 hBU n1 n2 n3 n4 n5 f1 f2 c1 c2 m1 m2 hE6;go_wp2_with (refine wpList_load_row rfl 43 _ rfl _ rfl _ _ _ _ hd7 underlying43 rfl Vy ?_);refine Hneg.out.mono ?_;rintro e W8 ⟨⟨d8,rfl,hd8⟩,hB8⟩;have hE8:=HE6.out.below hB8;have Hd8:=Z1 hE8.hd;have HE9:=Z1 (hE8.det hd8);have H1d:Hid ((d8:Array Value).all (·.oneCell')=true):=Z1 oC;clear hE8 hd7 hB8 hd8;unfold Rn.v;go_upto_region 21 with(refine Vx rfl 43 (.tmp 9) (.tmp 85) none rfl rfl db 43 _ d8 rfl rfl Hd8.out rfl Vy H1d.out ?_);obtain⟨W6,hW6⟩:∃ W6,W6=W8.setRow db d8:=⟨_,rfl⟩;rw [<- hW6] at HE9 ⊢;obtain⟨R7,d6,HE7⟩:∃ R6 d6,Hid (EI w W6 g mb db k wd (kk K0 q) (kk K0 q) R6 d6):=⟨R6,d8,HE9⟩;clear hW6 HE9 H1d Hd8 HE6 Hneg HU1 Hbi Hbr HE5
     rotate_left 2
     focus
      have k3:((i:Int) != (r:Int))=false:=by simp [hir]
      obtain⟨W6,hW6⟩:∃ W6,W6=W5:=⟨_,rfl⟩;rw [<- hW6] at HE5 ⊢;obtain⟨R7,d6,HE7⟩:∃ R6 d6,Hid (EI w W6 g mb db k wd (kk K0 q) (kk K0 q) R6 d6):=⟨R,d,HE5⟩;clear HE5 hW6 hir;go_upto_region 21 with(fail)
     all_goals
      have hdd:=HE7.out.hd;have c1:=HE7.out.hM.head hrlt hrlt;have m1:=cr9 0 HE7.out.hm;simp at m1;have m2:=Vq HE7.out.hm;have g5:=Vq HE7.out.hM.hg;obtain⟨y,_,hry,hya⟩:=HE7.out.hM.get hrlt hqw;have b5:=Vq (HE7.out.hM.hr r hrlt).1;obtain⟨br,hbr⟩:∃ br,br=(R7 r).b:=⟨_,rfl⟩;rw [<- hbr] at c1 hry b5;have L1:=run_loadVar_row (P:=prog) W6.drew db 43 43 _ _ _ hdd underlying43 rfl Vy;have L2:=run_loadVar_mid (P:=prog) W6.drew br (q*4) 43 y.cells _ hry underlying43 rfl Vy;unfold Rn.cells at L2;have hBd:Below W6 W6 W6.drew:=Vw bR 1;have HEd:=Z1 (HE7.out.below hBd);have h3k:3<=kk K0 q:=Nat.le_trans hK (b3l K0 q);have hkb:kk K0 q<=kk K0 cols:=a3B K0 (Nat.le_of_lt hqc);have Hmul:=Z1 (b2k W6.drew (kk K0 q) (kk K0 q) d6 y h3k h3k oM HEd.out.hda ((hya.below hBd lR).more hBd.size lR));unfold Rn.v at Hmul;clear hdd hry hya hbr hBd HE7;go_still_tail 8,kR;refine a3i (by rfl) 43 (.tmp 9) rfl db 0 rfl _ L1 ?_
      repeat still_step
      refine a3i (by rfl) 43 (.tmp 92) rfl br (q*4) rfl _ L2 ?_;refine wpStill_nil ?_;clear L1 L2 c1 m1;go_wp2_with (fail);refine Hmul.out.mono ?_;rintro e W7 ⟨⟨d7,rfl,hd7⟩,hB7⟩;have hE7:=HEd.out.below hB7;have Hd7:=Z1 hE7.hd;have HE8:=Z1 (hE7.det hd7);have H1d:Hid ((d7:Array Value).all (·.oneCell')=true):=Z1 oC;clear hE7 hd7 hB7 Hmul HEd;unfold Rn.v;go_upto_region 22 with(refine Vx rfl 43 (.tmp 9) (.tmp 94) none rfl rfl db 43 _ d7 rfl rfl Hd7.out rfl Vy H1d.out ?_);obtain⟨W8,hW8⟩:∃ W8,W8=W7.setRow db d7:=⟨_,rfl⟩;rw [<- hW8] at HE8 ⊢;have Hclr:=Z1 (b0g W8 mb g (mb+1) k wd r q (kk K0 q) R7 hn hwd hrlt hqw h3k oM (Vq HE8.out.hm) (by rw [cr9 0 HE8.out.hm];rfl) (HE8.out.no (.inl lR)) HE8.out.hM);clear hW8 H1d Hd7;go_wp2_with (fail);refine Hclr.out.mono ?_;rintro e W9 ⟨⟨v9,rfl⟩,hX9,R9,hRb9,hM9⟩;have HE9:=Z1 (HE8.out.rows hX9 hRb9 hM9);have HE10:Hid (EI w W9 g mb db k wd (kk K0 (q+1)) (kk K0 (q+1)) R9 d7):=Z1 ⟨HE9.out.hM,HE9.out.hlt,HE9.out.hd,HE9.out.hda.more lR (by show _<=4*kk K0 q+1;omega),HE9.out.hB,HE9.out.hm,HE9.out.hR,HE9.out.ord⟩;clear hX9 hRb9 hM9 HE8 HE9 Hclr;go_wp2;go_roundw
      case rel=>exact⟨q+1,r+1,R9,d7,oM,oM,by go_num,by go_num,HE10.out⟩
      case measure=>simp [intOf];omega
  obtain⟨b,o,c',l,y1,y2,y3,y4,y5⟩:=(HRA k hlt).out;have a1:=(hB.cell (p:=⟨bA,oA+k,none⟩) hbA).trans y1;have m1:=cr9 0 hm;simp at m1;have m2:=Vq hm;have g2:=Vq hM.hg;have a2:bA<V.heap.size:=oM;have hmg:¬ mb=g:=by have:=HmbG.out;omega
  have hag:¬ bA=g:=by have:=HzG.out;omega
  have hkn:(k:Int)<(n:Int):=oM;have hk0:(0:Int)<=(k:Int):=oM;obtain⟨HM,HB,Hm,HR,Hy3,Hy5,Hy4⟩:=Z7 hM hB hm hR y3 y5 y4;clear hM hB hm hR y1 y3 y5 y4;go_upto_region 5 with(fail);have hS0:KeepX (fun b=>b=g) V V.drew:=(KeepX.refl _ _).below (Vw bR 1);have hBV:Below V.heap.size V V.drew:=Vw bR 1;refine wp_region_held (S:=KeepX (fun b=>b=g) V) kR ?_;change wpAnyH _ _ _ _ _ _ _ _ (World.drew V);obtain⟨V0,hV0⟩:∃ V0,V0=V.drew:=⟨_,rfl⟩;have hV0s:V0.heap.size=V.heap.size:=by rw [hV0];rfl
  rw [<- hV0] at hS0 hBV ⊢;clear hV0;refine jT 0 hS0 ?_ (v:=.slice (some ⟨g,0,none⟩) n n) (hy:=(.inl ⟨by rfl,fun W' hS'=>by have c8:=(hS'.cell m2 hmg 0).trans m1;have c9:=hS'.size;have c7:mb<W'.heap.size:=oM;go_simp⟩));refine jT 1 hS0 ?_;refine jT 2 hS0 ?_;refine jT 3 hS0 ?_;refine jT 4 hS0 ?_;refine jT 5 hS0 ?_ (v:=.slice (some ⟨b,o,none⟩) wd c') (hy:=(.inl ⟨by rfl,fun W' hS'=>by have c8:=(hS'.cell a2 hag (oA+k)).trans a1;have c9:=hS'.size;have c7:bA<W'.heap.size:=oM;go_simp⟩));refine jT 6 hS0 ?_;refine rZ 7 fun K hK=>?_;rw [if_pos (by rfl)];refine a2O Rn.cells 4 Rn.zero _ _ 184 rfl 43 i1 (.agg ZR) rfl dC underlying184 hi' hy0 rfl hy1 oM _ _ _ _ wd rfl rfl rfl rfl oM ?_;intro W4 hW4;have hB4:Below V.heap.size V0 W4:=by rw [hW4.out];exact bR.alloc (by rw [hV0s];exact lR) _
  have hBV4:Below V.heap.size V W4:=hBV.trans hB4
  have hrow4:Row W4 V.heap.size 43 (rcells (List.replicate wd Rn.zero)):=by
   have:=heap_alloc_new V0 (.cells ((List.replicate wd Rn.zero).flatMap Rn.cells).toArray 43);rw [hV0s] at this;unfold Row;rw [hW4.out];exact this
  have hS4:KeepX (fun b=>b=g) V W4:=hS0.trans ⟨hB4.os,hB4.tape,hB4.output,hB4.size,fun b hb _=>hB4.block b (by rw [hV0s] at hb;exact hb)⟩;rw [hV0s];refine jK hK hS4 ?_;clear hK K;obtain⟨nb,hnb⟩:∃ nb,nb=V.heap.size:=⟨_,rfl⟩;rw [<- hnb] at hrow4 ⊢;have hnb1:V.heap.size<=nb:=Nat.le_of_eq hnb.symm;have hnb2:nb<=V.heap.size:=Nat.le_of_eq hnb;clear hnb;refine jT 8 hS4 ?_;have hM4:=HM.out.row (w':=W4) hlt hBV4 hnb1 oM hrow4 sP (fun x hx=>by rw [List.eq_of_mem_replicate hx];exact Rn.zero_at _ _ _)
  have hz0':W4.cell? ⟨g,k,none⟩=some (.slice none 0 0):=by
   rw [hBV4.cell (p:=⟨g,k,none⟩) g2,cr9 k HM.out.hg];unfold hcells;simp [hlt]
  have hf0:W4.frozen? ⟨g,k,none⟩=false:=by rw [hBV4.frozen (p:=⟨g,k,none⟩) g2];exact fr0 _ HM.out.hg
  refine rZ 9 fun K hK=>?_;have g4:g<W4.heap.size:=by have:=hBV4.size;omega
  have hS5:=hS4.put (b:=g) rfl k [.slice (some ⟨nb,0,none⟩) wd wd];have hr5:Row (W4.setCell ⟨g,k,none⟩ (.slice (some ⟨nb,0,none⟩) wd wd)) nb 43 (rcells (List.replicate wd Rn.zero)):=(Below.heap_setCell _ _ _ _ (by show nb≠g;omega)).trans hrow4;go_simp;refine jK hK hS5 ?_;clear hK K;refine wpAnyH_done kR ?_ _;obtain⟨W5,hW5⟩:∃ W5,W5=W4.setCell ⟨g,k,none⟩ (.slice (some ⟨nb,0,none⟩) wd wd):=⟨_,rfl⟩;change KeepX _ V (W4.setCell ⟨g,k,none⟩ (.slice (some ⟨nb,0,none⟩) wd wd)) at hS5;rw [<- hW5] at hS5 hr5 hM4 ⊢;have hb5:Below w w W5:=HB.out.trans (hS5.to_below oM (fun b hb e=>by have:=HzG.out;omega));have s5:=hS5.size;have hm5:Row W5 mb 286 #[.slice (some ⟨g,0,none⟩) n n]:=(hS5.block mb m2 hmg).trans Hm.out;have hR5:Row W5 w.heap.size 43 ZR:=(hS5.block w (Vq HR.out) (fun e=>by have:=HzG.out;omega)).trans HR.out;have e1:=cr9 0 hm5;simp at e1;have e2:=hM4.head (show k<k+1 by omega) hlt;simp only [if_pos rfl] at e2;have e3:=(hS5.cell a2 hag (oA+k)).trans a1;have e4:mb<W5.heap.size:=oM;have e5:g<W5.heap.size:=oM;have e6:bA<W5.heap.size:=oM;have e7:=Vq hr5;obtain⟨HM5,Hb5,Hm5,HR5,Hr5⟩:=Z5 hM4 hb5 hm5 hR5 hr5;have hne:nb≠mb:=oM;have hnw:w.heap.size<nb:=by have:=HzG.out;omega
  have Hlen:Hid ((l.flatMap Rn.cells).length=wd*4):=Z1 (by rw [a0x (f:=Rn.cells) (sz:=4) (fun _=>rfl),Hy4.out]);have Hnews:Hid (∀ j v,(l.flatMap Rn.cells)[j]?=some v->W5.drew.cell? ((⟨b,o,none⟩:Addr).add j)=some v):=Z1 (a0Q (f:=Rn.cells) (sz:=4) (w:=W5) (B:=w.heap.size) dC (fun _=>rfl) (RowsAt.below Hy3.out hb5 lR));have Hone:Hid (∀ v∈l.flatMap Rn.cells,v.oneCell'=true):=Z1 (fun v hv=>by rw [List.mem_flatMap] at hv;obtain⟨x,_,hx⟩:=hv;revert v;simp [Rn.cells,Value.oneCell']);have hdrew:Below W5 W5 W5.drew:=Vw bR 1;clear hS5 hr5 hM4 hb5 hm5 hR5 hS4 hS0 hB4 hBV4 hrow4 hBV hz0' hf0 hW5 m1 a1;go_upto_region 6 with(fail);go_still_tail 8,kR;refine a2V _ rfl (.tmp 35) (.tmp 39) 184 184 43 rfl 4 nb wd wd c' ⟨b,o,none⟩ (rcells (List.replicate wd Rn.zero)) 43 (l.flatMap Rn.cells) rfl rfl underlying184 Vy Hr5.out Hlen.out Hnews.out (by unfold rcells;rw [List.size_toArray,a0x (f:=Rn.cells) (sz:=4) (fun _=>rfl),a0x (f:=Rn.cells) (sz:=4) (fun _=>rfl),Hy4.out];simp) Hone.out ?_;intro vv;rw [a6B (by simp [Hy4.out])];have hr6:=setRow_heap W5.drew nb _ (rcells l) _ _ Hr5.out;have hb6:Below w w (W5.drew.setRow nb (rcells l)):=below_setRow (Hb5.out.trans (hdrew.mono oM)) oM _;have hc6:=(HM5.out.below hdrew).change (i:=k) (w':=W5.drew.setRow nb (rcells l)) (l:=l) (K':=fun _=>K0) oM (fun _ _=>Nat.le_refl _) (by simp only [if_pos rfl];exact hr6) Hy4.out (fun c hc=>by simp only [if_pos rfl] at hc;exact setRow_other _ _ _ _ hc) sP (fun x hx=>((Hy5.out x hx).below hb6 lR).more hb6.size lR);have hm6:Row (W5.drew.setRow nb (rcells l)) mb 286 #[.slice (some ⟨g,0,none⟩) n n]:=(setRow_other _ _ _ _ hne.symm).trans Hm5.out;have hR6:Row (W5.drew.setRow nb (rcells l)) w.heap.size 43 ZR:=(setRow_other _ _ _ _ oM).trans HR5.out;obtain⟨HX,Hb6,Hm6,HR6⟩:=Z4 hc6.1 hb6 hm6 hR6;clear hr6 hb6 hc6 hm6 hR6 hdrew e1 e2 e3;go_wp2;go_roundw
  case rel=>exact⟨k+1,_,oM,by go_num,HX.out,Hb6.out,Hm6.out,HR6.out⟩
  case measure=>simp [intOf];omega
end
end Go.Proofs.YtniaimjknmhapaaGreatDoor
