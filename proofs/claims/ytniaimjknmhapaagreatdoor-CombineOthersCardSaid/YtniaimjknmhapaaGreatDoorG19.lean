/- My texts SmpC, SmpE. -/
import Derived.Test.YtniaimjknmhapaaGreatDoorG14
set_option linter.unusedVariables false
set_option linter.unusedSimpArgs false
set_option maxRecDepth 100000
set_option maxHeartbeats 16000000
namespace Go.Proofs.YtniaimjknmhapaaGreatDoor
open Go.Proofs.Tryz Go.RowKit
theorem a2l:∀(objs:List Obj) (w:World),Below w w (objs.foldl World.alloc w)/\(objs.foldl World.alloc w).heap.size=w.heap.size+objs.length/\∀(i:Nat) (o:Obj),objs[i]?=some o->(objs.foldl World.alloc w).heap[w.heap.size+i]?=some o
 | [],w=>⟨bR,rfl,fun i o h=>by simp at h⟩
 | x::objs,w=>by
  obtain⟨h1,h2,h3⟩:=a2l objs (w.alloc x);have hs:(w.alloc x).heap.size=w.heap.size+1:=sP;rw [hs] at h1 h2 h3;refine⟨((Below.refl w w).alloc lR x).trans (h1.mono oM),by rw [List.foldl_cons,h2,List.length_cons];omega,fun i o h=>?_⟩
  match i with
  | 0 =>
   rw [List.foldl_cons,Nat.add_zero,h1.block w oM];have:=heap_alloc_new w x;simp at h;rw [this,h]
  | i+1 =>
   rw [List.foldl_cons,show w.heap.size+(i+1)=w.heap.size+1+i by omega];exact h3 i o (by simpa using h)
structure RowV where
 kind:Int
 basis:Int
 cb:Nat
 codes:List Int
def RowV.cells (r:RowV):List Value:=[.int .i64 r.kind,.int .i64 r.basis,.slice (some ⟨r.cb,0,none⟩) r.codes.length r.codes.length]
abbrev intsCells (x:Int):List Value:=[.int .i64 x]
namespace Smp
def rows (B:Nat):List RowV:=[⟨1,1,B,[1000,1010,1100,1200]⟩,⟨1,3,B+1,[1300,1500,1600,1700]⟩,⟨2,1,B+2,[2000,2100]⟩,⟨3,3,B+3,[3000,3100,3200,3300,3400,3500]⟩,⟨4,2,B+4,[4000,4100,4500,4600,4700]⟩,⟨5,2,B+5,[5000,5100,5500,5600,5700]⟩]
def par (c:Int):Int:=if c=1010 then 1000 else if c=1100 then 1000 else if c=1200 then 1000 else if c=2100 then c-100 else if c=4100 then c-100 else 0
def acc (r:RowV) (c:Int):Acc:=⟨c,r.kind,r.basis,par c⟩
def part (o:Option RowV) (k:Nat):List Acc:=match o with
 | some r=>(r.codes.take k).map (acc r)
 | none=>[]
def upTo (l:List RowV) (i k:Nat):List Acc:=(l.take i).flatMap (fun r=>r.codes.map (acc r))++part l[i]? k
def chart:List Acc:=(rows 0).flatMap (fun r=>r.codes.map (acc r))
theorem upTo_next {l:List RowV} {i k:Nat} (hi:i<l.length) (hk:k<l[i].codes.length):upTo l i (k+1)=upTo l i k++[acc l[i] l[i].codes[k]]:=by
 unfold upTo part;rw [List.getElem?_eq_getElem hi];simp only [];rw [tse hk,List.map_append,List.append_assoc];rfl
theorem upTo_row {l:List RowV} {i:Nat} (hi:i<l.length):upTo l i l[i].codes.length=upTo l (i+1) 0:=by
 unfold upTo part;rw [List.getElem?_eq_getElem hi,tse hi,List.flatMap_append];simp only [List.take_length,List.flatMap_cons,List.flatMap_nil,List.append_nil]
 cases l[i+1]? <;> simp
theorem a2Y (B:Nat):upTo (rows B) 6 0=chart:=rfl
end Smp
def accRow (l:List Acc):List Value:=l.flatMap Acc.cells
theorem a0X (l:List Acc) (x:Acc):accRow (l++[x])=accRow l++x.cells:=by simp [accRow]
theorem accSize':(prog.info? 87).map (·.size)=some 4:=kR
def SampleChartPost (w:World) (e:Ending) (w':World):Prop:=Below w w w'/\∃ A c,e=.returned (.slice A 26 c)/\Fresh w A/\AccsAt w' w' A Smp.chart
section
variable (w:World)
theorem a7H:Calls prog 38 #[] w (SampleChartPost w):=by
 obtain⟨i0,hi0,hz0,hz1,hz2⟩:=info_parts accInfo;obtain⟨hB1,hz,hblk⟩:=a2l [(.cells #[(1000:Int),(1010:Int),(1100:Int),(1200:Int)] 3),(.cells #[(1300:Int),(1500:Int),(1600:Int),(1700:Int)] 3),(.cells #[(2000:Int),(2100:Int)] 3),(.cells #[(3000:Int),(3100:Int),(3200:Int),(3300:Int),(3400:Int),(3500:Int)] 3),(.cells #[(4000:Int),(4100:Int),(4500:Int),(4600:Int),(4700:Int)] 3),(.cells #[(5000:Int),(5100:Int),(5500:Int),(5600:Int),(5700:Int)] 3),(.cells #[(1:Int),(1:Int),.slice (some ⟨w,0,none⟩) 4 4,(1:Int),(3:Int),.slice (some ⟨w.heap.size+1,0,none⟩) 4 4,(2:Int),(1:Int),.slice (some ⟨w.heap.size+2,0,none⟩) 2 2,(3:Int),(3:Int),.slice (some ⟨w.heap.size+3,0,none⟩) 6 6,(4:Int),(2:Int),.slice (some ⟨w.heap.size+4,0,none⟩) 5 5,(5:Int),(2:Int),.slice (some ⟨w.heap.size+5,0,none⟩) 5 5] 147)] w;change Below w w (((((((w.alloc (.cells #[(1000:Int),(1010:Int),(1100:Int),(1200:Int)] 3)).alloc (.cells #[(1300:Int),(1500:Int),(1600:Int),(1700:Int)] 3)).alloc (.cells #[(2000:Int),(2100:Int)] 3)).alloc (.cells #[(3000:Int),(3100:Int),(3200:Int),(3300:Int),(3400:Int),(3500:Int)] 3)).alloc (.cells #[(4000:Int),(4100:Int),(4500:Int),(4600:Int),(4700:Int)] 3)).alloc (.cells #[(5000:Int),(5100:Int),(5500:Int),(5600:Int),(5700:Int)] 3)).alloc (.cells #[(1:Int),(1:Int),.slice (some ⟨w,0,none⟩) 4 4,(1:Int),(3:Int),.slice (some ⟨w.heap.size+1,0,none⟩) 4 4,(2:Int),(1:Int),.slice (some ⟨w.heap.size+2,0,none⟩) 2 2,(3:Int),(3:Int),.slice (some ⟨w.heap.size+3,0,none⟩) 6 6,(4:Int),(2:Int),.slice (some ⟨w.heap.size+4,0,none⟩) 5 5,(5:Int),(2:Int),.slice (some ⟨w.heap.size+5,0,none⟩) 5 5] 147)) at hB1;change (((((((w.alloc (.cells #[(1000:Int),(1010:Int),(1100:Int),(1200:Int)] 3)).alloc (.cells #[(1300:Int),(1500:Int),(1600:Int),(1700:Int)] 3)).alloc (.cells #[(2000:Int),(2100:Int)] 3)).alloc (.cells #[(3000:Int),(3100:Int),(3200:Int),(3300:Int),(3400:Int),(3500:Int)] 3)).alloc (.cells #[(4000:Int),(4100:Int),(4500:Int),(4600:Int),(4700:Int)] 3)).alloc (.cells #[(5000:Int),(5100:Int),(5500:Int),(5600:Int),(5700:Int)] 3)).alloc (.cells #[(1:Int),(1:Int),.slice (some ⟨w,0,none⟩) 4 4,(1:Int),(3:Int),.slice (some ⟨w.heap.size+1,0,none⟩) 4 4,(2:Int),(1:Int),.slice (some ⟨w.heap.size+2,0,none⟩) 2 2,(3:Int),(3:Int),.slice (some ⟨w.heap.size+3,0,none⟩) 6 6,(4:Int),(2:Int),.slice (some ⟨w.heap.size+4,0,none⟩) 5 5,(5:Int),(2:Int),.slice (some ⟨w.heap.size+5,0,none⟩) 5 5] 147)).heap.size=w.heap.size+7 at hz;change ∀(i:Nat) (o:Obj),_->(((((((w.alloc (.cells #[(1000:Int),(1010:Int),(1100:Int),(1200:Int)] 3)).alloc (.cells #[(1300:Int),(1500:Int),(1600:Int),(1700:Int)] 3)).alloc (.cells #[(2000:Int),(2100:Int)] 3)).alloc (.cells #[(3000:Int),(3100:Int),(3200:Int),(3300:Int),(3400:Int),(3500:Int)] 3)).alloc (.cells #[(4000:Int),(4100:Int),(4500:Int),(4600:Int),(4700:Int)] 3)).alloc (.cells #[(5000:Int),(5100:Int),(5500:Int),(5600:Int),(5700:Int)] 3)).alloc (.cells #[(1:Int),(1:Int),.slice (some ⟨w,0,none⟩) 4 4,(1:Int),(3:Int),.slice (some ⟨w.heap.size+1,0,none⟩) 4 4,(2:Int),(1:Int),.slice (some ⟨w.heap.size+2,0,none⟩) 2 2,(3:Int),(3:Int),.slice (some ⟨w.heap.size+3,0,none⟩) 6 6,(4:Int),(2:Int),.slice (some ⟨w.heap.size+4,0,none⟩) 5 5,(5:Int),(2:Int),.slice (some ⟨w.heap.size+5,0,none⟩) 5 5] 147)).heap[w.heap.size+i]?=some o at hblk;obtain⟨W1,hW1⟩:∃ W1,W1=(((((((w.alloc (.cells #[(1000:Int),(1010:Int),(1100:Int),(1200:Int)] 3)).alloc (.cells #[(1300:Int),(1500:Int),(1600:Int),(1700:Int)] 3)).alloc (.cells #[(2000:Int),(2100:Int)] 3)).alloc (.cells #[(3000:Int),(3100:Int),(3200:Int),(3300:Int),(3400:Int),(3500:Int)] 3)).alloc (.cells #[(4000:Int),(4100:Int),(4500:Int),(4600:Int),(4700:Int)] 3)).alloc (.cells #[(5000:Int),(5100:Int),(5500:Int),(5600:Int),(5700:Int)] 3)).alloc (.cells #[(1:Int),(1:Int),.slice (some ⟨w,0,none⟩) 4 4,(1:Int),(3:Int),.slice (some ⟨w.heap.size+1,0,none⟩) 4 4,(2:Int),(1:Int),.slice (some ⟨w.heap.size+2,0,none⟩) 2 2,(3:Int),(3:Int),.slice (some ⟨w.heap.size+3,0,none⟩) 6 6,(4:Int),(2:Int),.slice (some ⟨w.heap.size+4,0,none⟩) 5 5,(5:Int),(2:Int),.slice (some ⟨w.heap.size+5,0,none⟩) 5 5] 147)):=⟨_,rfl⟩;rw [<- hW1] at hB1 hz hblk;have HW1:=Z1 hW1;obtain⟨l,hl⟩:∃ l,l=Smp.rows w.heap.size:=⟨_,rfl⟩
 have hrows:RowsAt RowV.cells 3 W1 W1 (some ⟨w.heap.size+6,0,none⟩) l:=by
  have:=hblk 6 _ rfl;rw [hl];exact a0z (f:=RowV.cells) (l:=Smp.rows w) this oM (fun _ _=>rfl)
 have hcodes:∀ r∈l,RowsAt intsCells 1 W1 W1 (some ⟨r.cb,0,none⟩) r.codes:=by
  intro r hr;rw [hl] at hr;simp only [Smp.rows,List.mem_cons,List.not_mem_nil,or_false] at hr
  rcases hr with rfl | rfl | rfl | rfl | rfl | rfl
  ·exact a0z (f:=intsCells) (l:=[1000,1010,1100,1200]) (hblk 0 _ rfl) (by show w.heap.size+0<_;omega) (fun _ _=>rfl)
  ·exact a0z (f:=intsCells) (l:=[1300,1500,1600,1700]) (hblk 1 _ rfl) (by show w.heap.size+1<_;omega) (fun _ _=>rfl)
  ·exact a0z (f:=intsCells) (l:=[2000,2100]) (hblk 2 _ rfl) (by show w.heap.size+2<_;omega) (fun _ _=>rfl)
  ·exact a0z (f:=intsCells) (l:=[3000,3100,3200,3300,3400,3500]) (hblk 3 _ rfl) (by show w.heap.size+3<_;omega) (fun _ _=>rfl)
  ·exact a0z (f:=intsCells) (l:=[4000,4100,4500,4600,4700]) (hblk 4 _ rfl) (by show w.heap.size+4<_;omega) (fun _ _=>rfl)
  ·exact a0z (f:=intsCells) (l:=[5000,5100,5500,5600,5700]) (hblk 5 _ rfl) (by show w.heap.size+5<_;omega) (fun _ _=>rfl)
 have hlen:l.length=6:=by rw [hl];rfl
 have hsh:∀ r∈l,r.codes.length<=6:=by
  intro r hr;rw [hl] at hr;simp only [Smp.rows,List.mem_cons,List.not_mem_nil,or_false] at hr
  rcases hr with rfl | rfl | rfl | rfl | rfl | rfl <;> simp
 have Hall:Hid (Smp.upTo l 6 0=Smp.chart):=by show _=_;rw [hl];rfl
 obtain⟨Hrows,Hcodes,Hlen,Hsh⟩:=Z4 hrows hcodes hlen hsh;have H0:Hid (Smp.upTo l 0 0=[]):=by show _=_;rw [hl];rfl
 clear hW1 hblk hl hrows hcodes hlen hsh;go_enter func38,ntmps38;go_upto_region 2 with(fail);rw [<- HW1.out];go_wp2
 go_loopw [2,3] (fun v s wr=>∃ i:Nat,i<=6/\s=.int .i64 i/\(Smp.upTo l i 0).length<=6*i/\wr.ownsRow W1.heap.size 87 4 v (Smp.upTo l i 0).length (accRow (Smp.upTo l i 0))/\Below W1 W1 wr) (fun _ s _=>6-(intOf s).toNat)
 case atStart=>exact⟨0,oM,rfl,by rw [H0.out];simp,by rw [H0.out];exact World.ownsRow_nil _ _ _ _,bR⟩
 case round =>
  obtain⟨i,hi,rfl,hlb,hown,hb⟩:=hrel;have Hown:=Z1 hown;have Hlb:=Z1 hlb;clear hown hlb
  by_cases hlt:i<6
  case neg =>
   obtain rfl:i=6:=oM;go_wp2;go_ret;have ho:=Hown.out;rw [Hall.out] at ho;obtain⟨A',c',rfl,hA⟩:=Xz (f:=Acc.cells) dC (fun _=>rfl) ho rfl;exact⟨hB1.trans (hb.mono hB1.size),A',c',rfl,(fun ad h=>Nat.le_trans oM (a0S ho ad h)),hA⟩
  have hi0':(0:Int)<=(i:Int):=oM;have hi1':(i:Int)<6:=oM;have hil:i<l.length:=by have:=Hlen.out;omega
  obtain⟨r,hr⟩:∃ r,r=l[i]:=⟨_,rfl⟩;have Hr:=Z1 hr;have hrm:r∈l:=by rw [hr];exact List.getElem_mem hil
  have hr6:=Hsh.out r hrm;have Hcd:=Z1 (Hcodes.out r hrm);obtain⟨b0,o0,e0,hb0,hrr⟩:=RowsAt.look Hrows.out hil;rw [<- hr] at hrr
  have hrb:b0=w.heap.size+6/\o0=0:=by
   injection e0 with e0;injection e0 with q1 q2 q3;exact⟨q1.symm,q2.symm⟩
  obtain⟨rfl,rfl⟩:=hrb;have HR:=Z1 hrr;have hrbw:w.heap.size+6<W1.heap.size:=oM;clear hr hrm hrr e0;go_wp2
  go_loopw [2,4] (fun v s wq=>∃ k:Nat,k<=r.codes.length/\s=.int .i64 k/\(Smp.upTo l i k).length<=6*i+k/\wq.ownsRow W1.heap.size 87 4 v (Smp.upTo l i k).length (accRow (Smp.upTo l i k))/\Below W1 W1 wq) (fun _ s _=>r.codes.length-(intOf s).toNat)
  case atStart=>exact⟨0,Nat.zero_le _,rfl,by have:=Hlb.out;omega,Hown.out,hb⟩
  case round =>
   obtain⟨k,hk,rfl,hlb2,hown2,hb2⟩:=hrel;have Hown2:=Z1 hown2;have Hlb2:=Z1 hlb2;have hq2:=hb2.size;have hrow:=VV HR.out hb2 hrbw;have c0:=hrow 0 _ rfl;have c1:=hrow 1 _ rfl;have c2:=hrow 2 _ rfl;simp at c0 c1 c2;have sb:w.heap.size+6<wr.heap.size:=oM;clear hown2 hlb2 hrow
   by_cases hlt2:k<r.codes.length
   case neg =>
    obtain rfl:k=r.codes.length:=oM;have Hn:Hid (Smp.upTo l i r.codes.length=Smp.upTo l (i+1) 0):=by show _=_;rw [Hr.out];exact Smp.upTo_row hil
    go_wp2;go_roundw
    case rel=>exact⟨i+1,oM,by go_num,by rw [<- Hn.out];have:=Hlb2.out;omega,by rw [<- Hn.out];exact Hown2.out,hb2⟩
    case measure=>simp [intOf];omega
   obtain⟨bc,oc,ec,hbc,hcc⟩:=RowsAt.look Hcd.out hlt2
   have hbc2:bc=r.cb/\oc=0:=by
    injection ec with ec;injection ec with q1 q2 q3;exact⟨q1.symm,q2.symm⟩
   obtain⟨rfl,rfl⟩:=hbc2;obtain⟨a,ha⟩:∃ a,a=r.codes[k]:=⟨_,rfl⟩;rw [<- ha] at hcc;have hcb:=VV hcc hb2 hbc;have c3:=hcb 0 _ rfl;simp at c3
   have Hst:Hid (Smp.upTo l i (k+1)=Smp.upTo l i k++[⟨a,r.kind,r.basis,Smp.par a⟩]):=by
    show _=_;have hkl:k<l[i].codes.length:=by rw [<- Hr.out];exact hlt2
    rw [Smp.upTo_next hil hkl];simp only [<- Hr.out,<- ha];rfl
   have sc:r.cb<wr.heap.size:=oM;obtain⟨C0,C1,C2,C3⟩:=Z4 c0 c1 c2 c3;have hk0':(0:Int)<=(k:Int):=oM;have hk1':(k:Int)<(r.codes.length:Int):=oM;clear hcc hcb ec ha c3;go_upto_region 9 with(fail);clear c0 c1 c2;have hS:Below wr wr wr.drew:=Vw bR 1;refine wp_region_held (S:=Below wr wr) kR ?_;change wpAnyH _ _ _ _ _ _ _ _ (World.drew _);obtain⟨W0,hWd⟩:∃ W0,W0=wr.drew:=⟨_,rfl⟩;rw [<- hWd] at hS ⊢;clear hWd;refine jT 0 hS ?_;refine jT 1 hS ?_;refine jT 2 hS ?_;refine jT 3 hS ?_;refine jT 4 hS ?_ (v:=.slice (some ⟨r.cb,0,none⟩) r.codes.length r.codes.length) (hy:=(.inl ⟨by rfl,fun W' hS'=>by have hc:=(hS'.cell (p:=⟨w.heap.size+6,i*3+2,none⟩) sb).trans C2.out;go_simp⟩));refine jT 5 hS ?_;refine jT 6 hS ?_;refine jT 7 hS ?_ (v:=.int .i64 a) (hy:=(.inl ⟨by rfl,fun W' hS'=>by have hc:=(hS'.cell (p:=⟨r.cb,k,none⟩) sc).trans C3.out;go_simp⟩));refine jT 8 hS ?_;refine jT 9 hS ?_;refine jT 10 hS ?_;refine jT 11 hS ?_;refine jT 12 hS ?_ (v:=.int .i64 r.kind) (hy:=(.inl ⟨by rfl,fun W' hS'=>by have hc:=(hS'.cell (p:=⟨w.heap.size+6,i*3,none⟩) sb).trans C0.out;go_simp⟩));refine jT 13 hS ?_;refine jT 14 hS ?_;refine jT 15 hS ?_;refine jT 16 hS ?_;refine jT 17 hS ?_ (v:=.int .i64 r.basis) (hy:=(.inl ⟨by rfl,fun W' hS'=>by have hc:=(hS'.cell (p:=⟨w.heap.size+6,i*3+1,none⟩) sb).trans C1.out;go_simp⟩));refine jT 18 hS ?_;refine rZ 19 fun K hK=>?_;obtain⟨hBa,hrw,_⟩:=a0T W0 #[(),(),(),()] 87;go_simp;obtain⟨W2,hWn⟩:∃ W2,W2=W0.alloc (.cells #[(),(),(),()] 87):=⟨_,rfl⟩;rw [<- hWn] at hBa hrw ⊢;clear hWn;have hS2:=hS.trans (hBa.mono hS.size);refine jK hK hS2 ?_;clear hK K;refine rZ 20 fun K hK=>?_;rw [if_pos (by rfl)];refine VX 87 _ _ none rfl rfl W0.heap.size 87 _ #[a,r.kind,r.basis,()] rfl rfl hrw rfl accSize' oC ?_;have hrw3:=setRow_heap W2 W0 _ #[a,r.kind,r.basis,()] _ _ hrw;have hS3:=below_setRow hS2 hS.size #[a,r.kind,r.basis,()];refine jK hK hS3 ?_;clear hK K;refine wpAnyH_done kR ?_ _
   try simp only [z]
   obtain⟨p,hp⟩:∃ p,p=W0.heap.size:=⟨_,rfl⟩;have hpr:wr.heap.size<=p:=by rw [hp];exact hS.size
   rw [<- hp] at hrw3 hS3 ⊢;obtain⟨W3,hW3⟩:∃ W3,W3=W2.setRow p #[a,r.kind,r.basis,()]:=⟨_,rfl⟩;rw [<- hW3] at hrw3 hS3 ⊢;clear hW3 hS2 hS hrw hBa hp C0 C1 C2 C3;have x0:=cr9 0 hrw3;have x1:=cr9 1 hrw3;have x2:=cr9 2 hrw3;have x3:=cr9 3 hrw3;have xf:=fun j=>fr0 j hrw3;simp at x0 x1 x2 x3;have hpw:=Vq hrw3;have Hrw3:=Z1 hrw3;have HS3:=Z1 hS3;have hlb3:=Hlb2.out;have hln:(Smp.upTo l i k).length+1<=1000:=oM
   by_cases h1010:a=1010
   ·subst h1010
    have hpar:Smp.par 1010=1000:=dC;have Hst2:Hid (Smp.upTo l i (k+1)=Smp.upTo l i k++[⟨1010,r.kind,r.basis,1000⟩]):=by show _=_;rw [Hst.out,hpar]
    clear hpar;have hrw4:=heap_setCell_same W3 p 3 _ _ (.int .i64 1000) Hrw3.out;simp at hrw4;have hS4:=HS3.out.setCell (p:=⟨p,3,none⟩) hpr (.int .i64 1000);obtain⟨W4,hW4⟩:∃ W4,W4=W3.setCell ⟨p,3,none⟩ (.int .i64 1000):=⟨_,rfl⟩;rw [<- hW4] at hrw4 hS4;obtain⟨HW4,Hrw4,HS4⟩:=Z3 hW4 hrw4 hS4;clear hW4 hrw4 hS4;go_upto_region 18 with(fail);rw [<- HW4.out];clear x0 x1 x2 x3 xf;have hrg:=Z1 (a0R (cs:=[.int .i64 1010,.int .i64 r.kind,.int .i64 r.basis,.int .i64 1000]) Hrw4.out);have hpw4:=Vq Hrw4.out;have hown4:=(Vj Hown2.out HS4.out).alloc (.cells #[(1010:Int),r.kind,r.basis,(1000:Int)] 87);have hnew:=a0v W4 [(1010:Int),r.kind,r.basis,(1000:Int)] 87;have hone:∀ u∈([(1010:Int),r.kind,r.basis,(1000:Int)]:List Value),u.oneCell'=true:=oC;have hq4:W1.heap.size<=W4.heap.size:=by have:=HS4.out.size;omega
    have h63:(Smp.upTo l i k).length+1<=maxLen:=by unfold maxLen;omega
    have h64:((Smp.upTo l i k).length+1)*32<=140737488355328:=oM;have h65:W1.heap.size<=(W4.alloc (.cells #[(1010:Int),r.kind,r.basis,(1000:Int)] 87)).heap.size:=sO;go_wp2_with (first | (refine wpList_load_mid rfl 87 (.tmp 5) rfl p 0 rfl [(1010:Int),r.kind,r.basis,(1000:Int)] _ hrg.out underlying87 rfl accSize' ?_) | (at_builtin;refine wpList_append_own _ rfl _ _ 24 rfl W1.heap.size 87 i0 (.agg #[(),(),(),()]) 4 32 underlying24 hi0 hz0 hz1 hz2 rfl dC _ _ _ rfl hown4 ⟨W4,0,none⟩ 1 1 [(1010:Int),r.kind,r.basis,(1000:Int)] rfl rfl hnew hone h63 h64 h65 ?_));intro v' w9 hown' hgrow _;have hb9:=((hb2.trans (HS4.out.mono hq2)).alloc hq4 (.cells #[(1010:Int),r.kind,r.basis,(1000:Int)] 87)).grown hgrow h65 (a0D hown4);have hlb9:=Hlb2.out;clear hnew hone hown4;go_wp2;go_roundw
    case rel=>exact⟨k+1,oM,by go_num,by rw [Hst2.out,List.length_append];simp;omega,by rw [Hst2.out,a0X,List.length_append,hz];exact hown',hb9⟩
    case measure=>simp [intOf];omega
   have g1010:(a==1010)=false:=by simp [h1010]
   by_cases h1100:a=1100
   ·subst h1100
    have hpar:Smp.par 1100=1000:=dC;have Hst2:Hid (Smp.upTo l i (k+1)=Smp.upTo l i k++[⟨1100,r.kind,r.basis,1000⟩]):=by show _=_;rw [Hst.out,hpar]
    clear hpar;have hrw4:=heap_setCell_same W3 p 3 _ _ (.int .i64 1000) Hrw3.out;simp at hrw4;have hS4:=HS3.out.setCell (p:=⟨p,3,none⟩) hpr (.int .i64 1000);obtain⟨W4,hW4⟩:∃ W4,W4=W3.setCell ⟨p,3,none⟩ (.int .i64 1000):=⟨_,rfl⟩;rw [<- hW4] at hrw4 hS4;obtain⟨HW4,Hrw4,HS4⟩:=Z3 hW4 hrw4 hS4;clear hW4 hrw4 hS4;go_upto_region 18 with(fail);rw [<- HW4.out];clear x0 x1 x2 x3 xf;have hrg:=Z1 (a0R (cs:=[.int .i64 1100,.int .i64 r.kind,.int .i64 r.basis,.int .i64 1000]) Hrw4.out);have hpw4:=Vq Hrw4.out;have hown4:=(Vj Hown2.out HS4.out).alloc (.cells #[(1100:Int),r.kind,r.basis,(1000:Int)] 87);have hnew:=a0v W4 [(1100:Int),r.kind,r.basis,(1000:Int)] 87;have hone:∀ u∈([(1100:Int),r.kind,r.basis,(1000:Int)]:List Value),u.oneCell'=true:=oC;have hq4:W1.heap.size<=W4.heap.size:=by have:=HS4.out.size;omega
    have h63:(Smp.upTo l i k).length+1<=maxLen:=by unfold maxLen;omega
    have h64:((Smp.upTo l i k).length+1)*32<=140737488355328:=oM;have h65:W1.heap.size<=(W4.alloc (.cells #[(1100:Int),r.kind,r.basis,(1000:Int)] 87)).heap.size:=sO;go_wp2_with (first | (refine wpList_load_mid rfl 87 (.tmp 5) rfl p 0 rfl [(1100:Int),r.kind,r.basis,(1000:Int)] _ hrg.out underlying87 rfl accSize' ?_) | (at_builtin;refine wpList_append_own _ rfl _ _ 24 rfl W1.heap.size 87 i0 (.agg #[(),(),(),()]) 4 32 underlying24 hi0 hz0 hz1 hz2 rfl dC _ _ _ rfl hown4 ⟨W4,0,none⟩ 1 1 [(1100:Int),r.kind,r.basis,(1000:Int)] rfl rfl hnew hone h63 h64 h65 ?_));intro v' w9 hown' hgrow _;have hb9:=((hb2.trans (HS4.out.mono hq2)).alloc hq4 (.cells #[(1100:Int),r.kind,r.basis,(1000:Int)] 87)).grown hgrow h65 (a0D hown4);have hlb9:=Hlb2.out;clear hnew hone hown4;go_wp2;go_roundw
    case rel=>exact⟨k+1,oM,by go_num,by rw [Hst2.out,List.length_append];simp;omega,by rw [Hst2.out,a0X,List.length_append,hz];exact hown',hb9⟩
    case measure=>simp [intOf];omega
   have g1100:(a==1100)=false:=by simp [h1100]
   by_cases h1200:a=1200
   ·subst h1200
    have hpar:Smp.par 1200=1000:=dC;have Hst2:Hid (Smp.upTo l i (k+1)=Smp.upTo l i k++[⟨1200,r.kind,r.basis,1000⟩]):=by show _=_;rw [Hst.out,hpar]
    clear hpar;have hrw4:=heap_setCell_same W3 p 3 _ _ (.int .i64 1000) Hrw3.out;simp at hrw4;have hS4:=HS3.out.setCell (p:=⟨p,3,none⟩) hpr (.int .i64 1000);obtain⟨W4,hW4⟩:∃ W4,W4=W3.setCell ⟨p,3,none⟩ (.int .i64 1000):=⟨_,rfl⟩;rw [<- hW4] at hrw4 hS4;obtain⟨HW4,Hrw4,HS4⟩:=Z3 hW4 hrw4 hS4;clear hW4 hrw4 hS4;go_upto_region 18 with(fail);rw [<- HW4.out];clear x0 x1 x2 x3 xf;have hrg:=Z1 (a0R (cs:=[.int .i64 1200,.int .i64 r.kind,.int .i64 r.basis,.int .i64 1000]) Hrw4.out);have hpw4:=Vq Hrw4.out;have hown4:=(Vj Hown2.out HS4.out).alloc (.cells #[(1200:Int),r.kind,r.basis,(1000:Int)] 87);have hnew:=a0v W4 [(1200:Int),r.kind,r.basis,(1000:Int)] 87;have hone:∀ u∈([(1200:Int),r.kind,r.basis,(1000:Int)]:List Value),u.oneCell'=true:=oC;have hq4:W1.heap.size<=W4.heap.size:=by have:=HS4.out.size;omega
    have h63:(Smp.upTo l i k).length+1<=maxLen:=by unfold maxLen;omega
    have h64:((Smp.upTo l i k).length+1)*32<=140737488355328:=oM;have h65:W1.heap.size<=(W4.alloc (.cells #[(1200:Int),r.kind,r.basis,(1000:Int)] 87)).heap.size:=sO;go_wp2_with (first | (refine wpList_load_mid rfl 87 (.tmp 5) rfl p 0 rfl [(1200:Int),r.kind,r.basis,(1000:Int)] _ hrg.out underlying87 rfl accSize' ?_) | (at_builtin;refine wpList_append_own _ rfl _ _ 24 rfl W1.heap.size 87 i0 (.agg #[(),(),(),()]) 4 32 underlying24 hi0 hz0 hz1 hz2 rfl dC _ _ _ rfl hown4 ⟨W4,0,none⟩ 1 1 [(1200:Int),r.kind,r.basis,(1000:Int)] rfl rfl hnew hone h63 h64 h65 ?_));intro v' w9 hown' hgrow _;have hb9:=((hb2.trans (HS4.out.mono hq2)).alloc hq4 (.cells #[(1200:Int),r.kind,r.basis,(1000:Int)] 87)).grown hgrow h65 (a0D hown4);have hlb9:=Hlb2.out;clear hnew hone hown4;go_wp2;go_roundw
    case rel=>exact⟨k+1,oM,by go_num,by rw [Hst2.out,List.length_append];simp;omega,by rw [Hst2.out,a0X,List.length_append,hz];exact hown',hb9⟩
    case measure=>simp [intOf];omega
   have g1200:(a==1200)=false:=by simp [h1200]
   by_cases h2100:a=2100
   ·subst h2100
    have hpar:Smp.par 2100=2000:=dC;have Hst2:Hid (Smp.upTo l i (k+1)=Smp.upTo l i k++[⟨2100,r.kind,r.basis,2000⟩]):=by show _=_;rw [Hst.out,hpar]
    clear hpar;have hrw4:=heap_setCell_same W3 p 3 _ _ (.int .i64 2000) Hrw3.out;simp at hrw4;have hS4:=HS3.out.setCell (p:=⟨p,3,none⟩) hpr (.int .i64 2000);obtain⟨W4,hW4⟩:∃ W4,W4=W3.setCell ⟨p,3,none⟩ (.int .i64 2000):=⟨_,rfl⟩;rw [<- hW4] at hrw4 hS4;obtain⟨HW4,Hrw4,HS4⟩:=Z3 hW4 hrw4 hS4;clear hW4 hrw4 hS4;go_upto_region 18 with(fail);rw [<- HW4.out];clear x0 x1 x2 x3 xf;have hrg:=Z1 (a0R (cs:=[.int .i64 2100,.int .i64 r.kind,.int .i64 r.basis,.int .i64 2000]) Hrw4.out);have hpw4:=Vq Hrw4.out;have hown4:=(Vj Hown2.out HS4.out).alloc (.cells #[(2100:Int),r.kind,r.basis,(2000:Int)] 87);have hnew:=a0v W4 [(2100:Int),r.kind,r.basis,(2000:Int)] 87;have hone:∀ u∈([(2100:Int),r.kind,r.basis,(2000:Int)]:List Value),u.oneCell'=true:=oC;have hq4:W1.heap.size<=W4.heap.size:=by have:=HS4.out.size;omega
    have h63:(Smp.upTo l i k).length+1<=maxLen:=by unfold maxLen;omega
    have h64:((Smp.upTo l i k).length+1)*32<=140737488355328:=oM;have h65:W1.heap.size<=(W4.alloc (.cells #[(2100:Int),r.kind,r.basis,(2000:Int)] 87)).heap.size:=sO;go_wp2_with (first | (refine wpList_load_mid rfl 87 (.tmp 5) rfl p 0 rfl [(2100:Int),r.kind,r.basis,(2000:Int)] _ hrg.out underlying87 rfl accSize' ?_) | (at_builtin;refine wpList_append_own _ rfl _ _ 24 rfl W1.heap.size 87 i0 (.agg #[(),(),(),()]) 4 32 underlying24 hi0 hz0 hz1 hz2 rfl dC _ _ _ rfl hown4 ⟨W4,0,none⟩ 1 1 [(2100:Int),r.kind,r.basis,(2000:Int)] rfl rfl hnew hone h63 h64 h65 ?_));intro v' w9 hown' hgrow _;have hb9:=((hb2.trans (HS4.out.mono hq2)).alloc hq4 (.cells #[(2100:Int),r.kind,r.basis,(2000:Int)] 87)).grown hgrow h65 (a0D hown4);have hlb9:=Hlb2.out;clear hnew hone hown4;go_wp2;go_roundw
    case rel=>exact⟨k+1,oM,by go_num,by rw [Hst2.out,List.length_append];simp;omega,by rw [Hst2.out,a0X,List.length_append,hz];exact hown',hb9⟩
    case measure=>simp [intOf];omega
   have g2100:(a==2100)=false:=by simp [h2100]
   by_cases h4100:a=4100
   ·subst h4100
    have hpar:Smp.par 4100=4000:=dC;have Hst2:Hid (Smp.upTo l i (k+1)=Smp.upTo l i k++[⟨4100,r.kind,r.basis,4000⟩]):=by show _=_;rw [Hst.out,hpar]
    clear hpar;have hrw4:=heap_setCell_same W3 p 3 _ _ (.int .i64 4000) Hrw3.out;simp at hrw4;have hS4:=HS3.out.setCell (p:=⟨p,3,none⟩) hpr (.int .i64 4000);obtain⟨W4,hW4⟩:∃ W4,W4=W3.setCell ⟨p,3,none⟩ (.int .i64 4000):=⟨_,rfl⟩;rw [<- hW4] at hrw4 hS4;obtain⟨HW4,Hrw4,HS4⟩:=Z3 hW4 hrw4 hS4;clear hW4 hrw4 hS4;go_upto_region 18 with(fail);rw [<- HW4.out];clear x0 x1 x2 x3 xf;have hrg:=Z1 (a0R (cs:=[.int .i64 4100,.int .i64 r.kind,.int .i64 r.basis,.int .i64 4000]) Hrw4.out);have hpw4:=Vq Hrw4.out;have hown4:=(Vj Hown2.out HS4.out).alloc (.cells #[(4100:Int),r.kind,r.basis,(4000:Int)] 87);have hnew:=a0v W4 [(4100:Int),r.kind,r.basis,(4000:Int)] 87;have hone:∀ u∈([(4100:Int),r.kind,r.basis,(4000:Int)]:List Value),u.oneCell'=true:=oC;have hq4:W1.heap.size<=W4.heap.size:=by have:=HS4.out.size;omega
    have h63:(Smp.upTo l i k).length+1<=maxLen:=by unfold maxLen;omega
    have h64:((Smp.upTo l i k).length+1)*32<=140737488355328:=oM;have h65:W1.heap.size<=(W4.alloc (.cells #[(4100:Int),r.kind,r.basis,(4000:Int)] 87)).heap.size:=sO;go_wp2_with (first | (refine wpList_load_mid rfl 87 (.tmp 5) rfl p 0 rfl [(4100:Int),r.kind,r.basis,(4000:Int)] _ hrg.out underlying87 rfl accSize' ?_) | (at_builtin;refine wpList_append_own _ rfl _ _ 24 rfl W1.heap.size 87 i0 (.agg #[(),(),(),()]) 4 32 underlying24 hi0 hz0 hz1 hz2 rfl dC _ _ _ rfl hown4 ⟨W4,0,none⟩ 1 1 [(4100:Int),r.kind,r.basis,(4000:Int)] rfl rfl hnew hone h63 h64 h65 ?_));intro v' w9 hown' hgrow _;have hb9:=((hb2.trans (HS4.out.mono hq2)).alloc hq4 (.cells #[(4100:Int),r.kind,r.basis,(4000:Int)] 87)).grown hgrow h65 (a0D hown4);have hlb9:=Hlb2.out;clear hnew hone hown4;go_wp2;go_roundw
    case rel=>exact⟨k+1,oM,by go_num,by rw [Hst2.out,List.length_append];simp;omega,by rw [Hst2.out,a0X,List.length_append,hz];exact hown',hb9⟩
    case measure=>simp [intOf];omega
   have g4100:(a==4100)=false:=by simp [h4100]
   have hpar:Smp.par a=0:=by simp [Smp.par,h1010,h1100,h1200,h2100,h4100]
   have Hst2:Hid (Smp.upTo l i (k+1)=Smp.upTo l i k++[⟨a,r.kind,r.basis,0⟩]):=by show _=_;rw [Hst.out,hpar]
   clear hpar;have Hrw4:=Hrw3;have HS4:=HS3;obtain⟨W4,hW4⟩:∃ W4,W4=W3:=⟨_,rfl⟩;rw [<- hW4] at Hrw4 HS4;have HW4:=Z1 hW4;clear hW4;go_upto_region 18 with(fail);rw [<- HW4.out];clear x0 x1 x2 x3 xf;have hrg:=Z1 (a0R (cs:=[.int .i64 a,.int .i64 r.kind,.int .i64 r.basis,.int .i64 0]) Hrw4.out);have hpw4:=Vq Hrw4.out;have hown4:=(Vj Hown2.out HS4.out).alloc (.cells #[a,r.kind,r.basis,()] 87);have hnew:=a0v W4 [a,r.kind,r.basis,()] 87;have hone:∀ u∈([a,r.kind,r.basis,()]:List Value),u.oneCell'=true:=oC;have hq4:W1.heap.size<=W4.heap.size:=by have:=HS4.out.size;omega
   have h63:(Smp.upTo l i k).length+1<=maxLen:=by unfold maxLen;omega
   have h64:((Smp.upTo l i k).length+1)*32<=140737488355328:=oM;have h65:W1.heap.size<=(W4.alloc (.cells #[a,r.kind,r.basis,()] 87)).heap.size:=sO;go_wp2_with (first | (refine wpList_load_mid rfl 87 (.tmp 5) rfl p 0 rfl [a,r.kind,r.basis,()] _ hrg.out underlying87 rfl accSize' ?_) | (at_builtin;refine wpList_append_own _ rfl _ _ 24 rfl W1.heap.size 87 i0 (.agg #[(),(),(),()]) 4 32 underlying24 hi0 hz0 hz1 hz2 rfl dC _ _ _ rfl hown4 ⟨W4,0,none⟩ 1 1 [a,r.kind,r.basis,()] rfl rfl hnew hone h63 h64 h65 ?_));intro v' w9 hown' hgrow _;have hb9:=((hb2.trans (HS4.out.mono hq2)).alloc hq4 (.cells #[a,r.kind,r.basis,()] 87)).grown hgrow h65 (a0D hown4);have hlb9:=Hlb2.out;clear hnew hone hown4;go_wp2;go_roundw
   case rel=>exact⟨k+1,oM,by go_num,by rw [Hst2.out,List.length_append];simp;omega,by rw [Hst2.out,a0X,List.length_append,hz];exact hown',hb9⟩
   case measure=>simp [intOf];omega
end
open Go.Proofs.Tryz Go.RowKit
namespace Smp
def tos:List Int:=[1010,1100,1200,1300,1500,2000,2100,3000,3300,4000,4100,4700,5000,5100]
def kinds:List Int:=[1,1,1,1,1,2,2,3,3,4,4,4,5,5]
def echart:List Acc:=(List.range 14).map (fun(i:Nat)=>⟨10*((i:Int)+1),kinds.getD i 0,0,0⟩)
def elinks:List Lnk:=(List.range 14).map (fun(i:Nat)=>⟨10*((i:Int)+1),tos.getD i 0,-25567⟩)
theorem echart_at {i:Nat} (h:i<14):echart.take (i+1)=echart.take i++[⟨10*((i:Int)+1),kinds.getD i 0,0,0⟩]:=by
 have hl:i<echart.length:=h;rw [tse hl];simp [echart]
theorem elinks_at {i:Nat} (h:i<14):elinks.take (i+1)=elinks.take i++[⟨10*((i:Int)+1),tos.getD i 0,-25567⟩]:=by
 have hl:i<elinks.length:=h;rw [tse hl];simp [elinks]
end Smp
def lnkRow (l:List Lnk):List Value:=l.flatMap Lnk.cells
theorem a6H (l:List Lnk) (x:Lnk):lnkRow (l++[x])=lnkRow l++x.cells:=by simp [lnkRow]
theorem a3w {W:World} {b1 b2 s1 s2 n1 n2:Nat} {v1 v2:Value} {e1 e2:TypeId} {x1 x2:List Value} (h1:W.ownsRow b1 e1 s1 v1 n1 x1) (h2:W.ownsRow b2 e2 s2 v2 n2 x2) (he:e1≠e2):v1.ownBlock=none∨v1.ownBlock≠v2.ownBlock:=by
 rcases h1.2 with⟨rfl,_⟩ | ⟨g,cap,cur,rfl,_,hg,_⟩
 ·exact .inl rfl
 ·rcases h2.2 with⟨rfl,_⟩ | ⟨g',cap',cur',rfl,_,hg',_⟩
  ·right;simp [Value.ownBlock]
  ·right
   simp only [Value.ownBlock,ne_eq,Option.some.injEq];intro e;subst e;rw [hg] at hg'
   cases hg'
   exact he rfl
theorem a4X {W:World} {b s n:Nat} {v:Value} {e:TypeId} {x:List Value} (h:W.ownsRow b e s v n x):∃ A c,v=.slice A n c:=by
 rcases h.2 with⟨rfl,rfl⟩ | ⟨g,cap,cur,rfl,_⟩
 ·exact⟨_,_,rfl⟩
 ·exact⟨_,_,rfl⟩
theorem grown_refl' (w:World) {row:Option Nat}:w.grownBy w row:=⟨rfl,rfl,rfl,lR,fun _ _ _=>rfl⟩
theorem a2a {a w:World} {g:Nat} (h:a.grownBy w (some g)) (i:Nat) (u:Value):a.grownBy (w.setCell ⟨g,i,none⟩ u) (some g) :=
 ⟨h.os,h.tape,h.output,by simpa [World.setCell] using h.size,fun k hk hne=>(Below.heap_setCell w ⟨g,i,none⟩ u k (fun e=>hne (by rw [e]))).trans (h.block k hk hne)⟩
theorem a1X {W:World} {n s m:Nat} {v:Value} {e:TypeId} {x:List Value} (h:W.ownsRow (n+4) e s v m x):v.ownBlock=none∨v.ownBlock≠some (n+3):=by
 rcases h.2 with⟨rfl,_⟩ | ⟨g,cap,cur,rfl,hg,_⟩
 ·exact .inl rfl
 ·right;simp [Value.ownBlock];omega
def SampleEntPost (name cur:ByteArray) (w:World) (e:Ending) (w':World):Prop:=Below w w w'/\∃ A c L d,e=.returned (.agg #[.string name,.string cur,.slice A 14 c,.slice L 14 d,false])/\Fresh w A/\Fresh w L/\AccsAt w' w' A Smp.echart/\LnksAt w' w' L Smp.elinks
section
variable (w:World)
theorem a3b (name cur:ByteArray):Calls prog 40 #[.string name,.string cur] w (SampleEntPost name cur w):=by
 obtain⟨ia,hia,ha0,ha1,ha2⟩:=info_parts accInfo;obtain⟨il,hil,hl0,hl1,hl2⟩:=info_parts lnkInfo;obtain⟨hB1,hz,hblk⟩:=a2l [(.cells #[.string ⟨#[]⟩,.string ⟨#[]⟩,.slice none 0 0,.slice none 0 0,false] 102),(.cells #[(1010:Int),(1100:Int),(1200:Int),(1300:Int),(1500:Int),(2000:Int),(2100:Int),(3000:Int),(3300:Int),(4000:Int),(4100:Int),(4700:Int),(5000:Int),(5100:Int)] 3),(.cells #[(1:Int),(1:Int),(1:Int),(1:Int),(1:Int),(2:Int),(2:Int),(3:Int),(3:Int),(4:Int),(4:Int),(4:Int),(5:Int),(5:Int)] 3),(.cells #[.string name,.string cur,.slice none 0 0,.slice none 0 0,false] 102)] w;change Below w w ((((w.alloc (.cells #[.string ⟨#[]⟩,.string ⟨#[]⟩,.slice none 0 0,.slice none 0 0,false] 102)).alloc (.cells #[(1010:Int),(1100:Int),(1200:Int),(1300:Int),(1500:Int),(2000:Int),(2100:Int),(3000:Int),(3300:Int),(4000:Int),(4100:Int),(4700:Int),(5000:Int),(5100:Int)] 3)).alloc (.cells #[(1:Int),(1:Int),(1:Int),(1:Int),(1:Int),(2:Int),(2:Int),(3:Int),(3:Int),(4:Int),(4:Int),(4:Int),(5:Int),(5:Int)] 3)).alloc (.cells #[.string name,.string cur,.slice none 0 0,.slice none 0 0,false] 102)) at hB1;change ((((w.alloc (.cells #[.string ⟨#[]⟩,.string ⟨#[]⟩,.slice none 0 0,.slice none 0 0,false] 102)).alloc (.cells #[(1010:Int),(1100:Int),(1200:Int),(1300:Int),(1500:Int),(2000:Int),(2100:Int),(3000:Int),(3300:Int),(4000:Int),(4100:Int),(4700:Int),(5000:Int),(5100:Int)] 3)).alloc (.cells #[(1:Int),(1:Int),(1:Int),(1:Int),(1:Int),(2:Int),(2:Int),(3:Int),(3:Int),(4:Int),(4:Int),(4:Int),(5:Int),(5:Int)] 3)).alloc (.cells #[.string name,.string cur,.slice none 0 0,.slice none 0 0,false] 102)).heap.size=w.heap.size+4 at hz;change ∀(i:Nat) (o:Obj),_->((((w.alloc (.cells #[.string ⟨#[]⟩,.string ⟨#[]⟩,.slice none 0 0,.slice none 0 0,false] 102)).alloc (.cells #[(1010:Int),(1100:Int),(1200:Int),(1300:Int),(1500:Int),(2000:Int),(2100:Int),(3000:Int),(3300:Int),(4000:Int),(4100:Int),(4700:Int),(5000:Int),(5100:Int)] 3)).alloc (.cells #[(1:Int),(1:Int),(1:Int),(1:Int),(1:Int),(2:Int),(2:Int),(3:Int),(3:Int),(4:Int),(4:Int),(4:Int),(5:Int),(5:Int)] 3)).alloc (.cells #[.string name,.string cur,.slice none 0 0,.slice none 0 0,false] 102)).heap[w.heap.size+i]?=some o at hblk;obtain⟨W1,hW1⟩:∃ W1,W1=((((w.alloc (.cells #[.string ⟨#[]⟩,.string ⟨#[]⟩,.slice none 0 0,.slice none 0 0,false] 102)).alloc (.cells #[(1010:Int),(1100:Int),(1200:Int),(1300:Int),(1500:Int),(2000:Int),(2100:Int),(3000:Int),(3300:Int),(4000:Int),(4100:Int),(4700:Int),(5000:Int),(5100:Int)] 3)).alloc (.cells #[(1:Int),(1:Int),(1:Int),(1:Int),(1:Int),(2:Int),(2:Int),(3:Int),(3:Int),(4:Int),(4:Int),(4:Int),(5:Int),(5:Int)] 3)).alloc (.cells #[.string name,.string cur,.slice none 0 0,.slice none 0 0,false] 102)):=⟨_,rfl⟩;rw [<- hW1] at hB1 hz hblk;obtain⟨HW1,Hres,Hto,Hkd,Hbox,Hz,HB1⟩:=Z7 hW1 (show W1.heap[w.heap.size]?=some _ from hblk 0 _ rfl) (hblk 1 _ rfl) (hblk 2 _ rfl) (hblk 3 _ rfl) hz hB1
 have hkc:∀(W:World) (i:Nat),Below (w.heap.size+3) W1 W->i<14->W.cell? ⟨w.heap.size+2,i,none⟩=some (.int .i64 (Smp.kinds.getD i 0)):=fun W i hW hi=>by
  rw [hW.cell (p:=⟨w.heap.size+2,i,none⟩) (by show w.heap.size+2<_;omega),cr9 _ Hkd.out]
  match i,hi with
  | 0,_=>rfl
  | 1,_=>rfl
  | 2,_=>rfl
  | 3,_=>rfl
  | 4,_=>rfl
  | 5,_=>rfl
  | 6,_=>rfl
  | 7,_=>rfl
  | 8,_=>rfl
  | 9,_=>rfl
  | 10,_=>rfl
  | 11,_=>rfl
  | 12,_=>rfl
  | 13,_=>rfl
 have htc:∀(W:World) (i:Nat),Below (w.heap.size+3) W1 W->i<14->W.cell? ⟨w.heap.size+1,i,none⟩=some (.int .i64 (Smp.tos.getD i 0)):=fun W i hW hi=>by
  rw [hW.cell (p:=⟨w.heap.size+1,i,none⟩) (by show w.heap.size+1<_;omega),cr9 _ Hto.out]
  match i,hi with
  | 0,_=>rfl
  | 1,_=>rfl
  | 2,_=>rfl
  | 3,_=>rfl
  | 4,_=>rfl
  | 5,_=>rfl
  | 6,_=>rfl
  | 7,_=>rfl
  | 8,_=>rfl
  | 9,_=>rfl
  | 10,_=>rfl
  | 11,_=>rfl
  | 12,_=>rfl
  | 13,_=>rfl
 have Hkc:=Z1 hkc;have Htc:=Z1 htc;clear hW1 hblk hz hB1 hkc htc;go_enter func40,ntmps40;go_upto_region 4 with(fail);rw [<- HW1.out];go_wp2
 go_loopw [8] (fun s wr=>∃(i:Nat) (v1 v2:Value),i<=14/\s=.int .i64 i/\wr.heap[w.heap.size+3]?=some (.cells #[.string name,.string cur,v1,v2,false] 102 (0,0)) /\
  wr.ownsRow (w.heap.size+4) 87 4 v1 i (accRow (Smp.echart.take i))/\wr.ownsRow (w.heap.size+4) 150 3 v2 i (lnkRow (Smp.elinks.take i))/\Below (w.heap.size+3) W1 wr) (fun s _=>14-(intOf s).toNat)
 case atStart=>exact⟨0,_,_,oM,rfl,Hbox.out,World.ownsRow_nil _ _ _ _,World.ownsRow_nil _ _ _ _,bR⟩
 case round =>
  obtain⟨i,v1,v2,hi,rfl,hbx,how1,how2,hb⟩:=hrel;obtain⟨Hbx,Hown1,Hown2⟩:=Z3 hbx how1 how2;have hqq:=Vq hbx;clear hbx how1 how2
  by_cases hlt:i<14
  case neg =>
   obtain rfl:i=14:=oM;have x2:=Hbx.out;obtain⟨A1,c1,rfl⟩:=a4X Hown1.out;obtain⟨A2,c2,rfl⟩:=a4X Hown2.out;have o1:=Hown1.out;have o2:=Hown2.out;rw [show Smp.echart.take 14=Smp.echart from rfl] at o1;rw [show Smp.elinks.take 14=Smp.elinks from rfl] at o2;obtain⟨A1',c1',e1,r1⟩:=Xz (f:=Acc.cells) dC (fun _=>rfl) o1 rfl;obtain⟨A2',c2',e2,r2⟩:=Xz (f:=Lnk.cells) dC (fun _=>rfl) o2 rfl
   cases e1
   cases e2
   have f1:=a0S o1;have f2:=a0S o2;have hrg:=Z1 (a0R (cs:=[.string name,.string cur,.slice A1 14 c1,.slice A2 14 c2,.bool false]) x2);have hres:=(hb.block w oM).trans Hres.out;have Hr:=Z1 hres;have hR:=setRow_heap wr w _ #[.string name,.string cur,.slice A1 14 c1,.slice A2 14 c2,false] _ _ hres;have hload:=Z1 (run_loadVar_row (P:=prog) _ _ _ 102 _ _ _ hR underlying102 rfl a1Q);have Ho:Hid ((#[.string name,.string cur,.slice A1 14 c1,.slice A2 14 c2,false]:Array Value).all (·.oneCell')=true):=by show _=true;simp [Value.oneCell']
   have hbw:=HB1.out.trans (hb.mono (show w.heap.size<=w.heap.size+3 by omega));have hBF:=Z1 (below_setRow hbw lR #[.string name,.string cur,.slice A1 14 c1,.slice A2 14 c2,false]);have R1:=Z1 (RowsAt.other_row r1 f1 (show w.heap.size<w.heap.size+4 by omega) #[.string name,.string cur,.slice A1 14 c1,.slice A2 14 c2,false]);have R2:=Z1 (RowsAt.other_row r2 f2 (show w.heap.size<w.heap.size+4 by omega) #[.string name,.string cur,.slice A1 14 c1,.slice A2 14 c2,false]);have F1:=Z1 f1;have F2:=Z1 f2;clear o1 o2 r1 r2 f1 f2 x2 hres hR hbw;go_wp2_with (first | (refine wpList_load_mid rfl 102 (.tmp 7) rfl (w.heap.size+3) 0 rfl [.string name,.string cur,.slice A1 14 c1,.slice A2 14 c2,false] _ hrg.out underlying102 rfl a1Q ?_) | (refine Vx rfl 102 (.tmp 4) (.tmp 46) none rfl rfl w.heap.size 102 _ #[.string name,.string cur,.slice A1 14 c1,.slice A2 14 c2,false] rfl rfl Hr.out rfl a1Q Ho.out ?_));exact bodyPost_ret (v:=.agg #[.string name,.string cur,.slice A1 14 c1,.slice A2 14 c2,false]) (by simp [results,results40,asAddr,Act.put,hload.out]) rfl ⟨hBF.out,A1,c1,A2,c2,rfl,(fun ad h=>Nat.le_trans oM (F1.out ad h)),(fun ad h=>Nat.le_trans oM (F2.out ad h)),R1.out,R2.out⟩
  have hi0':(0:Int)<=(i:Int):=oM;have hi1':(i:Int)<14:=oM;have hw1:IntKind.i64.wrap ((i:Int)+1)=(i:Int)+1:=by rw [IntKind.wrap_i64];omega
  have hw2:IntKind.i64.wrap (10*((i:Int)+1))=10*((i:Int)+1):=by rw [IntKind.wrap_i64];omega
  have hw3:wrap64 ((i:Int)+1)=(i:Int)+1:=IntWalk.wrap64_in _ oM;have hw4:wrap64 (10*((i:Int)+1))=10*((i:Int)+1):=IntWalk.wrap64_in _ oM;obtain⟨kd,hkd⟩:∃ kd,kd=Smp.kinds.getD i 0:=⟨_,rfl⟩;obtain⟨td,htd⟩:∃ td,td=Smp.tos.getD i 0:=⟨_,rfl⟩;have hck:∀ W,Below (w.heap.size+3) W1 W->W.cell? ⟨w.heap.size+2,i,none⟩=some (.int .i64 kd):=fun W hW=>by rw [hkd];exact Hkc.out W i hW hlt
  have hct:∀ W,Below (w.heap.size+3) W1 W->W.cell? ⟨w.heap.size+1,i,none⟩=some (.int .i64 td):=fun W hW=>by rw [htd];exact Htc.out W i hW hlt
  have HEa:Hid (Smp.echart.take (i+1)=Smp.echart.take i++[⟨10*((i:Int)+1),kd,0,0⟩]):=by show _=_;rw [hkd];exact Smp.echart_at hlt
  have HEl:Hid (Smp.elinks.take (i+1)=Smp.elinks.take i++[⟨10*((i:Int)+1),td,-25567⟩]):=by show _=_;rw [htd];exact Smp.elinks_at hlt
  have Hck:=Z1 hck;have Hct:=Z1 hct;clear hkd htd hck hct;have hbA:=hb;go_upto_region 7 with(fail);have hSA:Below (w.heap.size+3) W1 wr.drew:=Vw hbA 1;have hVA:Below wr wr wr.drew:=Vw bR 1;refine wp_region_held (S:=Below (w.heap.size+3) W1) kR ?_;change wpAnyH _ _ _ _ _ _ _ _ (World.drew wr);obtain⟨W0A,hWd⟩:∃ W0,W0=wr.drew:=⟨_,rfl⟩;rw [<- hWd] at hSA hVA ⊢;clear hWd;refine jT 0 hSA ?_;refine jT 2 hSA ?_;refine jT 3 hSA ?_;refine jT 4 hSA ?_;refine jT 5 hSA ?_;refine jT 6 hSA ?_;refine jT 7 hSA ?_;refine jT 8 hSA ?_ (v:=.int .i64 (kd)) (hy:=(.inl ⟨by rfl,fun W' hS'=>by have hc:=Hck.out W' hS';go_simp⟩));refine jT 9 hSA ?_;refine a0E fun md' ops' Q' a' hlm hlo hlq hla=>?_
  have fin:∀(W':World) (p:Nat),Below wr wr W'->Below (w.heap.size+3) W1 W'->W'.heap[p]?=some (.cells #[.int .i64 (10*((i:Int)+1)),kd,(),()] 87 (0,0))->wpAnyH prog md' ops' Q' (Below (w.heap.size+3) W1) 3 #[true,true,true,true,true,true,true,true,true,true,true,false,false,false] ((a'.put (some 21) v1).put (some 30) (.slice (some ⟨p,0,none⟩) 1 1)) W':=by
   intro W' p hV hS hrw;subst hlm hlo hlq hla
   try simp only [z]
   have how:=Vj Hown1.out hV;have hoo:=Vj Hown2.out hV;have hbx:=gbox Hbx.out hV (Vq Hbx.out);have hnew:∀ j u,([.int .i64 (10*((i:Int)+1)),kd,(),()]:List Value)[j]?=some u->W'.cell? ((⟨p,0,none⟩:Addr).add j)=some u:=fun j u hj=>by rw [Addr.add_mid,Nat.zero_add,cr9 _ hrw];simpa using hj
   have hone:∀ u∈([.int .i64 (10*((i:Int)+1)),kd,(),()]:List Value),u.oneCell'=true:=oC;have h65:w.heap.size+4<=W'.heap.size:=Vq hbx;refine rZ 11 fun K hK=>?_;refine wp_append_own W' _ _ 24 rfl (w.heap.size+4) 87 ia (.agg #[(),(),(),()]) 4 32 underlying24 hia ha0 ha1 ha2 rfl dC v1 i _ rfl how ⟨p,0,none⟩ 1 1 [.int .i64 (10*((i:Int)+1)),kd,(),()] rfl rfl hnew hone (by unfold maxLen;omega) oM h65 ?_;intro v' W4 hown' hgrow _;have hS4:=hS.grown hgrow oM (fun k hk=>Nat.le_trans oM (a0D how k hk));have hbx4:=(hgrow.block _ (Vq hbx) (fun e'=>a8Q (t:=102) how e'.symm hbx dC)).trans hbx;have hoo4:=hoo.kept hgrow (a3w hoo how dC);refine jK hK hS4 ?_;clear hK K;clear hnew hone how hoo hbx hrw;refine jT 12 hS4 ?_;refine rZ 13 fun K hK=>?_;have xc:=cr9 2 hbx4;have xf:=fun j=>fr0 j hbx4;simp at xc;have xlt:=Vq hbx4;have hbx5:=heap_setCell_same W4 (w.heap.size+3) 2 _ _ v' hbx4;simp at hbx5;have hS5:=hS4.setCell (p:=⟨w.heap.size+3,2,none⟩) lR v';have own5:=hown'.kept (row:=some (w.heap.size+3)) (a2a (grown_refl' W4) 2 v') (a1X hown');have oth5:=hoo4.kept (row:=some (w.heap.size+3)) (a2a (grown_refl' W4) 2 v') (a1X hoo4);obtain⟨Av,cv,rfl⟩:=a4X hown';go_simp;obtain⟨W5,hW5⟩:∃ W5,W5=W4.setCell ⟨w.heap.size+3,2,none⟩ (.slice Av (i+1) cv):=⟨_,rfl⟩;rw [<- hW5] at hbx5 hS5 own5 oth5 ⊢;clear hW5;refine jK hK hS5 ?_;clear hK K;refine wpAnyH_done kR ?_ _
   try simp only [z]
   have own6:W5.ownsRow (w.heap.size+4) 87 4 (.slice Av (i+1) cv) (i+1) (accRow (Smp.echart.take (i+1))):=by rw [HEa.out,a0X];exact own5
   obtain⟨Hbx5,Hown6,Hoth5⟩:=Z3 hbx5 own6 oth5;clear hbx5 own5 own6 oth5 hown' hgrow hS4 hbx4 hoo4 xc xf xlt;have hbB:=hS5;have hqB:=Vq Hbx5.out;go_upto_region 8 with(fail);have hSB:Below (w.heap.size+3) W1 W5.drew:=Vw hbB 1;have hVB:Below W5 W5 W5.drew:=Vw bR 1;refine wp_region_held (S:=Below (w.heap.size+3) W1) kR ?_;change wpAnyH _ _ _ _ _ _ _ _ (World.drew W5);obtain⟨W0B,hWd⟩:∃ W0,W0=W5.drew:=⟨_,rfl⟩;rw [<- hWd] at hSB hVB ⊢;clear hWd;refine jT 0 hSB ?_;refine jT 2 hSB ?_;refine jT 3 hSB ?_;refine jT 4 hSB ?_;refine jT 5 hSB ?_;refine jT 6 hSB ?_;refine jT 7 hSB ?_;refine jT 8 hSB ?_ (v:=.int .i64 (td)) (hy:=(.inl ⟨by rfl,fun W' hS'=>by have hc:=Hct.out W' hS';go_simp⟩));refine jT 9 hSB ?_;refine a0E fun md' ops' Q' a' hlm hlo hlq hla=>?_
   have fin:∀(W':World) (p:Nat),Below W5 W5 W'->Below (w.heap.size+3) W1 W'->W'.heap[p]?=some (.cells #[.int .i64 (10*((i:Int)+1)),td,(-25567:Int)] 150 (0,0))->wpAnyH prog md' ops' Q' (Below (w.heap.size+3) W1) 3 #[true,true,true,true,true,true,true,true,true,true,true,false,false,false] ((a'.put (some 34) v2).put (some 43) (.slice (some ⟨p,0,none⟩) 1 1)) W':=by
    intro W' p hV hS hrw;subst hlm hlo hlq hla
    try simp only [z]
    have how:=Vj Hoth5.out hV;have hoo:=Vj Hown6.out hV;have hbx:=gbox Hbx5.out hV (Vq Hbx5.out);have hnew:∀ j u,([.int .i64 (10*((i:Int)+1)),td,(-25567:Int)]:List Value)[j]?=some u->W'.cell? ((⟨p,0,none⟩:Addr).add j)=some u:=fun j u hj=>by rw [Addr.add_mid,Nat.zero_add,cr9 _ hrw];simpa using hj
    have hone:∀ u∈([.int .i64 (10*((i:Int)+1)),td,(-25567:Int)]:List Value),u.oneCell'=true:=oC;have h65:w.heap.size+4<=W'.heap.size:=Vq hbx;refine rZ 11 fun K hK=>?_;refine wp_append_own W' _ _ 100 rfl (w.heap.size+4) 150 il (.agg #[(),(),()]) 3 24 underlying100 hil hl0 hl1 hl2 rfl dC v2 i _ rfl how ⟨p,0,none⟩ 1 1 [.int .i64 (10*((i:Int)+1)),td,(-25567:Int)] rfl rfl hnew hone (by unfold maxLen;omega) oM h65 ?_;intro v' W4 hown' hgrow _;have hS4:=hS.grown hgrow oM (fun k hk=>Nat.le_trans oM (a0D how k hk));have hbx4:=(hgrow.block _ (Vq hbx) (fun e'=>a8Q (t:=102) how e'.symm hbx dC)).trans hbx;have hoo4:=hoo.kept hgrow (a3w hoo how dC);refine jK hK hS4 ?_;clear hK K;clear hnew hone how hoo hbx hrw;refine jT 12 hS4 ?_;refine rZ 13 fun K hK=>?_;have xc:=cr9 3 hbx4;have xf:=fun j=>fr0 j hbx4;simp at xc;have xlt:=Vq hbx4;have hbx5:=heap_setCell_same W4 (w.heap.size+3) 3 _ _ v' hbx4;simp at hbx5;have hS5:=hS4.setCell (p:=⟨w.heap.size+3,3,none⟩) lR v';have own5:=hown'.kept (row:=some (w.heap.size+3)) (a2a (grown_refl' W4) 3 v') (a1X hown');have oth5:=hoo4.kept (row:=some (w.heap.size+3)) (a2a (grown_refl' W4) 3 v') (a1X hoo4);obtain⟨Av,cv,rfl⟩:=a4X hown';go_simp;obtain⟨W5,hW5⟩:∃ W5,W5=W4.setCell ⟨w.heap.size+3,3,none⟩ (.slice Av (i+1) cv):=⟨_,rfl⟩;rw [<- hW5] at hbx5 hS5 own5 oth5 ⊢;clear hW5;refine jK hK hS5 ?_;clear hK K;refine wpAnyH_done kR ?_ _
    try simp only [z]
    have own6:W5.ownsRow (w.heap.size+4) 150 3 (.slice Av (i+1) cv) (i+1) (lnkRow (Smp.elinks.take (i+1))):=by rw [HEl.out,a6H];exact own5
    obtain⟨Hbx5,Hown6,Hoth5⟩:=Z3 hbx5 own6 oth5;clear hbx5 own5 own6 oth5 hown' hgrow hS4 hbx4 hoo4 xc xf xlt;go_wp2;go_roundw
    case rel=>exact⟨i+1,_,_,oM,by go_num,Hbx5.out,Hoth5.out,Hown6.out,hS5⟩
    case measure=>simp [intOf];omega
   subst hlm hlo hlq hla;have hbq:=gbox Hbx5.out hVB (Vq Hbx5.out);have xq:=cr9 3 hbq;simp at xq;have xql:=Vq hbq;refine wpAnyH_ready (rs:=[1,10]) kR sP (AllReadyH.cons rfl (fun K hK=>?_) (AllReadyH.cons rfl (fun K hK=>?_) AllReadyH.nil))
   ·skip
    go_simp;refine jK hK hSB ?_;clear hK K;refine rZ 10 fun K hK=>?_;obtain⟨hBa,hrw,_⟩:=a0T W0B #[.int .i64 (10*((i:Int)+1)),td,(-25567:Int)] 150;go_simp;obtain⟨W6,hWn⟩:∃ W6,W6=W0B.alloc (.cells #[.int .i64 (10*((i:Int)+1)),td,(-25567:Int)] 150):=⟨_,rfl⟩;rw [<- hWn] at hBa hrw ⊢;clear hWn;have hV6:=hVB.trans (hBa.mono hVB.size);have hS6:=hSB.trans (hBa.mono (by have:=hSB.size;omega));refine jK hK hS6 ?_;clear hK K;have hn:=fin W6 W0B.heap.size hV6 hS6 hrw
    try simp only [z] at hn
    exact hn
   ·skip
    obtain⟨hBa,hrw,_⟩:=a0T W0B #[.int .i64 (10*((i:Int)+1)),td,(-25567:Int)] 150;go_simp;obtain⟨W6,hWn⟩:∃ W6,W6=W0B.alloc (.cells #[.int .i64 (10*((i:Int)+1)),td,(-25567:Int)] 150):=⟨_,rfl⟩;rw [<- hWn] at hBa hrw ⊢;clear hWn;have hV6:=hVB.trans (hBa.mono hVB.size);have hS6:=hSB.trans (hBa.mono (by have:=hSB.size;omega));refine jK hK hS6 ?_;clear hK K;have hbq6:=gbox hbq hBa (Vq hbq);have xq6:=cr9 3 hbq6;simp at xq6;have xql6:=Vq hbq6;refine rZ 1 fun K hK=>?_;go_simp;refine jK hK hS6 ?_;clear hK K;have hn:=fin W6 W0B.heap.size hV6 hS6 hrw
    try simp only [z] at hn
    exact hn
  subst hlm hlo hlq hla;have hbq:=gbox Hbx.out hVA (Vq Hbx.out);have xq:=cr9 2 hbq;simp at xq;have xql:=Vq hbq;refine wpAnyH_ready (rs:=[1,10]) kR sP (AllReadyH.cons rfl (fun K hK=>?_) (AllReadyH.cons rfl (fun K hK=>?_) AllReadyH.nil))
  ·skip
   go_simp;refine jK hK hSA ?_;clear hK K;refine rZ 10 fun K hK=>?_;obtain⟨hBa,hrw,_⟩:=a0T W0A #[.int .i64 (10*((i:Int)+1)),kd,(),()] 87;go_simp;obtain⟨W6,hWn⟩:∃ W6,W6=W0A.alloc (.cells #[.int .i64 (10*((i:Int)+1)),kd,(),()] 87):=⟨_,rfl⟩;rw [<- hWn] at hBa hrw ⊢;clear hWn;have hV6:=hVA.trans (hBa.mono hVA.size);have hS6:=hSA.trans (hBa.mono (by have:=hSA.size;omega));refine jK hK hS6 ?_;clear hK K;have hn:=fin W6 W0A.heap.size hV6 hS6 hrw
   try simp only [z] at hn
   exact hn
  ·skip
   obtain⟨hBa,hrw,_⟩:=a0T W0A #[.int .i64 (10*((i:Int)+1)),kd,(),()] 87;go_simp;obtain⟨W6,hWn⟩:∃ W6,W6=W0A.alloc (.cells #[.int .i64 (10*((i:Int)+1)),kd,(),()] 87):=⟨_,rfl⟩;rw [<- hWn] at hBa hrw ⊢;clear hWn;have hV6:=hVA.trans (hBa.mono hVA.size);have hS6:=hSA.trans (hBa.mono (by have:=hSA.size;omega));refine jK hK hS6 ?_;clear hK K;have hbq6:=gbox hbq hBa (Vq hbq);have xq6:=cr9 2 hbq6;simp at xq6;have xql6:=Vq hbq6;refine rZ 1 fun K hK=>?_;go_simp;refine jK hK hS6 ?_;clear hK K;have hn:=fin W6 W0A.heap.size hV6 hS6 hrw
   try simp only [z] at hn
   exact hn
end
end Go.Proofs.YtniaimjknmhapaaGreatDoor
