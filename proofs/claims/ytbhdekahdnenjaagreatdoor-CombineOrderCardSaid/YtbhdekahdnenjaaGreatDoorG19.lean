/- Lemmas. -/
import Derived.Test.YtbhdekahdnenjaaGreatDoorG14
set_option linter.unusedVariables false
set_option linter.unusedSimpArgs false
set_option maxRecDepth 100000
set_option maxHeartbeats 16000000
namespace Go.Proofs.YtbhdekahdnenjaaGreatDoor
open Go.Proofs.Tryz Go.RowKit
variable (w:World)
theorem a2z:∀(a:List Obj) (w:World),Below w w (a.foldl World.alloc w)/\(a.foldl World.alloc w).heap.size=w.heap.size+a.length/\∀(i:Nat) (o:Obj),a[i]?=some o->(a.foldl World.alloc w).heap[w.heap.size+i]?=some o
 |[],w=>⟨bR,rfl,fun i o h=>by simp at h⟩
 |x::a,w=>by
  obtain⟨s,E,I⟩:=a2z a (w.alloc x);have J:(w.alloc x).heap.size=w.heap.size+1:=sP;rw[J] at s E I;refine⟨((VM w w).alloc lR x).trans (s.mono oM),by rw[Zt,E,Xl];omega,fun i o h=>?_⟩
  match i with
  |0 =>
   rw[Zt,KL,s.block w oM];have:=Vh w x;simp at h;rw[this,h]
  |i+1 =>
   rw[Zt,show w.heap.size+(i+1)=w.heap.size+1+i by omega];exact I i o (by simpa using h)
structure RowV where
 kind:Int
 basis:Int
 cb:Nat
 codes:List Int
def RowV.cells (r:RowV):List Value:=[.int .i64 r.kind,.int .i64 r.basis,.slice (some ⟨r.cb,0,none⟩) r.codes.length r.codes.length]
abbrev intsCells (x:Int):List Value:=[.int .i64 x]
namespace Smp
def rows (B:Nat):List RowV:=[⟨1,1,B,[1000,1010,1100,1200]⟩,⟨1,3,B+1,[1300,1500,1600,1700]⟩,⟨2,1,B+2,[2000,2100]⟩,⟨3,3,B+3,[3000,3100,3200,3300,3400,3500]⟩,⟨4,2,B+4,[4000,4100,4500,4600,4700]⟩,⟨5,2,B+5,[5000,5100,5500,5600,5700]⟩]
def par (c:Int):Int:=if c=1010 then 1000 else if c=1100 then 1000 else if c=1200 then 1000 else if c=2100 then c-100 else if c=4100 then c-100 else 0
def acc (r:RowV) (c:Int):Acc:=⟨c,r.kind,r.basis,par c⟩
def part (o:Option RowV) (k:Nat):List Acc:=match o with
 |some r=>(r.codes.take k).map (acc r)
 |none=>[]
def upTo (l:List RowV) (i k:Nat):List Acc:=(l.take i).flatMap (fun r=>r.codes.map (acc r))++part l[i]? k
def chart:List Acc:=(rows 0).flatMap (fun r=>r.codes.map (acc r))
theorem upTo_next {l:List RowV} {i k:Nat} (a:i<l.length) (o:k<l[i].codes.length):upTo l i (k+1)=upTo l i k++[acc l[i] l[i].codes[k]]:=by
 unfold upTo part;rw[List.getElem?_eq_getElem a];simp only[];rw[tse o,Xn,XH];rfl
theorem upTo_row {l:List RowV} {i:Nat} (a:i<l.length):upTo l i l[i].codes.length=upTo l (i+1) 0:=by
 unfold upTo part;rw[List.getElem?_eq_getElem a,tse a,VL];simp only[Xs,XB,List.flatMap_nil,XG]
 cases l[i+1]? <;> simp
theorem a3r (B:Nat):upTo (rows B) 6 0=chart:=rfl
end Smp
def accRow (l:List Acc):List Value:=l.flatMap Acc.cells
theorem a0X (l:List Acc) (x:Acc):accRow (l++[x])=accRow l++x.cells:=by simp[accRow]
theorem accSize':(prog.info? 113).map (·.size)=some 4:=kR
def SampleChartPost (w:World) (e:Ending) (w':World):Prop:=Below w w w'/\∃A c,e=.returned (.slice A 26 c)/\Fresh w A/\AccsAt w' w' A Smp.chart
theorem a8y:Calls prog 20 #[] w (SampleChartPost w):=by
 obtain⟨i0,aw,ay,az,b1⟩:=XW accInfo;obtain⟨b6,hz,a7⟩:=a2z [(.cells #[(1000:Int),(1010:Int),(1100:Int),(1200:Int)] 3),(.cells #[(1300:Int),(1500:Int),(1600:Int),(1700:Int)] 3),(.cells #[(2000:Int),(2100:Int)] 3),(.cells #[(3000:Int),(3100:Int),(3200:Int),(3300:Int),(3400:Int),(3500:Int)] 3),(.cells #[(4000:Int),(4100:Int),(4500:Int),(4600:Int),(4700:Int)] 3),(.cells #[(5000:Int),(5100:Int),(5500:Int),(5600:Int),(5700:Int)] 3),(.cells #[(1:Int),(1:Int),.slice (some ⟨w,0,none⟩) 4 4,(1:Int),(3:Int),.slice (some ⟨w.heap.size+1,0,none⟩) 4 4,(2:Int),(1:Int),.slice (some ⟨w.heap.size+2,0,none⟩) 2 2,(3:Int),(3:Int),.slice (some ⟨w.heap.size+3,0,none⟩) 6 6,(4:Int),(2:Int),.slice (some ⟨w.heap.size+4,0,none⟩) 5 5,(5:Int),(2:Int),.slice (some ⟨w.heap.size+5,0,none⟩) 5 5] 110)] w;change Below w w (((((((w.alloc (.cells #[(1000:Int),(1010:Int),(1100:Int),(1200:Int)] 3)).alloc (.cells #[(1300:Int),(1500:Int),(1600:Int),(1700:Int)] 3)).alloc (.cells #[(2000:Int),(2100:Int)] 3)).alloc (.cells #[(3000:Int),(3100:Int),(3200:Int),(3300:Int),(3400:Int),(3500:Int)] 3)).alloc (.cells #[(4000:Int),(4100:Int),(4500:Int),(4600:Int),(4700:Int)] 3)).alloc (.cells #[(5000:Int),(5100:Int),(5500:Int),(5600:Int),(5700:Int)] 3)).alloc (.cells #[(1:Int),(1:Int),.slice (some ⟨w,0,none⟩) 4 4,(1:Int),(3:Int),.slice (some ⟨w.heap.size+1,0,none⟩) 4 4,(2:Int),(1:Int),.slice (some ⟨w.heap.size+2,0,none⟩) 2 2,(3:Int),(3:Int),.slice (some ⟨w.heap.size+3,0,none⟩) 6 6,(4:Int),(2:Int),.slice (some ⟨w.heap.size+4,0,none⟩) 5 5,(5:Int),(2:Int),.slice (some ⟨w.heap.size+5,0,none⟩) 5 5] 110)) at b6;change (((((((w.alloc (.cells #[(1000:Int),(1010:Int),(1100:Int),(1200:Int)] 3)).alloc (.cells #[(1300:Int),(1500:Int),(1600:Int),(1700:Int)] 3)).alloc (.cells #[(2000:Int),(2100:Int)] 3)).alloc (.cells #[(3000:Int),(3100:Int),(3200:Int),(3300:Int),(3400:Int),(3500:Int)] 3)).alloc (.cells #[(4000:Int),(4100:Int),(4500:Int),(4600:Int),(4700:Int)] 3)).alloc (.cells #[(5000:Int),(5100:Int),(5500:Int),(5600:Int),(5700:Int)] 3)).alloc (.cells #[(1:Int),(1:Int),.slice (some ⟨w,0,none⟩) 4 4,(1:Int),(3:Int),.slice (some ⟨w.heap.size+1,0,none⟩) 4 4,(2:Int),(1:Int),.slice (some ⟨w.heap.size+2,0,none⟩) 2 2,(3:Int),(3:Int),.slice (some ⟨w.heap.size+3,0,none⟩) 6 6,(4:Int),(2:Int),.slice (some ⟨w.heap.size+4,0,none⟩) 5 5,(5:Int),(2:Int),.slice (some ⟨w.heap.size+5,0,none⟩) 5 5] 110)).heap.size=w.heap.size+7 at hz;change ∀(i:Nat) (o:Obj),_->(((((((w.alloc (.cells #[(1000:Int),(1010:Int),(1100:Int),(1200:Int)] 3)).alloc (.cells #[(1300:Int),(1500:Int),(1600:Int),(1700:Int)] 3)).alloc (.cells #[(2000:Int),(2100:Int)] 3)).alloc (.cells #[(3000:Int),(3100:Int),(3200:Int),(3300:Int),(3400:Int),(3500:Int)] 3)).alloc (.cells #[(4000:Int),(4100:Int),(4500:Int),(4600:Int),(4700:Int)] 3)).alloc (.cells #[(5000:Int),(5100:Int),(5500:Int),(5600:Int),(5700:Int)] 3)).alloc (.cells #[(1:Int),(1:Int),.slice (some ⟨w,0,none⟩) 4 4,(1:Int),(3:Int),.slice (some ⟨w.heap.size+1,0,none⟩) 4 4,(2:Int),(1:Int),.slice (some ⟨w.heap.size+2,0,none⟩) 2 2,(3:Int),(3:Int),.slice (some ⟨w.heap.size+3,0,none⟩) 6 6,(4:Int),(2:Int),.slice (some ⟨w.heap.size+4,0,none⟩) 5 5,(5:Int),(2:Int),.slice (some ⟨w.heap.size+5,0,none⟩) 5 5] 110)).heap[w.heap.size+i]?=some o at a7;obtain⟨W1,bl⟩:=eX ((((((((w.alloc (.cells #[(1000:Int),(1010:Int),(1100:Int),(1200:Int)] 3)).alloc (.cells #[(1300:Int),(1500:Int),(1600:Int),(1700:Int)] 3)).alloc (.cells #[(2000:Int),(2100:Int)] 3)).alloc (.cells #[(3000:Int),(3100:Int),(3200:Int),(3300:Int),(3400:Int),(3500:Int)] 3)).alloc (.cells #[(4000:Int),(4100:Int),(4500:Int),(4600:Int),(4700:Int)] 3)).alloc (.cells #[(5000:Int),(5100:Int),(5500:Int),(5600:Int),(5700:Int)] 3)).alloc (.cells #[(1:Int),(1:Int),.slice (some ⟨w,0,none⟩) 4 4,(1:Int),(3:Int),.slice (some ⟨w.heap.size+1,0,none⟩) 4 4,(2:Int),(1:Int),.slice (some ⟨w.heap.size+2,0,none⟩) 2 2,(3:Int),(3:Int),.slice (some ⟨w.heap.size+3,0,none⟩) 6 6,(4:Int),(2:Int),.slice (some ⟨w.heap.size+4,0,none⟩) 5 5,(5:Int),(2:Int),.slice (some ⟨w.heap.size+5,0,none⟩) 5 5] 110)));rw[<- bl] at b6 hz a7;have c4:=Z1 bl;obtain⟨l,hl⟩:=eX (Smp.rows w.heap.size)
 have b4:RowsAt RowV.cells 3 W1 W1 (some ⟨w.heap.size+6,0,none⟩) l:=by
  have:=a7 6 _ rfl;rw[hl];exact a0z (f:=RowV.cells) (l:=Smp.rows w) this oM (fun _ _=>rfl)
 have aq:∀r∈l,RowsAt intsCells 1 W1 W1 (some ⟨r.cb,0,none⟩) r.codes:=by
  intro r hr;rw[hl] at hr;simp only[Smp.rows,Yt,KQ,or_false] at hr
  rcases hr with rfl|rfl|rfl|rfl|rfl|rfl
  ·exact a0z (f:=intsCells) (l:=[1000,1010,1100,1200]) (a7 0 _ rfl) (by show w.heap.size+0<_;omega) (fun _ _=>rfl)
  ·exact a0z (f:=intsCells) (l:=[1300,1500,1600,1700]) (a7 1 _ rfl) (by show w.heap.size+1<_;omega) (fun _ _=>rfl)
  ·exact a0z (f:=intsCells) (l:=[2000,2100]) (a7 2 _ rfl) (by show w.heap.size+2<_;omega) (fun _ _=>rfl)
  ·exact a0z (f:=intsCells) (l:=[3000,3100,3200,3300,3400,3500]) (a7 3 _ rfl) (by show w.heap.size+3<_;omega) (fun _ _=>rfl)
  ·exact a0z (f:=intsCells) (l:=[4000,4100,4500,4600,4700]) (a7 4 _ rfl) (by show w.heap.size+4<_;omega) (fun _ _=>rfl)
  ·exact a0z (f:=intsCells) (l:=[5000,5100,5500,5600,5700]) (a7 5 _ rfl) (by show w.heap.size+5<_;omega) (fun _ _=>rfl)
 have bf:l.length=6:=by rw[hl];rfl
 have bz:∀r∈l,r.codes.length<=6:=by
  intro r hr;rw[hl] at hr;simp only[Smp.rows,Yt,KQ,or_false] at hr
  rcases hr with rfl|rfl|rfl|rfl|rfl|rfl <;> simp
 have bp:Hid (Smp.upTo l 6 0=Smp.chart):=by show _=_;rw[hl];rfl
 obtain⟨bi,b5,bq,c7⟩:=Z4 b4 aq bf bz;have H0:Hid (Smp.upTo l 0 0=[]):=by show _=_;rw[hl];rfl
 clear bl a7 hl b4 aq bf bz;go_enter func20,ntmps20;go_upto_region 2 with(fail);rw[<- c4];go_wp2
 go_loopw [2,3] (fun v s wr=>∃i:Nat,i<=6/\s=i/\(Smp.upTo l i 0).length<=6*i/\wr.ownsRow W1.heap.size 113 4 v (Smp.upTo l i 0).length (accRow (Smp.upTo l i 0))/\Below W1 W1 wr) (fun _ s _=>6-(intOf s).toNat)
 case atStart=>exact⟨0,oM,rfl,by rw[H0];simp,by rw[H0];exact Xp _ _ _ _,bR⟩
 case round =>
  obtain⟨i,hi,rfl,bw,bh,hb⟩:=hrel;have bb:=Z1 bh;have c6:=Z1 bw;clear bh bw
  by_cases cp:i<6
  case neg =>
   obtain rfl:i=6:=oM;go_wp2;go_ret;have ho:=bb.out;rw[bp] at ho;obtain⟨A',c',rfl,hA⟩:=Xw (f:=Acc.cells) dC (fun _=>rfl) ho rfl;exact⟨b6.trans (hb.mono b6.size),A',c',rfl,(fun ad h=>Vn oM (a0K ho ad h)),hA⟩
  have cg:(0:Int)<=(i:Int):=oM;have ch:(i:Int)<6:=oM;have b8:i<l.length:=by have:=bq.out;omega
  obtain⟨r,hr⟩:=eX (l[i]);have Hr:=Z1 hr;have bn:r∈l:=by rw[hr];exact Vm b8
  have cq:=c7.out r bn;have c5:=Z1 (b5 r bn);obtain⟨b0,o0,e0,cn,bo⟩:=RowsAt.look bi b8;rw[<- hr] at bo
  have cf:b0=w.heap.size+6/\o0=0:=by
   injection e0 with e0;injection e0 with q1 q2 q3;exact⟨q1.symm,q2.symm⟩
  obtain⟨rfl,rfl⟩:=cf;have HR:=Z1 bo;have bx:w.heap.size+6<W1.heap.size:=oM;clear hr bn bo e0;go_wp2
  go_loopw [2,4] (fun v s wq=>∃k:Nat,k<=r.codes.length/\s=k/\(Smp.upTo l i k).length<=6*i+k/\wq.ownsRow W1.heap.size 113 4 v (Smp.upTo l i k).length (accRow (Smp.upTo l i k))/\Below W1 W1 wq) (fun _ s _=>r.codes.length-(intOf s).toNat)
  case atStart=>exact⟨0,Vb _,rfl,by have:=c6.out;omega,bb,hb⟩
  case round =>
   obtain⟨k,hk,rfl,be,b2,ag⟩:=hrel;have a8:=Z1 b2;have ba:=Z1 be;have ax:=ag.size;have ar:=VK HR ag bx;have c0:=ar 0 _ rfl;have c1:=ar 1 _ rfl;have c2:=ar 2 _ rfl;simp at c0 c1 c2;have sb:w.heap.size+6<wr.heap.size:=oM;clear b2 be ar
   by_cases bg:k<r.codes.length
   case neg =>
    obtain rfl:k=r.codes.length:=oM;have Hn:Hid (Smp.upTo l i r.codes.length=Smp.upTo l (i+1) 0):=by show _=_;rw[Hr];exact Smp.upTo_row b8
    go_wp2;go_roundw
    case rel=>exact⟨i+1,oM,by go_num,by rw[<- Hn];have:=ba.out;omega,by rw[<- Hn];exact a8,ag⟩
    case measure=>exact mS
   obtain⟨bc,oc,ec,cd,bm⟩:=RowsAt.look c5 bg
   have bu:bc=r.cb/\oc=0:=by
    injection ec with ec;injection ec with q1 q2 q3;exact⟨q1.symm,q2.symm⟩
   obtain⟨rfl,rfl⟩:=bu;obtain⟨a,ha⟩:=eX (r.codes[k]);rw[<- ha] at bm;have bv:=VK bm ag cd;have c3:=bv 0 _ rfl;simp at c3
   have av:Hid (Smp.upTo l i (k+1)=Smp.upTo l i k++[⟨a,r.kind,r.basis,Smp.par a⟩]):=by
    show _=_;have ce:k<l[i].codes.length:=by rw[<- Hr];exact bg
    rw[Smp.upTo_next b8 ce];simp only[<- Hr.out,<- ha];rfl
   have sc:r.cb<wr.heap.size:=oM;obtain⟨C0,C1,C2,C3⟩:=Z4 c0 c1 c2 c3;have ci:(0:Int)<=(k:Int):=oM;have cj:(k:Int)<(r.codes.length:Int):=oM;clear bm bv ec ha c3;go_upto_region 9 with(fail);clear c0 c1 c2;have hS:Below wr wr wr.drew:=Vw bR 1;refine Vs (S:=Below wr wr) kR ?_;change wpAnyH _ _ _ _ _ _ _ _ (World.drew _);obtain⟨W0,bs⟩:=eX wr.drew;rw[<- bs] at hS⊢;clear bs;refine jT 0 hS ?_;refine jT 1 hS ?_;refine jT 2 hS ?_;refine jT 3 hS ?_;refine jT 4 hS ?_ (v:=.slice (some ⟨r.cb,0,none⟩) r.codes.length r.codes.length) (hy:=(.inl ⟨by rfl,fun W' ap=>by have hc:=(ap.cell (p:=⟨w.heap.size+6,i*3+2,none⟩) sb).trans C2.out;go_simp⟩));refine jT 5 hS ?_;refine jT 6 hS ?_;refine jT 7 hS ?_ (v:=.int .i64 a) (hy:=(.inl ⟨by rfl,fun W' ap=>by have hc:=(ap.cell (p:=⟨r.cb,k,none⟩) sc).trans C3.out;go_simp⟩));refine jT 8 hS ?_;refine jT 9 hS ?_;refine jT 10 hS ?_;refine jT 11 hS ?_;refine jT 12 hS ?_ (v:=.int .i64 r.kind) (hy:=(.inl ⟨by rfl,fun W' ap=>by have hc:=(ap.cell (p:=⟨w.heap.size+6,i*3,none⟩) sb).trans C0.out;go_simp⟩));refine jT 13 hS ?_;refine jT 14 hS ?_;refine jT 15 hS ?_;refine jT 16 hS ?_;refine jT 17 hS ?_ (v:=.int .i64 r.basis) (hy:=(.inl ⟨by rfl,fun W' ap=>by have hc:=(ap.cell (p:=⟨w.heap.size+6,i*3+1,none⟩) sb).trans C1.out;go_simp⟩));refine jT 18 hS ?_;refine rZ 19 fun K hK=>?_;obtain⟨bj,b9,_⟩:=a0I W0 #[(),(),(),()] 113;go_simp;obtain⟨W2,bt⟩:=eX (W0.alloc (.cells #[(),(),(),()] 113));rw[<- bt] at bj b9⊢;clear bt;have bk:=hS.trans (bj.mono hS.size);refine jK hK bk ?_;clear hK K;refine rZ 20 fun K hK=>?_;rw[Vt (by rfl)];refine VQ 113 _ _ none rfl rfl W0.heap.size 113 _ #[a,r.kind,r.basis,()] rfl rfl b9 rfl accSize' oC ?_;have ai:=VC W2 W0 _ #[a,r.kind,r.basis,()] _ _ b9;have b7:=below_setRow bk hS.size #[a,r.kind,r.basis,()];refine jK hK b7 ?_;clear hK K;refine VF kR ?_ _
   try simp only[z]
   obtain⟨p,hp⟩:=eX W0.heap.size;have b3:wr.heap.size<=p:=by rw[hp];exact hS.size
   rw[<- hp] at ai b7⊢;obtain⟨W3,br⟩:=eX (W2.setRow p #[a,r.kind,r.basis,()]);rw[<- br] at ai b7⊢;clear br bk hS b9 bj hp C0 C1 C2 C3;have x0:=cr9 0 ai;have x3:=cr9 3 ai;have xf:=fun j=>fr0 j ai;simp at x0 x3;have ah:=Z1 ai;have au:=Z1 b7;have ck:=ba.out;have co:(Smp.upTo l i k).length+1<=1000:=oM
   by_cases ak:a=1010
   ·subst ak
    have T:Smp.par 1010=1000:=dC;have L:Hid (Smp.upTo l i (k+1)=Smp.upTo l i k++[⟨1010,r.kind,r.basis,1000⟩]):=by show _=_;rw[av,T]
    clear T;have I:=Xh W3 p 3 _ _ (.int .i64 1000) ah;simp at I;have a5:=au.out.setCell (p:=⟨p,3,none⟩) b3 (.int .i64 1000);obtain⟨W4,X⟩:=eX (W3.setCell ⟨p,3,none⟩ (.int .i64 1000));rw[<- X] at I a5;obtain⟨a9,J,W⟩:=Z3 X I a5;clear X I a5;go_upto_region 18 with(fail);rw[<- a9];clear x0 x3 xf;have af:=Z1 (a0T (cs:=[.int .i64 1010,.int .i64 r.kind,.int .i64 r.basis,.int .i64 1000]) J);have aj:=Vq J;have E:=(Vj a8 W).alloc (.cells #[(1010:Int),r.kind,r.basis,(1000:Int)] 113);have O:=Xk W4 [(1010:Int),r.kind,r.basis,(1000:Int)] 113;have Q:∀u∈([(1010:Int),r.kind,r.basis,(1000:Int)]:List Value),u.oneCell':=oC;have ae:W1.heap.size<=W4.heap.size:=by have:=W.out.size;omega
    have aa:(Smp.upTo l i k).length+1<=maxLen:=by unfold maxLen;omega
    have ab:((Smp.upTo l i k).length+1)*32<=140737488355328:=oM;have a6:W1.heap.size<=(W4.alloc (.cells #[(1010:Int),r.kind,r.basis,(1000:Int)] 113)).heap.size:=sO;go_wp2_with (first|(refine VH rfl 113 (.tmp 5) rfl p 0 rfl [(1010:Int),r.kind,r.basis,(1000:Int)] _ af.out YK rfl accSize' ?_)|(at_builtin;refine Xd _ rfl _ _ 24 rfl W1.heap.size 113 i0 (.agg #[(),(),(),()]) 4 32 Jk aw ay az b1 rfl dC _ _ _ rfl E ⟨W4,0,none⟩ 1 1 [(1010:Int),r.kind,r.basis,(1000:Int)] rfl rfl O Q aa ab a6 ?_));intro v' w9 a4 a0 _;have ac:=((ag.trans (W.mono ax)).alloc ae (.cells #[(1010:Int),r.kind,r.basis,(1000:Int)] 113)).grown a0 a6 (a0B E);clear O Q E;go_wp2;go_roundw
    case rel=>exact⟨k+1,oM,by go_num,by rw[L,Vc];simp;omega,by rw[L,a0X,Vc,hz];exact a4,ac⟩
    case measure=>exact mS
   have c8:(a==1010)=false:=by simp[ak]
   by_cases al:a=1100
   ·subst al
    have T:Smp.par 1100=1000:=dC;have L:Hid (Smp.upTo l i (k+1)=Smp.upTo l i k++[⟨1100,r.kind,r.basis,1000⟩]):=by show _=_;rw[av,T]
    clear T;have I:=Xh W3 p 3 _ _ (.int .i64 1000) ah;simp at I;have a5:=au.out.setCell (p:=⟨p,3,none⟩) b3 (.int .i64 1000);obtain⟨W4,X⟩:=eX (W3.setCell ⟨p,3,none⟩ (.int .i64 1000));rw[<- X] at I a5;obtain⟨a9,J,W⟩:=Z3 X I a5;clear X I a5;go_upto_region 18 with(fail);rw[<- a9];clear x0 x3 xf;have af:=Z1 (a0T (cs:=[.int .i64 1100,.int .i64 r.kind,.int .i64 r.basis,.int .i64 1000]) J);have aj:=Vq J;have E:=(Vj a8 W).alloc (.cells #[(1100:Int),r.kind,r.basis,(1000:Int)] 113);have O:=Xk W4 [(1100:Int),r.kind,r.basis,(1000:Int)] 113;have Q:∀u∈([(1100:Int),r.kind,r.basis,(1000:Int)]:List Value),u.oneCell':=oC;have ae:W1.heap.size<=W4.heap.size:=by have:=W.out.size;omega
    have aa:(Smp.upTo l i k).length+1<=maxLen:=by unfold maxLen;omega
    have ab:((Smp.upTo l i k).length+1)*32<=140737488355328:=oM;have a6:W1.heap.size<=(W4.alloc (.cells #[(1100:Int),r.kind,r.basis,(1000:Int)] 113)).heap.size:=sO;go_wp2_with (first|(refine VH rfl 113 (.tmp 5) rfl p 0 rfl [(1100:Int),r.kind,r.basis,(1000:Int)] _ af.out YK rfl accSize' ?_)|(at_builtin;refine Xd _ rfl _ _ 24 rfl W1.heap.size 113 i0 (.agg #[(),(),(),()]) 4 32 Jk aw ay az b1 rfl dC _ _ _ rfl E ⟨W4,0,none⟩ 1 1 [(1100:Int),r.kind,r.basis,(1000:Int)] rfl rfl O Q aa ab a6 ?_));intro v' w9 a4 a0 _;have ac:=((ag.trans (W.mono ax)).alloc ae (.cells #[(1100:Int),r.kind,r.basis,(1000:Int)] 113)).grown a0 a6 (a0B E);clear O Q E;go_wp2;go_roundw
    case rel=>exact⟨k+1,oM,by go_num,by rw[L,Vc];simp;omega,by rw[L,a0X,Vc,hz];exact a4,ac⟩
    case measure=>exact mS
   have c9:(a==1100)=false:=by simp[al]
   by_cases am:a=1200
   ·subst am
    have T:Smp.par 1200=1000:=dC;have L:Hid (Smp.upTo l i (k+1)=Smp.upTo l i k++[⟨1200,r.kind,r.basis,1000⟩]):=by show _=_;rw[av,T]
    clear T;have I:=Xh W3 p 3 _ _ (.int .i64 1000) ah;simp at I;have a5:=au.out.setCell (p:=⟨p,3,none⟩) b3 (.int .i64 1000);obtain⟨W4,X⟩:=eX (W3.setCell ⟨p,3,none⟩ (.int .i64 1000));rw[<- X] at I a5;obtain⟨a9,J,W⟩:=Z3 X I a5;clear X I a5;go_upto_region 18 with(fail);rw[<- a9];clear x0 x3 xf;have af:=Z1 (a0T (cs:=[.int .i64 1200,.int .i64 r.kind,.int .i64 r.basis,.int .i64 1000]) J);have aj:=Vq J;have E:=(Vj a8 W).alloc (.cells #[(1200:Int),r.kind,r.basis,(1000:Int)] 113);have O:=Xk W4 [(1200:Int),r.kind,r.basis,(1000:Int)] 113;have Q:∀u∈([(1200:Int),r.kind,r.basis,(1000:Int)]:List Value),u.oneCell':=oC;have ae:W1.heap.size<=W4.heap.size:=by have:=W.out.size;omega
    have aa:(Smp.upTo l i k).length+1<=maxLen:=by unfold maxLen;omega
    have ab:((Smp.upTo l i k).length+1)*32<=140737488355328:=oM;have a6:W1.heap.size<=(W4.alloc (.cells #[(1200:Int),r.kind,r.basis,(1000:Int)] 113)).heap.size:=sO;go_wp2_with (first|(refine VH rfl 113 (.tmp 5) rfl p 0 rfl [(1200:Int),r.kind,r.basis,(1000:Int)] _ af.out YK rfl accSize' ?_)|(at_builtin;refine Xd _ rfl _ _ 24 rfl W1.heap.size 113 i0 (.agg #[(),(),(),()]) 4 32 Jk aw ay az b1 rfl dC _ _ _ rfl E ⟨W4,0,none⟩ 1 1 [(1200:Int),r.kind,r.basis,(1000:Int)] rfl rfl O Q aa ab a6 ?_));intro v' w9 a4 a0 _;have ac:=((ag.trans (W.mono ax)).alloc ae (.cells #[(1200:Int),r.kind,r.basis,(1000:Int)] 113)).grown a0 a6 (a0B E);clear O Q E;go_wp2;go_roundw
    case rel=>exact⟨k+1,oM,by go_num,by rw[L,Vc];simp;omega,by rw[L,a0X,Vc,hz];exact a4,ac⟩
    case measure=>exact mS
   have ca:(a==1200)=false:=by simp[am]
   by_cases an:a=2100
   ·subst an
    have T:Smp.par 2100=2000:=dC;have L:Hid (Smp.upTo l i (k+1)=Smp.upTo l i k++[⟨2100,r.kind,r.basis,2000⟩]):=by show _=_;rw[av,T]
    clear T;have I:=Xh W3 p 3 _ _ (.int .i64 2000) ah;simp at I;have a5:=au.out.setCell (p:=⟨p,3,none⟩) b3 (.int .i64 2000);obtain⟨W4,X⟩:=eX (W3.setCell ⟨p,3,none⟩ (.int .i64 2000));rw[<- X] at I a5;obtain⟨a9,J,W⟩:=Z3 X I a5;clear X I a5;go_upto_region 18 with(fail);rw[<- a9];clear x0 x3 xf;have af:=Z1 (a0T (cs:=[.int .i64 2100,.int .i64 r.kind,.int .i64 r.basis,.int .i64 2000]) J);have aj:=Vq J;have E:=(Vj a8 W).alloc (.cells #[(2100:Int),r.kind,r.basis,(2000:Int)] 113);have O:=Xk W4 [(2100:Int),r.kind,r.basis,(2000:Int)] 113;have Q:∀u∈([(2100:Int),r.kind,r.basis,(2000:Int)]:List Value),u.oneCell':=oC;have ae:W1.heap.size<=W4.heap.size:=by have:=W.out.size;omega
    have aa:(Smp.upTo l i k).length+1<=maxLen:=by unfold maxLen;omega
    have ab:((Smp.upTo l i k).length+1)*32<=140737488355328:=oM;have a6:W1.heap.size<=(W4.alloc (.cells #[(2100:Int),r.kind,r.basis,(2000:Int)] 113)).heap.size:=sO;go_wp2_with (first|(refine VH rfl 113 (.tmp 5) rfl p 0 rfl [(2100:Int),r.kind,r.basis,(2000:Int)] _ af.out YK rfl accSize' ?_)|(at_builtin;refine Xd _ rfl _ _ 24 rfl W1.heap.size 113 i0 (.agg #[(),(),(),()]) 4 32 Jk aw ay az b1 rfl dC _ _ _ rfl E ⟨W4,0,none⟩ 1 1 [(2100:Int),r.kind,r.basis,(2000:Int)] rfl rfl O Q aa ab a6 ?_));intro v' w9 a4 a0 _;have ac:=((ag.trans (W.mono ax)).alloc ae (.cells #[(2100:Int),r.kind,r.basis,(2000:Int)] 113)).grown a0 a6 (a0B E);clear O Q E;go_wp2;go_roundw
    case rel=>exact⟨k+1,oM,by go_num,by rw[L,Vc];simp;omega,by rw[L,a0X,Vc,hz];exact a4,ac⟩
    case measure=>exact mS
   have cb:(a==2100)=false:=by simp[an]
   by_cases ao:a=4100
   ·subst ao
    have T:Smp.par 4100=4000:=dC;have L:Hid (Smp.upTo l i (k+1)=Smp.upTo l i k++[⟨4100,r.kind,r.basis,4000⟩]):=by show _=_;rw[av,T]
    clear T;have I:=Xh W3 p 3 _ _ (.int .i64 4000) ah;simp at I;have a5:=au.out.setCell (p:=⟨p,3,none⟩) b3 (.int .i64 4000);obtain⟨W4,X⟩:=eX (W3.setCell ⟨p,3,none⟩ (.int .i64 4000));rw[<- X] at I a5;obtain⟨a9,J,W⟩:=Z3 X I a5;clear X I a5;go_upto_region 18 with(fail);rw[<- a9];clear x0 x3 xf;have af:=Z1 (a0T (cs:=[.int .i64 4100,.int .i64 r.kind,.int .i64 r.basis,.int .i64 4000]) J);have aj:=Vq J;have E:=(Vj a8 W).alloc (.cells #[(4100:Int),r.kind,r.basis,(4000:Int)] 113);have O:=Xk W4 [(4100:Int),r.kind,r.basis,(4000:Int)] 113;have Q:∀u∈([(4100:Int),r.kind,r.basis,(4000:Int)]:List Value),u.oneCell':=oC;have ae:W1.heap.size<=W4.heap.size:=by have:=W.out.size;omega
    have aa:(Smp.upTo l i k).length+1<=maxLen:=by unfold maxLen;omega
    have ab:((Smp.upTo l i k).length+1)*32<=140737488355328:=oM;have a6:W1.heap.size<=(W4.alloc (.cells #[(4100:Int),r.kind,r.basis,(4000:Int)] 113)).heap.size:=sO;go_wp2_with (first|(refine VH rfl 113 (.tmp 5) rfl p 0 rfl [(4100:Int),r.kind,r.basis,(4000:Int)] _ af.out YK rfl accSize' ?_)|(at_builtin;refine Xd _ rfl _ _ 24 rfl W1.heap.size 113 i0 (.agg #[(),(),(),()]) 4 32 Jk aw ay az b1 rfl dC _ _ _ rfl E ⟨W4,0,none⟩ 1 1 [(4100:Int),r.kind,r.basis,(4000:Int)] rfl rfl O Q aa ab a6 ?_));intro v' w9 a4 a0 _;have ac:=((ag.trans (W.mono ax)).alloc ae (.cells #[(4100:Int),r.kind,r.basis,(4000:Int)] 113)).grown a0 a6 (a0B E);clear O Q E;go_wp2;go_roundw
    case rel=>exact⟨k+1,oM,by go_num,by rw[L,Vc];simp;omega,by rw[L,a0X,Vc,hz];exact a4,ac⟩
    case measure=>exact mS
   have cc:(a==4100)=false:=by simp[ao]
   have T:Smp.par a=0:=by simp[Smp.par,ak,al,am,an,ao]
   have L:Hid (Smp.upTo l i (k+1)=Smp.upTo l i k++[⟨a,r.kind,r.basis,0⟩]):=by show _=_;rw[av,T]
   clear T;have J:=ah;have W:=au;obtain⟨W4,X⟩:=eX W3;rw[<- X] at J W;have a9:=Z1 X;clear X;go_upto_region 18 with(fail);rw[<- a9];clear x0 x3 xf;have af:=Z1 (a0T (cs:=[.int .i64 a,.int .i64 r.kind,.int .i64 r.basis,.int .i64 0]) J);have aj:=Vq J;have E:=(Vj a8 W).alloc (.cells #[a,r.kind,r.basis,()] 113);have O:=Xk W4 [a,r.kind,r.basis,()] 113;have Q:∀u∈([a,r.kind,r.basis,()]:List Value),u.oneCell':=oC;have ae:W1.heap.size<=W4.heap.size:=by have:=W.out.size;omega
   have aa:(Smp.upTo l i k).length+1<=maxLen:=by unfold maxLen;omega
   have ab:((Smp.upTo l i k).length+1)*32<=140737488355328:=oM;have a6:W1.heap.size<=(W4.alloc (.cells #[a,r.kind,r.basis,()] 113)).heap.size:=sO;go_wp2_with (first|(refine VH rfl 113 (.tmp 5) rfl p 0 rfl [a,r.kind,r.basis,()] _ af.out YK rfl accSize' ?_)|(at_builtin;refine Xd _ rfl _ _ 24 rfl W1.heap.size 113 i0 (.agg #[(),(),(),()]) 4 32 Jk aw ay az b1 rfl dC _ _ _ rfl E ⟨W4,0,none⟩ 1 1 [a,r.kind,r.basis,()] rfl rfl O Q aa ab a6 ?_));intro v' w9 a4 a0 _;have ac:=((ag.trans (W.mono ax)).alloc ae (.cells #[a,r.kind,r.basis,()] 113)).grown a0 a6 (a0B E);clear O Q E;go_wp2;go_roundw
   case rel=>exact⟨k+1,oM,by go_num,by rw[L,Vc];simp;omega,by rw[L,a0X,Vc,hz];exact a4,ac⟩
   case measure=>exact mS
namespace Smp
def tos:List Int:=[1010,1100,1200,1300,1500,2000,2100,3000,3300,4000,4100,4700,5000,5100]
def kinds:List Int:=[1,1,1,1,1,2,2,3,3,4,4,4,5,5]
def echart:List Acc:=(List.range 14).map (fun(i:Nat)=>⟨10*((i:Int)+1),kinds.getD i 0,0,0⟩)
def elinks:List Lnk:=(List.range 14).map (fun(i:Nat)=>⟨10*((i:Int)+1),tos.getD i 0,-25567⟩)
theorem echart_at {i:Nat} (h:i<14):echart.take (i+1)=echart.take i++[⟨10*((i:Int)+1),kinds.getD i 0,0,0⟩]:=by
 have a:i<echart.length:=h;rw[tse a];simp[echart]
theorem elinks_at {i:Nat} (h:i<14):elinks.take (i+1)=elinks.take i++[⟨10*((i:Int)+1),tos.getD i 0,-25567⟩]:=by
 have a:i<elinks.length:=h;rw[tse a];simp[elinks]
end Smp
def lnkRow (l:List Lnk):List Value:=l.flatMap Lnk.cells
theorem a7q (l:List Lnk) (x:Lnk):lnkRow (l++[x])=lnkRow l++x.cells:=by simp[lnkRow]
theorem a3Q {W:World} {I J s1 s2 X n2:Nat} {v1 v2:Value} {s E:TypeId} {x1 x2:List Value} (O:W.ownsRow I s s1 v1 X x1) (Q:W.ownsRow J E s2 v2 n2 x2) (S:s≠E):v1.ownBlock=none∨v1.ownBlock≠v2.ownBlock:=by
 rcases O.2 with⟨rfl,_⟩|⟨g,L,cur,rfl,_,T,_⟩
 ·exact .inl rfl
 ·rcases Q.2 with⟨rfl,_⟩|⟨g',i,o,rfl,_,a,_⟩
  ·right;simp[Value.ownBlock]
  ·right
   simp only[Value.ownBlock,Q5,Option.some.injEq];intro e;subst e;rw[T] at a
   cases a
   exact S rfl
theorem a5s {W:World} {b s n:Nat} {v:Value} {e:TypeId} {x:List Value} (h:W.ownsRow b e s v n x):∃A c,v=.slice A n c:=by
 rcases h.2 with⟨rfl,rfl⟩|⟨g,a,cur,rfl,_⟩
 ·exact⟨_,_,rfl⟩
 ·exact⟨_,_,rfl⟩
theorem grown_refl' (w:World) {row:Option Nat}:w.grownBy w row:=⟨rfl,rfl,rfl,lR,fun _ _ _=>rfl⟩
theorem a2p {a w:World} {g:Nat} (h:a.grownBy w (some g)) (i:Nat) (u:Value):a.grownBy (w.setCell ⟨g,i,none⟩ u) (some g) :=
 ⟨h.os,h.tape,h.output,by simpa[World.setCell] using h.size,fun k s o=>(VR w ⟨g,i,none⟩ u k (fun e=>o (by rw[e]))).trans (h.block k s o)⟩
theorem a2l {W:World} {n s m:Nat} {v:Value} {e:TypeId} {x:List Value} (h:W.ownsRow (n+4) e s v m x):v.ownBlock=none∨v.ownBlock≠some (n+3):=by
 rcases h.2 with⟨rfl,_⟩|⟨g,a,cur,rfl,i,_⟩
 ·exact .inl rfl
 ·right;simp[Value.ownBlock];omega
def SampleEntPost (a cur:BA) (w:World) (e:Ending) (w':World):Prop:=Below w w w'/\∃A c L d,e=.returned (.agg #[.string a,.string cur,.slice A 14 c,.slice L 14 d,false])/\Fresh w A/\Fresh w L/\AccsAt w' w' A Smp.echart/\LnksAt w' w' L Smp.elinks
theorem a3u (a cur:BA):Calls prog 22 #[.string a,.string cur] w (SampleEntPost a cur w):=by
 obtain⟨ia,ca,c5,c6,c7⟩:=XW accInfo;obtain⟨il,cb,cc,cd,ce⟩:=XW lnkInfo;obtain⟨b7,hz,a7⟩:=a2z [(.cells #[.string ⟨#[]⟩,.string ⟨#[]⟩,.slice none 0 0,.slice none 0 0,false] 81),(.cells #[(1010:Int),(1100:Int),(1200:Int),(1300:Int),(1500:Int),(2000:Int),(2100:Int),(3000:Int),(3300:Int),(4000:Int),(4100:Int),(4700:Int),(5000:Int),(5100:Int)] 3),(.cells #[(1:Int),(1:Int),(1:Int),(1:Int),(1:Int),(2:Int),(2:Int),(3:Int),(3:Int),(4:Int),(4:Int),(4:Int),(5:Int),(5:Int)] 3),(.cells #[.string a,.string cur,.slice none 0 0,.slice none 0 0,false] 81)] w;change Below w w ((((w.alloc (.cells #[.string ⟨#[]⟩,.string ⟨#[]⟩,.slice none 0 0,.slice none 0 0,false] 81)).alloc (.cells #[(1010:Int),(1100:Int),(1200:Int),(1300:Int),(1500:Int),(2000:Int),(2100:Int),(3000:Int),(3300:Int),(4000:Int),(4100:Int),(4700:Int),(5000:Int),(5100:Int)] 3)).alloc (.cells #[(1:Int),(1:Int),(1:Int),(1:Int),(1:Int),(2:Int),(2:Int),(3:Int),(3:Int),(4:Int),(4:Int),(4:Int),(5:Int),(5:Int)] 3)).alloc (.cells #[.string a,.string cur,.slice none 0 0,.slice none 0 0,false] 81)) at b7;change ((((w.alloc (.cells #[.string ⟨#[]⟩,.string ⟨#[]⟩,.slice none 0 0,.slice none 0 0,false] 81)).alloc (.cells #[(1010:Int),(1100:Int),(1200:Int),(1300:Int),(1500:Int),(2000:Int),(2100:Int),(3000:Int),(3300:Int),(4000:Int),(4100:Int),(4700:Int),(5000:Int),(5100:Int)] 3)).alloc (.cells #[(1:Int),(1:Int),(1:Int),(1:Int),(1:Int),(2:Int),(2:Int),(3:Int),(3:Int),(4:Int),(4:Int),(4:Int),(5:Int),(5:Int)] 3)).alloc (.cells #[.string a,.string cur,.slice none 0 0,.slice none 0 0,false] 81)).heap.size=w.heap.size+4 at hz;change ∀(i:Nat) (o:Obj),_->((((w.alloc (.cells #[.string ⟨#[]⟩,.string ⟨#[]⟩,.slice none 0 0,.slice none 0 0,false] 81)).alloc (.cells #[(1010:Int),(1100:Int),(1200:Int),(1300:Int),(1500:Int),(2000:Int),(2100:Int),(3000:Int),(3300:Int),(4000:Int),(4100:Int),(4700:Int),(5000:Int),(5100:Int)] 3)).alloc (.cells #[(1:Int),(1:Int),(1:Int),(1:Int),(1:Int),(2:Int),(2:Int),(3:Int),(3:Int),(4:Int),(4:Int),(4:Int),(5:Int),(5:Int)] 3)).alloc (.cells #[.string a,.string cur,.slice none 0 0,.slice none 0 0,false] 81)).heap[w.heap.size+i]?=some o at a7;obtain⟨W1,be⟩:=eX (((((w.alloc (.cells #[.string ⟨#[]⟩,.string ⟨#[]⟩,.slice none 0 0,.slice none 0 0,false] 81)).alloc (.cells #[(1010:Int),(1100:Int),(1200:Int),(1300:Int),(1500:Int),(2000:Int),(2100:Int),(3000:Int),(3300:Int),(4000:Int),(4100:Int),(4700:Int),(5000:Int),(5100:Int)] 3)).alloc (.cells #[(1:Int),(1:Int),(1:Int),(1:Int),(1:Int),(2:Int),(2:Int),(3:Int),(3:Int),(4:Int),(4:Int),(4:Int),(5:Int),(5:Int)] 3)).alloc (.cells #[.string a,.string cur,.slice none 0 0,.slice none 0 0,false] 81)));rw[<- be] at b7 hz a7;obtain⟨bu,bl,c3,bz,bk,_,br⟩:=Z7 be (show W1.heap[w.heap.size]?=some _ from a7 0 _ rfl) (a7 1 _ rfl) (a7 2 _ rfl) (a7 3 _ rfl) hz b7
 have bp:∀(W:World) (i:Nat),Below (w.heap.size+3) W1 W->i<14->W.cell? ⟨w.heap.size+2,i,none⟩=some (.int .i64 (Smp.kinds.getD i 0)):=fun W i hW hi=>by
  rw[hW.cell (p:=⟨w.heap.size+2,i,none⟩) (by show w.heap.size+2<_;omega),cr9 _ bz]
  match i,hi with
  |0,_=>rfl
  |1,_=>rfl
  |2,_=>rfl
  |3,_=>rfl
  |4,_=>rfl
  |5,_=>rfl
  |6,_=>rfl
  |7,_=>rfl
  |8,_=>rfl
  |9,_=>rfl
  |10,_=>rfl
  |11,_=>rfl
  |12,_=>rfl
  |13,_=>rfl
 have bq:∀(W:World) (i:Nat),Below (w.heap.size+3) W1 W->i<14->W.cell? ⟨w.heap.size+1,i,none⟩=some (.int .i64 (Smp.tos.getD i 0)):=fun W i hW hi=>by
  rw[hW.cell (p:=⟨w.heap.size+1,i,none⟩) (by show w.heap.size+1<_;omega),cr9 _ c3]
  match i,hi with
  |0,_=>rfl
  |1,_=>rfl
  |2,_=>rfl
  |3,_=>rfl
  |4,_=>rfl
  |5,_=>rfl
  |6,_=>rfl
  |7,_=>rfl
  |8,_=>rfl
  |9,_=>rfl
  |10,_=>rfl
  |11,_=>rfl
  |12,_=>rfl
  |13,_=>rfl
 have bx:=Z1 bp;have c0:=Z1 bq;clear be a7 hz b7 bp bq;go_enter func22,ntmps22;go_upto_region 4 with(fail);rw[<- bu];go_wp2
 go_loopw [8] (fun s wr=>∃(i:Nat) (v1 v2:Value),i<=14/\s=i/\wr.heap[w.heap.size+3]?=some (.cells #[.string a,.string cur,v1,v2,false] 81 (0,0)) /\
  wr.ownsRow (w.heap.size+4) 113 4 v1 i (accRow (Smp.echart.take i))/\wr.ownsRow (w.heap.size+4) 115 3 v2 i (lnkRow (Smp.elinks.take i))/\Below (w.heap.size+3) W1 wr) (fun s _=>14-(intOf s).toNat)
 case atStart=>exact⟨0,_,_,oM,rfl,bk,Xp _ _ _ _,Xp _ _ _ _,bR⟩
 case round =>
  obtain⟨i,v1,v2,hi,rfl,X,b9,ba,hb⟩:=hrel;obtain⟨aw,ak,al⟩:=Z3 X b9 ba;clear X b9 ba
  by_cases b8:i<14
  case neg =>
   obtain rfl:i=14:=oM;have x2:=aw.out;obtain⟨A1,c1,rfl⟩:=a5s ak;obtain⟨A2,c2,rfl⟩:=a5s al;have o1:=ak.out;have o2:=al.out;rw[show Smp.echart.take 14=Smp.echart from rfl] at o1;rw[show Smp.elinks.take 14=Smp.elinks from rfl] at o2;obtain⟨cj,cn,e1,r1⟩:=Xw (f:=Acc.cells) dC (fun _=>rfl) o1 rfl;obtain⟨ck,co,e2,r2⟩:=Xw (f:=Lnk.cells) dC (fun _=>rfl) o2 rfl
   cases e1
   cases e2
   have f1:=a0K o1;have f2:=a0K o2;have cf:=Z1 (a0T (cs:=[.string a,.string cur,.slice A1 14 c1,.slice A2 14 c2,.bool false]) x2);have b5:=(hb.block w oM).trans bl;have Hr:=Z1 b5;have hR:=VC wr w _ #[.string a,.string cur,.slice A1 14 c1,.slice A2 14 c2,false] _ _ b5;have bg:=Z1 (VW (P:=prog) _ _ _ 81 _ _ _ hR Js rfl a1N);have Ho:Hid ((#[.string a,.string cur,.slice A1 14 c1,.slice A2 14 c2,false]:AV).all (·.oneCell')):=by show _=true;simp[Value.oneCell']
   have bm:=br.out.trans (hb.mono (show w.heap.size<=w.heap.size+3 by omega));have c4:=Z1 (below_setRow bm lR #[.string a,.string cur,.slice A1 14 c1,.slice A2 14 c2,false]);have R1:=Z1 (RowsAt.other_row r1 f1 (show w.heap.size<w.heap.size+4 by omega) #[.string a,.string cur,.slice A1 14 c1,.slice A2 14 c2,false]);have R2:=Z1 (RowsAt.other_row r2 f2 (show w.heap.size<w.heap.size+4 by omega) #[.string a,.string cur,.slice A1 14 c1,.slice A2 14 c2,false]);have F1:=Z1 f1;have F2:=Z1 f2;clear o1 o2 r1 r2 f1 f2 x2 b5 hR bm;go_wp2_with (first|(refine VH rfl 81 (.tmp 7) rfl (w.heap.size+3) 0 rfl [.string a,.string cur,.slice A1 14 c1,.slice A2 14 c2,false] _ cf.out Js rfl a1N ?_)|(refine Vz rfl 81 (.tmp 4) (.tmp 46) none rfl rfl w.heap.size 81 _ #[.string a,.string cur,.slice A1 14 c1,.slice A2 14 c2,false] rfl rfl Hr rfl a1N Ho ?_));exact VG (v:=.agg #[.string a,.string cur,.slice A1 14 c1,.slice A2 14 c2,false]) (by simp[results,results22,asAddr,Act.put,bg.out]) rfl ⟨c4.out,A1,c1,A2,c2,rfl,(fun ad h=>Vn oM (F1.out ad h)),(fun ad h=>Vn oM (F2.out ad h)),R1.out,R2.out⟩
  have ch:(0:Int)<=(i:Int):=oM;have ci:(i:Int)<14:=oM;have cp:IntKind.i64.wrap ((i:Int)+1)=(i:Int)+1:=by rw[Ks];omega
  have cq:IntKind.i64.wrap (10*((i:Int)+1))=10*((i:Int)+1):=by rw[Ks];omega
  have cr:wrap64 ((i:Int)+1)=(i:Int)+1:=Kq _ oM;obtain⟨kd,bf⟩:=eX (Smp.kinds.getD i 0);obtain⟨td,bh⟩:=eX (Smp.tos.getD i 0);have bn:∀W,Below (w.heap.size+3) W1 W->W.cell? ⟨w.heap.size+2,i,none⟩=some (.int .i64 kd):=fun W hW=>by rw[bf];exact bx W i hW b8
  have bo:∀W,Below (w.heap.size+3) W1 W->W.cell? ⟨w.heap.size+1,i,none⟩=some (.int .i64 td):=fun W hW=>by rw[bh];exact c0 W i hW b8
  have bs:Hid (Smp.echart.take (i+1)=Smp.echart.take i++[⟨10*((i:Int)+1),kd,0,0⟩]):=by show _=_;rw[bf];exact Smp.echart_at b8
  have bt:Hid (Smp.elinks.take (i+1)=Smp.elinks.take i++[⟨10*((i:Int)+1),td,-25567⟩]):=by show _=_;rw[bh];exact Smp.elinks_at b8
  have bv:=Z1 bn;have bw:=Z1 bo;clear bf bh bn bo;have c8:=hb;go_upto_region 7 with(fail);have Q:Below (w.heap.size+3) W1 wr.drew:=Vw c8 1;have au:Below wr wr wr.drew:=Vw bR 1;refine Vs (S:=Below (w.heap.size+3) W1) kR ?_;change wpAnyH _ _ _ _ _ _ _ _ (World.drew wr);obtain⟨aq,az⟩:=eX wr.drew;rw[<- az] at Q au⊢;clear az;refine jT 0 Q ?_;refine jT 2 Q ?_;refine jT 3 Q ?_;refine jT 4 Q ?_;refine jT 5 Q ?_;refine jT 6 Q ?_;refine jT 7 Q ?_;refine jT 8 Q ?_ (v:=.int .i64 (kd)) (hy:=(.inl ⟨by rfl,fun W' bc=>by have hc:=bv.out W' bc;go_simp⟩));refine jT 9 Q ?_;refine a0w fun bi b6 Q' a' b2 b3 b4 b1=>?_
  have ax:∀(W':World) (p:Nat),Below wr wr W'->Below (w.heap.size+3) W1 W'->W'.heap[p]?=some (.cells #[.int .i64 (10*((i:Int)+1)),kd,(),()] 113 (0,0))->wpAnyH prog bi b6 Q' (Below (w.heap.size+3) W1) 3 #[true,true,true,true,true,true,true,true,true,true,true,false,false,false] ((a'.put (some 21) v1).put (some 30) (.slice (some ⟨p,0,none⟩) 1 1)) W':=by
   intro W' p hV hS O;subst b2 b3 b4 b1
   try simp only[z]
   have a9:=Vj ak hV;have ap:=Vj al hV;have X:=gbox aw hV (Vq aw);have ag:∀j u,([.int .i64 (10*((i:Int)+1)),kd,(),()]:List Value)[j]?=some u->W'.cell? ((⟨p,0,none⟩:Addr).add j)=some u:=fun j u hj=>by rw[Zb,VN,cr9 _ O];simpa using hj
   have ah:∀u∈([.int .i64 (10*((i:Int)+1)),kd,(),()]:List Value),u.oneCell':=oC;have bb:w.heap.size+4<=W'.heap.size:=Vq X;refine rZ 11 fun K L=>?_;refine Ql W' _ _ 24 rfl (w.heap.size+4) 113 ia (.agg #[(),(),(),()]) 4 32 Jk ca c5 c6 c7 rfl dC v1 i _ rfl a9 ⟨p,0,none⟩ 1 1 [.int .i64 (10*((i:Int)+1)),kd,(),()] rfl rfl ag ah (by unfold maxLen;omega) oM bb ?_;intro v' W4 I E _;have ae:=hS.grown E oM (fun k hk=>Vn oM (a0B a9 k hk));have a0:=(E.block _ (Vq X) (fun e'=>a9R (t:=81) a9 e'.symm X dC)).trans X;have a8:=ap.kept E (a3Q ap a9 dC);refine jK L ae ?_;clear L K;clear ag ah a9 ap X O;refine jT 12 ae ?_;refine rZ 13 fun K L=>?_;have xc:=cr9 2 a0;have xf:=fun j=>fr0 j a0;simp at xc;have a4:=Xh W4 (w.heap.size+3) 2 _ _ v' a0;simp at a4;have an:=ae.setCell (p:=⟨w.heap.size+3,2,none⟩) lR v';have ab:=I.kept (row:=some (w.heap.size+3)) (a2p (grown_refl' W4) 2 v') (a2l I);have aa:=a8.kept (row:=some (w.heap.size+3)) (a2p (grown_refl' W4) 2 v') (a2l a8);obtain⟨Av,cv,rfl⟩:=a5s I;go_simp;obtain⟨W5,ay⟩:=eX (W4.setCell ⟨w.heap.size+3,2,none⟩ (.slice Av (i+1) cv));rw[<- ay] at a4 an ab aa⊢;clear ay;refine jK L an ?_;clear L K;refine VF kR ?_ _
   try simp only[z]
   have ai:W5.ownsRow (w.heap.size+4) 113 4 (.slice Av (i+1) cv) (i+1) (accRow (Smp.echart.take (i+1))):=by rw[bs,a0X];exact ab
   obtain⟨ac,am,aj⟩:=Z3 a4 ai aa;clear a4 ab ai aa I E ae a0 a8 xc xf;have c9:=an;go_upto_region 8 with(fail);have T:Below (w.heap.size+3) W1 W5.drew:=Vw c9 1;have av:Below W5 W5 W5.drew:=Vw bR 1;refine Vs (S:=Below (w.heap.size+3) W1) kR ?_;change wpAnyH _ _ _ _ _ _ _ _ (World.drew W5);obtain⟨ar,az⟩:=eX W5.drew;rw[<- az] at T av⊢;clear az;refine jT 0 T ?_;refine jT 2 T ?_;refine jT 3 T ?_;refine jT 4 T ?_;refine jT 5 T ?_;refine jT 6 T ?_;refine jT 7 T ?_;refine jT 8 T ?_ (v:=.int .i64 (td)) (hy:=(.inl ⟨by rfl,fun W' bc=>by have hc:=bw.out W' bc;go_simp⟩));refine jT 9 T ?_;refine a0w fun bi b6 Q' a' b2 b3 b4 b1=>?_
   have ax:∀(W':World) (p:Nat),Below W5 W5 W'->Below (w.heap.size+3) W1 W'->W'.heap[p]?=some (.cells #[.int .i64 (10*((i:Int)+1)),td,(-25567:Int)] 115 (0,0))->wpAnyH prog bi b6 Q' (Below (w.heap.size+3) W1) 3 #[true,true,true,true,true,true,true,true,true,true,true,false,false,false] ((a'.put (some 34) v2).put (some 43) (.slice (some ⟨p,0,none⟩) 1 1)) W':=by
    intro W' p hV hS O;subst b2 b3 b4 b1
    try simp only[z]
    have a9:=Vj aj hV;have ap:=Vj am hV;have X:=gbox ac hV (Vq ac);have ag:∀j u,([.int .i64 (10*((i:Int)+1)),td,(-25567:Int)]:List Value)[j]?=some u->W'.cell? ((⟨p,0,none⟩:Addr).add j)=some u:=fun j u hj=>by rw[Zb,VN,cr9 _ O];simpa using hj
    have ah:∀u∈([.int .i64 (10*((i:Int)+1)),td,(-25567:Int)]:List Value),u.oneCell':=oC;have bb:w.heap.size+4<=W'.heap.size:=Vq X;refine rZ 11 fun K L=>?_;refine Ql W' _ _ 79 rfl (w.heap.size+4) 115 il (.agg #[(),(),()]) 3 24 underlying79 cb cc cd ce rfl dC v2 i _ rfl a9 ⟨p,0,none⟩ 1 1 [.int .i64 (10*((i:Int)+1)),td,(-25567:Int)] rfl rfl ag ah (by unfold maxLen;omega) oM bb ?_;intro v' W4 I E _;have ae:=hS.grown E oM (fun k hk=>Vn oM (a0B a9 k hk));have a0:=(E.block _ (Vq X) (fun e'=>a9R (t:=81) a9 e'.symm X dC)).trans X;have a8:=ap.kept E (a3Q ap a9 dC);refine jK L ae ?_;clear L K;clear ag ah a9 ap X O;refine jT 12 ae ?_;refine rZ 13 fun K L=>?_;have xc:=cr9 3 a0;have xf:=fun j=>fr0 j a0;simp at xc;have a4:=Xh W4 (w.heap.size+3) 3 _ _ v' a0;simp at a4;have an:=ae.setCell (p:=⟨w.heap.size+3,3,none⟩) lR v';have ab:=I.kept (row:=some (w.heap.size+3)) (a2p (grown_refl' W4) 3 v') (a2l I);have aa:=a8.kept (row:=some (w.heap.size+3)) (a2p (grown_refl' W4) 3 v') (a2l a8);obtain⟨Av,cv,rfl⟩:=a5s I;go_simp;obtain⟨W5,ay⟩:=eX (W4.setCell ⟨w.heap.size+3,3,none⟩ (.slice Av (i+1) cv));rw[<- ay] at a4 an ab aa⊢;clear ay;refine jK L an ?_;clear L K;refine VF kR ?_ _
    try simp only[z]
    have ai:W5.ownsRow (w.heap.size+4) 115 3 (.slice Av (i+1) cv) (i+1) (lnkRow (Smp.elinks.take (i+1))):=by rw[bt,a7q];exact ab
    obtain⟨ac,am,aj⟩:=Z3 a4 ai aa;clear a4 ab ai aa I E ae a0 a8 xc xf;go_wp2;go_roundw
    case rel=>exact⟨i+1,_,_,oM,by go_num,ac,aj,am,an⟩
    case measure=>exact mS
   subst b2 b3 b4 b1;have af:=gbox ac av (Vq ac);have xq:=cr9 3 af;simp at xq;have cg:=Vq af;refine Xc (rs:=[1,10]) kR sP (XQ rfl (fun K L=>?_) (XQ rfl (fun K L=>?_) Ys))
   ·skip
    go_simp;refine jK L T ?_;clear L K;refine rZ 10 fun K L=>?_;obtain⟨J,O,_⟩:=a0I ar #[.int .i64 (10*((i:Int)+1)),td,(-25567:Int)] 115;go_simp;obtain⟨W6,a6⟩:=eX (ar.alloc (.cells #[.int .i64 (10*((i:Int)+1)),td,(-25567:Int)] 115));rw[<- a6] at J O⊢;clear a6;have ao:=av.trans (J.mono av.size);have a5:=T.trans (J.mono (by have:=T.size;omega));refine jK L a5 ?_;clear L K;have hn:=ax W6 ar.heap.size ao a5 O
    try simp only[z] at hn
    exact hn
   ·skip
    obtain⟨J,O,_⟩:=a0I ar #[.int .i64 (10*((i:Int)+1)),td,(-25567:Int)] 115;go_simp;obtain⟨W6,a6⟩:=eX (ar.alloc (.cells #[.int .i64 (10*((i:Int)+1)),td,(-25567:Int)] 115));rw[<- a6] at J O⊢;clear a6;have ao:=av.trans (J.mono av.size);have a5:=T.trans (J.mono (by have:=T.size;omega));refine jK L a5 ?_;clear L K;have b0:=gbox af J (Vq af);have bj:=cr9 3 b0;simp at bj;refine rZ 1 fun K L=>?_;go_simp;refine jK L a5 ?_;clear L K;have hn:=ax W6 ar.heap.size ao a5 O
    try simp only[z] at hn
    exact hn
  subst b2 b3 b4 b1;have af:=gbox aw au (Vq aw);have xq:=cr9 2 af;simp at xq;have cg:=Vq af;refine Xc (rs:=[1,10]) kR sP (XQ rfl (fun K L=>?_) (XQ rfl (fun K L=>?_) Ys))
  ·skip
   go_simp;refine jK L Q ?_;clear L K;refine rZ 10 fun K L=>?_;obtain⟨J,O,_⟩:=a0I aq #[.int .i64 (10*((i:Int)+1)),kd,(),()] 113;go_simp;obtain⟨W6,a6⟩:=eX (aq.alloc (.cells #[.int .i64 (10*((i:Int)+1)),kd,(),()] 113));rw[<- a6] at J O⊢;clear a6;have ao:=au.trans (J.mono au.size);have a5:=Q.trans (J.mono (by have:=Q.size;omega));refine jK L a5 ?_;clear L K;have hn:=ax W6 aq.heap.size ao a5 O
   try simp only[z] at hn
   exact hn
  ·skip
   obtain⟨J,O,_⟩:=a0I aq #[.int .i64 (10*((i:Int)+1)),kd,(),()] 113;go_simp;obtain⟨W6,a6⟩:=eX (aq.alloc (.cells #[.int .i64 (10*((i:Int)+1)),kd,(),()] 113));rw[<- a6] at J O⊢;clear a6;have ao:=au.trans (J.mono au.size);have a5:=Q.trans (J.mono (by have:=Q.size;omega));refine jK L a5 ?_;clear L K;have b0:=gbox af J (Vq af);have bj:=cr9 2 b0;simp at bj;refine rZ 1 fun K L=>?_;go_simp;refine jK L a5 ?_;clear L K;have hn:=ax W6 aq.heap.size ao a5 O
   try simp only[z] at hn
   exact hn
end Go.Proofs.YtbhdekahdnenjaaGreatDoor
