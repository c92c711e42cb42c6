/- My texts SmpC, SmpE. -/
import Derived.Test.YtniaimjknmhapaaGreatDoorG14
import Derived.Test.YtniaimjknmhapaaGreatDoorG16
import Derived.Test.YtniaimjknmhapaaGreatDoorG19
set_option linter.unusedVariables false
set_option linter.unusedSimpArgs false
set_option maxRecDepth 100000
set_option maxHeartbeats 16000000
namespace Go.Proofs.YtniaimjknmhapaaGreatDoor
open Go.Proofs.Tryz Go.RowKit
theorem allocs_spec:∀(objs:List Obj) (w:World),Below w.heap.size w (objs.foldl World.alloc w)/\(objs.foldl World.alloc w).heap.size=w.heap.size+objs.length/\∀(i:Nat) (o:Obj),objs[i]?=some o->(objs.foldl World.alloc w).heap[w.heap.size+i]?=some o
 | [],w=>⟨Below.refl _ _,rfl,fun i o h=>by simp at h⟩
 | x::objs,w=>by
  obtain⟨h1,h2,h3⟩:=allocs_spec objs (w.alloc x)
  have hs:(w.alloc x).heap.size=w.heap.size+1:=by simp
  rw [hs] at h1 h2 h3
  refine⟨((Below.refl w.heap.size w).alloc (Nat.le_refl _) x).trans (h1.mono (by omega)),by rw [List.foldl_cons,h2,List.length_cons];omega,fun i o h=>?_⟩
  match i with
  | 0 =>
   rw [List.foldl_cons,Nat.add_zero,h1.block w.heap.size (by omega)]
   have:=heap_alloc_new w x
   simp at h
   rw [this,h]
  | i+1 =>
   rw [List.foldl_cons,show w.heap.size+(i+1)=w.heap.size+1+i by omega]
   exact h3 i o (by simpa using h)
structure RowV where
 kind:Int
 basis:Int
 cb:Nat
 codes:List Int
def RowV.cells (r:RowV):List Value:=[.int .i64 r.kind,.int .i64 r.basis,.slice (some ⟨r.cb,0,none⟩) r.codes.length r.codes.length]
abbrev intsCells (x:Int):List Value:=[.int .i64 x]
namespace Smp
def rows (B:Nat):List RowV:=[⟨1,1,B,[1000,1010,1100,1200]⟩,⟨1,3,B+1,[1300,1500,1600,1700]⟩,⟨2,1,B+2,[2000,2100]⟩,⟨3,3,B+3,[3000,3100,3200,3300,3400,3500]⟩,⟨4,2,B+4,[4000,4100,4500,4600,4700]⟩,⟨5,2,B+5,[5000,5100,5500,5600,5700]⟩]
def par (c:Int):Int:=if c=1010 then 1000 else if c=1100 then 1000 else if c=1200 then 1000 else if c=2100 then c-100 else if c=4100 then c-100 else 0
def acc (r:RowV) (c:Int):Acc:=⟨c,r.kind,r.basis,par c⟩
def part (o:Option RowV) (k:Nat):List Acc:=match o with
 | some r=>(r.codes.take k).map (acc r)
 | none=>[]
def upTo (l:List RowV) (i k:Nat):List Acc:=(l.take i).flatMap (fun r=>r.codes.map (acc r))++part l[i]? k
def chart:List Acc:=(rows 0).flatMap (fun r=>r.codes.map (acc r))
theorem upTo_next {l:List RowV} {i k:Nat} (hi:i<l.length) (hk:k<l[i].codes.length):upTo l i (k+1)=upTo l i k++[acc l[i] l[i].codes[k]]:=by
 unfold upTo part
 rw [List.getElem?_eq_getElem hi]
 simp only []
 rw [List.take_succ_eq_append_getElem hk,List.map_append,List.append_assoc]
 rfl
theorem upTo_row {l:List RowV} {i:Nat} (hi:i<l.length):upTo l i l[i].codes.length=upTo l (i+1) 0:=by
 unfold upTo part
 rw [List.getElem?_eq_getElem hi,List.take_succ_eq_append_getElem hi,List.flatMap_append]
 simp only [List.take_length,List.flatMap_cons,List.flatMap_nil,List.append_nil]
 cases l[i+1]? <;> simp
end Smp
def accRow (l:List Acc):List Value:=l.flatMap Acc.cells
theorem accRow_snoc (l:List Acc) (x:Acc):accRow (l++[x])=accRow l++x.cells:=by simp [accRow]
theorem accSize':(prog.info? 87).map (·.size)=some 4:=by kernel_rfl
def SampleChartPost (w:World) (e:Ending) (w':World):Prop:=Below w.heap.size w w'/\∃ A c,e=.returned (.slice A 26 c)/\Fresh w.heap.size A/\AccsAt w' w'.heap.size A Smp.chart
section
variable (w:World)
theorem schart_any:Calls prog 38 #[] w (SampleChartPost w):=by
 obtain⟨i0,hi0,hz0,hz1,hz2⟩:=info_parts accInfo
 obtain⟨hB1,hz,hblk⟩:=allocs_spec [(.cells #[.int .i64 1000,.int .i64 1010,.int .i64 1100,.int .i64 1200] 3),(.cells #[.int .i64 1300,.int .i64 1500,.int .i64 1600,.int .i64 1700] 3),(.cells #[.int .i64 2000,.int .i64 2100] 3),(.cells #[.int .i64 3000,.int .i64 3100,.int .i64 3200,.int .i64 3300,.int .i64 3400,.int .i64 3500] 3),(.cells #[.int .i64 4000,.int .i64 4100,.int .i64 4500,.int .i64 4600,.int .i64 4700] 3),(.cells #[.int .i64 5000,.int .i64 5100,.int .i64 5500,.int .i64 5600,.int .i64 5700] 3),(.cells #[.int .i64 1,.int .i64 1,.slice (some ⟨w.heap.size,0,none⟩) 4 4,.int .i64 1,.int .i64 3,.slice (some ⟨w.heap.size+1,0,none⟩) 4 4,.int .i64 2,.int .i64 1,.slice (some ⟨w.heap.size+2,0,none⟩) 2 2,.int .i64 3,.int .i64 3,.slice (some ⟨w.heap.size+3,0,none⟩) 6 6,.int .i64 4,.int .i64 2,.slice (some ⟨w.heap.size+4,0,none⟩) 5 5,.int .i64 5,.int .i64 2,.slice (some ⟨w.heap.size+5,0,none⟩) 5 5] 147)] w
 change Below w.heap.size w (((((((w.alloc (.cells #[.int .i64 1000,.int .i64 1010,.int .i64 1100,.int .i64 1200] 3)).alloc (.cells #[.int .i64 1300,.int .i64 1500,.int .i64 1600,.int .i64 1700] 3)).alloc (.cells #[.int .i64 2000,.int .i64 2100] 3)).alloc (.cells #[.int .i64 3000,.int .i64 3100,.int .i64 3200,.int .i64 3300,.int .i64 3400,.int .i64 3500] 3)).alloc (.cells #[.int .i64 4000,.int .i64 4100,.int .i64 4500,.int .i64 4600,.int .i64 4700] 3)).alloc (.cells #[.int .i64 5000,.int .i64 5100,.int .i64 5500,.int .i64 5600,.int .i64 5700] 3)).alloc (.cells #[.int .i64 1,.int .i64 1,.slice (some ⟨w.heap.size,0,none⟩) 4 4,.int .i64 1,.int .i64 3,.slice (some ⟨w.heap.size+1,0,none⟩) 4 4,.int .i64 2,.int .i64 1,.slice (some ⟨w.heap.size+2,0,none⟩) 2 2,.int .i64 3,.int .i64 3,.slice (some ⟨w.heap.size+3,0,none⟩) 6 6,.int .i64 4,.int .i64 2,.slice (some ⟨w.heap.size+4,0,none⟩) 5 5,.int .i64 5,.int .i64 2,.slice (some ⟨w.heap.size+5,0,none⟩) 5 5] 147)) at hB1
 change (((((((w.alloc (.cells #[.int .i64 1000,.int .i64 1010,.int .i64 1100,.int .i64 1200] 3)).alloc (.cells #[.int .i64 1300,.int .i64 1500,.int .i64 1600,.int .i64 1700] 3)).alloc (.cells #[.int .i64 2000,.int .i64 2100] 3)).alloc (.cells #[.int .i64 3000,.int .i64 3100,.int .i64 3200,.int .i64 3300,.int .i64 3400,.int .i64 3500] 3)).alloc (.cells #[.int .i64 4000,.int .i64 4100,.int .i64 4500,.int .i64 4600,.int .i64 4700] 3)).alloc (.cells #[.int .i64 5000,.int .i64 5100,.int .i64 5500,.int .i64 5600,.int .i64 5700] 3)).alloc (.cells #[.int .i64 1,.int .i64 1,.slice (some ⟨w.heap.size,0,none⟩) 4 4,.int .i64 1,.int .i64 3,.slice (some ⟨w.heap.size+1,0,none⟩) 4 4,.int .i64 2,.int .i64 1,.slice (some ⟨w.heap.size+2,0,none⟩) 2 2,.int .i64 3,.int .i64 3,.slice (some ⟨w.heap.size+3,0,none⟩) 6 6,.int .i64 4,.int .i64 2,.slice (some ⟨w.heap.size+4,0,none⟩) 5 5,.int .i64 5,.int .i64 2,.slice (some ⟨w.heap.size+5,0,none⟩) 5 5] 147)).heap.size=w.heap.size+7 at hz
 change ∀(i:Nat) (o:Obj),_->(((((((w.alloc (.cells #[.int .i64 1000,.int .i64 1010,.int .i64 1100,.int .i64 1200] 3)).alloc (.cells #[.int .i64 1300,.int .i64 1500,.int .i64 1600,.int .i64 1700] 3)).alloc (.cells #[.int .i64 2000,.int .i64 2100] 3)).alloc (.cells #[.int .i64 3000,.int .i64 3100,.int .i64 3200,.int .i64 3300,.int .i64 3400,.int .i64 3500] 3)).alloc (.cells #[.int .i64 4000,.int .i64 4100,.int .i64 4500,.int .i64 4600,.int .i64 4700] 3)).alloc (.cells #[.int .i64 5000,.int .i64 5100,.int .i64 5500,.int .i64 5600,.int .i64 5700] 3)).alloc (.cells #[.int .i64 1,.int .i64 1,.slice (some ⟨w.heap.size,0,none⟩) 4 4,.int .i64 1,.int .i64 3,.slice (some ⟨w.heap.size+1,0,none⟩) 4 4,.int .i64 2,.int .i64 1,.slice (some ⟨w.heap.size+2,0,none⟩) 2 2,.int .i64 3,.int .i64 3,.slice (some ⟨w.heap.size+3,0,none⟩) 6 6,.int .i64 4,.int .i64 2,.slice (some ⟨w.heap.size+4,0,none⟩) 5 5,.int .i64 5,.int .i64 2,.slice (some ⟨w.heap.size+5,0,none⟩) 5 5] 147)).heap[w.heap.size+i]?=some o at hblk
 obtain⟨W1,hW1⟩:∃ W1,W1=(((((((w.alloc (.cells #[.int .i64 1000,.int .i64 1010,.int .i64 1100,.int .i64 1200] 3)).alloc (.cells #[.int .i64 1300,.int .i64 1500,.int .i64 1600,.int .i64 1700] 3)).alloc (.cells #[.int .i64 2000,.int .i64 2100] 3)).alloc (.cells #[.int .i64 3000,.int .i64 3100,.int .i64 3200,.int .i64 3300,.int .i64 3400,.int .i64 3500] 3)).alloc (.cells #[.int .i64 4000,.int .i64 4100,.int .i64 4500,.int .i64 4600,.int .i64 4700] 3)).alloc (.cells #[.int .i64 5000,.int .i64 5100,.int .i64 5500,.int .i64 5600,.int .i64 5700] 3)).alloc (.cells #[.int .i64 1,.int .i64 1,.slice (some ⟨w.heap.size,0,none⟩) 4 4,.int .i64 1,.int .i64 3,.slice (some ⟨w.heap.size+1,0,none⟩) 4 4,.int .i64 2,.int .i64 1,.slice (some ⟨w.heap.size+2,0,none⟩) 2 2,.int .i64 3,.int .i64 3,.slice (some ⟨w.heap.size+3,0,none⟩) 6 6,.int .i64 4,.int .i64 2,.slice (some ⟨w.heap.size+4,0,none⟩) 5 5,.int .i64 5,.int .i64 2,.slice (some ⟨w.heap.size+5,0,none⟩) 5 5] 147)):=⟨_,rfl⟩
 rw [<- hW1] at hB1 hz hblk
 have HW1:=Z1 hW1
 obtain⟨l,hl⟩:∃ l,l=Smp.rows w.heap.size:=⟨_,rfl⟩
 have hrows:RowsAt RowV.cells 3 W1 W1.heap.size (some ⟨w.heap.size+6,0,none⟩) l:=by
  have:=hblk 6 _ rfl
  rw [hl]
  exact rows_flat (f:=RowV.cells) (l:=Smp.rows w.heap.size) this (by omega) (fun _ _=>rfl)
 have hcodes:∀ r∈l,RowsAt intsCells 1 W1 W1.heap.size (some ⟨r.cb,0,none⟩) r.codes:=by
  intro r hr
  rw [hl] at hr
  simp only [Smp.rows,List.mem_cons,List.not_mem_nil,or_false] at hr
  rcases hr with rfl | rfl | rfl | rfl | rfl | rfl
  ·exact rows_flat (f:=intsCells) (l:=[1000,1010,1100,1200]) (hblk 0 _ rfl) (by show w.heap.size+0<_;omega) (fun _ _=>rfl)
  ·exact rows_flat (f:=intsCells) (l:=[1300,1500,1600,1700]) (hblk 1 _ rfl) (by show w.heap.size+1<_;omega) (fun _ _=>rfl)
  ·exact rows_flat (f:=intsCells) (l:=[2000,2100]) (hblk 2 _ rfl) (by show w.heap.size+2<_;omega) (fun _ _=>rfl)
  ·exact rows_flat (f:=intsCells) (l:=[3000,3100,3200,3300,3400,3500]) (hblk 3 _ rfl) (by show w.heap.size+3<_;omega) (fun _ _=>rfl)
  ·exact rows_flat (f:=intsCells) (l:=[4000,4100,4500,4600,4700]) (hblk 4 _ rfl) (by show w.heap.size+4<_;omega) (fun _ _=>rfl)
  ·exact rows_flat (f:=intsCells) (l:=[5000,5100,5500,5600,5700]) (hblk 5 _ rfl) (by show w.heap.size+5<_;omega) (fun _ _=>rfl)
 have hlen:l.length=6:=by rw [hl];rfl
 have hsh:∀ r∈l,r.codes.length<=6:=by
  intro r hr
  rw [hl] at hr
  simp only [Smp.rows,List.mem_cons,List.not_mem_nil,or_false] at hr
  rcases hr with rfl | rfl | rfl | rfl | rfl | rfl <;> simp
 have Hall:Hid (Smp.upTo l 6 0=Smp.chart):=by show _=_;rw [hl];rfl
 have Hrows:=Z1 hrows
 have Hcodes:=Z1 hcodes
 have Hlen:=Z1 hlen
 have Hsh:=Z1 hsh
 have H0:Hid (Smp.upTo l 0 0=[]):=by show _=_;rw [hl];rfl
 clear hW1 hblk hl hrows hcodes hlen hsh
 go_enter func38,ntmps38
 go_upto_region 2 with(fail)
 rw [<- HW1.out]
 go_wp2
 go_loopw [2,3] (fun v s wr=>∃ i:Nat,i<=6/\s=.int .i64 i/\(Smp.upTo l i 0).length<=6*i/\wr.ownsRow W1.heap.size 87 4 v (Smp.upTo l i 0).length (accRow (Smp.upTo l i 0))/\Below W1.heap.size W1 wr) (fun _ s _=>6-(intOf s).toNat)
 case atStart=>exact⟨0,by omega,rfl,by rw [H0.out];simp,by rw [H0.out];exact World.ownsRow_nil _ _ _ _,Below.refl _ _⟩
 case round =>
  obtain⟨i,hi,rfl,hlb,hown,hb⟩:=hrel
  have Hown:=Z1 hown
  have Hlb:=Z1 hlb
  clear hown hlb
  by_cases hlt:i<6
  case neg =>
   obtain rfl:i=6:=by omega
   go_wp2
   go_ret
   have ho:=Hown.out
   rw [Hall.out] at ho
   obtain⟨A',c',rfl,hA⟩:=own_flat (f:=Acc.cells) (by decide) (fun _=>rfl) ho rfl
   exact⟨hB1.trans (hb.mono hB1.size),A',c',rfl,(fun ad h=>Nat.le_trans (by omega) (own_fresh ho ad h)),hA⟩
  have hi0':(0:Int)<=(i:Int):=by omega
  have hi1':(i:Int)<6:=by omega
  have hil:i<l.length:=by have:=Hlen.out;omega
  obtain⟨r,hr⟩:∃ r,r=l[i]:=⟨_,rfl⟩
  have Hr:=Z1 hr
  have hrm:r∈l:=by rw [hr];exact List.getElem_mem hil
  have hr6:=Hsh.out r hrm
  have Hcd:=Z1 (Hcodes.out r hrm)
  obtain⟨b0,o0,e0,hb0,hrr⟩:=RowsAt.look Hrows.out hil
  rw [<- hr] at hrr
  have hrb:b0=w.heap.size+6/\o0=0:=by
   injection e0 with e0
   injection e0 with q1 q2 q3
   exact⟨q1.symm,q2.symm⟩
  obtain⟨rfl,rfl⟩:=hrb
  have HR:=Z1 hrr
  have hrbw:w.heap.size+6<W1.heap.size:=by omega
  clear hr hrm hrr e0
  go_wp2
  go_loopw [2,4] (fun v s wq=>∃ k:Nat,k<=r.codes.length/\s=.int .i64 k/\(Smp.upTo l i k).length<=6*i+k/\wq.ownsRow W1.heap.size 87 4 v (Smp.upTo l i k).length (accRow (Smp.upTo l i k))/\Below W1.heap.size W1 wq) (fun _ s _=>r.codes.length-(intOf s).toNat)
  case atStart=>exact⟨0,Nat.zero_le _,rfl,by have:=Hlb.out;omega,Hown.out,hb⟩
  case round =>
   obtain⟨k,hk,rfl,hlb2,hown2,hb2⟩:=hrel
   have Hown2:=Z1 hown2
   have Hlb2:=Z1 hlb2
   have hq2:=hb2.size
   have hrow:=range_below HR.out hb2 hrbw
   have c0:=hrow 0 _ rfl
   have c1:=hrow 1 _ rfl
   have c2:=hrow 2 _ rfl
   simp at c0 c1 c2
   have sb:w.heap.size+6<wr.heap.size:=by omega
   clear hown2 hlb2 hrow
   by_cases hlt2:k<r.codes.length
   case neg =>
    obtain rfl:k=r.codes.length:=by omega
    have Hn:Hid (Smp.upTo l i r.codes.length=Smp.upTo l (i+1) 0):=by show _=_;rw [Hr.out];exact Smp.upTo_row hil
    go_wp2
    go_roundw
    case rel=>exact⟨i+1,by omega,by go_num,by rw [<- Hn.out];have:=Hlb2.out;omega,by rw [<- Hn.out];exact Hown2.out,hb2⟩
    case measure=>simp [intOf];omega
   obtain⟨bc,oc,ec,hbc,hcc⟩:=RowsAt.look Hcd.out hlt2
   have hbc2:bc=r.cb/\oc=0:=by
    injection ec with ec
    injection ec with q1 q2 q3
    exact⟨q1.symm,q2.symm⟩
   obtain⟨rfl,rfl⟩:=hbc2
   obtain⟨a,ha⟩:∃ a,a=r.codes[k]:=⟨_,rfl⟩
   rw [<- ha] at hcc
   have hcb:=range_below hcc hb2 hbc
   have c3:=hcb 0 _ rfl
   simp at c3
   have Hst:Hid (Smp.upTo l i (k+1)=Smp.upTo l i k++[⟨a,r.kind,r.basis,Smp.par a⟩]):=by
    show _=_
    have hkl:k<l[i].codes.length:=by rw [<- Hr.out];exact hlt2
    rw [Smp.upTo_next hil hkl]
    simp only [<- Hr.out,<- ha]
    rfl
   have sc:r.cb<wr.heap.size:=by omega
   have C0:=Z1 c0
   have C1:=Z1 c1
   have C2:=Z1 c2
   have C3:=Z1 c3
   have hk0':(0:Int)<=(k:Int):=by omega
   have hk1':(k:Int)<(r.codes.length:Int):=by omega
   clear hcc hcb ec ha c3
   go_upto_region 9 with(fail)
   clear c0 c1 c2
   have hS:Below wr.heap.size wr wr.drew:=below_drawn (Below.refl _ _) 1
   refine wp_region_held (S:=Below wr.heap.size wr) (by kernel_rfl) ?_
   change wpAnyH _ _ _ _ _ _ _ _ (World.drew _)
   obtain⟨W0,hWd⟩:∃ W0,W0=wr.drew:=⟨_,rfl⟩
   rw [<- hWd] at hS ⊢
   clear hWd
   refine tk (i:=0) (v:=.slice (some ⟨w.heap.size+6,0,none⟩) 6 6) rfl (.inl ⟨by rfl,fun W' hS'=>by go_simp⟩) hS ?_
   try simp only [z]
   refine tk (i:=1) (v:=.int .i64 i) rfl (.inl ⟨by rfl,fun W' hS'=>by go_simp⟩) hS ?_
   try simp only [z]
   refine tk (i:=2) (v:=.pointer (some ⟨w.heap.size+6,i*3,none⟩)) rfl (.inl ⟨by rfl,fun W' hS'=>by go_simp⟩) hS ?_
   try simp only [z]
   refine tk (i:=3) (v:=.pointer (some ⟨w.heap.size+6,i*3+2,none⟩)) rfl (.inl ⟨by rfl,fun W' hS'=>by go_simp⟩) hS ?_
   try simp only [z]
   refine tk (i:=4) (v:=.slice (some ⟨r.cb,0,none⟩) r.codes.length r.codes.length) rfl (.inl ⟨by rfl,fun W' hS'=>by have hc:=(hS'.cell (p:=⟨w.heap.size+6,i*3+2,none⟩) sb).trans C2.out;go_simp⟩) hS ?_
   try simp only [z]
   refine tk (i:=5) (v:=.int .i64 k) rfl (.inl ⟨by rfl,fun W' hS'=>by go_simp⟩) hS ?_
   try simp only [z]
   refine tk (i:=6) (v:=.pointer (some ⟨r.cb,k,none⟩)) rfl (.inl ⟨by rfl,fun W' hS'=>by go_simp⟩) hS ?_
   try simp only [z]
   refine tk (i:=7) (v:=.int .i64 a) rfl (.inl ⟨by rfl,fun W' hS'=>by have hc:=(hS'.cell (p:=⟨r.cb,k,none⟩) sc).trans C3.out;go_simp⟩) hS ?_
   try simp only [z]
   refine tk (i:=8) (v:=.slice (some ⟨w.heap.size+6,0,none⟩) 6 6) rfl (.inl ⟨by rfl,fun W' hS'=>by go_simp⟩) hS ?_
   try simp only [z]
   refine tk (i:=9) (v:=.int .i64 i) rfl (.inl ⟨by rfl,fun W' hS'=>by go_simp⟩) hS ?_
   try simp only [z]
   refine tk (i:=10) (v:=.pointer (some ⟨w.heap.size+6,i*3,none⟩)) rfl (.inl ⟨by rfl,fun W' hS'=>by go_simp⟩) hS ?_
   try simp only [z]
   refine tk (i:=11) (v:=.pointer (some ⟨w.heap.size+6,i*3,none⟩)) rfl (.inl ⟨by rfl,fun W' hS'=>by go_simp⟩) hS ?_
   try simp only [z]
   refine tk (i:=12) (v:=.int .i64 r.kind) rfl (.inl ⟨by rfl,fun W' hS'=>by have hc:=(hS'.cell (p:=⟨w.heap.size+6,i*3,none⟩) sb).trans C0.out;go_simp⟩) hS ?_
   try simp only [z]
   refine tk (i:=13) (v:=.slice (some ⟨w.heap.size+6,0,none⟩) 6 6) rfl (.inl ⟨by rfl,fun W' hS'=>by go_simp⟩) hS ?_
   try simp only [z]
   refine tk (i:=14) (v:=.int .i64 i) rfl (.inl ⟨by rfl,fun W' hS'=>by go_simp⟩) hS ?_
   try simp only [z]
   refine tk (i:=15) (v:=.pointer (some ⟨w.heap.size+6,i*3,none⟩)) rfl (.inl ⟨by rfl,fun W' hS'=>by go_simp⟩) hS ?_
   try simp only [z]
   refine tk (i:=16) (v:=.pointer (some ⟨w.heap.size+6,i*3+1,none⟩)) rfl (.inl ⟨by rfl,fun W' hS'=>by go_simp⟩) hS ?_
   try simp only [z]
   refine tk (i:=17) (v:=.int .i64 r.basis) rfl (.inl ⟨by rfl,fun W' hS'=>by have hc:=(hS'.cell (p:=⟨w.heap.size+6,i*3+1,none⟩) sb).trans C1.out;go_simp⟩) hS ?_
   try simp only [z]
   refine tk (i:=18) (v:=.agg #[.int .i64 a,.int .i64 r.kind,.int .i64 r.basis,.int .i64 0]) rfl (.inl ⟨by rfl,fun W' hS'=>by go_simp⟩) hS ?_
   try simp only [z]
   refine rd9 19 (by kernel_rfl) rfl (fun K hK=>?_)
   obtain⟨hBa,hrw,_⟩:=row_new W0 #[.int .i64 0,.int .i64 0,.int .i64 0,.int .i64 0] 87
   go_simp
   obtain⟨W2,hWn⟩:∃ W2,W2=W0.alloc (.cells #[.int .i64 0,.int .i64 0,.int .i64 0,.int .i64 0] 87):=⟨_,rfl⟩
   rw [<- hWn] at hBa hrw ⊢
   clear hWn
   have hS2:=hS.trans (hBa.mono hS.size)
   refine hK.out _ _ hS2 (fun _=>?_)
   clear hK K
   try simp only [z]
   refine rd9 20 (by kernel_rfl) rfl (fun K hK=>?_)
   rw [if_pos (by rfl)]
   refine wp_store_row 87 _ _ none rfl rfl W0.heap.size 87 _ #[.int .i64 a,.int .i64 r.kind,.int .i64 r.basis,.int .i64 0] rfl rfl hrw rfl accSize' (by simp [Value.oneCell']) ?_
   have hrw3:=setRow_heap W2 W0.heap.size _ #[.int .i64 a,.int .i64 r.kind,.int .i64 r.basis,.int .i64 0] _ _ hrw
   have hS3:=below_setRow hS2 hS.size #[.int .i64 a,.int .i64 r.kind,.int .i64 r.basis,.int .i64 0]
   refine hK.out _ _ hS3 (fun _=>?_)
   clear hK K
   try simp only [z]
   refine wpAnyH_done (by kernel_rfl) ?_ _
   try simp only [z]
   obtain⟨p,hp⟩:∃ p,p=W0.heap.size:=⟨_,rfl⟩
   have hpr:wr.heap.size<=p:=by rw [hp];exact hS.size
   rw [<- hp] at hrw3 hS3 ⊢
   obtain⟨W3,hW3⟩:∃ W3,W3=W2.setRow p #[.int .i64 a,.int .i64 r.kind,.int .i64 r.basis,.int .i64 0]:=⟨_,rfl⟩
   rw [<- hW3] at hrw3 hS3 ⊢
   clear hW3 hS2 hS hrw hBa hp C0 C1 C2 C3
   have x0:=cr9 0 hrw3
   have x1:=cr9 1 hrw3
   have x2:=cr9 2 hrw3
   have x3:=cr9 3 hrw3
   have xf:=fun j=>fr0 j hrw3
   simp at x0 x1 x2 x3
   have hpw:=some_lt hrw3
   have Hrw3:=Z1 hrw3
   have HS3:=Z1 hS3
   have hlb3:=Hlb2.out
   have hln:(Smp.upTo l i k).length+1<=1000:=by omega
   by_cases h1010:a=1010
   ·subst h1010
    have hpar:Smp.par 1010=1000:=by decide
    have Hst2:Hid (Smp.upTo l i (k+1)=Smp.upTo l i k++[⟨1010,r.kind,r.basis,1000⟩]):=by show _=_;rw [Hst.out,hpar]
    clear hpar
    have hrw4:=heap_setCell_same W3 p 3 _ _ (.int .i64 1000) Hrw3.out
    simp at hrw4
    have hS4:=HS3.out.setCell (p:=⟨p,3,none⟩) hpr (.int .i64 1000)
    obtain⟨W4,hW4⟩:∃ W4,W4=W3.setCell ⟨p,3,none⟩ (.int .i64 1000):=⟨_,rfl⟩
    rw [<- hW4] at hrw4 hS4
    have HW4:=Z1 hW4
    have Hrw4:=Z1 hrw4
    have HS4:=Z1 hS4
    clear hW4 hrw4 hS4
    go_upto_region 18 with(fail)
    rw [<- HW4.out]
    clear x0 x1 x2 x3 xf
    have hrg:=Z1 (range_row (cs:=[.int .i64 1010,.int .i64 r.kind,.int .i64 r.basis,.int .i64 1000]) Hrw4.out)
    have hpw4:=some_lt Hrw4.out
    have hown4:=(pOwns_below Hown2.out HS4.out).alloc (.cells #[.int .i64 1010,.int .i64 r.kind,.int .i64 r.basis,.int .i64 1000] 87)
    have hnew:=cells_new W4 [.int .i64 1010,.int .i64 r.kind,.int .i64 r.basis,.int .i64 1000] 87
    have hone:∀ u∈([.int .i64 1010,.int .i64 r.kind,.int .i64 r.basis,.int .i64 1000]:List Value),u.oneCell'=true:=by simp [Value.oneCell']
    have hq4:W1.heap.size<=W4.heap.size:=by have:=HS4.out.size;omega
    have h63:(Smp.upTo l i k).length+1<=maxLen:=by unfold maxLen;omega
    have h64:((Smp.upTo l i k).length+1)*32<=140737488355328:=by omega
    have h65:W1.heap.size<=(W4.alloc (.cells #[.int .i64 1010,.int .i64 r.kind,.int .i64 r.basis,.int .i64 1000] 87)).heap.size:=by simp;omega
    go_wp2_with (first | (refine wpList_load_mid rfl 87 (.tmp 5) rfl p 0 rfl [.int .i64 1010,.int .i64 r.kind,.int .i64 r.basis,.int .i64 1000] _ hrg.out underlying87 rfl accSize' ?_) | (at_builtin;refine wpList_append_own _ rfl _ _ 24 rfl W1.heap.size 87 i0 (.agg #[.int .i64 0,.int .i64 0,.int .i64 0,.int .i64 0]) 4 32 underlying24 hi0 hz0 hz1 hz2 rfl (by decide) _ _ _ rfl hown4 ⟨W4.heap.size,0,none⟩ 1 1 [.int .i64 1010,.int .i64 r.kind,.int .i64 r.basis,.int .i64 1000] rfl rfl hnew hone h63 h64 h65 ?_))
    intro v' w9 hown' hgrow _
    have hb9:=((hb2.trans (HS4.out.mono hq2)).alloc hq4 (.cells #[.int .i64 1010,.int .i64 r.kind,.int .i64 r.basis,.int .i64 1000] 87)).grown hgrow h65 (own_base hown4)
    have hlb9:=Hlb2.out
    clear hnew hone hown4
    go_wp2
    go_roundw
    case rel=>exact⟨k+1,by omega,by go_num,by rw [Hst2.out,List.length_append];simp;omega,by rw [Hst2.out,accRow_snoc,List.length_append,hz];exact hown',hb9⟩
    case measure=>simp [intOf];omega
   have g1010:(a==1010)=false:=by simp [h1010]
   by_cases h1100:a=1100
   ·subst h1100
    have hpar:Smp.par 1100=1000:=by decide
    have Hst2:Hid (Smp.upTo l i (k+1)=Smp.upTo l i k++[⟨1100,r.kind,r.basis,1000⟩]):=by show _=_;rw [Hst.out,hpar]
    clear hpar
    have hrw4:=heap_setCell_same W3 p 3 _ _ (.int .i64 1000) Hrw3.out
    simp at hrw4
    have hS4:=HS3.out.setCell (p:=⟨p,3,none⟩) hpr (.int .i64 1000)
    obtain⟨W4,hW4⟩:∃ W4,W4=W3.setCell ⟨p,3,none⟩ (.int .i64 1000):=⟨_,rfl⟩
    rw [<- hW4] at hrw4 hS4
    have HW4:=Z1 hW4
    have Hrw4:=Z1 hrw4
    have HS4:=Z1 hS4
    clear hW4 hrw4 hS4
    go_upto_region 18 with(fail)
    rw [<- HW4.out]
    clear x0 x1 x2 x3 xf
    have hrg:=Z1 (range_row (cs:=[.int .i64 1100,.int .i64 r.kind,.int .i64 r.basis,.int .i64 1000]) Hrw4.out)
    have hpw4:=some_lt Hrw4.out
    have hown4:=(pOwns_below Hown2.out HS4.out).alloc (.cells #[.int .i64 1100,.int .i64 r.kind,.int .i64 r.basis,.int .i64 1000] 87)
    have hnew:=cells_new W4 [.int .i64 1100,.int .i64 r.kind,.int .i64 r.basis,.int .i64 1000] 87
    have hone:∀ u∈([.int .i64 1100,.int .i64 r.kind,.int .i64 r.basis,.int .i64 1000]:List Value),u.oneCell'=true:=by simp [Value.oneCell']
    have hq4:W1.heap.size<=W4.heap.size:=by have:=HS4.out.size;omega
    have h63:(Smp.upTo l i k).length+1<=maxLen:=by unfold maxLen;omega
    have h64:((Smp.upTo l i k).length+1)*32<=140737488355328:=by omega
    have h65:W1.heap.size<=(W4.alloc (.cells #[.int .i64 1100,.int .i64 r.kind,.int .i64 r.basis,.int .i64 1000] 87)).heap.size:=by simp;omega
    go_wp2_with (first | (refine wpList_load_mid rfl 87 (.tmp 5) rfl p 0 rfl [.int .i64 1100,.int .i64 r.kind,.int .i64 r.basis,.int .i64 1000] _ hrg.out underlying87 rfl accSize' ?_) | (at_builtin;refine wpList_append_own _ rfl _ _ 24 rfl W1.heap.size 87 i0 (.agg #[.int .i64 0,.int .i64 0,.int .i64 0,.int .i64 0]) 4 32 underlying24 hi0 hz0 hz1 hz2 rfl (by decide) _ _ _ rfl hown4 ⟨W4.heap.size,0,none⟩ 1 1 [.int .i64 1100,.int .i64 r.kind,.int .i64 r.basis,.int .i64 1000] rfl rfl hnew hone h63 h64 h65 ?_))
    intro v' w9 hown' hgrow _
    have hb9:=((hb2.trans (HS4.out.mono hq2)).alloc hq4 (.cells #[.int .i64 1100,.int .i64 r.kind,.int .i64 r.basis,.int .i64 1000] 87)).grown hgrow h65 (own_base hown4)
    have hlb9:=Hlb2.out
    clear hnew hone hown4
    go_wp2
    go_roundw
    case rel=>exact⟨k+1,by omega,by go_num,by rw [Hst2.out,List.length_append];simp;omega,by rw [Hst2.out,accRow_snoc,List.length_append,hz];exact hown',hb9⟩
    case measure=>simp [intOf];omega
   have g1100:(a==1100)=false:=by simp [h1100]
   by_cases h1200:a=1200
   ·subst h1200
    have hpar:Smp.par 1200=1000:=by decide
    have Hst2:Hid (Smp.upTo l i (k+1)=Smp.upTo l i k++[⟨1200,r.kind,r.basis,1000⟩]):=by show _=_;rw [Hst.out,hpar]
    clear hpar
    have hrw4:=heap_setCell_same W3 p 3 _ _ (.int .i64 1000) Hrw3.out
    simp at hrw4
    have hS4:=HS3.out.setCell (p:=⟨p,3,none⟩) hpr (.int .i64 1000)
    obtain⟨W4,hW4⟩:∃ W4,W4=W3.setCell ⟨p,3,none⟩ (.int .i64 1000):=⟨_,rfl⟩
    rw [<- hW4] at hrw4 hS4
    have HW4:=Z1 hW4
    have Hrw4:=Z1 hrw4
    have HS4:=Z1 hS4
    clear hW4 hrw4 hS4
    go_upto_region 18 with(fail)
    rw [<- HW4.out]
    clear x0 x1 x2 x3 xf
    have hrg:=Z1 (range_row (cs:=[.int .i64 1200,.int .i64 r.kind,.int .i64 r.basis,.int .i64 1000]) Hrw4.out)
    have hpw4:=some_lt Hrw4.out
    have hown4:=(pOwns_below Hown2.out HS4.out).alloc (.cells #[.int .i64 1200,.int .i64 r.kind,.int .i64 r.basis,.int .i64 1000] 87)
    have hnew:=cells_new W4 [.int .i64 1200,.int .i64 r.kind,.int .i64 r.basis,.int .i64 1000] 87
    have hone:∀ u∈([.int .i64 1200,.int .i64 r.kind,.int .i64 r.basis,.int .i64 1000]:List Value),u.oneCell'=true:=by simp [Value.oneCell']
    have hq4:W1.heap.size<=W4.heap.size:=by have:=HS4.out.size;omega
    have h63:(Smp.upTo l i k).length+1<=maxLen:=by unfold maxLen;omega
    have h64:((Smp.upTo l i k).length+1)*32<=140737488355328:=by omega
    have h65:W1.heap.size<=(W4.alloc (.cells #[.int .i64 1200,.int .i64 r.kind,.int .i64 r.basis,.int .i64 1000] 87)).heap.size:=by simp;omega
    go_wp2_with (first | (refine wpList_load_mid rfl 87 (.tmp 5) rfl p 0 rfl [.int .i64 1200,.int .i64 r.kind,.int .i64 r.basis,.int .i64 1000] _ hrg.out underlying87 rfl accSize' ?_) | (at_builtin;refine wpList_append_own _ rfl _ _ 24 rfl W1.heap.size 87 i0 (.agg #[.int .i64 0,.int .i64 0,.int .i64 0,.int .i64 0]) 4 32 underlying24 hi0 hz0 hz1 hz2 rfl (by decide) _ _ _ rfl hown4 ⟨W4.heap.size,0,none⟩ 1 1 [.int .i64 1200,.int .i64 r.kind,.int .i64 r.basis,.int .i64 1000] rfl rfl hnew hone h63 h64 h65 ?_))
    intro v' w9 hown' hgrow _
    have hb9:=((hb2.trans (HS4.out.mono hq2)).alloc hq4 (.cells #[.int .i64 1200,.int .i64 r.kind,.int .i64 r.basis,.int .i64 1000] 87)).grown hgrow h65 (own_base hown4)
    have hlb9:=Hlb2.out
    clear hnew hone hown4
    go_wp2
    go_roundw
    case rel=>exact⟨k+1,by omega,by go_num,by rw [Hst2.out,List.length_append];simp;omega,by rw [Hst2.out,accRow_snoc,List.length_append,hz];exact hown',hb9⟩
    case measure=>simp [intOf];omega
   have g1200:(a==1200)=false:=by simp [h1200]
   by_cases h2100:a=2100
   ·subst h2100
    have hpar:Smp.par 2100=2000:=by decide
    have Hst2:Hid (Smp.upTo l i (k+1)=Smp.upTo l i k++[⟨2100,r.kind,r.basis,2000⟩]):=by show _=_;rw [Hst.out,hpar]
    clear hpar
    have hrw4:=heap_setCell_same W3 p 3 _ _ (.int .i64 2000) Hrw3.out
    simp at hrw4
    have hS4:=HS3.out.setCell (p:=⟨p,3,none⟩) hpr (.int .i64 2000)
    obtain⟨W4,hW4⟩:∃ W4,W4=W3.setCell ⟨p,3,none⟩ (.int .i64 2000):=⟨_,rfl⟩
    rw [<- hW4] at hrw4 hS4
    have HW4:=Z1 hW4
    have Hrw4:=Z1 hrw4
    have HS4:=Z1 hS4
    clear hW4 hrw4 hS4
    go_upto_region 18 with(fail)
    rw [<- HW4.out]
    clear x0 x1 x2 x3 xf
    have hrg:=Z1 (range_row (cs:=[.int .i64 2100,.int .i64 r.kind,.int .i64 r.basis,.int .i64 2000]) Hrw4.out)
    have hpw4:=some_lt Hrw4.out
    have hown4:=(pOwns_below Hown2.out HS4.out).alloc (.cells #[.int .i64 2100,.int .i64 r.kind,.int .i64 r.basis,.int .i64 2000] 87)
    have hnew:=cells_new W4 [.int .i64 2100,.int .i64 r.kind,.int .i64 r.basis,.int .i64 2000] 87
    have hone:∀ u∈([.int .i64 2100,.int .i64 r.kind,.int .i64 r.basis,.int .i64 2000]:List Value),u.oneCell'=true:=by simp [Value.oneCell']
    have hq4:W1.heap.size<=W4.heap.size:=by have:=HS4.out.size;omega
    have h63:(Smp.upTo l i k).length+1<=maxLen:=by unfold maxLen;omega
    have h64:((Smp.upTo l i k).length+1)*32<=140737488355328:=by omega
    have h65:W1.heap.size<=(W4.alloc (.cells #[.int .i64 2100,.int .i64 r.kind,.int .i64 r.basis,.int .i64 2000] 87)).heap.size:=by simp;omega
    go_wp2_with (first | (refine wpList_load_mid rfl 87 (.tmp 5) rfl p 0 rfl [.int .i64 2100,.int .i64 r.kind,.int .i64 r.basis,.int .i64 2000] _ hrg.out underlying87 rfl accSize' ?_) | (at_builtin;refine wpList_append_own _ rfl _ _ 24 rfl W1.heap.size 87 i0 (.agg #[.int .i64 0,.int .i64 0,.int .i64 0,.int .i64 0]) 4 32 underlying24 hi0 hz0 hz1 hz2 rfl (by decide) _ _ _ rfl hown4 ⟨W4.heap.size,0,none⟩ 1 1 [.int .i64 2100,.int .i64 r.kind,.int .i64 r.basis,.int .i64 2000] rfl rfl hnew hone h63 h64 h65 ?_))
    intro v' w9 hown' hgrow _
    have hb9:=((hb2.trans (HS4.out.mono hq2)).alloc hq4 (.cells #[.int .i64 2100,.int .i64 r.kind,.int .i64 r.basis,.int .i64 2000] 87)).grown hgrow h65 (own_base hown4)
    have hlb9:=Hlb2.out
    clear hnew hone hown4
    go_wp2
    go_roundw
    case rel=>exact⟨k+1,by omega,by go_num,by rw [Hst2.out,List.length_append];simp;omega,by rw [Hst2.out,accRow_snoc,List.length_append,hz];exact hown',hb9⟩
    case measure=>simp [intOf];omega
   have g2100:(a==2100)=false:=by simp [h2100]
   by_cases h4100:a=4100
   ·subst h4100
    have hpar:Smp.par 4100=4000:=by decide
    have Hst2:Hid (Smp.upTo l i (k+1)=Smp.upTo l i k++[⟨4100,r.kind,r.basis,4000⟩]):=by show _=_;rw [Hst.out,hpar]
    clear hpar
    have hrw4:=heap_setCell_same W3 p 3 _ _ (.int .i64 4000) Hrw3.out
    simp at hrw4
    have hS4:=HS3.out.setCell (p:=⟨p,3,none⟩) hpr (.int .i64 4000)
    obtain⟨W4,hW4⟩:∃ W4,W4=W3.setCell ⟨p,3,none⟩ (.int .i64 4000):=⟨_,rfl⟩
    rw [<- hW4] at hrw4 hS4
    have HW4:=Z1 hW4
    have Hrw4:=Z1 hrw4
    have HS4:=Z1 hS4
    clear hW4 hrw4 hS4
    go_upto_region 18 with(fail)
    rw [<- HW4.out]
    clear x0 x1 x2 x3 xf
    have hrg:=Z1 (range_row (cs:=[.int .i64 4100,.int .i64 r.kind,.int .i64 r.basis,.int .i64 4000]) Hrw4.out)
    have hpw4:=some_lt Hrw4.out
    have hown4:=(pOwns_below Hown2.out HS4.out).alloc (.cells #[.int .i64 4100,.int .i64 r.kind,.int .i64 r.basis,.int .i64 4000] 87)
    have hnew:=cells_new W4 [.int .i64 4100,.int .i64 r.kind,.int .i64 r.basis,.int .i64 4000] 87
    have hone:∀ u∈([.int .i64 4100,.int .i64 r.kind,.int .i64 r.basis,.int .i64 4000]:List Value),u.oneCell'=true:=by simp [Value.oneCell']
    have hq4:W1.heap.size<=W4.heap.size:=by have:=HS4.out.size;omega
    have h63:(Smp.upTo l i k).length+1<=maxLen:=by unfold maxLen;omega
    have h64:((Smp.upTo l i k).length+1)*32<=140737488355328:=by omega
    have h65:W1.heap.size<=(W4.alloc (.cells #[.int .i64 4100,.int .i64 r.kind,.int .i64 r.basis,.int .i64 4000] 87)).heap.size:=by simp;omega
    go_wp2_with (first | (refine wpList_load_mid rfl 87 (.tmp 5) rfl p 0 rfl [.int .i64 4100,.int .i64 r.kind,.int .i64 r.basis,.int .i64 4000] _ hrg.out underlying87 rfl accSize' ?_) | (at_builtin;refine wpList_append_own _ rfl _ _ 24 rfl W1.heap.size 87 i0 (.agg #[.int .i64 0,.int .i64 0,.int .i64 0,.int .i64 0]) 4 32 underlying24 hi0 hz0 hz1 hz2 rfl (by decide) _ _ _ rfl hown4 ⟨W4.heap.size,0,none⟩ 1 1 [.int .i64 4100,.int .i64 r.kind,.int .i64 r.basis,.int .i64 4000] rfl rfl hnew hone h63 h64 h65 ?_))
    intro v' w9 hown' hgrow _
    have hb9:=((hb2.trans (HS4.out.mono hq2)).alloc hq4 (.cells #[.int .i64 4100,.int .i64 r.kind,.int .i64 r.basis,.int .i64 4000] 87)).grown hgrow h65 (own_base hown4)
    have hlb9:=Hlb2.out
    clear hnew hone hown4
    go_wp2
    go_roundw
    case rel=>exact⟨k+1,by omega,by go_num,by rw [Hst2.out,List.length_append];simp;omega,by rw [Hst2.out,accRow_snoc,List.length_append,hz];exact hown',hb9⟩
    case measure=>simp [intOf];omega
   have g4100:(a==4100)=false:=by simp [h4100]
   have hpar:Smp.par a=0:=by simp [Smp.par,h1010,h1100,h1200,h2100,h4100]
   have Hst2:Hid (Smp.upTo l i (k+1)=Smp.upTo l i k++[⟨a,r.kind,r.basis,0⟩]):=by show _=_;rw [Hst.out,hpar]
   clear hpar
   have Hrw4:=Hrw3
   have HS4:=HS3
   obtain⟨W4,hW4⟩:∃ W4,W4=W3:=⟨_,rfl⟩
   rw [<- hW4] at Hrw4 HS4
   have HW4:=Z1 hW4
   clear hW4
   go_upto_region 18 with(fail)
   rw [<- HW4.out]
   clear x0 x1 x2 x3 xf
   have hrg:=Z1 (range_row (cs:=[.int .i64 a,.int .i64 r.kind,.int .i64 r.basis,.int .i64 0]) Hrw4.out)
   have hpw4:=some_lt Hrw4.out
   have hown4:=(pOwns_below Hown2.out HS4.out).alloc (.cells #[.int .i64 a,.int .i64 r.kind,.int .i64 r.basis,.int .i64 0] 87)
   have hnew:=cells_new W4 [.int .i64 a,.int .i64 r.kind,.int .i64 r.basis,.int .i64 0] 87
   have hone:∀ u∈([.int .i64 a,.int .i64 r.kind,.int .i64 r.basis,.int .i64 0]:List Value),u.oneCell'=true:=by simp [Value.oneCell']
   have hq4:W1.heap.size<=W4.heap.size:=by have:=HS4.out.size;omega
   have h63:(Smp.upTo l i k).length+1<=maxLen:=by unfold maxLen;omega
   have h64:((Smp.upTo l i k).length+1)*32<=140737488355328:=by omega
   have h65:W1.heap.size<=(W4.alloc (.cells #[.int .i64 a,.int .i64 r.kind,.int .i64 r.basis,.int .i64 0] 87)).heap.size:=by simp;omega
   go_wp2_with (first | (refine wpList_load_mid rfl 87 (.tmp 5) rfl p 0 rfl [.int .i64 a,.int .i64 r.kind,.int .i64 r.basis,.int .i64 0] _ hrg.out underlying87 rfl accSize' ?_) | (at_builtin;refine wpList_append_own _ rfl _ _ 24 rfl W1.heap.size 87 i0 (.agg #[.int .i64 0,.int .i64 0,.int .i64 0,.int .i64 0]) 4 32 underlying24 hi0 hz0 hz1 hz2 rfl (by decide) _ _ _ rfl hown4 ⟨W4.heap.size,0,none⟩ 1 1 [.int .i64 a,.int .i64 r.kind,.int .i64 r.basis,.int .i64 0] rfl rfl hnew hone h63 h64 h65 ?_))
   intro v' w9 hown' hgrow _
   have hb9:=((hb2.trans (HS4.out.mono hq2)).alloc hq4 (.cells #[.int .i64 a,.int .i64 r.kind,.int .i64 r.basis,.int .i64 0] 87)).grown hgrow h65 (own_base hown4)
   have hlb9:=Hlb2.out
   clear hnew hone hown4
   go_wp2
   go_roundw
   case rel=>exact⟨k+1,by omega,by go_num,by rw [Hst2.out,List.length_append];simp;omega,by rw [Hst2.out,accRow_snoc,List.length_append,hz];exact hown',hb9⟩
   case measure=>simp [intOf];omega
end
end Go.Proofs.YtniaimjknmhapaaGreatDoor
namespace Go.Proofs.YtniaimjknmhapaaGreatDoor
open Go.Proofs.Tryz Go.RowKit
namespace Smp
def tos:List Int:=[1010,1100,1200,1300,1500,2000,2100,3000,3300,4000,4100,4700,5000,5100]
def kinds:List Int:=[1,1,1,1,1,2,2,3,3,4,4,4,5,5]
def echart:List Acc:=(List.range 14).map (fun(i:Nat)=>⟨10*((i:Int)+1),kinds.getD i 0,0,0⟩)
def elinks:List Lnk:=(List.range 14).map (fun(i:Nat)=>⟨10*((i:Int)+1),tos.getD i 0,-25567⟩)
theorem echart_at {i:Nat} (h:i<14):echart.take (i+1)=echart.take i++[⟨10*((i:Int)+1),kinds.getD i 0,0,0⟩]:=by
 have hl:i<echart.length:=h
 rw [List.take_succ_eq_append_getElem hl]
 simp [echart]
theorem elinks_at {i:Nat} (h:i<14):elinks.take (i+1)=elinks.take i++[⟨10*((i:Int)+1),tos.getD i 0,-25567⟩]:=by
 have hl:i<elinks.length:=h
 rw [List.take_succ_eq_append_getElem hl]
 simp [elinks]
end Smp
def lnkRow (l:List Lnk):List Value:=l.flatMap Lnk.cells
theorem lnkRow_snoc (l:List Lnk) (x:Lnk):lnkRow (l++[x])=lnkRow l++x.cells:=by simp [lnkRow]
theorem own_ne_type {W:World} {b1 b2 s1 s2 n1 n2:Nat} {v1 v2:Value} {e1 e2:TypeId} {x1 x2:List Value} (h1:W.ownsRow b1 e1 s1 v1 n1 x1) (h2:W.ownsRow b2 e2 s2 v2 n2 x2) (he:e1≠e2):v1.ownBlock=none∨v1.ownBlock≠v2.ownBlock:=by
 rcases h1.2 with⟨rfl,_⟩ | ⟨g,cap,cur,rfl,_,hg,_⟩
 ·exact .inl rfl
 ·rcases h2.2 with⟨rfl,_⟩ | ⟨g',cap',cur',rfl,_,hg',_⟩
  ·right;simp [Value.ownBlock]
  ·right
   simp only [Value.ownBlock,ne_eq,Option.some.injEq]
   intro e
   subst e
   rw [hg] at hg'
   cases hg'
   exact he rfl
theorem own_one {W:World} {b s n:Nat} {v:Value} {e:TypeId} {x:List Value} (h:W.ownsRow b e s v n x):∃ A c,v=.slice A n c:=by
 rcases h.2 with⟨rfl,rfl⟩ | ⟨g,cap,cur,rfl,_⟩
 ·exact⟨_,_,rfl⟩
 ·exact⟨_,_,rfl⟩
theorem grown_refl' (w:World) {row:Option Nat}:w.grownBy w row:=⟨rfl,rfl,rfl,Nat.le_refl _,fun _ _ _=>rfl⟩
theorem grown_setE {a w:World} {g:Nat} (h:a.grownBy w (some g)) (i:Nat) (u:Value):a.grownBy (w.setCell ⟨g,i,none⟩ u) (some g) :=
 ⟨h.os,h.tape,h.output,by simpa [World.setCell] using h.size,fun k hk hne=>(Below.heap_setCell w ⟨g,i,none⟩ u k (fun e=>hne (by rw [e]))).trans (h.block k hk hne)⟩
theorem own_ne_box {W:World} {n s m:Nat} {v:Value} {e:TypeId} {x:List Value} (h:W.ownsRow (n+4) e s v m x):v.ownBlock=none∨v.ownBlock≠some (n+3):=by
 rcases h.2 with⟨rfl,_⟩ | ⟨g,cap,cur,rfl,hg,_⟩
 ·exact .inl rfl
 ·right;simp [Value.ownBlock];omega
def SampleEntPost (name cur:ByteArray) (w:World) (e:Ending) (w':World):Prop:=Below w.heap.size w w'/\∃ A c L d,e=.returned (.agg #[.string name,.string cur,.slice A 14 c,.slice L 14 d,.bool false])/\Fresh w.heap.size A/\Fresh w.heap.size L/\AccsAt w' w'.heap.size A Smp.echart/\LnksAt w' w'.heap.size L Smp.elinks
section
variable (w:World)
theorem sent_any (name cur:ByteArray):Calls prog 40 #[.string name,.string cur] w (SampleEntPost name cur w):=by
 obtain⟨ia,hia,ha0,ha1,ha2⟩:=info_parts accInfo
 obtain⟨il,hil,hl0,hl1,hl2⟩:=info_parts lnkInfo
 obtain⟨hB1,hz,hblk⟩:=allocs_spec [(.cells #[.string ⟨#[]⟩,.string ⟨#[]⟩,.slice none 0 0,.slice none 0 0,.bool false] 102),(.cells #[.int .i64 1010,.int .i64 1100,.int .i64 1200,.int .i64 1300,.int .i64 1500,.int .i64 2000,.int .i64 2100,.int .i64 3000,.int .i64 3300,.int .i64 4000,.int .i64 4100,.int .i64 4700,.int .i64 5000,.int .i64 5100] 3),(.cells #[.int .i64 1,.int .i64 1,.int .i64 1,.int .i64 1,.int .i64 1,.int .i64 2,.int .i64 2,.int .i64 3,.int .i64 3,.int .i64 4,.int .i64 4,.int .i64 4,.int .i64 5,.int .i64 5] 3),(.cells #[.string name,.string cur,.slice none 0 0,.slice none 0 0,.bool false] 102)] w
 change Below w.heap.size w ((((w.alloc (.cells #[.string ⟨#[]⟩,.string ⟨#[]⟩,.slice none 0 0,.slice none 0 0,.bool false] 102)).alloc (.cells #[.int .i64 1010,.int .i64 1100,.int .i64 1200,.int .i64 1300,.int .i64 1500,.int .i64 2000,.int .i64 2100,.int .i64 3000,.int .i64 3300,.int .i64 4000,.int .i64 4100,.int .i64 4700,.int .i64 5000,.int .i64 5100] 3)).alloc (.cells #[.int .i64 1,.int .i64 1,.int .i64 1,.int .i64 1,.int .i64 1,.int .i64 2,.int .i64 2,.int .i64 3,.int .i64 3,.int .i64 4,.int .i64 4,.int .i64 4,.int .i64 5,.int .i64 5] 3)).alloc (.cells #[.string name,.string cur,.slice none 0 0,.slice none 0 0,.bool false] 102)) at hB1
 change ((((w.alloc (.cells #[.string ⟨#[]⟩,.string ⟨#[]⟩,.slice none 0 0,.slice none 0 0,.bool false] 102)).alloc (.cells #[.int .i64 1010,.int .i64 1100,.int .i64 1200,.int .i64 1300,.int .i64 1500,.int .i64 2000,.int .i64 2100,.int .i64 3000,.int .i64 3300,.int .i64 4000,.int .i64 4100,.int .i64 4700,.int .i64 5000,.int .i64 5100] 3)).alloc (.cells #[.int .i64 1,.int .i64 1,.int .i64 1,.int .i64 1,.int .i64 1,.int .i64 2,.int .i64 2,.int .i64 3,.int .i64 3,.int .i64 4,.int .i64 4,.int .i64 4,.int .i64 5,.int .i64 5] 3)).alloc (.cells #[.string name,.string cur,.slice none 0 0,.slice none 0 0,.bool false] 102)).heap.size=w.heap.size+4 at hz
 change ∀(i:Nat) (o:Obj),_->((((w.alloc (.cells #[.string ⟨#[]⟩,.string ⟨#[]⟩,.slice none 0 0,.slice none 0 0,.bool false] 102)).alloc (.cells #[.int .i64 1010,.int .i64 1100,.int .i64 1200,.int .i64 1300,.int .i64 1500,.int .i64 2000,.int .i64 2100,.int .i64 3000,.int .i64 3300,.int .i64 4000,.int .i64 4100,.int .i64 4700,.int .i64 5000,.int .i64 5100] 3)).alloc (.cells #[.int .i64 1,.int .i64 1,.int .i64 1,.int .i64 1,.int .i64 1,.int .i64 2,.int .i64 2,.int .i64 3,.int .i64 3,.int .i64 4,.int .i64 4,.int .i64 4,.int .i64 5,.int .i64 5] 3)).alloc (.cells #[.string name,.string cur,.slice none 0 0,.slice none 0 0,.bool false] 102)).heap[w.heap.size+i]?=some o at hblk
 obtain⟨W1,hW1⟩:∃ W1,W1=((((w.alloc (.cells #[.string ⟨#[]⟩,.string ⟨#[]⟩,.slice none 0 0,.slice none 0 0,.bool false] 102)).alloc (.cells #[.int .i64 1010,.int .i64 1100,.int .i64 1200,.int .i64 1300,.int .i64 1500,.int .i64 2000,.int .i64 2100,.int .i64 3000,.int .i64 3300,.int .i64 4000,.int .i64 4100,.int .i64 4700,.int .i64 5000,.int .i64 5100] 3)).alloc (.cells #[.int .i64 1,.int .i64 1,.int .i64 1,.int .i64 1,.int .i64 1,.int .i64 2,.int .i64 2,.int .i64 3,.int .i64 3,.int .i64 4,.int .i64 4,.int .i64 4,.int .i64 5,.int .i64 5] 3)).alloc (.cells #[.string name,.string cur,.slice none 0 0,.slice none 0 0,.bool false] 102)):=⟨_,rfl⟩
 rw [<- hW1] at hB1 hz hblk
 have HW1:=Z1 hW1
 have Hres:=Z1 (show W1.heap[w.heap.size]?=some _ from hblk 0 _ rfl)
 have Hto:=Z1 (hblk 1 _ rfl)
 have Hkd:=Z1 (hblk 2 _ rfl)
 have Hbox:=Z1 (hblk 3 _ rfl)
 have Hz:=Z1 hz
 have HB1:=Z1 hB1
 have hkc:∀(W:World) (i:Nat),Below (w.heap.size+3) W1 W->i<14->W.cell? ⟨w.heap.size+2,i,none⟩=some (.int .i64 (Smp.kinds.getD i 0)):=fun W i hW hi=>by
  rw [hW.cell (p:=⟨w.heap.size+2,i,none⟩) (by show w.heap.size+2<_;omega),cr9 _ Hkd.out]
  match i,hi with
  | 0,_=>rfl
  | 1,_=>rfl
  | 2,_=>rfl
  | 3,_=>rfl
  | 4,_=>rfl
  | 5,_=>rfl
  | 6,_=>rfl
  | 7,_=>rfl
  | 8,_=>rfl
  | 9,_=>rfl
  | 10,_=>rfl
  | 11,_=>rfl
  | 12,_=>rfl
  | 13,_=>rfl
 have htc:∀(W:World) (i:Nat),Below (w.heap.size+3) W1 W->i<14->W.cell? ⟨w.heap.size+1,i,none⟩=some (.int .i64 (Smp.tos.getD i 0)):=fun W i hW hi=>by
  rw [hW.cell (p:=⟨w.heap.size+1,i,none⟩) (by show w.heap.size+1<_;omega),cr9 _ Hto.out]
  match i,hi with
  | 0,_=>rfl
  | 1,_=>rfl
  | 2,_=>rfl
  | 3,_=>rfl
  | 4,_=>rfl
  | 5,_=>rfl
  | 6,_=>rfl
  | 7,_=>rfl
  | 8,_=>rfl
  | 9,_=>rfl
  | 10,_=>rfl
  | 11,_=>rfl
  | 12,_=>rfl
  | 13,_=>rfl
 have Hkc:=Z1 hkc
 have Htc:=Z1 htc
 clear hW1 hblk hz hB1 hkc htc
 go_enter func40,ntmps40
 go_upto_region 4 with(fail)
 rw [<- HW1.out]
 go_wp2
 go_loopw [8] (fun s wr=>∃(i:Nat) (v1 v2:Value),i<=14/\s=.int .i64 i/\wr.heap[w.heap.size+3]?=some (.cells #[.string name,.string cur,v1,v2,.bool false] 102 (0,0)) /\
  wr.ownsRow (w.heap.size+4) 87 4 v1 i (accRow (Smp.echart.take i))/\wr.ownsRow (w.heap.size+4) 150 3 v2 i (lnkRow (Smp.elinks.take i))/\Below (w.heap.size+3) W1 wr) (fun s _=>14-(intOf s).toNat)
 case atStart=>exact⟨0,_,_,by omega,rfl,Hbox.out,World.ownsRow_nil _ _ _ _,World.ownsRow_nil _ _ _ _,Below.refl _ _⟩
 case round =>
  obtain⟨i,v1,v2,hi,rfl,hbx,how1,how2,hb⟩:=hrel
  have Hbx:=Z1 hbx
  have Hown1:=Z1 how1
  have Hown2:=Z1 how2
  have hqq:=some_lt hbx
  clear hbx how1 how2
  by_cases hlt:i<14
  case neg =>
   obtain rfl:i=14:=by omega
   have x2:=Hbx.out
   obtain⟨A1,c1,rfl⟩:=own_one Hown1.out
   obtain⟨A2,c2,rfl⟩:=own_one Hown2.out
   have o1:=Hown1.out
   have o2:=Hown2.out
   rw [show Smp.echart.take 14=Smp.echart from rfl] at o1
   rw [show Smp.elinks.take 14=Smp.elinks from rfl] at o2
   obtain⟨A1',c1',e1,r1⟩:=own_flat (f:=Acc.cells) (by decide) (fun _=>rfl) o1 rfl
   obtain⟨A2',c2',e2,r2⟩:=own_flat (f:=Lnk.cells) (by decide) (fun _=>rfl) o2 rfl
   cases e1
   cases e2
   have f1:=own_fresh o1
   have f2:=own_fresh o2
   have hrg:=Z1 (range_row (cs:=[.string name,.string cur,.slice A1 14 c1,.slice A2 14 c2,.bool false]) x2)
   have hres:=(hb.block w.heap.size (by omega)).trans Hres.out
   have Hr:=Z1 hres
   have hR:=setRow_heap wr w.heap.size _ #[.string name,.string cur,.slice A1 14 c1,.slice A2 14 c2,.bool false] _ _ hres
   have hload:=Z1 (run_loadVar_row (P:=prog) _ _ _ 102 _ _ _ hR underlying102 rfl entSize)
   have Ho:Hid ((#[.string name,.string cur,.slice A1 14 c1,.slice A2 14 c2,.bool false]:Array Value).all (·.oneCell')=true):=by show _=true;simp [Value.oneCell']
   have hbw:=HB1.out.trans (hb.mono (show w.heap.size<=w.heap.size+3 by omega))
   have hBF:=Z1 (below_setRow hbw (Nat.le_refl _) #[.string name,.string cur,.slice A1 14 c1,.slice A2 14 c2,.bool false])
   have R1:=Z1 (RowsAt.other_row r1 f1 (show w.heap.size<w.heap.size+4 by omega) #[.string name,.string cur,.slice A1 14 c1,.slice A2 14 c2,.bool false])
   have R2:=Z1 (RowsAt.other_row r2 f2 (show w.heap.size<w.heap.size+4 by omega) #[.string name,.string cur,.slice A1 14 c1,.slice A2 14 c2,.bool false])
   have F1:=Z1 f1
   have F2:=Z1 f2
   clear o1 o2 r1 r2 f1 f2 x2 hres hR hbw
   go_wp2_with (first | (refine wpList_load_mid rfl 102 (.tmp 7) rfl (w.heap.size+3) 0 rfl [.string name,.string cur,.slice A1 14 c1,.slice A2 14 c2,.bool false] _ hrg.out underlying102 rfl entSize ?_) | (refine wpList_store_row rfl 102 (.tmp 4) (.tmp 46) none rfl rfl w.heap.size 102 _ #[.string name,.string cur,.slice A1 14 c1,.slice A2 14 c2,.bool false] rfl rfl Hr.out rfl entSize Ho.out ?_))
   exact bodyPost_ret (v:=.agg #[.string name,.string cur,.slice A1 14 c1,.slice A2 14 c2,.bool false]) (by simp [results,results40,asAddr,Act.put,hload.out]) rfl ⟨hBF.out,A1,c1,A2,c2,rfl,(fun ad h=>Nat.le_trans (by omega) (F1.out ad h)),(fun ad h=>Nat.le_trans (by omega) (F2.out ad h)),R1.out,R2.out⟩
  have hi0':(0:Int)<=(i:Int):=by omega
  have hi1':(i:Int)<14:=by omega
  have hw1:IntKind.i64.wrap ((i:Int)+1)=(i:Int)+1:=by rw [IntKind.wrap_i64];omega
  have hw2:IntKind.i64.wrap (10*((i:Int)+1))=10*((i:Int)+1):=by rw [IntKind.wrap_i64];omega
  have hw3:wrap64 ((i:Int)+1)=(i:Int)+1:=IntWalk.wrap64_in _ (by omega)
  have hw4:wrap64 (10*((i:Int)+1))=10*((i:Int)+1):=IntWalk.wrap64_in _ (by omega)
  obtain⟨kd,hkd⟩:∃ kd,kd=Smp.kinds.getD i 0:=⟨_,rfl⟩
  obtain⟨td,htd⟩:∃ td,td=Smp.tos.getD i 0:=⟨_,rfl⟩
  have hck:∀ W,Below (w.heap.size+3) W1 W->W.cell? ⟨w.heap.size+2,i,none⟩=some (.int .i64 kd):=fun W hW=>by rw [hkd];exact Hkc.out W i hW hlt
  have hct:∀ W,Below (w.heap.size+3) W1 W->W.cell? ⟨w.heap.size+1,i,none⟩=some (.int .i64 td):=fun W hW=>by rw [htd];exact Htc.out W i hW hlt
  have HEa:Hid (Smp.echart.take (i+1)=Smp.echart.take i++[⟨10*((i:Int)+1),kd,0,0⟩]):=by show _=_;rw [hkd];exact Smp.echart_at hlt
  have HEl:Hid (Smp.elinks.take (i+1)=Smp.elinks.take i++[⟨10*((i:Int)+1),td,-25567⟩]):=by show _=_;rw [htd];exact Smp.elinks_at hlt
  have Hck:=Z1 hck
  have Hct:=Z1 hct
  clear hkd htd hck hct
  have hbA:=hb
  go_upto_region 7 with(fail)
  have hSA:Below (w.heap.size+3) W1 wr.drew:=below_drawn hbA 1
  have hVA:Below wr.heap.size wr wr.drew:=below_drawn (Below.refl _ _) 1
  refine wp_region_held (S:=Below (w.heap.size+3) W1) (by kernel_rfl) ?_
  change wpAnyH _ _ _ _ _ _ _ _ (World.drew wr)
  obtain⟨W0A,hWd⟩:∃ W0,W0=wr.drew:=⟨_,rfl⟩
  rw [<- hWd] at hSA hVA ⊢
  clear hWd
  refine tk (i:=0) (v:=.pointer (some ⟨w.heap.size+3,2,none⟩)) rfl (.inl ⟨by rfl,fun W' hS'=>by go_simp⟩) hSA ?_
  try simp only [z]
  refine tk (i:=2) (v:=.int .i64 i) rfl (.inl ⟨by rfl,fun W' hS'=>by go_simp⟩) hSA ?_
  try simp only [z]
  refine tk (i:=3) (v:=.int .i64 ((i:Int)+1)) rfl (.inl ⟨by rfl,fun W' hS'=>by go_simp⟩) hSA ?_
  try simp only [z]
  refine tk (i:=4) (v:=.int .i64 (10*((i:Int)+1))) rfl (.inl ⟨by rfl,fun W' hS'=>by go_simp⟩) hSA ?_
  try simp only [z]
  refine tk (i:=5) (v:=.slice (some ⟨w.heap.size+2,0,none⟩) 14 14) rfl (.inl ⟨by rfl,fun W' hS'=>by go_simp⟩) hSA ?_
  try simp only [z]
  refine tk (i:=6) (v:=.int .i64 i) rfl (.inl ⟨by rfl,fun W' hS'=>by go_simp⟩) hSA ?_
  try simp only [z]
  refine tk (i:=7) (v:=.pointer (some ⟨w.heap.size+2,i,none⟩)) rfl (.inl ⟨by rfl,fun W' hS'=>by go_simp⟩) hSA ?_
  try simp only [z]
  refine tk (i:=8) (v:=.int .i64 (kd)) rfl (.inl ⟨by rfl,fun W' hS'=>by have hc:=Hck.out W' hS';go_simp⟩) hSA ?_
  try simp only [z]
  refine tk (i:=9) (v:=.agg #[.int .i64 (10*((i:Int)+1)),.int .i64 kd,.int .i64 0,.int .i64 0]) rfl (.inl ⟨by rfl,fun W' hS'=>by go_simp⟩) hSA ?_
  try simp only [z]
  refine wpAnyH_letters fun md' ops' Q' a' hlm hlo hlq hla=>?_
  have fin:∀(W':World) (p:Nat),Below wr.heap.size wr W'->Below (w.heap.size+3) W1 W'->W'.heap[p]?=some (.cells #[.int .i64 (10*((i:Int)+1)),.int .i64 kd,.int .i64 0,.int .i64 0] 87 (0,0))->wpAnyH prog md' ops' Q' (Below (w.heap.size+3) W1) 3 #[true,true,true,true,true,true,true,true,true,true,true,false,false,false] ((a'.put (some 21) v1).put (some 30) (.slice (some ⟨p,0,none⟩) 1 1)) W':=by
   intro W' p hV hS hrw
   subst hlm hlo hlq hla
   try simp only [z]
   have how:=pOwns_below Hown1.out hV
   have hoo:=pOwns_below Hown2.out hV
   have hbx:=gbox Hbx.out hV (some_lt Hbx.out)
   have hnew:∀ j u,([.int .i64 (10*((i:Int)+1)),.int .i64 kd,.int .i64 0,.int .i64 0]:List Value)[j]?=some u->W'.cell? ((⟨p,0,none⟩:Addr).add j)=some u:=fun j u hj=>by rw [Addr.add_mid,Nat.zero_add,cr9 _ hrw];simpa using hj
   have hone:∀ u∈([.int .i64 (10*((i:Int)+1)),.int .i64 kd,.int .i64 0,.int .i64 0]:List Value),u.oneCell'=true:=by simp [Value.oneCell']
   have h65:w.heap.size+4<=W'.heap.size:=some_lt hbx
   refine rd9 11 (by kernel_rfl) rfl (fun K hK=>?_)
   refine wp_append_own W' _ _ 24 rfl (w.heap.size+4) 87 ia (.agg #[.int .i64 0,.int .i64 0,.int .i64 0,.int .i64 0]) 4 32 underlying24 hia ha0 ha1 ha2 rfl (by decide) v1 i _ rfl how ⟨p,0,none⟩ 1 1 [.int .i64 (10*((i:Int)+1)),.int .i64 kd,.int .i64 0,.int .i64 0] rfl rfl hnew hone (by unfold maxLen;omega) (by omega) h65 ?_
   intro v' W4 hown' hgrow _
   have hS4:=hS.grown hgrow (by omega) (fun k hk=>Nat.le_trans (by omega) (own_base how k hk))
   have hbx4:=(hgrow.block _ (some_lt hbx) (fun e'=>row_not (t:=102) how e'.symm hbx (by decide))).trans hbx
   have hoo4:=hoo.kept hgrow (own_ne_type hoo how (by decide))
   refine hK.out _ _ hS4 (fun _=>?_)
   clear hK K
   try simp only [z]
   clear hnew hone how hoo hbx hrw
   refine tk (i:=12) (v:=.pointer (some ⟨w.heap.size+3,2,none⟩)) rfl (.inl ⟨by rfl,fun W' hS'=>by go_simp⟩) hS4 ?_
   try simp only [z]
   refine rd9 13 (by kernel_rfl) rfl (fun K hK=>?_)
   have xc:=cr9 2 hbx4
   have xf:=fun j=>fr0 j hbx4
   simp at xc
   have xlt:=some_lt hbx4
   have hbx5:=heap_setCell_same W4 (w.heap.size+3) 2 _ _ v' hbx4
   simp at hbx5
   have hS5:=hS4.setCell (p:=⟨w.heap.size+3,2,none⟩) (Nat.le_refl _) v'
   have own5:=hown'.kept (row:=some (w.heap.size+3)) (grown_setE (grown_refl' W4) 2 v') (own_ne_box hown')
   have oth5:=hoo4.kept (row:=some (w.heap.size+3)) (grown_setE (grown_refl' W4) 2 v') (own_ne_box hoo4)
   obtain⟨Av,cv,rfl⟩:=own_one hown'
   go_simp
   obtain⟨W5,hW5⟩:∃ W5,W5=W4.setCell ⟨w.heap.size+3,2,none⟩ (.slice Av (i+1) cv):=⟨_,rfl⟩
   rw [<- hW5] at hbx5 hS5 own5 oth5 ⊢
   clear hW5
   refine hK.out _ _ hS5 (fun _=>?_)
   clear hK K
   try simp only [z]
   refine wpAnyH_done (by kernel_rfl) ?_ _
   try simp only [z]
   have own6:W5.ownsRow (w.heap.size+4) 87 4 (.slice Av (i+1) cv) (i+1) (accRow (Smp.echart.take (i+1))):=by rw [HEa.out,accRow_snoc];exact own5
   have Hbx5:=Z1 hbx5
   have Hown6:=Z1 own6
   have Hoth5:=Z1 oth5
   clear hbx5 own5 own6 oth5 hown' hgrow hS4 hbx4 hoo4 xc xf xlt
   have hbB:=hS5
   have hqB:=some_lt Hbx5.out
   go_upto_region 8 with(fail)
   have hSB:Below (w.heap.size+3) W1 W5.drew:=below_drawn hbB 1
   have hVB:Below W5.heap.size W5 W5.drew:=below_drawn (Below.refl _ _) 1
   refine wp_region_held (S:=Below (w.heap.size+3) W1) (by kernel_rfl) ?_
   change wpAnyH _ _ _ _ _ _ _ _ (World.drew W5)
   obtain⟨W0B,hWd⟩:∃ W0,W0=W5.drew:=⟨_,rfl⟩
   rw [<- hWd] at hSB hVB ⊢
   clear hWd
   refine tk (i:=0) (v:=.pointer (some ⟨w.heap.size+3,3,none⟩)) rfl (.inl ⟨by rfl,fun W' hS'=>by go_simp⟩) hSB ?_
   try simp only [z]
   refine tk (i:=2) (v:=.int .i64 i) rfl (.inl ⟨by rfl,fun W' hS'=>by go_simp⟩) hSB ?_
   try simp only [z]
   refine tk (i:=3) (v:=.int .i64 ((i:Int)+1)) rfl (.inl ⟨by rfl,fun W' hS'=>by go_simp⟩) hSB ?_
   try simp only [z]
   refine tk (i:=4) (v:=.int .i64 (10*((i:Int)+1))) rfl (.inl ⟨by rfl,fun W' hS'=>by go_simp⟩) hSB ?_
   try simp only [z]
   refine tk (i:=5) (v:=.slice (some ⟨w.heap.size+1,0,none⟩) 14 14) rfl (.inl ⟨by rfl,fun W' hS'=>by go_simp⟩) hSB ?_
   try simp only [z]
   refine tk (i:=6) (v:=.int .i64 i) rfl (.inl ⟨by rfl,fun W' hS'=>by go_simp⟩) hSB ?_
   try simp only [z]
   refine tk (i:=7) (v:=.pointer (some ⟨w.heap.size+1,i,none⟩)) rfl (.inl ⟨by rfl,fun W' hS'=>by go_simp⟩) hSB ?_
   try simp only [z]
   refine tk (i:=8) (v:=.int .i64 (td)) rfl (.inl ⟨by rfl,fun W' hS'=>by have hc:=Hct.out W' hS';go_simp⟩) hSB ?_
   try simp only [z]
   refine tk (i:=9) (v:=.agg #[.int .i64 (10*((i:Int)+1)),.int .i64 td,.int .i64 (-25567)]) rfl (.inl ⟨by rfl,fun W' hS'=>by go_simp⟩) hSB ?_
   try simp only [z]
   refine wpAnyH_letters fun md' ops' Q' a' hlm hlo hlq hla=>?_
   have fin:∀(W':World) (p:Nat),Below W5.heap.size W5 W'->Below (w.heap.size+3) W1 W'->W'.heap[p]?=some (.cells #[.int .i64 (10*((i:Int)+1)),.int .i64 td,.int .i64 (-25567)] 150 (0,0))->wpAnyH prog md' ops' Q' (Below (w.heap.size+3) W1) 3 #[true,true,true,true,true,true,true,true,true,true,true,false,false,false] ((a'.put (some 34) v2).put (some 43) (.slice (some ⟨p,0,none⟩) 1 1)) W':=by
    intro W' p hV hS hrw
    subst hlm hlo hlq hla
    try simp only [z]
    have how:=pOwns_below Hoth5.out hV
    have hoo:=pOwns_below Hown6.out hV
    have hbx:=gbox Hbx5.out hV (some_lt Hbx5.out)
    have hnew:∀ j u,([.int .i64 (10*((i:Int)+1)),.int .i64 td,.int .i64 (-25567)]:List Value)[j]?=some u->W'.cell? ((⟨p,0,none⟩:Addr).add j)=some u:=fun j u hj=>by rw [Addr.add_mid,Nat.zero_add,cr9 _ hrw];simpa using hj
    have hone:∀ u∈([.int .i64 (10*((i:Int)+1)),.int .i64 td,.int .i64 (-25567)]:List Value),u.oneCell'=true:=by simp [Value.oneCell']
    have h65:w.heap.size+4<=W'.heap.size:=some_lt hbx
    refine rd9 11 (by kernel_rfl) rfl (fun K hK=>?_)
    refine wp_append_own W' _ _ 100 rfl (w.heap.size+4) 150 il (.agg #[.int .i64 0,.int .i64 0,.int .i64 0]) 3 24 underlying100 hil hl0 hl1 hl2 rfl (by decide) v2 i _ rfl how ⟨p,0,none⟩ 1 1 [.int .i64 (10*((i:Int)+1)),.int .i64 td,.int .i64 (-25567)] rfl rfl hnew hone (by unfold maxLen;omega) (by omega) h65 ?_
    intro v' W4 hown' hgrow _
    have hS4:=hS.grown hgrow (by omega) (fun k hk=>Nat.le_trans (by omega) (own_base how k hk))
    have hbx4:=(hgrow.block _ (some_lt hbx) (fun e'=>row_not (t:=102) how e'.symm hbx (by decide))).trans hbx
    have hoo4:=hoo.kept hgrow (own_ne_type hoo how (by decide))
    refine hK.out _ _ hS4 (fun _=>?_)
    clear hK K
    try simp only [z]
    clear hnew hone how hoo hbx hrw
    refine tk (i:=12) (v:=.pointer (some ⟨w.heap.size+3,3,none⟩)) rfl (.inl ⟨by rfl,fun W' hS'=>by go_simp⟩) hS4 ?_
    try simp only [z]
    refine rd9 13 (by kernel_rfl) rfl (fun K hK=>?_)
    have xc:=cr9 3 hbx4
    have xf:=fun j=>fr0 j hbx4
    simp at xc
    have xlt:=some_lt hbx4
    have hbx5:=heap_setCell_same W4 (w.heap.size+3) 3 _ _ v' hbx4
    simp at hbx5
    have hS5:=hS4.setCell (p:=⟨w.heap.size+3,3,none⟩) (Nat.le_refl _) v'
    have own5:=hown'.kept (row:=some (w.heap.size+3)) (grown_setE (grown_refl' W4) 3 v') (own_ne_box hown')
    have oth5:=hoo4.kept (row:=some (w.heap.size+3)) (grown_setE (grown_refl' W4) 3 v') (own_ne_box hoo4)
    obtain⟨Av,cv,rfl⟩:=own_one hown'
    go_simp
    obtain⟨W5,hW5⟩:∃ W5,W5=W4.setCell ⟨w.heap.size+3,3,none⟩ (.slice Av (i+1) cv):=⟨_,rfl⟩
    rw [<- hW5] at hbx5 hS5 own5 oth5 ⊢
    clear hW5
    refine hK.out _ _ hS5 (fun _=>?_)
    clear hK K
    try simp only [z]
    refine wpAnyH_done (by kernel_rfl) ?_ _
    try simp only [z]
    have own6:W5.ownsRow (w.heap.size+4) 150 3 (.slice Av (i+1) cv) (i+1) (lnkRow (Smp.elinks.take (i+1))):=by rw [HEl.out,lnkRow_snoc];exact own5
    have Hbx5:=Z1 hbx5
    have Hown6:=Z1 own6
    have Hoth5:=Z1 oth5
    clear hbx5 own5 own6 oth5 hown' hgrow hS4 hbx4 hoo4 xc xf xlt
    go_wp2
    go_roundw
    case rel=>exact⟨i+1,_,_,by omega,by go_num,Hbx5.out,Hoth5.out,Hown6.out,hS5⟩
    case measure=>simp [intOf];omega
   subst hlm hlo hlq hla
   have hbq:=gbox Hbx5.out hVB (some_lt Hbx5.out)
   have xq:=cr9 3 hbq
   simp at xq
   have xql:=some_lt hbq
   refine wpAnyH_ready (rs:=[1,10]) (by kernel_rfl) (by simp) (AllReadyH.cons rfl (fun K hK=>?_) (AllReadyH.cons rfl (fun K hK=>?_) AllReadyH.nil))
   ·skip
    go_simp
    refine hK.out _ _ hSB (fun _=>?_)
    clear hK K
    try simp only [z]
    refine rd9 10 (by kernel_rfl) rfl (fun K hK=>?_)
    obtain⟨hBa,hrw,_⟩:=row_new W0B #[.int .i64 (10*((i:Int)+1)),.int .i64 td,.int .i64 (-25567)] 150
    go_simp
    obtain⟨W6,hWn⟩:∃ W6,W6=W0B.alloc (.cells #[.int .i64 (10*((i:Int)+1)),.int .i64 td,.int .i64 (-25567)] 150):=⟨_,rfl⟩
    rw [<- hWn] at hBa hrw ⊢
    clear hWn
    have hV6:=hVB.trans (hBa.mono hVB.size)
    have hS6:=hSB.trans (hBa.mono (by have:=hSB.size;omega))
    refine hK.out _ _ hS6 (fun _=>?_)
    clear hK K
    try simp only [z]
    have hn:=fin W6 W0B.heap.size hV6 hS6 hrw
    try simp only [z] at hn
    exact hn
   ·skip
    obtain⟨hBa,hrw,_⟩:=row_new W0B #[.int .i64 (10*((i:Int)+1)),.int .i64 td,.int .i64 (-25567)] 150
    go_simp
    obtain⟨W6,hWn⟩:∃ W6,W6=W0B.alloc (.cells #[.int .i64 (10*((i:Int)+1)),.int .i64 td,.int .i64 (-25567)] 150):=⟨_,rfl⟩
    rw [<- hWn] at hBa hrw ⊢
    clear hWn
    have hV6:=hVB.trans (hBa.mono hVB.size)
    have hS6:=hSB.trans (hBa.mono (by have:=hSB.size;omega))
    refine hK.out _ _ hS6 (fun _=>?_)
    clear hK K
    try simp only [z]
    have hbq6:=gbox hbq hBa (some_lt hbq)
    have xq6:=cr9 3 hbq6
    simp at xq6
    have xql6:=some_lt hbq6
    refine rd9 1 (by kernel_rfl) rfl (fun K hK=>?_)
    go_simp
    refine hK.out _ _ hS6 (fun _=>?_)
    clear hK K
    try simp only [z]
    have hn:=fin W6 W0B.heap.size hV6 hS6 hrw
    try simp only [z] at hn
    exact hn
  subst hlm hlo hlq hla
  have hbq:=gbox Hbx.out hVA (some_lt Hbx.out)
  have xq:=cr9 2 hbq
  simp at xq
  have xql:=some_lt hbq
  refine wpAnyH_ready (rs:=[1,10]) (by kernel_rfl) (by simp) (AllReadyH.cons rfl (fun K hK=>?_) (AllReadyH.cons rfl (fun K hK=>?_) AllReadyH.nil))
  ·skip
   go_simp
   refine hK.out _ _ hSA (fun _=>?_)
   clear hK K
   try simp only [z]
   refine rd9 10 (by kernel_rfl) rfl (fun K hK=>?_)
   obtain⟨hBa,hrw,_⟩:=row_new W0A #[.int .i64 (10*((i:Int)+1)),.int .i64 kd,.int .i64 0,.int .i64 0] 87
   go_simp
   obtain⟨W6,hWn⟩:∃ W6,W6=W0A.alloc (.cells #[.int .i64 (10*((i:Int)+1)),.int .i64 kd,.int .i64 0,.int .i64 0] 87):=⟨_,rfl⟩
   rw [<- hWn] at hBa hrw ⊢
   clear hWn
   have hV6:=hVA.trans (hBa.mono hVA.size)
   have hS6:=hSA.trans (hBa.mono (by have:=hSA.size;omega))
   refine hK.out _ _ hS6 (fun _=>?_)
   clear hK K
   try simp only [z]
   have hn:=fin W6 W0A.heap.size hV6 hS6 hrw
   try simp only [z] at hn
   exact hn
  ·skip
   obtain⟨hBa,hrw,_⟩:=row_new W0A #[.int .i64 (10*((i:Int)+1)),.int .i64 kd,.int .i64 0,.int .i64 0] 87
   go_simp
   obtain⟨W6,hWn⟩:∃ W6,W6=W0A.alloc (.cells #[.int .i64 (10*((i:Int)+1)),.int .i64 kd,.int .i64 0,.int .i64 0] 87):=⟨_,rfl⟩
   rw [<- hWn] at hBa hrw ⊢
   clear hWn
   have hV6:=hVA.trans (hBa.mono hVA.size)
   have hS6:=hSA.trans (hBa.mono (by have:=hSA.size;omega))
   refine hK.out _ _ hS6 (fun _=>?_)
   clear hK K
   try simp only [z]
   have hbq6:=gbox hbq hBa (some_lt hbq)
   have xq6:=cr9 2 hbq6
   simp at xq6
   have xql6:=some_lt hbq6
   refine rd9 1 (by kernel_rfl) rfl (fun K hK=>?_)
   go_simp
   refine hK.out _ _ hS6 (fun _=>?_)
   clear hK K
   try simp only [z]
   have hn:=fin W6 W0A.heap.size hV6 hS6 hrw
   try simp only [z] at hn
   exact hn
end
end Go.Proofs.YtniaimjknmhapaaGreatDoor
