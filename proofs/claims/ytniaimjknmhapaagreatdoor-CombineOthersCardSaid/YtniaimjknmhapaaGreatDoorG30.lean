/- My texts IvW, IvD, HoldW, PairW, RegIn, CtlW, DispW, ScalW. -/
import Derived.Lib.SliceRun
import Derived.OrdersIn
import Derived.OrdersHeld
import Derived.Laws.Small
import Derived.Test.YtniaimjknmhapaaGreatDoorG29
set_option linter.unusedVariables false
set_option linter.unusedSimpArgs false
set_option maxRecDepth 100000
set_option maxHeartbeats 16000000
namespace Go.Proofs.YtniaimjknmhapaaGreatDoor
open Go.Proofs.Tryz Go.RowKit
def Itv.cells (x:Itv):List Value:=[.int .i64 x.frm,.int .i64 x.to,.int .i64 x.meth]
abbrev ItvsAt:=RowsAt Itv.cells 3
theorem a1c:(prog.info? 115).map (·.size)=some 3:=kR
namespace Iv
def inside (d:Int) (y:Itv):Bool:=decide (y.frm<d)&&decide (d<y.to)
def off (f l:Int) (y:Itv):Bool:=decide (y.meth≠3)||decide (l<y.frm)||decide (y.to<=f)
def gone (g:Grp) (f l:Int) (full:List Itv) (x:Itm):Bool:=full.any (inside x.date)&&Gr.isResult g x.acct&&decide (f<=x.date)&&decide (x.date<=l)
end Iv
def IdxI (p:Itv->Bool) (l:List Itv) (w:World) (e:Ending) (w':World):Prop :=
 Below w w w'/\((e=.returned (.int .i64 (-1))/\∀ x∈l,p x=false)∨∃(k:Nat) (h:k<l.length),e=.returned (.int .i64 k)/\p l[k]=true/\∀ x∈l.take k,p x=false)
section
variable (w:World)
theorem b1v (y:Itv) (x:Itm) (ib:Nat) (hb:w.heap[ib]?=some (.cells x 57 (0,0))) :
  CL 109 #[.agg #[y.frm,y.to,y.meth],.pointer (some ⟨ib,0,none⟩)] w (Iv.inside x.date y):=by
 obtain⟨W1,hW1,hB0,hb0,hz⟩:=nw1 w #[y.frm,y.to,y.meth] 115;have HW:=Z1 hW1;have hi1:=gbox hb hB0 (Vq hb);have s1:=Vq hb0;have s2:=Vq hi1;have z0:=cr9 0 hb0;have z1:=cr9 1 hb0;have y5:=cr9 5 hi1;simp at z0 z1 y5;clear hW1 hz hb0 hb hi1;go_enter func109,ntmps109;go_upto_region 1 with(fail);rw [<- HW.out]
 by_cases h1:y.frm<x.date
 ·have HV:Hid (Iv.inside x.date y=decide (x.date<y.to)):=by show _=_;unfold Iv.inside;simp [h1]
  go_wp2;go_ret;exact⟨by rw [HV.out];rfl,hB0⟩
 ·have HV:Hid (Iv.inside x.date y=false):=by show _=_;unfold Iv.inside;simp [h1]
  go_wp2;go_ret;exact⟨by rw [HV.out];rfl,hB0⟩
theorem a7e (y:Itv) (f l:Int) (sb:Nat) (hb:w.heap[sb]?=some (.cells #[f,l] 113 (0,0))) :
  CL 105 #[.agg #[y.frm,y.to,y.meth],.pointer (some ⟨sb,0,none⟩)] w (Iv.off f l y):=by
 obtain⟨W1,hW1,hB0,hb0,hz⟩:=nw1 w #[y.frm,y.to,y.meth] 115;have HW:=Z1 hW1;have hi1:=gbox hb hB0 (Vq hb);have s1:=Vq hb0;have s2:=Vq hi1;have z0:=cr9 0 hb0;have z1:=cr9 1 hb0;have z2:=cr9 2 hb0;have y0:=cr9 0 hi1;have y1:=cr9 1 hi1;simp at z0 z1 z2 y0 y1;clear hW1 hz hb0 hb hi1;go_enter func105,ntmps105;go_upto_region 1 with(fail);rw [<- HW.out]
 by_cases h1:y.meth=3
 case neg =>
  have k1:(y.meth != 3)=true:=by simpa using h1
  have HV:Hid (Iv.off f l y=true):=by show _=_;unfold Iv.off;simp [h1]
  clear h1;go_wp2;go_ret;exact⟨by rw [HV.out];rfl,hB0⟩
 have k1:(y.meth != 3)=false:=by simpa using h1
 by_cases h2:l<y.frm
 ·have HV:Hid (Iv.off f l y=true):=by show _=_;unfold Iv.off;simp [h2]
  clear h1;go_wp2;go_ret;exact⟨by rw [HV.out];rfl,hB0⟩
 ·have HV:Hid (Iv.off f l y=decide (y.to<=f)):=by show _=_;unfold Iv.off;simp [h1,h2]
  clear h1;go_wp2;go_ret;exact⟨by rw [HV.out];rfl,hB0⟩
theorem a8g (A:Option Addr) (n c:Nat) (l:List Itv) (x0:Itm) (ib:Nat) (hb:w.heap[ib]?=some (.cells x0 57 (0,0))) (hl:l.length=n) (hn:n<=1000) (h:ItvsAt w w A l) :
  Calls prog 170 #[.slice A n c,.func (.func 109) #[] #[.pointer (some ⟨ib,0,none⟩)]] w (IdxI (Iv.inside x0.date) l w):=by
 subst hl;have Hb:=Z1 hb;have hbl:=Vq hb;clear hb;go_enter func170,ntmps170;go_wp2
 go_loopw [8] (fun i wr=>∃ k:Nat,k<=l.length/\i=.int .i64 k/\(∀ x∈l.take k,(Iv.inside x0.date) x=false)/\Below w w wr) (fun i _=>l.length-(intOf i).toNat)
 case atStart=>exact⟨0,Nat.zero_le _,rfl,sP,bR⟩
 case round =>
  obtain⟨k,hk,rfl,ha,hb⟩:=hrel;have Ha:=Z1 ha;clear ha
  by_cases hlt:k<l.length
  ·obtain⟨b,o,rfl,hbB,hr⟩:=RowsAt.look (RowsAt.below h hb lR) hlt
   have hbw:b<wr.heap.size:=Nat.lt_of_lt_of_le hbB hb.size;obtain⟨y,hy⟩:∃ y,y=l[k]:=⟨_,rfl⟩;have Hy:=Z1 hy;rw [<- hy] at hr;have hr:wr.rangeAt b (o+k*3) [y.frm,y.to,y.meth]:=hr;have Hr:=Z1 hr;have HC:=Z1 (b1v wr y x0 ib (gbox Hb.out hb hbl));clear hy hr
   cases hq:(Iv.inside x0.date) y with
   | true =>
    rw [hq] at HC;have Hq:Hid ((Iv.inside x0.date) l[k]=true):=by show _=_;rw [<- Hy.out];exact hq
    clear hq;go_wp2_with (refine wpList_load_mid rfl 115 (.tmp 14) rfl b (o+k*3) rfl [y.frm,y.to,y.meth] _ Hr.out underlying115 rfl a1c ?_);refine HC.out.mono ?_;rintro e w4 ⟨rfl,hB4⟩;go_wp2;go_ret;exact⟨hb.trans (hB4.mono hb.size),.inr ⟨k,hlt,rfl,Hq.out,Ha.out⟩⟩
   | false =>
    rw [hq] at HC
    have Hq:Hid (∀ x∈l.take (k+1),(Iv.inside x0.date) x=false):=Z1 fun x hx=>by
     rw [tse hlt,List.mem_append] at hx
     rcases hx with hx | hx
     ·exact Ha.out x hx
     ·rw [List.mem_singleton.1 hx,<- Hy.out];exact hq
    clear hq;go_wp2_with (refine wpList_load_mid rfl 115 (.tmp 14) rfl b (o+k*3) rfl [y.frm,y.to,y.meth] _ Hr.out underlying115 rfl a1c ?_);refine HC.out.mono ?_;rintro e w4 ⟨rfl,hB4⟩;go_wp2;go_roundw
    case rel=>exact⟨k+1,oM,by go_num,Hq.out,hb.trans (hB4.mono hb.size)⟩
    case measure=>simp [intOf];omega
  ·obtain rfl:k=l.length:=oM
   have hf:Hid (∀ x∈l,(Iv.inside x0.date) x=false):=Z1 (by have:=Ha.out;rwa [List.take_length] at this);clear h;go_wp2;go_ret;exact⟨hb,.inl ⟨rfl,hf.out⟩⟩
theorem a8f (A:Option Addr) (n c:Nat) (l:List Itv) (f lst:Int) (ib:Nat) (hb:w.heap[ib]?=some (.cells #[f,lst] 113 (0,0))) (hl:l.length=n) (hn:n<=1000) (h:ItvsAt w w A l) :
  Calls prog 170 #[.slice A n c,.func (.func 105) #[] #[.pointer (some ⟨ib,0,none⟩)]] w (IdxI (Iv.off f lst) l w):=by
 subst hl;have Hb:=Z1 hb;have hbl:=Vq hb;clear hb;go_enter func170,ntmps170;go_wp2
 go_loopw [8] (fun i wr=>∃ k:Nat,k<=l.length/\i=.int .i64 k/\(∀ x∈l.take k,(Iv.off f lst) x=false)/\Below w w wr) (fun i _=>l.length-(intOf i).toNat)
 case atStart=>exact⟨0,Nat.zero_le _,rfl,sP,bR⟩
 case round =>
  obtain⟨k,hk,rfl,ha,hb⟩:=hrel;have Ha:=Z1 ha;clear ha
  by_cases hlt:k<l.length
  ·obtain⟨b,o,rfl,hbB,hr⟩:=RowsAt.look (RowsAt.below h hb lR) hlt
   have hbw:b<wr.heap.size:=Nat.lt_of_lt_of_le hbB hb.size;obtain⟨y,hy⟩:∃ y,y=l[k]:=⟨_,rfl⟩;have Hy:=Z1 hy;rw [<- hy] at hr;have hr:wr.rangeAt b (o+k*3) [y.frm,y.to,y.meth]:=hr;have Hr:=Z1 hr;have HC:=Z1 (a7e wr y f lst ib (gbox Hb.out hb hbl));clear hy hr
   cases hq:(Iv.off f lst) y with
   | true =>
    rw [hq] at HC;have Hq:Hid ((Iv.off f lst) l[k]=true):=by show _=_;rw [<- Hy.out];exact hq
    clear hq;go_wp2_with (refine wpList_load_mid rfl 115 (.tmp 14) rfl b (o+k*3) rfl [y.frm,y.to,y.meth] _ Hr.out underlying115 rfl a1c ?_);refine HC.out.mono ?_;rintro e w4 ⟨rfl,hB4⟩;go_wp2;go_ret;exact⟨hb.trans (hB4.mono hb.size),.inr ⟨k,hlt,rfl,Hq.out,Ha.out⟩⟩
   | false =>
    rw [hq] at HC
    have Hq:Hid (∀ x∈l.take (k+1),(Iv.off f lst) x=false):=Z1 fun x hx=>by
     rw [tse hlt,List.mem_append] at hx
     rcases hx with hx | hx
     ·exact Ha.out x hx
     ·rw [List.mem_singleton.1 hx,<- Hy.out];exact hq
    clear hq;go_wp2_with (refine wpList_load_mid rfl 115 (.tmp 14) rfl b (o+k*3) rfl [y.frm,y.to,y.meth] _ Hr.out underlying115 rfl a1c ?_);refine HC.out.mono ?_;rintro e w4 ⟨rfl,hB4⟩;go_wp2;go_roundw
    case rel=>exact⟨k+1,oM,by go_num,Hq.out,hb.trans (hB4.mono hb.size)⟩
    case measure=>simp [intOf];omega
  ·obtain rfl:k=l.length:=oM
   have hf:Hid (∀ x∈l,(Iv.off f lst) x=false):=Z1 (by have:=Ha.out;rwa [List.take_length] at this);clear h;go_wp2;go_ret;exact⟨hb,.inl ⟨rfl,hf.out⟩⟩
theorem b0a (A:Option Addr) (n c:Nat) (l:List Itv) (x0:Itm) (ib:Nat) (hb:w.heap[ib]?=some (.cells x0 57 (0,0))) (hl:l.length=n) (hn:n<=1000) (h:ItvsAt w w A l) :
  CL 108 #[.slice A n c,.func (.func 109) #[] #[.pointer (some ⟨ib,0,none⟩)]] w (.bool (l.any (Iv.inside x0.date))):=by
 have H:=Z1 (a8g w A n c l x0 ib hb hl hn h);clear hl hn h hb;go_enter func108,ntmps108;go_wp2_with (fail);refine H.out.mono ?_;rintro e W2 ⟨hB,⟨rfl,ha⟩ | ⟨k,hk,rfl,hq,_⟩⟩
 ·have HV:Hid (l.any (Iv.inside x0.date)=false):=by show _=_;rw [List.any_eq_false];intro x hx;rw [ha x hx];simp
  clear ha;go_wp2;go_ret;exact⟨by rw [HV.out];rfl,hB⟩
 ·have HV:Hid (l.any (Iv.inside x0.date)=true):=by show _=_;rw [List.any_eq_true];exact⟨_,List.getElem_mem hk,hq⟩
  have hk0:decide (((k:Nat):Int) ≥ 0)=true:=sP;clear hq;go_wp2;go_ret;exact⟨by rw [HV.out];simp,hB⟩
end
open Go.Proofs.Tryz Go.RowKit
theorem a0Z {B:Nat} {a:World} (b:Nat) (hb:B<=b):∀(vs:List Value) (o:Nat) {w:World},Below B a w->Below B a (w.setCells b o vs)
 | [],_,_,h=>h
 | v::r,o,_,h=>a0Z b hb r (o+1) (h.setCell (p:=⟨b,o,none⟩) hb v)
theorem a4a {P:Program} (w:World) (n:Nat) (t e ty:TypeId) (z:Value) (ht:P.underlying t=some (.slice e)) (hv:∀ w,(zeroValue e).run P w=.ok z w) (h1:∀ v∈(Builtin.zeroCells z.cells n).toList,v.oneCell'=true) (b o c m:Nat) (hn:0<n) (hm:(Builtin.zeroCells z.cells n).toList.length=m)
  (hc:w.there b o m) :
  (Builtin.clear_ #[t] ty #[.slice (some ⟨b,o,none⟩) n c]).run P w=.ok (.tuple #[]) (w.setCells b o (Builtin.zeroCells z.cells n).toList):=by
 have hst:=run_storeCells_cells (P:=P) b o (Builtin.zeroCells z.cells n).toList 0 w (fun j hj=>(hc j (by rw [<- hm];exact hj)).1) (fun j hj=>(hc j (by rw [<- hm];exact hj)).2) h1;simp only [Nat.add_zero] at hst;obtain⟨k,rfl⟩:∃ k,n=k+1:=⟨n-1,oM⟩;simp [Builtin.clear_,run_underlying ht,hv,hst]
theorem zero3 (n:Nat):(Builtin.zeroCells #[Value.int .i64 0,(),()] n).toList.length=n*3/\∀ v∈(Builtin.zeroCells #[Value.int .i64 0,(),()] n).toList,v.oneCell'=true:=by
 refine⟨by simp [Builtin.zeroCells],fun v hv=>?_⟩;simp [Builtin.zeroCells] at hv;obtain⟨i,hi,rfl⟩:=hv;have:i % 3=0∨i % 3=1∨i % 3=2:=oM
 rcases this with h | h | h <;> simp [h,Value.oneCell']
theorem a2f {w w':World} {b o n C:Nat} (h:w.there b o n) (hb:Below C w w') (hC:b<C):w'.there b o n:=fun j hj=>by
 obtain⟨a1,a2⟩:=h j hj;refine⟨by rw [hb.cell (p:=⟨b,o+j,none⟩) hC];exact a1,?_⟩;rw [<- a2];unfold World.frozen?;simp only [hb.block b hC]
def DelPost (base:Nat) (L:List Itv) (w:World) (e:Ending) (w':World):Prop :=
 Below base w w'/\∃ A c,e=.returned (.slice A L.length c)/\ItvsAt w' w' A L
section
variable (w:World)
theorem itvInfo:(prog.info? 115).map (fun i=>(i.zero,i.size,i.bytes))=some (some (.agg #[(),(),()]),3,24):=kR
theorem b0d (A:Option Addr) (n c:Nat) (l:List Itv) (hl:l.length=n) (hn:n<=100000) (h:RowsAt Itv.cells 3 w w A l) :
  Calls prog 104 #[.slice A n c] w (ClonePost Itv.cells 3 115 n l w):=by
 have qn:=fun(w:World) (a:Option Addr) (n c n' c':Nat)=>Lib.run_eql_slice_nil (P:=prog) w _ _ a n c n' c' underlying119
 cases A with
 | none =>
  have h0:l=[]:=by rcases h with h | ⟨b,o,e,_⟩;exact h;cases e
  subst h0;obtain rfl:n=0:=by simpa using hl.symm
  clear hl h hn;go_enter func104,ntmps104;go_wp2;go_ret;exact ClonePost.nil
 | some ad =>
  obtain⟨i0,hi,hz0,hz1,hz2⟩:=info_parts itvInfo;have Hnews:Hid (∀ j u,(l.flatMap Itv.cells)[j]?=some u->(w.alloc (.cells #[] 115)).cell? (ad.add j)=some u):=Z1 fun j u hj=>Lib.cell?_alloc_some _ (a0Q (f:=Itv.cells) (sz:=3) dC (fun _=>rfl) h j u hj);have Hlen:Hid ((l.flatMap Itv.cells).length=n*3):=by show _=_;rw [a0x (f:=Itv.cells) (sz:=3) (fun _=>rfl),hl]
  have Hone:Hid (∀ u∈l.flatMap Itv.cells,u.oneCell'=true):=Z1 fun u hu=>by
   rw [List.mem_flatMap] at hu;obtain⟨x,_,hx⟩:=hu;revert u;simp [Itv.cells,Value.oneCell']
  have h63:0+n<=maxLen:=by unfold maxLen;omega
  have h64:(0+n)*24<=140737488355328:=oM;have h65:w.heap.size<=(w.alloc (.cells #[] 115)).heap.size:=sP;have hmade:=World.ownsRow_made (e:=115) (size:=3) w #[] 0 lR (Nat.zero_le _) rfl;clear hl h;go_enter func104,ntmps104;go_wp2_with (at_builtin;refine Hid.out ?_);show wpList _ _ _ _ _ _;refine wpList_append_own _ rfl _ _ 119 rfl w.heap.size 115 i0 (.agg #[(),(),()]) 3 24 underlying119 hi hz0 hz1 hz2 rfl dC _ _ _ rfl hmade ad n c (l.flatMap Itv.cells) rfl Hlen.out Hnews.out Hone.out h63 h64 h65 ?_;intro v' w1 hown hgrow _;have hb:Below w w w1:=((Below.refl _ w).alloc lR _).grown hgrow sP (fun k hk=>(hmade.lt k hk).1);rw [Nat.zero_add,List.nil_append] at hown
  obtain⟨A',c',rfl⟩:∃ A' c',v'=.slice A' n c':=by
   rcases hown.2 with⟨e,h0⟩ | ⟨g,cap,cur,e,_⟩
   ·exact⟨none,0,by rw [e,h0]⟩
   ·exact⟨_,_,e⟩
  have Hown:=Z1 hown;have Hb:=Z1 hb;clear hown hb;go_wp2;go_ret;exact⟨Hb.out,A',c',rfl,Hown.out⟩
theorem a6P (base:Nat) (A:Option Addr) (n c:Nat) (l:List Itv) (f lst:Int) (ib:Nat) (hb:w.heap[ib]?=some (.cells #[f,lst] 113 (0,0))) (hib:ib<base) (hbase:base<=w.heap.size) (hl:l.length=n) (hn:n<=1000)
  (hown:w.ownsRow base 115 3 (.slice A n c) n (l.flatMap Itv.cells)) :
  Calls prog 103 #[.slice A n c,.func (.func 105) #[] #[.pointer (some ⟨ib,0,none⟩)]] w (DelPost base (l.filter (fun x=>!Iv.off f lst x)) w):=by
 subst hl;obtain⟨kp,hkp⟩:∃ kp:Itv->Bool,kp=(fun x=>!Iv.off f lst x):=⟨_,rfl⟩;rw [<- hkp];have Hkp:=Z1 hkp;clear hkp;obtain⟨A0,c0,hA0,hrow⟩:=Xz (f:=Itv.cells) (sz:=3) dC (fun _=>rfl) hown rfl
 cases hA0
 obtain⟨H,Hb,Hrow,Hown⟩:=Z4 (a8f w A l.length c l f lst ib hb rfl hn hrow) hb hrow hown;clear hb hrow hown;go_enter func103,ntmps103;go_wp2_with (fail);refine H.out.mono ?_;rintro e W2 ⟨hB2,⟨rfl,ha⟩ | ⟨k0,hk0,rfl,hq,ha⟩⟩
 ·have hL:l.filter kp=l:=List.filter_eq_self.2 fun x hx=>by rw [Hkp.out];simp [ha x hx]
  have HP:Hid (DelPost base (l.filter kp) w (.returned (.slice A l.length c)) W2):=by
   show DelPost _ _ _ _ _;rw [hL];exact⟨hB2.mono hbase,A,c,rfl,RowsAt.at_ Hrow.out hB2⟩
  clear hL ha hB2;go_wp2;go_ret;exact HP.out
 have hown:=Hown.out
 rcases hown.2 with⟨e0,_⟩ | ⟨g,cap,cur,e0,hg0,hgc,hnc,hcm,hcs,_⟩
 ·simp only [Value.slice.injEq] at e0;omega
 simp only [Value.slice.injEq,true_and] at e0;obtain⟨rfl,rfl⟩:=e0;have hgw:=Vq hgc
 have hth:w.there g 0 (l.length*3):=fun j hj=>by
  refine⟨?_,?_⟩
  ·rw [Nat.zero_add,cr9 _ hgc];simp;omega
  ·rw [Nat.zero_add];exact fr0 _ hgc
 have hth2:Hid (W2.there g 0 (l.length*3)):=Z1 fun j hj=>by
  obtain⟨a1,a2⟩:=hth j hj;refine⟨by rw [hB2.cell (p:=⟨g,0+j,none⟩) hgw];exact a1,?_⟩;rw [Nat.zero_add];exact fr0 _ (gbox hgc hB2 hgw)
 have hlo:Hid ((l.take (k0+1)).filter kp=l.take k0):=by
  show _=_;rw [a1q hk0,if_neg (by rw [Hkp.out];simp [hq]),List.append_nil];exact List.filter_eq_self.2 fun x hx=>by rw [Hkp.out];simp [ha x hx]
 have hrows2:Hid (∀ k v,l[k]?=some v->W2.rangeAt g (k*3) v.cells):=Z1 fun k v hv=>by
  obtain⟨hk,rfl⟩:=List.getElem?_eq_some_iff.1 hv;obtain⟨b',o',e',hb',hr'⟩:=RowsAt.look (RowsAt.below Hrow.out hB2 lR) hk
  cases e'
  rw [Nat.zero_add] at hr';exact hr'
 have HB2:=Z1 (hB2.mono hbase);have hwS:=hB2.size;have HbW:=Z1 (gbox Hb.out HB2.out hib);have hne1:((k0:Int)==-1)=false:=beq_eq_false_iff_ne.2 oM;clear hq ha hth hB2 hown hgc hcs;go_wp2
 go_loopw [5,6] (fun a b' wr=>∃ i j:Nat,a=.int .i64 i/\b'=.int .i64 j/\i<j/\j<=l.length/\((l.take j).filter kp).length=i/\(∀ k v,((l.take j).filter kp)[k]?=some v->wr.rangeAt g (k*3) v.cells)/\(∀ k v,j<=k->l[k]?=some v->wr.rangeAt g (k*3) v.cells)/\wr.there g 0 (l.length*3)/\Below base w wr) (fun _ b' _=>l.length-(intOf b').toNat)
 case atStart =>
  refine⟨k0,k0+1,rfl,by go_num,oM,oM,by rw [hlo.out];simp;omega,fun k v hv=>?_,fun k v _ hv=>hrows2.out k v hv,hth2.out,HB2.out⟩;rw [hlo.out,List.getElem?_take] at hv
  split at hv
  ·exact hrows2.out k v hv
  ·cases hv
 case round =>
  obtain⟨i,j,rfl,rfl,hij,hj,hi,hLo,hHi,hth,hbw⟩:=hrel;obtain⟨HLo,HHi,Hth,Hi⟩:=Z4 hLo hHi hth hi;have hgr:g<wr.heap.size:=by have:=hbw.size;omega
  have Hbr:=gB Hb hbw hib;clear hLo hHi hth hi
  by_cases hlt:j<l.length
  case neg =>
   obtain rfl:j=l.length:=oM;have hF:(l.take l.length).filter kp=l.filter kp:=by rw [List.take_length]
   have hz:∀ W:World,(zeroValue 115).run prog W=.ok (.agg #[(),(),()]) W:=fun W=>kR;have hthn:wr.there g (i*3) ((l.length-i)*3):=fun q hq=>by have:=Hth.out (i*3+q) oM;rwa [Nat.zero_add] at this
   obtain⟨z1,z2⟩:=zero3 (l.length-i)
   have hcl:∀ ty,(Builtin.clear_ #[119] ty #[.slice (some ⟨g,i*3,none⟩) (l.length-i) (c-i)]).run prog wr=.ok (.tuple #[]) (wr.setCells g (i*3) (Builtin.zeroCells #[Value.int .i64 0,(),()] (l.length-i)).toList) :=
    fun ty=>a4a wr (l.length-i) _ _ ty _ underlying119 hz z2 g (i*3) (c-i) _ oM z1 hthn
   have HP:Hid (DelPost base (l.filter kp) w (.returned (.slice (some ⟨g,0,none⟩) i c)) (wr.setCells g (i*3) (Builtin.zeroCells #[Value.int .i64 0,(),()] (l.length-i)).toList)):=by
    have hi:=Hi.out;rw [hF] at hi;refine⟨a0Z g hg0 _ _ hbw,some ⟨g,0,none⟩,c,by rw [hi],.inr ⟨g,0,rfl,by have:=(a0Z (a:=wr) g hg0 (Builtin.zeroCells #[Value.int .i64 0,(),()] (l.length-i)).toList (i*3) (Below.refl base wr)).size;omega,fun k hk q v hv=>?_⟩⟩;have hlo:=HLo.out k _ (by rw [hF];exact List.getElem?_eq_getElem hk);rw [Nat.zero_add];exact World.rangeAt_setCells_apart hlo g (i*3) _ (.inr (.inl (by show k*3+3<=i*3;omega))) q v hv
   have hilen:(i:Int)<=(l.length:Int):=oM;have hic:¬ c<=i:=oM;have hic2:¬ (c=i):=oM;clear hF hz hthn z1 z2 hbw;go_wp2;go_ret;exact HP.out
  obtain⟨y,hy⟩:∃ y,y=l[j]:=⟨_,rfl⟩;have hr:=HHi.out j y lR (by rw [hy];exact List.getElem?_eq_getElem hlt);have hr:wr.rangeAt g (j*3) [y.frm,y.to,y.meth]:=hr;have Hr:=Z1 hr;have Hst:=Z1 (a1q (P:=kp) hlt);rw [<- hy] at Hst;have Hy:=Z1 hy;obtain⟨Wa,hWa,hBa,hra,hza⟩:=nw1 wr #[y.frm,y.to,y.meth] 115;obtain⟨HWa,Hra,HBa⟩:=Z3 hWa hra hBa;have hba:=gbox Hbr.out hBa (Vq Hbr.out);have HC:=Z1 (a7e Wa y f lst ib hba);have sa:wr.heap.size<Wa.heap.size:=oM;clear hr hy hWa hra hza hBa hba;go_upto_region 8 with(refine wpList_load_mid rfl 115 (.tmp 24) rfl g (j*3) rfl [y.frm,y.to,y.meth] _ Hr.out underlying115 rfl a1c ?_);rw [<- HWa.out];have hni:i<j:=hij;have hi3:(l.take j).filter kp=(l.take j).filter kp:=rfl
  cases hq:Iv.off f lst y with
  | true =>
   rw [hq] at HC;have HS:Hid ((l.take (j+1)).filter kp=(l.take j).filter kp):=by show _=_;rw [Hst.out,if_neg (by rw [Hkp.out];simp [hq]),List.append_nil]
   clear hq;go_wp2_with (refine wpList_load_row rfl 115 _ rfl _ rfl _ _ _ _ Hra.out underlying115 rfl a1c ?_);refine HC.out.mono ?_;rintro e W3 ⟨rfl,hB3⟩;have HB3:=bT HBa hB3;clear hB3;go_wp2;go_roundw
   case rel =>
    refine⟨i,j+1,rfl,by go_num,oM,oM,by rw [HS.out];exact Hi.out,fun k v hv=>?_,fun k v hk hv=>?_,a2f Hth.out HB3.out hgr,hbw.trans (HB3.out.mono (Nat.le_trans hbase hbw.size))⟩
    ·rw [HS.out] at hv
     exact VV (HLo.out k v hv) HB3.out hgr
    ·exact VV (HHi.out k v oM hv) HB3.out hgr
   case measure=>simp [intOf];omega
  | false =>
   rw [hq] at HC;have HS:Hid ((l.take (j+1)).filter kp=(l.take j).filter kp++[y]):=by show _=_;rw [Hst.out,if_pos (by rw [Hkp.out];simp [hq])]
   clear hq;go_wp2_with (refine wpList_load_row rfl 115 _ rfl _ rfl _ _ _ _ Hra.out underlying115 rfl a1c ?_);refine HC.out.mono ?_;rintro e W3 ⟨rfl,hB3⟩;have HB3:=bT HBa hB3;have Hra3:=gB Hra hB3 sa;have hth3:=a2f Hth.out HB3.out hgr;have hth4:Hid (W3.there g (i*3) 3):=Z1 fun q hq=>by have:=hth3 (i*3+q) oM;rwa [Nat.zero_add] at this
   have hg3:g<W3.heap.size:=by have:=HB3.out.size;omega
   have hil:(i:Int)<(l.length:Int):=oM;have hi0:(0:Int)<=(i:Int):=oM;clear hB3 hth3;go_wp2_with (first | (refine wpList_load_row rfl 115 _ rfl _ rfl _ _ _ _ Hra3.out underlying115 rfl a1c ?_) | (refine wpList_store_mid rfl 115 (.tmp 33) (.tmp 32) rfl g (i*3) #[y.frm,y.to,y.meth] rfl rfl hth4.out a1c oC ?_));go_roundw
   case rel =>
    refine⟨i+1,j+1,by go_num,by go_num,oM,oM,by rw [HS.out,List.length_append,Hi.out];rfl,fun k v hv=>?_,fun k v hk hv=>?_,World.there_setCells (a2f Hth.out HB3.out hgr) _ _ _,a0Z g hg0 _ _ (hbw.trans (HB3.out.mono (Nat.le_trans hbase hbw.size)))⟩
    ·rw [HS.out] at hv
     have hi:=Hi.out
     by_cases hki:k<i
     ·rw [List.getElem?_append_left oM] at hv
      exact World.rangeAt_setCells_apart (VV (HLo.out k v hv) HB3.out hgr) _ _ _ (.inr (.inl (by show k*3+3<=i*3;omega)))
     ·rw [List.getElem?_append_right oM] at hv
      obtain rfl:k=i:=by have:=(List.getElem?_eq_some_iff.1 hv).1;simp at this;omega
      rw [hi,Nat.sub_self] at hv
      cases hv
      exact World.rangeAt_setCells_same _ _ _ _ hth4.out
    ·exact World.rangeAt_setCells_apart (VV (HHi.out k v oM hv) HB3.out hgr) _ _ _ (.inr (.inr (by show i*3+3<=k*3;omega)))
   case measure=>simp [intOf];omega
end
open Go.Proofs.Tryz Go.RowKit
section
variable (w:World)
theorem a4v (k n:Int) (p:Nat) (hx:w.cell? ⟨p,0,none⟩=some (.int .i64 n)) (hp:p<w.heap.size) :
  Calls prog 157 #[k,.pointer (some ⟨p,0,none⟩)] w fun e w'=>e=.returned (.bool (decide (0<=k/\k<n)))/\w=w':=by
 have HV:∀ v:Bool,v=(decide (0<=k)&&decide (k<n))->v=decide (0<=k/\k<n):=fun v h=>by rw [h];simp
 by_cases h0:0<=k
 ·have k1:decide (k ≥ 0)=true:=by simpa using h0
  have HV2:Hid (decide (0<=k/\k<n)=decide (k<n)):=by show _=_;simp [h0]
  clear HV;go_enter func157,ntmps157;go_wp2;go_ret;exact⟨by first | rfl | (rw [HV2.out];rfl),rfl⟩
 ·have k1:decide (k ≥ 0)=false:=by simpa using h0
  have HV2:Hid (decide (0<=k/\k<n)=false):=by show _=_;simp [h0]
  clear HV;go_enter func157,ntmps157;go_wp2;go_ret;exact⟨by first | rfl | (rw [HV2.out];rfl),rfl⟩
theorem a7V (n:Int) (x:Hld):CL 92 #[n,x] w (Hd.proper n x):=by
 obtain⟨W1,hW1,hB0,hn0,hb0,hz⟩:=nw2 w #[n] x 3 61;have HW:=Z1 hW1;have c0:=cr9 0 hn0;have z0:=cr9 0 hb0;have z1:=cr9 1 hb0;have z2:=cr9 2 hb0;have z3:=cr9 3 hb0;simp at c0 z0 z1 z2 z3;have s1:=Vq hn0;have s2:=Vq hb0;obtain⟨Hi1,Hi2,Hd1⟩:=Z3 (a4v W1 x.hdr n w c0 s1) (a4v W1 x.ent n w c0 s1) (a0P x.date W1)
 have hV:Hd.proper n x=(decide (0<=x.hdr/\x.hdr<n)&&decide (0<=x.ent/\x.ent<n)&&decide (x.hdr≠x.ent)&&decide (-25567<=x.date/\x.date<=84005)&&decide (0<=x.shr)&&decide (x.shr<=10000)):=by
  unfold Hd.proper Gr.date;rw [Bool.eq_iff_iff];simp;omega
 obtain⟨v,hv⟩:∃ v,v=Hd.proper n x:=⟨_,rfl⟩;rw [<- hv] at hV ⊢;have HV:=Z1 hV;obtain⟨b1,hb1⟩:∃ b1,b1=decide (0<=x.hdr/\x.hdr<n):=⟨_,rfl⟩;obtain⟨b2,hb2⟩:∃ b2,b2=decide (0<=x.ent/\x.ent<n):=⟨_,rfl⟩;obtain⟨b4,hb4⟩:∃ b4,b4=decide (-25567<=x.date/\x.date<=84005):=⟨_,rfl⟩;rw [<- hb1,<- hb2,<- hb4] at HV;rw [<- hb1] at Hi1;rw [<- hb2] at Hi2;rw [<- hb4] at Hd1;clear hW1 hz hn0 hb0 hV hv hb1 hb2 hb4 c0;go_enter func92,ntmps92;go_upto_region 1 with(fail);rw [<- HW.out];go_wp2_with (fail);refine Hi1.out.mono ?_;rintro e W2 ⟨rfl,rfl⟩
 cases b1 with
 | false =>
  have HV2:Hid (v=false):=by show _=_;rw [HV.out];rfl
  go_wp2;go_ret;exact⟨by rw [HV2.out];rfl,hB0⟩
 | true =>
 go_wp2_with (fail);refine Hi2.out.mono ?_;rintro e W2 ⟨rfl,rfl⟩
 cases b2 with
 | false =>
  have HV2:Hid (v=false):=by show _=_;rw [HV.out];rfl
  go_wp2;go_ret;exact⟨by rw [HV2.out];rfl,hB0⟩
 | true =>
 by_cases hne:x.hdr=x.ent
 ·have k1:(x.hdr != x.ent)=false:=by simp [hne]
  have HV2:Hid (v=false):=by show _=_;rw [HV.out];simp [hne]
  clear hne;go_wp2;go_ret;exact⟨by rw [HV2.out];rfl,hB0⟩
 have k1:(x.hdr != x.ent)=true:=by simp [hne]
 have HV3:Hid (v=(b4&&decide (0<=x.shr)&&decide (x.shr<=10000))):=by show _=_;rw [HV.out];simp [hne]
 clear hne;go_wp2_with (fail);refine Hd1.out.mono ?_;rintro e W2 ⟨rfl,rfl⟩
 cases b4 with
 | false =>
  have HV2:Hid (v=false):=by show _=_;rw [HV3.out];rfl
  go_wp2;go_ret;exact⟨by rw [HV2.out];rfl,hB0⟩
 | true =>
 by_cases hs:0<=x.shr
 case neg =>
  have k2:decide (x.shr ≥ 0)=false:=by simpa using hs
  have HV2:Hid (v=false):=by show _=_;rw [HV3.out];simp [hs]
  go_wp2;go_ret;exact⟨by rw [HV2.out];rfl,hB0⟩
 have k2:decide (x.shr ≥ 0)=true:=by simpa using hs
 have HV4:Hid (v=decide (x.shr<=10000)):=by show _=_;rw [HV3.out];simp [hs]
 go_wp2;go_ret;exact⟨by rw [HV4.out];rfl,hB0⟩
end
open Go.Proofs.Tryz Go.RowKit Go.Shelf
attribute [local go_sem] Oper.semAt_some
def KeepR (n lo hi:Nat) (W W':World):Prop:=∀ b,b<n->(b<lo∨hi<=b)->W'.heap[b]?=W.heap[b]?
theorem KeepR.refl (n lo hi:Nat) (W:World):KeepR n lo hi W W:=fun _ _ _=>rfl
theorem KeepR.trans {n lo hi:Nat} {A B C:World} (h:KeepR n lo hi A B) (k:KeepR n lo hi B C):KeepR n lo hi A C:=fun b hb hL=>(k b hb hL).trans (h b hb hL)
theorem KeepR.putObj {n lo hi:Nat} {w:World} (hn:n<=w.heap.size) (W:World) (l:Nat) (o o':Obj) (hl:w.heap.size<=l) (_:W.heap[l]?=some o) (_:o.isCells=false) (_:o.isWalk=false):KeepR n lo hi W (W.putObj l o') :=
 fun _ hb _=>World.putObj_heap_other oM
theorem KeepR.alloc {n lo hi:Nat} {A W:World} (h:KeepR n lo hi A W) (hn:n<=W.heap.size) (o:Obj):KeepR n lo hi A (W.alloc o):=fun b hb hL=>(Below.heap_alloc W o b oM).trans (h b hb hL)
theorem KeepR.cell {n lo hi:Nat} {A B:World} (h:KeepR n lo hi A B) {b:Nat} (hb:b<n) (hL:b<lo∨hi<=b) (o:Nat):B.cell? ⟨b,o,none⟩=A.cell? ⟨b,o,none⟩:=World.cell?_of_block (w:=A) (h b hb hL)
theorem RowsAt.keepR {α:Type} {f:α->List Value} {sz:Nat} {w w':World} {B n lo hi:Nat} {A:Option Addr} {l:List α} (h:RowsAt f sz w B A l) (hb:KeepR n lo hi w w') (hB:B<=n) (hL:B<=lo):RowsAt f sz w' B A l:=by
 rcases h with h | ⟨b,o,e,hl,hc⟩
 ·exact .inl h
 ·exact .inr ⟨b,o,e,hl,fun k hk j v hv=>(hb.cell (b:=b) oM (.inl oM) _).trans (hc k hk j v hv)⟩
section
variable (w:World)
theorem b0V (A:Option Addr) (n c:Nat) (h e:Int) :
  Calls prog 211 #[.slice A n c,h,e] w fun ev w' =>
   ev=.returned (.func (.func 249) #[] #[.pointer (some ⟨w,0,none⟩),.pointer (some ⟨w.heap.size+1,0,none⟩),.pointer (some ⟨w.heap.size+2,0,none⟩)]) /\
   w'=((w.alloc (.cells #[.slice A n c] 32)).alloc (.cells #[h] 3)).alloc (.cells #[e] 3):=by
 go_enter func211,ntmps211;go_wp2;go_ret;exact⟨rfl,rfl⟩
def encH (x:Hld):Array Value:=#[x]
theorem a4W (l:List Hld) (p:Hld->Bool) (k:Nat) (h:k<l.length) (hp:p l[k]=true):(l.take (k+1)).filter p=(l.take k).filter p++[l[k]]:=by
 rw [tse h,List.filter_append,List.filter_cons_of_pos hp,List.filter_nil]
theorem a4b (l:List Hld) (p:Hld->Bool) (k:Nat) (h:k<l.length) (hp:p l[k]=false):(l.take (k+1)).filter p=(l.take k).filter p:=by
 rw [tse h,List.filter_append,List.filter_cons_of_neg (by simp [hp]),List.filter_nil,List.append_nil]
theorem b0W (m:Nat) (hm:1<=m) (l n₀ lo hi:Nat) (B0 B1 B2:Nat) (A:Option Addr) (n c:Nat) (hs:List Hld) (h e0:Int) (hl:hs.length=n) (hn:n<=1000)
  (q:Nat) (hq:q<=n₀) (hLq:q<=lo) (hb1:B1<n₀) (hb2:B2<n₀) (hl1:B1<lo∨hi<=B1) (hl2:B2<lo∨hi<=B2)
  (J Jx:List Hld->World->Prop) (W:World) (hW:n₀<=W.heap.size) (hJ:AbidesFrom W J)
  (hY:∀ pre x W1,J pre W1->pre.length<hs.length->YieldAt Fence.wide (m-1) prog l (encH x) W1 fun e W' =>
   (e=.returned (.bool true)/\J (pre++[x]) W'/\(KeepR n₀ lo hi W1 W'/\W1.heap.size<=W'.heap.size))∨(e=.returned (.bool false)/\Jx (pre++[x]) W'))
  (c0:W.cell? ⟨B0,0,none⟩=some (.slice A n c)) (c1:W.cell? ⟨B1,0,none⟩=some (.int .i64 h)) (c2:W.cell? ⟨B2,0,none⟩=some (.int .i64 e0))
  (hA:RowsAt Hld.cells 4 W q A hs) (h0:J [] W) :
  CallsIn Fence.wide m prog 249 #[.func (.yield l) #[] #[],.pointer (some ⟨B0,0,none⟩),.pointer (some ⟨B1,0,none⟩),.pointer (some ⟨B2,0,none⟩)] W fun e W'=>(∃ v,e=.returned v) /\
   ((∃ ys,ys=hs.filter (Hd.pair h e0)/\J ys W')∨(∃ pre,True/\Jx pre W')):=by
 subst hl;refine callsIn_of_wp func249 rfl trivial ?_ rfl;simp only [ntmps249,List.size_toArray,List.length_cons,List.length_nil,Nat.reduceAdd,Nat.reduceSub,Array.replicate_succ,Array.replicate_zero,List.push_toArray,List.append_toArray,List.nil_append,List.cons_append]
 gi_wp2
 gi_loopw [9] (fun i wr=>∃ k:Nat,k<=hs.length/\i=.int .i64 k/\J ((hs.take k).filter (Hd.pair h e0)) wr/\KeepR n₀ lo hi W wr/\W.heap.size<=wr.heap.size) (fun i _=>hs.length-(intOf i).toNat)
 case atStart=>exact⟨0,Nat.zero_le _,rfl,h0,KeepR.refl _ _ _ _,lR⟩
 case round =>
  obtain⟨k,hk,rfl,hJs,hKb,hsz⟩:=hrel
  by_cases hlt:k<hs.length
  ·obtain⟨bb,o,rfl,hbB,hr⟩:=RowsAt.look (RowsAt.keepR hA hKb hq hLq) hlt
   have d0:=hr 0 _ rfl;have d1:=hr 1 _ rfl;have d2:=hr 2 _ rfl;have d3:=hr 3 _ rfl;simp at d0 d1 d2 d3;have hbw:bb<wr.heap.size:=oM;have e1:=(hKb.cell hb1 hl1 0).trans c1;have e2:=(hKb.cell hb2 hl2 0).trans c2;have f1:B1<wr.heap.size:=oM;have f2:B2<wr.heap.size:=oM;obtain⟨x,hx⟩:∃ x,x=hs[k]:=⟨_,rfl⟩;have hJal:∀ pre,J pre wr->J pre (wr.alloc (.cells #[x.hdr,x.ent,x.date,x.shr] 61)):=fun pre hp=>hJ _ _ _ none hp (World.grownBy_alloc _ _ none) sP;rw [<- hx] at d0 d1 d2 d3
   by_cases hsel:Hd.pair h e0 x=true
   ·have hft:=Z1 (a4W hs (Hd.pair h e0) k hlt (by rw [<- hx];exact hsel))
    rw [<- hx] at hft;have hlen:((hs.take k).filter (Hd.pair h e0)).length<hs.length:=Nat.lt_of_le_of_lt (List.length_filter_le _ _) (by rw [List.length_take];omega);have hJa:=hJal _ hJs;obtain⟨fn,tmps,assign,body,hy,hR⟩:=hY _ x _ hJa hlen;have q1:(x.hdr==h)=true:=by unfold Hd.pair at hsel;simp at hsel;simp [hsel.1]
    have q2:(x.ent==e0)=true:=by unfold Hd.pair at hsel;simp at hsel;simp [hsel.2]
    clear hsel hlen hJa hr hx hJal;unfold encH at hy
    gi_wp2
    refine hR.mono ?_;rintro ev W3 (⟨rfl,hJ3,hk3,hs3⟩ | ⟨rfl,hJx3⟩)
    ·have hK3:=(hKb.alloc oM _).trans hk3
     have hs3':=hs3;simp at hs3'
     gi_wp2
     go_roundw
     case rel=>exact⟨k+1,oM,by go_num,by rw [hft.out];exact hJ3,hK3,oM⟩
     case measure=>simp [intOf];omega
    ·gi_wp2
     refine bodyPost_ret (results_none rfl _ _ _) rfl ?_;exact⟨⟨_,rfl⟩,.inr ⟨_,trivial,hJx3⟩⟩
   ·have hsel':Hd.pair h e0 x=false:=by simpa using hsel
    have hft:=a4b hs (Hd.pair h e0) k hlt (by rw [<- hx];exact hsel')
    have hJa:Hid (J ((hs.take (k+1)).filter (Hd.pair h e0)) (wr.alloc (.cells x 61))):=by
     show J _ _;rw [hft];exact hJal _ hJs
    have hcs:(x.hdr==h)=false∨((x.hdr==h)=true/\(x.ent==e0)=false):=by
     unfold Hd.pair at hsel'
     by_cases g1:x.hdr=h
     ·right;simp [g1] at hsel' ⊢;exact hsel'
     ·left;simp [g1]
    clear hft hsel hJs hY hJ h0 hJal hx hr
    rcases hcs with q1 | ⟨q1,q2⟩
    all_goals
     clear hsel'
     gi_wp2
     refine⟨fun _ _=>trivial,?_⟩
     gi_wp2
     go_roundw
     case rel=>exact⟨k+1,oM,by go_num,hJa.out,hKb.alloc oM _,sO⟩
     case measure=>simp [intOf];omega
  ·obtain rfl:k=hs.length:=oM
   rw [List.take_length] at hJs
   gi_wp2
   go_end0
   exact⟨⟨_,rfl⟩,.inl ⟨_,rfl,hJs⟩⟩
end
open Go.RowKit Go.Shelf
def plainOp (o:Oper):Bool:=match o.op with
 | .load _ _ | .store _ _ _ | .fieldAddr _ _ _ | .assign _ | .move _=>true
 | _=>false
def plainRes:Result Next->Prop
 | .ok (.value _) _=>True
 | .ok .skip _=>True
 | .halt _ _=>True
 | _=>False
theorem a8Y {P:Program} {o:Oper} (h:plainOp o=true) (ρ:Operand->Value) (w:World):plainRes ((execOp ρ o).run P w):=by
 unfold plainOp at h
 split at h
 all_goals first | (cases h;done) | skip
 all_goals
  rename_i ho;unfold execOp;simp only [ho]
  try simp only [Sem.run_bind,Sem.run_pure]
  first
   | trivial
   | (generalize Sem.run _ _ _=r;cases r <;> trivial)
   | skip
def onlyN (Q:Exit->Act->World->Prop):Exit->Act->World->Prop
 | .normal,a,w=>Q .normal a w
 | _,_,_=>False
theorem b1a (Q:Exit->Act->World->Prop):¬ LetsOut (onlyN Q):=fun⟨_,_,h⟩=>h
theorem a8w {F:Fence} {n:Nat} {P:Program} {ops:Array Oper} {Q:Exit->Act->World->Prop} {i:Nat} {K K':Act->World->Prop} {a:Act} {w:World} (hp:∀ o,ops[i]?=some o->plainOp o=true) (hK:∀ a w,K a w->K' a w)
  (h:wpOp P ops (onlyN Q) i K a w):wpOpIn F n P ops Q i K' a w:=by
 unfold wpOp at h;unfold wpOpIn
 cases hi:ops[i]? with
 | none=>rw [hi] at h;exact hK _ _ h
 | some o =>
  rw [hi] at h;simp only at h ⊢;have hpl:=hp o hi
  have hab:o.about P w a.eval=none:=by
   unfold plainOp at hpl;unfold Oper.about
   split at hpl <;> first | (cases hpl;done) | (rename_i ho;simp only [ho])
  have hnd:∀ c,o.op≠.defer c:=fun c e=>by unfold plainOp at hpl;rw [e] at hpl;cases hpl
  split
  ·rename_i hw
   rw [if_pos hw] at h
   rcases h with h | ⟨_,h⟩
   ·unfold Oper.wpIn
    refine⟨fun f hf=>(by rw [hab] at hf;cases hf),?_⟩;rw [Oper.semAt_plain F _ _ hnd];unfold Oper.wp at h;have hr:=a8Y (P:=P) hpl a.eval w
    generalize (execOp a.eval o).run P w=r at h hr ⊢
    cases r with
    | ok x w'=>cases x <;> first | exact hK _ _ h | exact hr.elim
    | halt x w'=>cases x <;> exact h.elim
   ·exact absurd h (b1a Q)
  ·rename_i hw
   rw [if_neg hw] at h;exact⟨fun f hf=>(by rw [hab] at hf;cases hf),hK _ _ h⟩
theorem a4j {F:Fence} {n:Nat} {P:Program} {md:Region.Mode} {ops:Array Oper} {Q:Exit->Act->World->Prop} (hp:∀(i:Nat) (o:Oper),ops[i]?=some o->plainOp o=true) :
  ∀(fuel:Nat) (listed:Array Bool) (a:Act) (w:World),wpAny P md ops (onlyN Q) fuel listed a w->wpAnyIn F n P md ops Q fuel listed a w
 | 0,_,_,_,h=>h
 | fuel+1,_,_,_,h=>⟨h.1,fun i hi=>a8w (hp i) (fun _ _ h'=>a4j hp fuel _ _ _ h') (h.2 i hi)⟩
theorem a1v {F:Fence} {n:Nat} {P:Program} {id:Nat} {ops:Array Oper} {Q:Exit->Act->World->Prop} {S:World->Prop} {a:Act} {w:World} (hm:P.follows .mixedOrders=true) (hp:∀(i:Nat) (o:Oper),ops[i]?=some o->plainOp o=true)
  (h:wpAnyH P .any ops (onlyN Q) S ops.size (Array.replicate ops.size false) a { w with drawn:=w.drawn+1 }):(Code.region id ops true).wpIn F n P Q a w :=
 wpIn_region_any hm (a4j hp _ _ _ _ (wpAny_of_held _ _ _ _ h))
theorem a5J {ops:Array Oper} (h:ops.all plainOp=true):∀(i:Nat) (o:Oper),ops[i]?=some o->plainOp o=true:=fun i o ho=>by
 obtain⟨hi,rfl⟩:=Array.getElem?_eq_some_iff.1 ho;exact(Array.all_eq_true.1 h) i hi
open Go.Proofs.Tryz Go.RowKit
structure IRow where
 A:Option Addr
 n:Nat
 c:Nat
 l:List Int
def IRow.cells (r:IRow):List Value:=[.slice r.A r.n r.c]
def icell (x:Int):List Value:=[.int .i64 x]
structure IRow.At (w:World) (B:Nat) (r:IRow):Prop where
 hl:r.l.length=r.n
 hA:RowsAt icell 1 w B r.A r.l
theorem IRow.At.below {w w':World} {B C:Nat} {r:IRow} (h:r.At w B) (hb:Below C w w') (hC:B<=C):r.At w' B:=⟨h.hl,RowsAt.below h.hA hb hC⟩
theorem IRow.At.more {w:World} {B C:Nat} {r:IRow} (h:r.At w B) (hC:B<=C):r.At w C:=⟨h.hl,RowsAt.more h.hA hC⟩
structure MatI (w:World) (B:Nat) (A:Option Addr) (n k:Nat) (m:List IRow):Prop where
 hl:m.length=n
 hA:RowsAt IRow.cells 1 w B A m
 hx:∀ r∈m,r.At w B/\r.n=k
def matL (m:List IRow):List (List Int):=m.map (·.l)
theorem a3h (n:Int):IntKind.u16.wrap n=n % 65536:=by simp [IntKind.wrap,IntKind.bits,IntKind.signed]
theorem a2B (a b:Nat) (ha:a<65536) (hb:b<65536):bits .and .u16 (a:Int) (b:Int)=((a &&& b:Nat):Int):=by
 have hx:a &&& b<2 ^ 16:=Nat.and_lt_two_pow _ oM
 have h1:(BitVec.ofInt 16 (a:Int)).toNat=a:=by
  rw [BitVec.ofInt_natCast,BitVec.toNat_ofNat];exact Nat.mod_eq_of_lt oM
 have h2:(BitVec.ofInt 16 (b:Int)).toNat=b:=by
  rw [BitVec.ofInt_natCast,BitVec.toNat_ofNat];exact Nat.mod_eq_of_lt oM
 show IntKind.u16.wrap ((BitVec.ofInt 16 (a:Int) &&& BitVec.ofInt 16 (b:Int)).toNat:Int)=_;rw [BitVec.toNat_and,h1,h2,a3h];omega
theorem bit16 (set q:Nat) (hs:set<65536):(bits .and .u16 ((set:Int) / 2 ^ q) 1==1)=set.testBit q:=by
 have e:((set:Int) / 2 ^ q)=((set / 2 ^ q:Nat):Int):=by rw [Int.natCast_ediv,Int.natCast_pow];rfl
 have h:=a2B (set / 2 ^ q) 1 (Nat.lt_of_le_of_lt (Nat.div_le_self _ _) hs) oM;have h1:((1:Nat):Int)=1:=rfl;rw [h1] at h;rw [e,h,Nat.and_one_is_mod,Nat.testBit_eq_decide_div_mod_eq,Bool.eq_iff_iff];simp;omega
theorem b3j (m:List IRow) (hbd:∀ r∈m,∀ x∈r.l,0<=x/\x<=10000) (h e:Nat):0<=Ct.mat (matL m) h e/\Ct.mat (matL m) h e<=10000:=by
 unfold Ct.mat matL
 by_cases h1:h<m.length
 ·by_cases h2:e<m[h].l.length
  ·have:=hbd m[h] (List.getElem_mem h1) m[h].l[e] (List.getElem_mem h2)
   simp [h1,h2];omega
  ·simp [h1,h2]
 ·simp [h1]
theorem a6X (m:List IRow) (hbd:∀ r∈m,∀ x∈r.l,0<=x/\x<=10000) (set e:Nat):∀ q,q<=12->0<=Ct.votes (matL m) set e q/\Ct.votes (matL m) set e q<=10000*q
 | 0,_=>by simp [Ct.votes]
 | q+1,hq=>by
  have h1:=a6X m hbd set e q oM;have h2:=b3j m hbd q e;unfold Ct.votes
  split <;> omega
section
variable (w:World)
theorem a5n (A:Option Addr) (n c k:Nat) (m:List IRow) (set e:Nat) (hm:MatI w w A n k m) (hn:n<=12) (he:e<k) (hs:set<65536) (hbd:∀ r∈m,∀ x∈r.l,0<=x/\x<=10000) :
  Calls prog 294 #[.slice A n c,.int .u16 set,e] w fun ev w'=>ev=.returned (.int .i64 (Ct.votes (matL m) set e n))/\w=w':=by
 have HM:=Z1 hm;have hl:=hm.hl;clear hm;go_enter func294,ntmps294;go_wp2
 go_loop [7,12] (fun s i=>∃ q:Nat,q<=n/\i=.int .i64 q/\s=.int .i64 (Ct.votes (matL m) set e q)) (fun _ i=>n-(intOf i).toNat)
 case atStart=>exact⟨0,Nat.zero_le _,rfl,rfl⟩
 case round =>
  obtain⟨q,hq,rfl,rfl⟩:=hrel
  by_cases hlt:q<n
  case neg =>
   obtain rfl:q=n:=oM;go_wp2;go_ret;exact⟨rfl,rfl⟩
  have hkm:q<m.length:=oM;obtain⟨b,o,rfl,hb,hr⟩:=RowsAt.look HM.out.hA hkm;have c0:=hr 0 _ rfl;simp at c0;obtain⟨r,hre⟩:∃ r,r=m[q]:=⟨_,rfl⟩;rw [<- hre] at c0;have hrx:=HM.out.hx r (by rw [hre];exact List.getElem_mem hkm);have hbit:=bit16 set q hs;have hvs:Ct.votes (matL m) set e (q+1)=Ct.votes (matL m) set e q+(if set.testBit q then Ct.mat (matL m) q e else 0):=rfl;have Hvs:=Z1 hvs;clear hr hvs
  cases ht:set.testBit q with
  | false =>
   rw [ht] at hbit;have H2:Hid (Ct.votes (matL m) set e (q+1)=Ct.votes (matL m) set e q):=by show _=_;rw [Hvs.out,ht];simp
   clear ht;go_wp2
   go_round
   case rel=>exact⟨q+1,oM,by go_num,by rw [H2.out]⟩
   case measure=>simp [intOf];omega
  | true =>
   rw [ht] at hbit;obtain⟨hrx1,hrn⟩:=hrx;have hel:e<r.l.length:=by have:=hrx1.hl;omega
   obtain⟨b2,o2,hA2,hb2,hr2⟩:=RowsAt.look hrx1.hA hel;have d0:=hr2 0 _ rfl;simp at d0;rw [hA2] at c0
   have H2:Hid (Ct.votes (matL m) set e (q+1)=Ct.votes (matL m) set e q+r.l[e]):=by
    show _=_;rw [Hvs.out,ht,if_pos rfl]
    congr 1
    unfold Ct.mat matL;simp [hkm,<- hre,hel]
   have heb:(e:Int)<(r.n:Int):=oM;have he0:(0:Int)<=(e:Int):=oM;obtain⟨x,hx⟩:∃ x,x=r.l[e]:=⟨_,rfl⟩;rw [<- hx] at d0 H2
   have Hov:Hid (-9223372036854775808<=Ct.votes (matL m) set e q+x/\Ct.votes (matL m) set e q+x<=9223372036854775807):=by
    have hxb:=hbd r (by rw [hre];exact List.getElem_mem hkm) x (by rw [hx];exact List.getElem_mem hel);have hvb:=a6X m hbd set e q oM;show _/\_;omega
   have hov1:=Hov.out.1;have hov2:=Hov.out.2;clear ht hr2 hx hre;go_wp2
   go_round
   case rel=>exact⟨q+1,oM,by go_num,by rw [H2.out]⟩
   case measure=>simp [intOf];omega
end
open Go.Proofs.Tryz Go.RowKit
section
variable (w:World)
theorem a2R (g:Grp) (A:Option Addr) (n c:Nat) (l:List Itm) (f lst:Int) (A3:Option Addr) (n3 c3:Nat) (full:List Itv) (hg:g.At w w) (hl:l.length=n) (hn:n<=4000) (hA:RowsAt Itm.cells 7 w w A l) (hl3:full.length=n3) (hn3:n3<=1000) (hA3:ItvsAt w w A3 full) :
  Calls prog 57 #[.agg #[f,lst],g,.slice A n c,.slice A3 n3 c3] w (SlicePost (l.filter (Iv.gone g f lst full)) w):=by
 obtain⟨W1,hW1,hB0,hs0,hb0,hz⟩:=nw2 w #[f,lst] g 113 29;have HW:=Z1 hW1;have Hg1:=Z1 (hg.at_ hB0);have s1:w.heap.size<W1.heap.size:=oM;have s11:w.heap.size+1<W1.heap.size:=oM;obtain⟨Hb0,Hs0,HB0,HA,HA3,Hl,Hl3⟩:=Z7 hb0 hs0 hB0 hA hA3 hl hl3;obtain⟨i0,hi,hz0,hz1,hz2⟩:=info_parts itemInfo;obtain⟨P,hP⟩:∃ P,P=Iv.gone g f lst full:=⟨_,rfl⟩;rw [<- hP];have HP:=Z1 hP;clear hW1 hz hb0 hs0 hg hB0 hA hA3 hl hl3 hP;go_enter func57,ntmps57;go_upto_region 1 with(fail);rw [<- HW.out];go_wp2
 go_loopw [9,15] (fun v i wr=>∃ k:Nat,k<=n/\i=.int .i64 k/\wr.ownsRow W1.heap.size 57 7 v ((l.take k).filter P).length (((l.take k).filter P).flatMap Itm.cells)/\Below W1 W1 wr) (fun _ i _=>n-(intOf i).toNat)
 case atStart=>exact⟨0,Nat.zero_le _,rfl,World.ownsRow_nil _ _ _ _,bR⟩
 case round =>
  obtain⟨k,hk,rfl,hown,hbw⟩:=hrel;have hswr:=hbw.size
  by_cases hlt:k<n
  case neg =>
   obtain rfl:k=n:=oM;rw [List.take_of_length_le (by have:=Hl.out;omega)] at hown;obtain⟨A2,c2,rfl,hA2⟩:=Xz (f:=Itm.cells) (sz:=7) dC (fun _=>rfl) hown rfl;have hfr:=a0S hown;have HPo:Hid (SlicePost (l.filter P) w (.returned (.slice A2 (l.filter P).length c2)) wr):=Z1 ⟨HB0.out.trans (hbw.mono oM),A2,c2,rfl,hA2,fun ad q=>Nat.le_trans oM (hfr ad q)⟩;clear hown hA2 hfr hbw;go_wp2;go_ret;exact HPo.out
  have hkl:k<l.length:=by have:=Hl.out;omega
  have hB0r:=HB0.out.trans (hbw.mono (Nat.le_of_lt s1));obtain⟨bl,ol,hle,hbl,hr⟩:=RowsAt.look (RowsAt.below HA.out hB0r lR) hkl;subst hle;obtain⟨x,hx⟩:∃ x,x=l[k]:=⟨_,rfl⟩;have Hst:=Z1 (a1q (P:=P) hkl);have hlen:((l.take k).filter P).length<=4000:=Nat.le_trans (List.length_filter_le _ _) sO;rw [<- hx] at hr Hst;have Hr:=Z1 hr;have hblw:bl<wr.heap.size:=oM;obtain⟨L,hL⟩:∃ L,L=(l.take k).filter P:=⟨_,rfl⟩;rw [<- hL] at hown Hst hlen;obtain⟨Wa,hWa,hBa,hra,hza⟩:=nw1 wr x 57;obtain⟨HWa,HBa,Howa,Hra0⟩:=Z4 hWa (hbw.trans (hBa.mono hswr)) (Vj hown hBa) hra;have HC:=Z1 (b0a Wa A3 n3 c3 full x wr hra Hl3.out hn3 (RowsAt.at_ HA3.out (HB0.out.trans (HBa.out.mono (Nat.le_of_lt s1))) ));clear hown hbw hB0r hr hx hL hWa hza hBa hra;go_upto_region 5 with(refine wpList_load_mid rfl 57 (.tmp 17) rfl bl (ol+k*7) rfl x _ Hr.out underlying57 rfl a0J ?_);rw [<- HWa.out];obtain⟨ib,hib⟩:∃ ib,ib=wr.heap.size:=⟨_,rfl⟩;rw [<- hib] at HC Hra0 hblw ⊢;clear hib HWa;go_wp2_with (fail);refine HC.out.mono ?_;rintro ev W2 ⟨rfl,hB2⟩;have hibw:=Vq Hra0.out;have Hr2:=gB Hra0 hB2 hibw;have HB2:=bT HBa hB2;obtain⟨How2,HgA2,Hg2,Hs2⟩:=Z4 (Vj Howa.out hB2) (Hg1.out.at_ HB2.out) (gbox Hb0.out HB2.out s11) (gbox Hs0.out HB2.out s1);have Hrg:=Z1 (Xx Hg2.out);have y3:=cr9 3 Hr2.out;have y5:=cr9 5 Hr2.out;have u0:=cr9 0 Hs2.out;have u1:=cr9 1 Hs2.out;simp at y3 y5 u0 u1;have q1:=Vq Hr2.out;have q2:=Vq Hg2.out;have q3:=Vq Hs2.out;have Hin:Hid (P x=(full.any (Iv.inside x.date)&&Gr.isResult g x.acct&&decide (f<=x.date)&&decide (x.date<=lst))):=by show _=_;rw [HP.out];rfl
  clear hB2 HC Hra0 hibw
  cases hin:full.any (Iv.inside x.date) with
  | false =>
   have HS2:Hid ((l.take (k+1)).filter P=L):=by show _=_;rw [Hst.out,if_neg (by rw [Hin.out];rw [hin];simp),List.append_nil]
   go_wp2;go_roundw
   case rel=>exact⟨k+1,oM,by go_num,by rw [HS2.out];exact How2.out,HB2.out⟩
   case measure=>simp [intOf];omega
  | true =>
  go_wp2_with (refine Vk (by rfl) 29 (.tmp 5) rfl (w.heap.size+1) 0 rfl _ _ Hrg.out underlying29 rfl VJ ?_);refine(a4T W2 g x.acct HgA2.out).mono ?_;rintro ev W3 ⟨rfl,hB3⟩;have Hr3:=gB Hr2 hB3 q1;have HB3:=bT HB2 hB3;have How3:=Z1 (Vj How2.out hB3);have Hs3:=gB Hs2 hB3 q3;have v5:=cr9 5 Hr3.out;have t0:=cr9 0 Hs3.out;have t1:=cr9 1 Hs3.out;simp at v5 t0 t1;have p1:=Vq Hr3.out;have p3:=Vq Hs3.out;clear hB3 y3 y5 u0 u1 q1 q2 q3
  cases hre:Gr.isResult g x.acct with
  | false =>
   have HS2:Hid ((l.take (k+1)).filter P=L):=by show _=_;rw [Hst.out,if_neg (by rw [Hin.out];rw [hre];simp),List.append_nil]
   go_wp2;go_roundw
   case rel=>exact⟨k+1,oM,by go_num,by rw [HS2.out];exact How3.out,HB3.out⟩
   case measure=>simp [intOf];omega
  | true =>
  by_cases hf1:f<=x.date
  case neg =>
   have k1:decide (x.date ≥ f)=false:=sO;have HS2:Hid ((l.take (k+1)).filter P=L):=by show _=_;rw [Hst.out,if_neg (by rw [Hin.out];simp [hf1]),List.append_nil]
   go_wp2;go_roundw
   case rel=>exact⟨k+1,oM,by go_num,by rw [HS2.out];exact How3.out,HB3.out⟩
   case measure=>simp [intOf];omega
  by_cases hf2:x.date<=lst
  case neg =>
   have HS2:Hid ((l.take (k+1)).filter P=L):=by show _=_;rw [Hst.out,if_neg (by rw [Hin.out];simp [hf2]),List.append_nil]
   go_wp2;go_roundw
   case rel=>exact⟨k+1,oM,by go_num,by rw [HS2.out];exact How3.out,HB3.out⟩
   case measure=>simp [intOf];omega
  have HS2:Hid ((l.take (k+1)).filter P=L++[x]):=by show _=_;rw [Hst.out,if_pos (by rw [Hin.out,hin,hre];simp [hf1,hf2])]
  have k1:decide (x.date ≥ f)=true:=sO;have hownN2:=How3.out.alloc (.cells x 57);have hnew:=a0v W3 x 57;have hone:∀ u∈(x:List Value),u.oneCell'=true:=oC;have h63:L.length+1<=maxLen:=by unfold maxLen;omega
  have h64:(L.length+1)*56<=140737488355328:=oM;have h65:W1.heap.size<=(W3.alloc (.cells x 57)).heap.size:=by have:=HB3.out.size;simp;omega
  have hbN2:=HB3.out.alloc HB3.out.size (.cells x 57);go_wp2_with (first | (refine wpList_load_row rfl 57 _ rfl _ rfl _ _ _ _ Hr3.out underlying57 rfl a0J ?_) | (at_builtin;refine Hid.out ?_));show wpList _ _ _ _ _ _;refine wpList_append_own _ rfl _ _ 44 rfl W1.heap.size 57 i0 (.agg #[(),(),(),(),(),(),()]) 7 56 underlying44 hi hz0 hz1 hz2 rfl dC _ _ _ rfl hownN2 ⟨W3,0,none⟩ 1 1 x rfl rfl hnew hone h63 h64 h65 ?_;intro v' w1 hown' hgrow _;have hb1:=hbN2.grown hgrow h65 (fun j hj=>(hownN2.lt j hj).1);go_wp2;go_roundw
  case rel=>exact⟨k+1,oM,by go_num,by rw [HS2.out,List.length_append,List.flatMap_append];simpa [Itm.cells] using hown',hb1⟩
  case measure=>simp [intOf];omega
end
open Go.Proofs.Tryz Go.RowKit
namespace Cb
def scale1 (N D:Int) (y:Itm):Option Itm:=(Sc.out y.amt N D).map (fun n=>{ y with amt:=n })
def scaled (N D:Int) (l:List Itm):Option (List Itm):=allSome (l.map (scale1 N D))
theorem scaled_none {N D:Int} {l:List Itm} {k:Nat} (hk:k<l.length) (h:scale1 N D l[k]=none):scaled N D l=none:=by
 unfold scaled
 have e:l.map (scale1 N D)=(l.take k).map (scale1 N D)++none::(l.drop (k+1)).map (scale1 N D):=by
  conv=>lhs;rw [<- List.take_append_drop k l,List.drop_eq_getElem_cons hk,List.map_append,List.map_cons,h]
 rw [e];exact a1U _ _
end Cb
def ItsPost (o:Option (List Itm)) (w:World) (ev:Ending) (w':World):Prop :=
 Below w w w'/\((o=none/\∃ n,n≠0/\ev=.returned (.tuple #[.slice none 0 0,.int .i64 n])) ∨
  (∃ l A c,o=some l/\ev=.returned (.tuple #[.slice A l.length c,()])/\RowsAt Itm.cells 7 w' w' A l/\Fresh w A))
section
variable (w:World)
theorem a7I (k j:Nat) (r:Value) (N D:Int) (A:Option Addr) (n c:Nat) (l:List Itm) (hkj:3*k+3*j+1000<=10000000000) (hr:RI w w k j r N D) (hl:l.length=n) (hn:n<=4000) (hA:RowsAt Itm.cells 7 w w A l) :
  Calls prog 56 #[.slice A n c,r] w (ItsPost (Cb.scaled N D l) w):=by
 obtain⟨g1,A1,n1,c1,g2,A2,n2,c2,rfl⟩:=hr.open;obtain⟨W1,hW1,hB0,hb0,hz⟩:=nw1 w #[g1,.slice A1 n1 c1,g2,.slice A2 n2 c2] 43;have HW:=Z1 hW1;have H1:=Z1 (hr.at_ hB0);have s1:w.heap.size<W1.heap.size:=oM;obtain⟨Hb0,HB0,HA,Hl⟩:=Z4 hb0 hB0 hA hl;obtain⟨i0,hi,hz0,hz1,hz2⟩:=info_parts itemInfo;clear hW1 hz hb0 hB0 hA hl hr;go_enter func56,ntmps56;go_upto_region 1 with(fail);rw [<- HW.out];go_wp2
 go_loopw [6,13] (fun v i wr=>∃(k:Nat) (L:List Itm),k<=n/\i=.int .i64 k/\L.length=k/\wr.ownsRow W1.heap.size 57 7 v L.length (L.flatMap Itm.cells)/\allSome ((l.take k).map (Cb.scale1 N D))=some L/\Below W1 W1 wr) (fun _ i _=>n-(intOf i).toNat)
 case atStart=>exact⟨0,[],Nat.zero_le _,rfl,rfl,World.ownsRow_nil _ _ _ _,rfl,bR⟩
 case round =>
  obtain⟨q,L,hk,rfl,hLq,hown,hall,hbw⟩:=hrel;have hswr:=hbw.size
  by_cases hlt:q<n
  case neg =>
   obtain rfl:q=n:=oM;rw [List.take_of_length_le (by have:=Hl.out;omega)] at hall;obtain⟨A3,c3,rfl,hA3⟩:=Xz (f:=Itm.cells) (sz:=7) dC (fun _=>rfl) hown rfl;have hfr:=a0S hown;have HP:Hid (ItsPost (Cb.scaled N D l) w (.returned (.tuple #[.slice A3 L.length c3,()])) wr):=Z1 ⟨HB0.out.trans (hbw.mono oM),.inr ⟨L,A3,c3,hall,rfl,hA3,fun ad q=>Nat.le_trans oM (hfr ad q)⟩⟩;clear hown hA3 hfr hbw hall;go_wp2
   go_ret2
   exact HP.out
  have hkl:q<l.length:=by have:=Hl.out;omega
  have hB0r:=HB0.out.trans (hbw.mono (Nat.le_of_lt s1));obtain⟨bl,ol,hle,hbl,hr⟩:=RowsAt.look (RowsAt.below HA.out hB0r lR) hkl;subst hle;obtain⟨x,hx⟩:∃ x,x=l[q]:=⟨_,rfl⟩;have Hst:Hid ((l.take (q+1)).map (Cb.scale1 N D)=(l.take q).map (Cb.scale1 N D)++[Cb.scale1 N D x]):=by show _=_;rw [tse hkl,List.map_append,hx];rfl
  have Hno:=Z1 (fun(h:Cb.scale1 N D l[q]=none)=>Cb.scaled_none hkl h);rw [<- hx] at hr Hno;have Hr:=Z1 hr;have Hall:=Z1 hall;have hblw:bl<wr.heap.size:=oM;have Hlt:=Z1 hown.lt;obtain⟨Wa,hWa,hBa,hra,hza⟩:=nw1 wr x 57;have HWa:=Z1 hWa;have Hra:=Z1 hra;have sa:wr.heap.size<Wa.heap.size:=oM;have HBa:=Z1 (hbw.trans (hBa.mono hswr));have Howa:=Z1 (Vj hown hBa);have Hga:=Z1 (gbox Hb0.out HBa.out s1);have HgA:=Z1 (H1.out.at_ HBa.out);have y6:=cr9 6 hra;simp at y6;have sg:=Vq Hga.out;obtain⟨ib,hib⟩:∃ ib,ib=wr.heap.size:=⟨_,rfl⟩;have hne:some ib≠u6.ownBlock:=fun q=>by have:=(Hlt.out ib q.symm).2;omega
  have hbl2:bl<ib:=oM;rw [<- hib] at Hra sa y6;have hibw:ib<Wa.heap.size:=oM;have hibB:W1.heap.size<=ib:=oM;have Hib:=Z1 hib;have Hne:=Z1 hne;obtain⟨am,ham⟩:∃ am,am=x.amt:=⟨_,rfl⟩;rw [<- ham] at y6;have Ham:=Z1 ham;clear hown hbw hB0r hr hx hWa hra hza hBa hne hib ham hall;go_upto_region 5 with(refine wpList_load_mid rfl 57 (.tmp 15) rfl bl (ol+q*7) rfl x _ Hr.out underlying57 rfl a0J ?_);rw [<- HWa.out,<- Hib.out];go_wp2_with (refine wpList_load_row rfl 43 (.tmp 3) rfl _ rfl _ _ _ _ Hga.out underlying43 rfl Vy ?_);refine(a5A Wa am k j _ N D hkj HgA.out).mono ?_;rintro ev W2 ⟨hB2,h⟩;have Hr2:=gB Hra hB2 hibw;have HB2:=bT HBa hB2;have How2:=Z1 (Vj Howa.out hB2)
  rcases h with⟨ho,m,hm,rfl⟩ | ⟨z,ho,rfl⟩
  ·have k1:(m != 0)=true:=by simpa using hm
   have HN:Hid (Cb.scaled N D l=none):=Hno.out (by unfold Cb.scale1;rw [<- Ham.out,ho];rfl);have HBF:=Z1 (HB0.out.trans (HB2.out.mono (Nat.le_of_lt s1)));clear hm ho hB2 y6;go_wp2
   go_ret2
   exact⟨HBF.out,.inl ⟨HN.out,2,dC,rfl⟩⟩
  have HX:Hid (Cb.scale1 N D x=some { x with amt:=z }):=by show _=_;unfold Cb.scale1;rw [<- Ham.out,ho];rfl
  have z6:=cr9 6 Hr2.out;have zf:=fun j=>fr0 j Hr2.out;simp at z6;have s2:=Vq Hr2.out;have hr5:=heap_setCell_same W2 ib 6 _ _ (.int .i64 z) Hr2.out;simp at hr5;obtain⟨W5,hW5⟩:∃ W5,W5=W2.setCell ⟨ib,6,none⟩ (.int .i64 z):=⟨_,rfl⟩;have How5:Hid (W5.ownsRow W1.heap.size 57 7 u6 L.length (L.flatMap Itm.cells)):=by show World.ownsRow _ _ _ _ _ _ _;rw [hW5];exact a6D How2.out Hne.out
  have HB5:Hid (Below W1 W1 W5):=by show Below _ _ _;rw [hW5];exact HB2.out.setCell (p:=⟨ib,6,none⟩) hibB _
  rw [<- hW5] at hr5;have HW5:=Z1 hW5;have Hr5:=Z1 hr5;clear hr5 hW5 hB2 y6 ho;go_upto_region 9 with(fail);rw [<- HW5.out];have hownN2:=How5.out.alloc (.cells #[x.ent0,x.lin,x.ent,x.acct,x.partner,x.date,z] 57);have hnew:=a0v W5 [x.ent0,x.lin,x.ent,x.acct,x.partner,x.date,z] 57;have hone:∀ u∈([x.ent0,x.lin,x.ent,x.acct,x.partner,x.date,z]:List Value),u.oneCell'=true:=oC;have h63:L.length+1<=maxLen:=by unfold maxLen;omega
  have h64:(L.length+1)*56<=140737488355328:=oM;have h65:W1.heap.size<=(W5.alloc (.cells #[x.ent0,x.lin,x.ent,x.acct,x.partner,x.date,z] 57)).heap.size:=by have:=HB5.out.size;simp;omega
  have hbN2:=HB5.out.alloc HB5.out.size (.cells #[x.ent0,x.lin,x.ent,x.acct,x.partner,x.date,z] 57);go_wp2_with (first | (refine wpList_load_row rfl 57 _ rfl _ rfl _ _ _ _ Hr5.out underlying57 rfl a0J ?_) | (at_builtin;refine Hid.out ?_));show wpList _ _ _ _ _ _;refine wpList_append_own _ rfl _ _ 44 rfl W1.heap.size 57 i0 (.agg #[(),(),(),(),(),(),()]) 7 56 underlying44 hi hz0 hz1 hz2 rfl dC _ _ _ rfl hownN2 ⟨W5,0,none⟩ 1 1 [x.ent0,x.lin,x.ent,x.acct,x.partner,x.date,z] rfl rfl hnew hone h63 h64 h65 ?_;intro v' w1 hown' hgrow _;have hb1:=hbN2.grown hgrow h65 (fun j hj=>(hownN2.lt j hj).1);go_wp2;go_roundw
  case rel=>exact⟨q+1,L++[{ x with amt:=z }],oM,by go_num,sO,by rw [List.length_append,List.flatMap_append];simpa [Itm.cells] using hown',by rw [Hst.out,HX.out];exact a1T _ _ _ Hall.out,hb1⟩
  case measure=>simp [intOf];omega
end
end Go.Proofs.YtniaimjknmhapaaGreatDoor
