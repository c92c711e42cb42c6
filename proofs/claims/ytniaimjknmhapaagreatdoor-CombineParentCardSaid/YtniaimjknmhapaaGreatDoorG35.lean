/- My texts IvW, IvD, HoldW, PairW, RegIn, RefP, RefO, RefR. -/
import Derived.Lib.SliceRun
import Derived.OrdersIn
import Derived.OrdersHeld
import Derived.Test.YtniaimjknmhapaaGreatDoorG10
import Derived.Test.YtniaimjknmhapaaGreatDoorG19
import Derived.Test.YtniaimjknmhapaaGreatDoorG13
import Derived.Test.YtniaimjknmhapaaGreatDoorG28
import Derived.Test.YtniaimjknmhapaaGreatDoorG34
import Derived.Test.YtniaimjknmhapaaGreatDoorG29
set_option linter.unusedVariables false
set_option linter.unusedSimpArgs false
set_option maxRecDepth 100000
set_option maxHeartbeats 16000000
namespace Go.Proofs.YtniaimjknmhapaaGreatDoor
open Go.Proofs.Tryz Go.RowKit
def Itv.cells (x:Itv):List Value:=[.int .i64 x.frm,.int .i64 x.to,.int .i64 x.meth]
abbrev ItvsAt:=RowsAt Itv.cells 3
theorem itvSize:(prog.info? 115).map (·.size)=some 3:=by kernel_rfl
namespace Iv
def inside (d:Int) (y:Itv):Bool:=decide (y.frm<d)&&decide (d<y.to)
def off (f l:Int) (y:Itv):Bool:=decide (y.meth≠3)||decide (l<y.frm)||decide (y.to<=f)
def gone (g:Grp) (f l:Int) (full:List Itv) (x:Itm):Bool:=full.any (inside x.date)&&Gr.isResult g x.acct&&decide (f<=x.date)&&decide (x.date<=l)
end Iv
def IdxI (p:Itv->Bool) (l:List Itv) (w:World) (e:Ending) (w':World):Prop :=
 Below w.heap.size w w'/\((e=.returned (.int .i64 (-1))/\∀ x∈l,p x=false)∨∃(k:Nat) (h:k<l.length),e=.returned (.int .i64 k)/\p l[k]=true/\∀ x∈l.take k,p x=false)
section
variable (w:World)
theorem offq_any (y:Itv) (f l:Int) (sb:Nat) (hb:w.heap[sb]?=some (.cells #[.int .i64 f,.int .i64 l] 113 (0,0))) :
  Calls prog 105 #[.agg #[.int .i64 y.frm,.int .i64 y.to,.int .i64 y.meth],.pointer (some ⟨sb,0,none⟩)] w fun e w'=>e=.returned (.bool (Iv.off f l y))/\Below w.heap.size w w':=by
 obtain⟨W1,hW1,hB0,hb0,hz⟩:=nw1 w #[.int .i64 y.frm,.int .i64 y.to,.int .i64 y.meth] 115
 have HW:=Z1 hW1
 have hi1:=gbox hb hB0 (some_lt hb)
 have s1:=some_lt hb0
 have s2:=some_lt hi1
 have z0:=cr9 0 hb0
 have z1:=cr9 1 hb0
 have z2:=cr9 2 hb0
 have y0:=cr9 0 hi1
 have y1:=cr9 1 hi1
 simp at z0 z1 z2 y0 y1
 clear hW1 hz hb0 hb hi1
 go_enter func105,ntmps105
 go_upto_region 1 with(fail)
 rw [<- HW.out]
 by_cases h1:y.meth=3
 case neg =>
  have k1:(y.meth != 3)=true:=by simpa using h1
  have HV:Hid (Iv.off f l y=true):=by show _=_;unfold Iv.off;simp [h1]
  clear h1
  go_wp2
  go_ret
  exact⟨by rw [HV.out];rfl,hB0⟩
 have k1:(y.meth != 3)=false:=by simpa using h1
 by_cases h2:l<y.frm
 ·have HV:Hid (Iv.off f l y=true):=by show _=_;unfold Iv.off;simp [h2]
  clear h1
  go_wp2
  go_ret
  exact⟨by rw [HV.out];rfl,hB0⟩
 ·have HV:Hid (Iv.off f l y=decide (y.to<=f)):=by show _=_;unfold Iv.off;simp [h1,h2]
  clear h1
  go_wp2
  go_ret
  exact⟨by rw [HV.out];rfl,hB0⟩
theorem idxoff_any (A:Option Addr) (n c:Nat) (l:List Itv) (f lst:Int) (ib:Nat) (hb:w.heap[ib]?=some (.cells #[.int .i64 f,.int .i64 lst] 113 (0,0))) (hl:l.length=n) (hn:n<=1000) (h:ItvsAt w w.heap.size A l) :
  Calls prog 170 #[.slice A n c,.func (.func 105) #[] #[.pointer (some ⟨ib,0,none⟩)]] w (IdxI (Iv.off f lst) l w):=by
 subst hl
 have Hb:=Z1 hb
 have hbl:=some_lt hb
 clear hb
 go_enter func170,ntmps170
 go_wp2
 go_loopw [8] (fun i wr=>∃ k:Nat,k<=l.length/\i=.int .i64 k/\(∀ x∈l.take k,(Iv.off f lst) x=false)/\Below w.heap.size w wr) (fun i _=>l.length-(intOf i).toNat)
 case atStart=>exact⟨0,Nat.zero_le _,rfl,by simp,Below.refl _ _⟩
 case round =>
  obtain⟨k,hk,rfl,ha,hb⟩:=hrel
  have Ha:=Z1 ha
  clear ha
  by_cases hlt:k<l.length
  ·obtain⟨b,o,rfl,hbB,hr⟩:=RowsAt.look (RowsAt.below h hb (Nat.le_refl _)) hlt
   have hbw:b<wr.heap.size:=Nat.lt_of_lt_of_le hbB hb.size
   obtain⟨y,hy⟩:∃ y,y=l[k]:=⟨_,rfl⟩
   have Hy:=Z1 hy
   rw [<- hy] at hr
   have hr:wr.rangeAt b (o+k*3) [.int .i64 y.frm,.int .i64 y.to,.int .i64 y.meth]:=hr
   have Hr:=Z1 hr
   have HC:=Z1 (offq_any wr y f lst ib (gbox Hb.out hb hbl))
   clear hy hr
   cases hq:(Iv.off f lst) y with
   | true =>
    rw [hq] at HC
    have Hq:Hid ((Iv.off f lst) l[k]=true):=by show _=_;rw [<- Hy.out];exact hq
    clear hq
    go_wp2_with (refine wpList_load_mid rfl 115 (.tmp 14) rfl b (o+k*3) rfl [.int .i64 y.frm,.int .i64 y.to,.int .i64 y.meth] _ Hr.out underlying115 rfl itvSize ?_)
    refine HC.out.mono ?_
    rintro e w4 ⟨rfl,hB4⟩
    go_wp2
    go_ret
    exact⟨hb.trans (hB4.mono hb.size),.inr ⟨k,hlt,rfl,Hq.out,Ha.out⟩⟩
   | false =>
    rw [hq] at HC
    have Hq:Hid (∀ x∈l.take (k+1),(Iv.off f lst) x=false):=Z1 fun x hx=>by
     rw [List.take_succ_eq_append_getElem hlt,List.mem_append] at hx
     rcases hx with hx | hx
     ·exact Ha.out x hx
     ·rw [List.mem_singleton.1 hx,<- Hy.out];exact hq
    clear hq
    go_wp2_with (refine wpList_load_mid rfl 115 (.tmp 14) rfl b (o+k*3) rfl [.int .i64 y.frm,.int .i64 y.to,.int .i64 y.meth] _ Hr.out underlying115 rfl itvSize ?_)
    refine HC.out.mono ?_
    rintro e w4 ⟨rfl,hB4⟩
    go_wp2
    go_roundw
    case rel=>exact⟨k+1,by omega,by go_num,Hq.out,hb.trans (hB4.mono hb.size)⟩
    case measure=>simp [intOf];omega
  ·obtain rfl:k=l.length:=by omega
   have hf:Hid (∀ x∈l,(Iv.off f lst) x=false):=Z1 (by have:=Ha.out;rwa [List.take_length] at this)
   clear h
   go_wp2
   go_ret
   exact⟨hb,.inl ⟨rfl,hf.out⟩⟩
end
end Go.Proofs.YtniaimjknmhapaaGreatDoor
namespace Go.Proofs.YtniaimjknmhapaaGreatDoor
open Go.Proofs.Tryz Go.RowKit
theorem below_setCellsQ {B:Nat} {a:World} (b:Nat) (hb:B<=b):∀(vs:List Value) (o:Nat) {w:World},Below B a w->Below B a (w.setCells b o vs)
 | [],_,_,h=>h
 | v::r,o,_,h=>below_setCellsQ b hb r (o+1) (h.setCell (p:=⟨b,o,none⟩) hb v)
theorem run_clear_rows {P:Program} (w:World) (n:Nat) (t e ty:TypeId) (z:Value) (ht:P.underlying t=some (.slice e)) (hv:∀ w,(zeroValue e).run P w=.ok z w) (h1:∀ v∈(Builtin.zeroCells z.cells n).toList,v.oneCell'=true) (b o c m:Nat) (hn:0<n) (hm:(Builtin.zeroCells z.cells n).toList.length=m)
  (hc:w.there b o m) :
  (Builtin.clear_ #[t] ty #[.slice (some ⟨b,o,none⟩) n c]).run P w=.ok (.tuple #[]) (w.setCells b o (Builtin.zeroCells z.cells n).toList):=by
 have hst:=run_storeCells_cells (P:=P) b o (Builtin.zeroCells z.cells n).toList 0 w (fun j hj=>(hc j (by rw [<- hm];exact hj)).1) (fun j hj=>(hc j (by rw [<- hm];exact hj)).2) h1
 simp only [Nat.add_zero] at hst
 obtain⟨k,rfl⟩:∃ k,n=k+1:=⟨n-1,by omega⟩
 simp [Builtin.clear_,run_underlying ht,hv,hst]
theorem zero3 (n:Nat):(Builtin.zeroCells #[Value.int .i64 0,.int .i64 0,.int .i64 0] n).toList.length=n*3/\∀ v∈(Builtin.zeroCells #[Value.int .i64 0,.int .i64 0,.int .i64 0] n).toList,v.oneCell'=true:=by
 refine⟨by simp [Builtin.zeroCells],fun v hv=>?_⟩
 simp [Builtin.zeroCells] at hv
 obtain⟨i,hi,rfl⟩:=hv
 have:i % 3=0∨i % 3=1∨i % 3=2:=by omega
 rcases this with h | h | h <;> simp [h,Value.oneCell']
theorem there_below {w w':World} {b o n C:Nat} (h:w.there b o n) (hb:Below C w w') (hC:b<C):w'.there b o n:=fun j hj=>by
 obtain⟨a1,a2⟩:=h j hj
 refine⟨by rw [hb.cell (p:=⟨b,o+j,none⟩) hC];exact a1,?_⟩
 rw [<- a2]
 unfold World.frozen?
 simp only [hb.block b hC]
def DelPost (base:Nat) (L:List Itv) (w:World) (e:Ending) (w':World):Prop :=
 Below base w w'/\∃ A c,e=.returned (.slice A L.length c)/\ItvsAt w' w'.heap.size A L
section
variable (w:World)
theorem itvInfo:(prog.info? 115).map (fun i=>(i.zero,i.size,i.bytes))=some (some (.agg #[.int .i64 0,.int .i64 0,.int .i64 0]),3,24):=by kernel_rfl
theorem clone_itv (A:Option Addr) (n c:Nat) (l:List Itv) (hl:l.length=n) (hn:n<=100000) (h:RowsAt Itv.cells 3 w w.heap.size A l) :
  Calls prog 104 #[.slice A n c] w (ClonePost Itv.cells 3 115 n l w):=by
 have qn:=fun(w:World) (a:Option Addr) (n c n' c':Nat)=>Lib.run_eql_slice_nil (P:=prog) w _ _ a n c n' c' underlying119
 cases A with
 | none =>
  have h0:l=[]:=by rcases h with h | ⟨b,o,e,_⟩;exact h;cases e
  subst h0
  obtain rfl:n=0:=by simpa using hl.symm
  clear hl h hn
  go_enter func104,ntmps104
  go_wp2
  go_ret
  exact ClonePost.nil
 | some ad =>
  obtain⟨i0,hi,hz0,hz1,hz2⟩:=info_parts itvInfo
  have Hnews:Hid (∀ j u,(l.flatMap Itv.cells)[j]?=some u->(w.alloc (.cells #[] 115)).cell? (ad.add j)=some u):=Z1 fun j u hj=>Lib.cell?_alloc_some _ (rows_news (f:=Itv.cells) (sz:=3) (by decide) (fun _=>rfl) h j u hj)
  have Hlen:Hid ((l.flatMap Itv.cells).length=n*3):=by show _=_;rw [flat_len (f:=Itv.cells) (sz:=3) (fun _=>rfl),hl]
  have Hone:Hid (∀ u∈l.flatMap Itv.cells,u.oneCell'=true):=Z1 fun u hu=>by
   rw [List.mem_flatMap] at hu;obtain⟨x,_,hx⟩:=hu;revert u;simp [Itv.cells,Value.oneCell']
  have h63:0+n<=maxLen:=by unfold maxLen;omega
  have h64:(0+n)*24<=140737488355328:=by omega
  have h65:w.heap.size<=(w.alloc (.cells #[] 115)).heap.size:=by simp
  have hmade:=World.ownsRow_made (e:=115) (size:=3) w #[] 0 (Nat.le_refl _) (Nat.zero_le _) rfl
  clear hl h
  go_enter func104,ntmps104
  go_wp2_with (at_builtin;refine Hid.out ?_)
  show wpList _ _ _ _ _ _
  refine wpList_append_own _ rfl _ _ 119 rfl w.heap.size 115 i0 (.agg #[.int .i64 0,.int .i64 0,.int .i64 0]) 3 24 underlying119 hi hz0 hz1 hz2 rfl (by decide) _ _ _ rfl hmade ad n c (l.flatMap Itv.cells) rfl Hlen.out Hnews.out Hone.out h63 h64 h65 ?_
  intro v' w1 hown hgrow _
  have hb:Below w.heap.size w w1:=((Below.refl _ w).alloc (Nat.le_refl _) _).grown hgrow (by simp) (fun k hk=>(hmade.lt k hk).1)
  rw [Nat.zero_add,List.nil_append] at hown
  obtain⟨A',c',rfl⟩:∃ A' c',v'=.slice A' n c':=by
   rcases hown.2 with⟨e,h0⟩ | ⟨g,cap,cur,e,_⟩
   ·exact⟨none,0,by rw [e,h0]⟩
   ·exact⟨_,_,e⟩
  have Hown:=Z1 hown
  have Hb:=Z1 hb
  clear hown hb
  go_wp2
  go_ret
  exact⟨Hb.out,A',c',rfl,Hown.out⟩
theorem delfull_any (base:Nat) (A:Option Addr) (n c:Nat) (l:List Itv) (f lst:Int) (ib:Nat) (hb:w.heap[ib]?=some (.cells #[.int .i64 f,.int .i64 lst] 113 (0,0))) (hib:ib<base) (hbase:base<=w.heap.size) (hl:l.length=n) (hn:n<=1000)
  (hown:w.ownsRow base 115 3 (.slice A n c) n (l.flatMap Itv.cells)) :
  Calls prog 103 #[.slice A n c,.func (.func 105) #[] #[.pointer (some ⟨ib,0,none⟩)]] w (DelPost base (l.filter (fun x=>!Iv.off f lst x)) w):=by
 subst hl
 obtain⟨kp,hkp⟩:∃ kp:Itv->Bool,kp=(fun x=>!Iv.off f lst x):=⟨_,rfl⟩
 rw [<- hkp]
 have Hkp:=Z1 hkp
 clear hkp
 obtain⟨A0,c0,hA0,hrow⟩:=own_flat (f:=Itv.cells) (sz:=3) (by decide) (fun _=>rfl) hown rfl
 cases hA0
 have H:=Z1 (idxoff_any w A l.length c l f lst ib hb rfl hn hrow)
 have Hb:=Z1 hb
 have Hrow:=Z1 hrow
 have Hown:=Z1 hown
 clear hb hrow hown
 go_enter func103,ntmps103
 go_wp2_with (fail)
 refine H.out.mono ?_
 rintro e W2 ⟨hB2,⟨rfl,ha⟩ | ⟨k0,hk0,rfl,hq,ha⟩⟩
 ·have hL:l.filter kp=l:=List.filter_eq_self.2 fun x hx=>by rw [Hkp.out];simp [ha x hx]
  have HP:Hid (DelPost base (l.filter kp) w (.returned (.slice A l.length c)) W2):=by
   show DelPost _ _ _ _ _
   rw [hL]
   exact⟨hB2.mono hbase,A,c,rfl,RowsAt.at_ Hrow.out hB2⟩
  clear hL ha hB2
  go_wp2
  go_ret
  exact HP.out
 have hown:=Hown.out
 rcases hown.2 with⟨e0,_⟩ | ⟨g,cap,cur,e0,hg0,hgc,hnc,hcm,hcs,_⟩
 ·simp only [Value.slice.injEq] at e0;omega
 simp only [Value.slice.injEq,true_and] at e0
 obtain⟨rfl,rfl⟩:=e0
 have hgw:=some_lt hgc
 have hth:w.there g 0 (l.length*3):=fun j hj=>by
  refine⟨?_,?_⟩
  ·rw [Nat.zero_add,cr9 _ hgc];simp;omega
  ·rw [Nat.zero_add];exact fr0 _ hgc
 have hth2:Hid (W2.there g 0 (l.length*3)):=Z1 fun j hj=>by
  obtain⟨a1,a2⟩:=hth j hj
  refine⟨by rw [hB2.cell (p:=⟨g,0+j,none⟩) hgw];exact a1,?_⟩
  rw [Nat.zero_add];exact fr0 _ (gbox hgc hB2 hgw)
 have hlo:Hid ((l.take (k0+1)).filter kp=l.take k0):=by
  show _=_
  rw [filter_take hk0,if_neg (by rw [Hkp.out];simp [hq]),List.append_nil]
  exact List.filter_eq_self.2 fun x hx=>by rw [Hkp.out];simp [ha x hx]
 have hrows2:Hid (∀ k v,l[k]?=some v->W2.rangeAt g (k*3) v.cells):=Z1 fun k v hv=>by
  obtain⟨hk,rfl⟩:=List.getElem?_eq_some_iff.1 hv
  obtain⟨b',o',e',hb',hr'⟩:=RowsAt.look (RowsAt.below Hrow.out hB2 (Nat.le_refl _)) hk
  cases e'
  rw [Nat.zero_add] at hr'
  exact hr'
 have HB2:=Z1 (hB2.mono hbase)
 have hwS:=hB2.size
 have HbW:=Z1 (gbox Hb.out HB2.out hib)
 have hne1:((k0:Int)==-1)=false:=beq_eq_false_iff_ne.2 (by omega)
 clear hq ha hth hB2 hown hgc hcs
 go_wp2
 go_loopw [5,6] (fun a b' wr=>∃ i j:Nat,a=.int .i64 i/\b'=.int .i64 j/\i<j/\j<=l.length/\((l.take j).filter kp).length=i/\(∀ k v,((l.take j).filter kp)[k]?=some v->wr.rangeAt g (k*3) v.cells)/\(∀ k v,j<=k->l[k]?=some v->wr.rangeAt g (k*3) v.cells)/\wr.there g 0 (l.length*3)/\Below base w wr) (fun _ b' _=>l.length-(intOf b').toNat)
 case atStart =>
  refine⟨k0,k0+1,rfl,by go_num,by omega,by omega,by rw [hlo.out];simp;omega,fun k v hv=>?_,fun k v _ hv=>hrows2.out k v hv,hth2.out,HB2.out⟩
  rw [hlo.out,List.getElem?_take] at hv
  split at hv
  ·exact hrows2.out k v hv
  ·cases hv
 case round =>
  obtain⟨i,j,rfl,rfl,hij,hj,hi,hLo,hHi,hth,hbw⟩:=hrel
  have HLo:=Z1 hLo
  have HHi:=Z1 hHi
  have Hth:=Z1 hth
  have Hi:=Z1 hi
  have hgr:g<wr.heap.size:=by have:=hbw.size;omega
  have Hbr:=Z1 (gbox Hb.out hbw hib)
  clear hLo hHi hth hi
  by_cases hlt:j<l.length
  case neg =>
   obtain rfl:j=l.length:=by omega
   have hF:(l.take l.length).filter kp=l.filter kp:=by rw [List.take_length]
   have hz:∀ W:World,(zeroValue 115).run prog W=.ok (.agg #[.int .i64 0,.int .i64 0,.int .i64 0]) W:=fun W=>by kernel_rfl
   have hthn:wr.there g (i*3) ((l.length-i)*3):=fun q hq=>by have:=Hth.out (i*3+q) (by omega);rwa [Nat.zero_add] at this
   obtain⟨z1,z2⟩:=zero3 (l.length-i)
   have hcl:∀ ty,(Builtin.clear_ #[119] ty #[.slice (some ⟨g,i*3,none⟩) (l.length-i) (c-i)]).run prog wr=.ok (.tuple #[]) (wr.setCells g (i*3) (Builtin.zeroCells #[Value.int .i64 0,.int .i64 0,.int .i64 0] (l.length-i)).toList) :=
    fun ty=>run_clear_rows wr (l.length-i) _ _ ty _ underlying119 hz z2 g (i*3) (c-i) _ (by omega) z1 hthn
   have HP:Hid (DelPost base (l.filter kp) w (.returned (.slice (some ⟨g,0,none⟩) i c)) (wr.setCells g (i*3) (Builtin.zeroCells #[Value.int .i64 0,.int .i64 0,.int .i64 0] (l.length-i)).toList)):=by
    have hi:=Hi.out
    rw [hF] at hi
    refine⟨below_setCellsQ g hg0 _ _ hbw,some ⟨g,0,none⟩,c,by rw [hi],.inr ⟨g,0,rfl,by have:=(below_setCellsQ (a:=wr) g hg0 (Builtin.zeroCells #[Value.int .i64 0,.int .i64 0,.int .i64 0] (l.length-i)).toList (i*3) (Below.refl base wr)).size;omega,fun k hk q v hv=>?_⟩⟩
    have hlo:=HLo.out k _ (by rw [hF];exact List.getElem?_eq_getElem hk)
    rw [Nat.zero_add]
    exact World.rangeAt_setCells_apart hlo g (i*3) _ (.inr (.inl (by show k*3+3<=i*3;omega))) q v hv
   have hilen:(i:Int)<=(l.length:Int):=by omega
   have hic:¬ c<=i:=by omega
   have hic2:¬ (c=i):=by omega
   clear hF hz hthn z1 z2 hbw
   go_wp2
   go_ret
   exact HP.out
  obtain⟨y,hy⟩:∃ y,y=l[j]:=⟨_,rfl⟩
  have hr:=HHi.out j y (Nat.le_refl _) (by rw [hy];exact List.getElem?_eq_getElem hlt)
  have hr:wr.rangeAt g (j*3) [.int .i64 y.frm,.int .i64 y.to,.int .i64 y.meth]:=hr
  have Hr:=Z1 hr
  have Hst:=Z1 (filter_take (P:=kp) hlt)
  rw [<- hy] at Hst
  have Hy:=Z1 hy
  obtain⟨Wa,hWa,hBa,hra,hza⟩:=nw1 wr #[.int .i64 y.frm,.int .i64 y.to,.int .i64 y.meth] 115
  have HWa:=Z1 hWa
  have Hra:=Z1 hra
  have HBa:=Z1 hBa
  have hba:=gbox Hbr.out hBa (some_lt Hbr.out)
  have HC:=Z1 (offq_any Wa y f lst ib hba)
  have sa:wr.heap.size<Wa.heap.size:=by omega
  clear hr hy hWa hra hza hBa hba
  go_upto_region 8 with(refine wpList_load_mid rfl 115 (.tmp 24) rfl g (j*3) rfl [.int .i64 y.frm,.int .i64 y.to,.int .i64 y.meth] _ Hr.out underlying115 rfl itvSize ?_)
  rw [<- HWa.out]
  have hni:i<j:=hij
  have hi3:(l.take j).filter kp=(l.take j).filter kp:=rfl
  cases hq:Iv.off f lst y with
  | true =>
   rw [hq] at HC
   have HS:Hid ((l.take (j+1)).filter kp=(l.take j).filter kp):=by show _=_;rw [Hst.out,if_neg (by rw [Hkp.out];simp [hq]),List.append_nil]
   clear hq
   go_wp2_with (refine wpList_load_row rfl 115 _ rfl _ rfl _ _ _ _ Hra.out underlying115 rfl itvSize ?_)
   refine HC.out.mono ?_
   rintro e W3 ⟨rfl,hB3⟩
   have HB3:=Z1 (HBa.out.trans (hB3.mono HBa.out.size))
   clear hB3
   go_wp2
   go_roundw
   case rel =>
    refine⟨i,j+1,rfl,by go_num,by omega,by omega,by rw [HS.out];exact Hi.out,fun k v hv=>?_,fun k v hk hv=>?_,there_below Hth.out HB3.out hgr,hbw.trans (HB3.out.mono (Nat.le_trans hbase hbw.size))⟩
    ·rw [HS.out] at hv
     exact range_below (HLo.out k v hv) HB3.out hgr
    ·exact range_below (HHi.out k v (by omega) hv) HB3.out hgr
   case measure=>simp [intOf];omega
  | false =>
   rw [hq] at HC
   have HS:Hid ((l.take (j+1)).filter kp=(l.take j).filter kp++[y]):=by show _=_;rw [Hst.out,if_pos (by rw [Hkp.out];simp [hq])]
   clear hq
   go_wp2_with (refine wpList_load_row rfl 115 _ rfl _ rfl _ _ _ _ Hra.out underlying115 rfl itvSize ?_)
   refine HC.out.mono ?_
   rintro e W3 ⟨rfl,hB3⟩
   have HB3:=Z1 (HBa.out.trans (hB3.mono HBa.out.size))
   have Hra3:=Z1 (gbox Hra.out hB3 sa)
   have hth3:=there_below Hth.out HB3.out hgr
   have hth4:Hid (W3.there g (i*3) 3):=Z1 fun q hq=>by have:=hth3 (i*3+q) (by omega);rwa [Nat.zero_add] at this
   have hg3:g<W3.heap.size:=by have:=HB3.out.size;omega
   have hil:(i:Int)<(l.length:Int):=by omega
   have hi0:(0:Int)<=(i:Int):=by omega
   clear hB3 hth3
   go_wp2_with (first | (refine wpList_load_row rfl 115 _ rfl _ rfl _ _ _ _ Hra3.out underlying115 rfl itvSize ?_) | (refine wpList_store_mid rfl 115 (.tmp 33) (.tmp 32) rfl g (i*3) #[.int .i64 y.frm,.int .i64 y.to,.int .i64 y.meth] rfl rfl hth4.out itvSize (by simp [Value.oneCell']) ?_))
   go_roundw
   case rel =>
    refine⟨i+1,j+1,by go_num,by go_num,by omega,by omega,by rw [HS.out,List.length_append,Hi.out];rfl,fun k v hv=>?_,fun k v hk hv=>?_,World.there_setCells (there_below Hth.out HB3.out hgr) _ _ _,below_setCellsQ g hg0 _ _ (hbw.trans (HB3.out.mono (Nat.le_trans hbase hbw.size)))⟩
    ·rw [HS.out] at hv
     have hi:=Hi.out
     by_cases hki:k<i
     ·rw [List.getElem?_append_left (by omega)] at hv
      exact World.rangeAt_setCells_apart (range_below (HLo.out k v hv) HB3.out hgr) _ _ _ (.inr (.inl (by show k*3+3<=i*3;omega)))
     ·rw [List.getElem?_append_right (by omega)] at hv
      obtain rfl:k=i:=by have:=(List.getElem?_eq_some_iff.1 hv).1;simp at this;omega
      rw [hi,Nat.sub_self] at hv
      cases hv
      exact World.rangeAt_setCells_same _ _ _ _ hth4.out
    ·exact World.rangeAt_setCells_apart (range_below (HHi.out k v (by omega) hv) HB3.out hgr) _ _ _ (.inr (.inr (by show i*3+3<=k*3;omega)))
   case measure=>simp [intOf];omega
end
end Go.Proofs.YtniaimjknmhapaaGreatDoor
namespace Go.Proofs.YtniaimjknmhapaaGreatDoor
open Go.Proofs.Tryz Go.RowKit
section
variable (w:World)
theorem inside_any (k n:Int) (p:Nat) (hx:w.cell? ⟨p,0,none⟩=some (.int .i64 n)) (hp:p<w.heap.size) :
  Calls prog 157 #[.int .i64 k,.pointer (some ⟨p,0,none⟩)] w fun e w'=>e=.returned (.bool (decide (0<=k/\k<n)))/\w=w':=by
 have HV:∀ v:Bool,v=(decide (0<=k)&&decide (k<n))->v=decide (0<=k/\k<n):=fun v h=>by rw [h];simp
 by_cases h0:0<=k
 ·have k1:decide (k ≥ 0)=true:=by simpa using h0
  have HV2:Hid (decide (0<=k/\k<n)=decide (k<n)):=by show _=_;simp [h0]
  clear HV
  go_enter func157,ntmps157
  go_wp2
  go_ret
  exact⟨by first | rfl | (rw [HV2.out];rfl),rfl⟩
 ·have k1:decide (k ≥ 0)=false:=by simpa using h0
  have HV2:Hid (decide (0<=k/\k<n)=false):=by show _=_;simp [h0]
  clear HV
  go_enter func157,ntmps157
  go_wp2
  go_ret
  exact⟨by first | rfl | (rw [HV2.out];rfl),rfl⟩
theorem proper_any (n:Int) (x:Hld):Calls prog 92 #[.int .i64 n,.agg #[.int .i64 x.hdr,.int .i64 x.ent,.int .i64 x.date,.int .i64 x.shr]] w fun e w'=>e=.returned (.bool (Hd.proper n x))/\Below w.heap.size w w':=by
 obtain⟨W1,hW1,hB0,hn0,hb0,hz⟩:=nw2 w #[.int .i64 n] #[.int .i64 x.hdr,.int .i64 x.ent,.int .i64 x.date,.int .i64 x.shr] 3 61
 have HW:=Z1 hW1
 have c0:=cr9 0 hn0
 have z0:=cr9 0 hb0
 have z1:=cr9 1 hb0
 have z2:=cr9 2 hb0
 have z3:=cr9 3 hb0
 simp at c0 z0 z1 z2 z3
 have s1:=some_lt hn0
 have s2:=some_lt hb0
 have Hi1:=Z1 (inside_any W1 x.hdr n w.heap.size c0 s1)
 have Hi2:=Z1 (inside_any W1 x.ent n w.heap.size c0 s1)
 have Hd1:=Z1 (dvalid_any x.date W1)
 have hV:Hd.proper n x=(decide (0<=x.hdr/\x.hdr<n)&&decide (0<=x.ent/\x.ent<n)&&decide (x.hdr≠x.ent)&&decide (-25567<=x.date/\x.date<=84005)&&decide (0<=x.shr)&&decide (x.shr<=10000)):=by
  unfold Hd.proper Gr.date;rw [Bool.eq_iff_iff];simp;omega
 obtain⟨v,hv⟩:∃ v,v=Hd.proper n x:=⟨_,rfl⟩
 rw [<- hv] at hV ⊢
 have HV:=Z1 hV
 obtain⟨b1,hb1⟩:∃ b1,b1=decide (0<=x.hdr/\x.hdr<n):=⟨_,rfl⟩
 obtain⟨b2,hb2⟩:∃ b2,b2=decide (0<=x.ent/\x.ent<n):=⟨_,rfl⟩
 obtain⟨b4,hb4⟩:∃ b4,b4=decide (-25567<=x.date/\x.date<=84005):=⟨_,rfl⟩
 rw [<- hb1,<- hb2,<- hb4] at HV
 rw [<- hb1] at Hi1
 rw [<- hb2] at Hi2
 rw [<- hb4] at Hd1
 clear hW1 hz hn0 hb0 hV hv hb1 hb2 hb4 c0
 go_enter func92,ntmps92
 go_upto_region 1 with(fail)
 rw [<- HW.out]
 go_wp2_with (fail)
 refine Hi1.out.mono ?_
 rintro e W2 ⟨rfl,rfl⟩
 cases b1 with
 | false =>
  have HV2:Hid (v=false):=by show _=_;rw [HV.out];rfl
  go_wp2
  go_ret
  exact⟨by rw [HV2.out];rfl,hB0⟩
 | true =>
 go_wp2_with (fail)
 refine Hi2.out.mono ?_
 rintro e W2 ⟨rfl,rfl⟩
 cases b2 with
 | false =>
  have HV2:Hid (v=false):=by show _=_;rw [HV.out];rfl
  go_wp2
  go_ret
  exact⟨by rw [HV2.out];rfl,hB0⟩
 | true =>
 by_cases hne:x.hdr=x.ent
 ·have k1:(x.hdr != x.ent)=false:=by simp [hne]
  have HV2:Hid (v=false):=by show _=_;rw [HV.out];simp [hne]
  clear hne
  go_wp2
  go_ret
  exact⟨by rw [HV2.out];rfl,hB0⟩
 have k1:(x.hdr != x.ent)=true:=by simp [hne]
 have HV3:Hid (v=(b4&&decide (0<=x.shr)&&decide (x.shr<=10000))):=by show _=_;rw [HV.out];simp [hne]
 clear hne
 go_wp2_with (fail)
 refine Hd1.out.mono ?_
 rintro e W2 ⟨rfl,rfl⟩
 cases b4 with
 | false =>
  have HV2:Hid (v=false):=by show _=_;rw [HV3.out];rfl
  go_wp2
  go_ret
  exact⟨by rw [HV2.out];rfl,hB0⟩
 | true =>
 by_cases hs:0<=x.shr
 case neg =>
  have k2:decide (x.shr ≥ 0)=false:=by simpa using hs
  have HV2:Hid (v=false):=by show _=_;rw [HV3.out];simp [hs]
  go_wp2
  go_ret
  exact⟨by rw [HV2.out];rfl,hB0⟩
 have k2:decide (x.shr ≥ 0)=true:=by simpa using hs
 have HV4:Hid (v=decide (x.shr<=10000)):=by show _=_;rw [HV3.out];simp [hs]
 go_wp2
 go_ret
 exact⟨by rw [HV4.out];rfl,hB0⟩
end
end Go.Proofs.YtniaimjknmhapaaGreatDoor
namespace Go.Proofs.YtniaimjknmhapaaGreatDoor
open Go.Proofs.Tryz Go.RowKit Go.Shelf
attribute [local go_sem] Oper.semAt_some
def KeepR (n lo hi:Nat) (W W':World):Prop:=∀ b,b<n->(b<lo∨hi<=b)->W'.heap[b]?=W.heap[b]?
theorem KeepR.refl (n lo hi:Nat) (W:World):KeepR n lo hi W W:=fun _ _ _=>rfl
theorem KeepR.trans {n lo hi:Nat} {A B C:World} (h:KeepR n lo hi A B) (k:KeepR n lo hi B C):KeepR n lo hi A C:=fun b hb hL=>(k b hb hL).trans (h b hb hL)
theorem KeepR.putObj {n lo hi:Nat} {w:World} (hn:n<=w.heap.size) (W:World) (l:Nat) (o o':Obj) (hl:w.heap.size<=l) (_:W.heap[l]?=some o) (_:o.isCells=false) (_:o.isWalk=false):KeepR n lo hi W (W.putObj l o') :=
 fun _ hb _=>World.putObj_heap_other (by omega)
theorem KeepR.alloc {n lo hi:Nat} {A W:World} (h:KeepR n lo hi A W) (hn:n<=W.heap.size) (o:Obj):KeepR n lo hi A (W.alloc o):=fun b hb hL=>(Below.heap_alloc W o b (by omega)).trans (h b hb hL)
theorem KeepR.cell {n lo hi:Nat} {A B:World} (h:KeepR n lo hi A B) {b:Nat} (hb:b<n) (hL:b<lo∨hi<=b) (o:Nat):B.cell? ⟨b,o,none⟩=A.cell? ⟨b,o,none⟩:=World.cell?_of_block (w:=A) (h b hb hL)
theorem RowsAt.keepR {α:Type} {f:α->List Value} {sz:Nat} {w w':World} {B n lo hi:Nat} {A:Option Addr} {l:List α} (h:RowsAt f sz w B A l) (hb:KeepR n lo hi w w') (hB:B<=n) (hL:B<=lo):RowsAt f sz w' B A l:=by
 rcases h with h | ⟨b,o,e,hl,hc⟩
 ·exact .inl h
 ·exact .inr ⟨b,o,e,hl,fun k hk j v hv=>(hb.cell (b:=b) (by omega) (.inl (by omega)) _).trans (hc k hk j v hv)⟩
section
variable (w:World)
theorem pair_any (A:Option Addr) (n c:Nat) (h e:Int) :
  Calls prog 211 #[.slice A n c,.int .i64 h,.int .i64 e] w fun ev w' =>
   ev=.returned (.func (.func 249) #[] #[.pointer (some ⟨w.heap.size,0,none⟩),.pointer (some ⟨w.heap.size+1,0,none⟩),.pointer (some ⟨w.heap.size+2,0,none⟩)]) /\
   w'=((w.alloc (.cells #[.slice A n c] 32)).alloc (.cells #[.int .i64 h] 3)).alloc (.cells #[.int .i64 e] 3):=by
 go_enter func211,ntmps211
 go_wp2
 go_ret
 exact⟨rfl,rfl⟩
def encH (x:Hld):Array Value:=#[.agg #[.int .i64 x.hdr,.int .i64 x.ent,.int .i64 x.date,.int .i64 x.shr]]
theorem pair_take_hit (l:List Hld) (p:Hld->Bool) (k:Nat) (h:k<l.length) (hp:p l[k]=true):(l.take (k+1)).filter p=(l.take k).filter p++[l[k]]:=by
 rw [List.take_succ_eq_append_getElem h,List.filter_append,List.filter_cons_of_pos hp,List.filter_nil]
theorem pair_take_miss (l:List Hld) (p:Hld->Bool) (k:Nat) (h:k<l.length) (hp:p l[k]=false):(l.take (k+1)).filter p=(l.take k).filter p:=by
 rw [List.take_succ_eq_append_getElem h,List.filter_append,List.filter_cons_of_neg (by simp [hp]),List.filter_nil,List.append_nil]
theorem pair1_in (m:Nat) (hm:1<=m) (l n₀ lo hi:Nat) (B0 B1 B2:Nat) (A:Option Addr) (n c:Nat) (hs:List Hld) (h e0:Int) (hl:hs.length=n) (hn:n<=1000)
  (q:Nat) (hq:q<=n₀) (hLq:q<=lo) (hb1:B1<n₀) (hb2:B2<n₀) (hl1:B1<lo∨hi<=B1) (hl2:B2<lo∨hi<=B2)
  (J Jx:List Hld->World->Prop) (W:World) (hW:n₀<=W.heap.size) (hJ:AbidesFrom W.heap.size J)
  (hY:∀ pre x W1,J pre W1->pre.length<hs.length->YieldAt Fence.wide (m-1) prog l (encH x) W1 fun e W' =>
   (e=.returned (.bool true)/\J (pre++[x]) W'/\(KeepR n₀ lo hi W1 W'/\W1.heap.size<=W'.heap.size))∨(e=.returned (.bool false)/\Jx (pre++[x]) W'))
  (c0:W.cell? ⟨B0,0,none⟩=some (.slice A n c)) (c1:W.cell? ⟨B1,0,none⟩=some (.int .i64 h)) (c2:W.cell? ⟨B2,0,none⟩=some (.int .i64 e0))
  (hA:RowsAt Hld.cells 4 W q A hs) (h0:J [] W) :
  CallsIn Fence.wide m prog 249 #[.func (.yield l) #[] #[],.pointer (some ⟨B0,0,none⟩),.pointer (some ⟨B1,0,none⟩),.pointer (some ⟨B2,0,none⟩)] W fun e W'=>(∃ v,e=.returned v) /\
   ((∃ ys,ys=hs.filter (Hd.pair h e0)/\J ys W')∨(∃ pre,True/\Jx pre W')):=by
 subst hl
 refine callsIn_of_wp func249 rfl trivial ?_ rfl
 simp only [ntmps249,List.size_toArray,List.length_cons,List.length_nil,Nat.reduceAdd,Nat.reduceSub,Array.replicate_succ,Array.replicate_zero,List.push_toArray,List.append_toArray,List.nil_append,List.cons_append]
 gi_wp2
 gi_loopw [9] (fun i wr=>∃ k:Nat,k<=hs.length/\i=.int .i64 k/\J ((hs.take k).filter (Hd.pair h e0)) wr/\KeepR n₀ lo hi W wr/\W.heap.size<=wr.heap.size) (fun i _=>hs.length-(intOf i).toNat)
 case atStart=>exact⟨0,Nat.zero_le _,rfl,h0,KeepR.refl _ _ _ _,Nat.le_refl _⟩
 case round =>
  obtain⟨k,hk,rfl,hJs,hKb,hsz⟩:=hrel
  by_cases hlt:k<hs.length
  ·obtain⟨bb,o,rfl,hbB,hr⟩:=RowsAt.look (RowsAt.keepR hA hKb hq hLq) hlt
   have d0:=hr 0 _ rfl
   have d1:=hr 1 _ rfl
   have d2:=hr 2 _ rfl
   have d3:=hr 3 _ rfl
   simp at d0 d1 d2 d3
   have hbw:bb<wr.heap.size:=by omega
   have e1:=(hKb.cell hb1 hl1 0).trans c1
   have e2:=(hKb.cell hb2 hl2 0).trans c2
   have f1:B1<wr.heap.size:=by omega
   have f2:B2<wr.heap.size:=by omega
   obtain⟨x,hx⟩:∃ x,x=hs[k]:=⟨_,rfl⟩
   have hJal:∀ pre,J pre wr->J pre (wr.alloc (.cells #[.int .i64 x.hdr,.int .i64 x.ent,.int .i64 x.date,.int .i64 x.shr] 61)):=fun pre hp=>hJ _ _ _ none hp (World.grownBy_alloc _ _ none) (by simp)
   rw [<- hx] at d0 d1 d2 d3
   by_cases hsel:Hd.pair h e0 x=true
   ·have hft:=Z1 (pair_take_hit hs (Hd.pair h e0) k hlt (by rw [<- hx];exact hsel))
    rw [<- hx] at hft
    have hlen:((hs.take k).filter (Hd.pair h e0)).length<hs.length:=Nat.lt_of_le_of_lt (List.length_filter_le _ _) (by rw [List.length_take];omega)
    have hJa:=hJal _ hJs
    obtain⟨fn,tmps,assign,body,hy,hR⟩:=hY _ x _ hJa hlen
    have q1:(x.hdr==h)=true:=by unfold Hd.pair at hsel;simp at hsel;simp [hsel.1]
    have q2:(x.ent==e0)=true:=by unfold Hd.pair at hsel;simp at hsel;simp [hsel.2]
    clear hsel hlen hJa hr hx hJal
    unfold encH at hy
    gi_wp2
    refine hR.mono ?_
    rintro ev W3 (⟨rfl,hJ3,hk3,hs3⟩ | ⟨rfl,hJx3⟩)
    ·have hK3:=(hKb.alloc (by omega) _).trans hk3
     have hs3':=hs3
     simp at hs3'
     gi_wp2
     go_roundw
     case rel=>exact⟨k+1,by omega,by go_num,by rw [hft.out];exact hJ3,hK3,by omega⟩
     case measure=>simp [intOf];omega
    ·gi_wp2
     refine bodyPost_ret (results_none rfl _ _ _) rfl ?_
     exact⟨⟨_,rfl⟩,.inr ⟨_,trivial,hJx3⟩⟩
   ·have hsel':Hd.pair h e0 x=false:=by simpa using hsel
    have hft:=pair_take_miss hs (Hd.pair h e0) k hlt (by rw [<- hx];exact hsel')
    have hJa:Hid (J ((hs.take (k+1)).filter (Hd.pair h e0)) (wr.alloc (.cells #[.int .i64 x.hdr,.int .i64 x.ent,.int .i64 x.date,.int .i64 x.shr] 61))):=by
     show J _ _
     rw [hft];exact hJal _ hJs
    have hcs:(x.hdr==h)=false∨((x.hdr==h)=true/\(x.ent==e0)=false):=by
     unfold Hd.pair at hsel'
     by_cases g1:x.hdr=h
     ·right;simp [g1] at hsel' ⊢;exact hsel'
     ·left;simp [g1]
    clear hft hsel hJs hY hJ h0 hJal hx hr
    rcases hcs with q1 | ⟨q1,q2⟩
    all_goals
     clear hsel'
     gi_wp2
     refine⟨fun _ _=>trivial,?_⟩
     gi_wp2
     go_roundw
     case rel=>exact⟨k+1,by omega,by go_num,hJa.out,hKb.alloc (by omega) _,by simp;omega⟩
     case measure=>simp [intOf];omega
  ·obtain rfl:k=hs.length:=by omega
   rw [List.take_length] at hJs
   gi_wp2
   go_end0
   exact⟨⟨_,rfl⟩,.inl ⟨_,rfl,hJs⟩⟩
end
end Go.Proofs.YtniaimjknmhapaaGreatDoor
namespace Go.Proofs.YtniaimjknmhapaaGreatDoor
open Go.RowKit Go.Shelf
def plainOp (o:Oper):Bool:=match o.op with
 | .load _ _ | .store _ _ _ | .fieldAddr _ _ _ | .assign _ | .move _=>true
 | _=>false
def plainRes:Result Next->Prop
 | .ok (.value _) _=>True
 | .ok .skip _=>True
 | .halt _ _=>True
 | _=>False
theorem plain_res {P:Program} {o:Oper} (h:plainOp o=true) (ρ:Operand->Value) (w:World):plainRes ((execOp ρ o).run P w):=by
 unfold plainOp at h
 split at h
 all_goals first | (cases h;done) | skip
 all_goals
  rename_i ho
  unfold execOp
  simp only [ho]
  try simp only [Sem.run_bind,Sem.run_pure]
  first
   | trivial
   | (generalize Sem.run _ _ _=r;cases r <;> trivial)
   | skip
def onlyN (Q:Exit->Act->World->Prop):Exit->Act->World->Prop
 | .normal,a,w=>Q .normal a w
 | _,_,_=>False
theorem onlyN_in (Q:Exit->Act->World->Prop):¬ LetsOut (onlyN Q):=fun⟨_,_,h⟩=>h
theorem wpOpIn_of {F:Fence} {n:Nat} {P:Program} {ops:Array Oper} {Q:Exit->Act->World->Prop} {i:Nat} {K K':Act->World->Prop} {a:Act} {w:World} (hp:∀ o,ops[i]?=some o->plainOp o=true) (hK:∀ a w,K a w->K' a w)
  (h:wpOp P ops (onlyN Q) i K a w):wpOpIn F n P ops Q i K' a w:=by
 unfold wpOp at h
 unfold wpOpIn
 cases hi:ops[i]? with
 | none=>rw [hi] at h;exact hK _ _ h
 | some o =>
  rw [hi] at h
  simp only at h ⊢
  have hpl:=hp o hi
  have hab:o.about P w a.eval=none:=by
   unfold plainOp at hpl
   unfold Oper.about
   split at hpl <;> first | (cases hpl;done) | (rename_i ho;simp only [ho])
  have hnd:∀ c,o.op≠.defer c:=fun c e=>by unfold plainOp at hpl;rw [e] at hpl;cases hpl
  split
  ·rename_i hw
   rw [if_pos hw] at h
   rcases h with h | ⟨_,h⟩
   ·unfold Oper.wpIn
    refine⟨fun f hf=>(by rw [hab] at hf;cases hf),?_⟩
    rw [Oper.semAt_plain F _ _ hnd]
    unfold Oper.wp at h
    have hr:=plain_res (P:=P) hpl a.eval w
    generalize (execOp a.eval o).run P w=r at h hr ⊢
    cases r with
    | ok x w'=>cases x <;> first | exact hK _ _ h | exact hr.elim
    | halt x w'=>cases x <;> exact h.elim
   ·exact absurd h (onlyN_in Q)
  ·rename_i hw
   rw [if_neg hw] at h
   exact⟨fun f hf=>(by rw [hab] at hf;cases hf),hK _ _ h⟩
theorem wpAnyIn_of {F:Fence} {n:Nat} {P:Program} {md:Region.Mode} {ops:Array Oper} {Q:Exit->Act->World->Prop} (hp:∀(i:Nat) (o:Oper),ops[i]?=some o->plainOp o=true) :
  ∀(fuel:Nat) (listed:Array Bool) (a:Act) (w:World),wpAny P md ops (onlyN Q) fuel listed a w->wpAnyIn F n P md ops Q fuel listed a w
 | 0,_,_,_,h=>h
 | fuel+1,_,_,_,h=>⟨h.1,fun i hi=>wpOpIn_of (hp i) (fun _ _ h'=>wpAnyIn_of hp fuel _ _ _ h') (h.2 i hi)⟩
theorem wpIn_region_plain {F:Fence} {n:Nat} {P:Program} {id:Nat} {ops:Array Oper} {Q:Exit->Act->World->Prop} {S:World->Prop} {a:Act} {w:World} (hm:P.follows .mixedOrders=true) (hp:∀(i:Nat) (o:Oper),ops[i]?=some o->plainOp o=true)
  (h:wpAnyH P .any ops (onlyN Q) S ops.size (Array.replicate ops.size false) a { w with drawn:=w.drawn+1 }):(Code.region id ops true).wpIn F n P Q a w :=
 wpIn_region_any hm (wpAnyIn_of hp _ _ _ _ (wpAny_of_held _ _ _ _ h))
theorem plain_all {ops:Array Oper} (h:ops.all plainOp=true):∀(i:Nat) (o:Oper),ops[i]?=some o->plainOp o=true:=fun i o ho=>by
 obtain⟨hi,rfl⟩:=Array.getElem?_eq_some_iff.1 ho
 exact(Array.all_eq_true.1 h) i hi
end Go.Proofs.YtniaimjknmhapaaGreatDoor
namespace Go.Proofs.YtniaimjknmhapaaGreatDoor
open Go.Proofs.Tryz Go.RowKit
theorem ItmsAt.seven {w:World} {B:Nat} {A:Option Addr} {l:List Itm} (h:RowsAt Itm.cells 7 w B A l) {k:Nat} (hk:k<l.length):∃ b o,A=some ⟨b,o,none⟩/\b<B/\w.rangeAt b (o+k*7) [.int .i64 (l[k]).ent0,.int .i64 (l[k]).lin,.int .i64 (l[k]).ent,.int .i64 (l[k]).acct,.int .i64 (l[k]).partner,.int .i64 (l[k]).date,.int .i64 (l[k]).amt]:=RowsAt.look h hk
theorem EtrsAt.seven {w:World} {B:Nat} {A:Option Addr} {l:List Etr} (h:RowsAt Etr.cells 7 w B A l) {k:Nat} (hk:k<l.length):∃ b o,A=some ⟨b,o,none⟩/\b<B/\w.rangeAt b (o+k*7) [.int .i64 (l[k]).c.id,.int .i64 (l[k]).c.ent,.int .i64 (l[k]).c.date,.int .i64 (l[k]).c.kind,.int .i64 (l[k]).c.of_,.string (l[k]).c.text,.slice (l[k]).lA (l[k]).ln (l[k]).lc]:=RowsAt.look h hk
section
variable (w:World)
theorem same18_any (A A':Option Addr) (n c c':Nat) (l:List Itm) (hl:l.length=n) (hn:n<=100000) (h:RowsAt Itm.cells 7 w w.heap.size A l) (h':RowsAt Itm.cells 7 w w.heap.size A' l) :
  Calls prog 12 #[.slice A n c,.slice A' n c'] w fun e w'=>e=.returned (.bool true)/\Below w.heap.size w w':=by
 have Hl:=Z1 hl
 have H:=Z1 h
 have H':=Z1 h'
 clear hl h h'
 go_enter func12,ntmps12
 go_wp2
 go_loopw [5] (fun i wr=>∃(j q:Nat),j<=n/\i=.int .i64 j/\wr=w.drewN q) (fun i _=>n-(intOf i).toNat)
 case atStart=>exact⟨0,0,Nat.zero_le _,rfl,rfl⟩
 case round =>
  obtain⟨j,q,hj,rfl,rfl⟩:=hrel
  by_cases hlt:j<n
  ·have hjl:j<l.length:=by have:=Hl.out;omega
   obtain⟨b,o1,hAe,hbB,c0⟩:=ItmsAt.seven H.out hjl
   obtain⟨b',o2,hAe',hbB',d0⟩:=ItmsAt.seven H'.out hjl
   subst hAe hAe'
   obtain⟨u0,hu0⟩:∃ u,u=l[j].ent0:=⟨_,rfl⟩
   obtain⟨u1,hu1⟩:∃ u,u=l[j].lin:=⟨_,rfl⟩
   obtain⟨u2,hu2⟩:∃ u,u=l[j].ent:=⟨_,rfl⟩
   obtain⟨u3,hu3⟩:∃ u,u=l[j].acct:=⟨_,rfl⟩
   obtain⟨u4,hu4⟩:∃ u,u=l[j].partner:=⟨_,rfl⟩
   obtain⟨u5,hu5⟩:∃ u,u=l[j].date:=⟨_,rfl⟩
   obtain⟨u6,hu6⟩:∃ u,u=l[j].amt:=⟨_,rfl⟩
   rw [<- hu0,<- hu1,<- hu2,<- hu3,<- hu4,<- hu5,<- hu6] at c0 d0
   have p0:w.cell? ⟨b,o1+j*7,none⟩=some (.int .i64 u0):=c0 0 _ rfl
   have p1:=c0 1 _ rfl
   have p2:=c0 2 _ rfl
   have p3:=c0 3 _ rfl
   have p4:=c0 4 _ rfl
   have p5:=c0 5 _ rfl
   have p6:=c0 6 _ rfl
   have q0:w.cell? ⟨b',o2+j*7,none⟩=some (.int .i64 u0):=d0 0 _ rfl
   have q1:=d0 1 _ rfl
   have q2:=d0 2 _ rfl
   have q3:=d0 3 _ rfl
   have q4:=d0 4 _ rfl
   have q5:=d0 5 _ rfl
   have q6:=d0 6 _ rfl
   have hbw:b<w.heap.size:=hbB
   have hbw':b'<w.heap.size:=hbB'
   clear hu0 hu1 hu2 hu3 hu4 hu5 hu6 c0 d0
   go_wp2
   go_quiet (fail)
   go_wp2
   go_roundw
   case rel=>exact⟨j+1,_,by omega,by go_num,rfl⟩
   case measure=>simp [intOf];omega
  ·obtain rfl:j=n:=by omega
   go_wp2
   go_ret
   exact⟨rfl,below_drawn (Below.refl _ _) _⟩
theorem samel_any (A A':Option Addr) (n c c':Nat) (l:List Lin) (hl:l.length=n) (hn:n<=100000) (h:LinsAt w w.heap.size A l) (h':LinsAt w w.heap.size A' l) :
  Calls prog 274 #[.slice A n c,.slice A' n c'] w fun e w'=>e=.returned (.bool true)/\Below w.heap.size w w':=by
 have Hl:=Z1 hl
 have H:=Z1 h
 have H':=Z1 h'
 clear hl h h'
 go_enter func274,ntmps274
 go_wp2
 go_loopw [5] (fun i wr=>∃(j q:Nat),j<=n/\i=.int .i64 j/\wr=w.drewN q) (fun i _=>n-(intOf i).toNat)
 case atStart=>exact⟨0,0,Nat.zero_le _,rfl,rfl⟩
 case round =>
  obtain⟨j,q,hj,rfl,rfl⟩:=hrel
  by_cases hlt:j<n
  ·have hjl:j<l.length:=by have:=Hl.out;omega
   obtain⟨b,o1,hAe,hbB,c0⟩:=LinsAt.three H.out hjl
   obtain⟨b',o2,hAe',hbB',d0⟩:=LinsAt.three H'.out hjl
   subst hAe hAe'
   obtain⟨u0,hu0⟩:∃ u,u=l[j].acct:=⟨_,rfl⟩
   obtain⟨u1,hu1⟩:∃ u,u=l[j].amt:=⟨_,rfl⟩
   obtain⟨u2,hu2⟩:∃ u,u=l[j].prt:=⟨_,rfl⟩
   rw [<- hu0,<- hu1,<- hu2] at c0 d0
   have p0:w.cell? ⟨b,o1+j*3,none⟩=some (.int .i64 u0):=c0 0 _ rfl
   have p1:=c0 1 _ rfl
   have p2:=c0 2 _ rfl
   have q0:w.cell? ⟨b',o2+j*3,none⟩=some (.int .i64 u0):=d0 0 _ rfl
   have q1:=d0 1 _ rfl
   have q2:=d0 2 _ rfl
   have hbw:b<w.heap.size:=hbB
   have hbw':b'<w.heap.size:=hbB'
   clear hu0 hu1 hu2 c0 d0
   go_wp2
   go_quiet (fail)
   go_wp2
   go_roundw
   case rel=>exact⟨j+1,_,by omega,by go_num,rfl⟩
   case measure=>simp [intOf];omega
  ·obtain rfl:j=n:=by omega
   go_wp2
   go_ret
   exact⟨rfl,below_drawn (Below.refl _ _) _⟩
def GetIs (l:List Etr) (id i:Int):Prop:=(Jr.get (l.map (·.c)) id=none/\i=-1)∨∃ k,∃ hk:k<l.length,i=k/\Jr.get (l.map (·.c)) id=some l[k].c
theorem get_hit {l:List EtC} {k:Nat} {id:Int} (hk:k<l.length) (hn:Jr.get (l.take k) id=none) (hp:l[k].id=id):Jr.get l id=some l[k]:=by
 unfold Jr.get at *
 have e:l=l.take k++l[k]::l.drop (k+1):=by rw [List.getElem_cons_drop,List.take_append_drop]
 generalize hx:l[k]=x at *
 rw [e,List.find?_append,hn]
 simp [hp]
theorem get_miss {l:List EtC} {k:Nat} {id:Int} (hk:k<l.length) (hn:Jr.get (l.take k) id=none) (hp:l[k].id≠id):Jr.get (l.take (k+1)) id=none:=by
 unfold Jr.get at *
 rw [List.take_succ_eq_append_getElem hk,List.find?_append,hn]
 simp [hp]
theorem rget_any (A:Option Addr) (n c:Nat) (l:List Etr) (id:Int) (hl:l.length=n) (hn:n<=1000) (h:RowsAt Etr.cells 7 w w.heap.size A l) :
  Calls prog 226 #[.slice A n c,.int .i64 id] w fun e w'=>(∃ i:Int,e=.returned (.int .i64 i)/\GetIs l id i)/\w=w':=by
 have Hl:=Z1 hl
 have H:=Z1 h
 clear hl h
 go_enter func226,ntmps226
 go_wp2
 go_loop [5] (fun i=>∃ j:Nat,j<=n/\i=.int .i64 j/\Hid (Jr.get ((l.map (·.c)).take j) id=none)) (fun i=>n-(intOf i).toNat)
 case atStart=>exact⟨0,Nat.zero_le _,rfl,Z1 rfl⟩
 case round =>
  obtain⟨j,hj,rfl,HN⟩:=hrel
  by_cases hlt:j<n
  ·have hjl:j<l.length:=by have:=Hl.out;omega
   have hjm:j<(l.map (·.c)).length:=by rw [List.length_map];exact hjl
   obtain⟨b,o,rfl,hbB,c0⟩:=EtrsAt.seven H.out hjl
   have e0:(l.map (·.c))[j]=l[j].c:=by simp
   have HG:Hid (l[j].c.id=id->GetIs l id j):=Z1 (fun he=>.inr ⟨j,hjl,rfl,by rw [<- e0];exact get_hit hjm HN.out (by rw [e0];exact he)⟩)
   have HM:Hid (l[j].c.id≠id->Jr.get ((l.map (·.c)).take (j+1)) id=none):=Z1 (fun he=>get_miss hjm HN.out (by rw [e0];exact he))
   obtain⟨u,hu⟩:∃ u,u=l[j].c.id:=⟨_,rfl⟩
   have p0:w.cell? ⟨b,o+j*7,none⟩=some (.int .i64 l[j].c.id):=c0 0 _ rfl
   rw [<- hu] at p0 HG HM
   clear hu c0 e0 HN
   by_cases he:u=id
   ·have k1:(u==id)=true:=by simp [he]
    have HG2:=Z1 (HG.out he)
    clear he
    go_wp2
    go_ret
    exact⟨⟨_,rfl,HG2.out⟩,rfl⟩
   ·have k1:(u==id)=false:=by simp [he]
    have HM2:=Z1 (HM.out he)
    clear he
    go_wp2
    go_round
    case rel=>exact⟨j+1,by omega,by go_num,HM2⟩
    case measure=>simp [intOf];omega
  ·obtain rfl:j=n:=by omega
   have HG:Hid (GetIs l id (-1)):=Z1 (.inl ⟨by have:=HN.out;rw [List.take_of_length_le (by rw [List.length_map];have:=Hl.out;omega)] at this;exact this,rfl⟩)
   go_wp2
   go_ret
   exact⟨⟨_,rfl,HG.out⟩,rfl⟩
theorem rrevl_any (A:Option Addr) (n c:Nat) (l:List Etr) (id:Int) (hl:l.length=n) (hn:n<=1000) (hr:Jr.revd (l.map (·.c)) id=false) (h:RowsAt Etr.cells 7 w w.heap.size A l) :
  Calls prog 227 #[.slice A n c,.int .i64 id] w fun e w'=>e=.returned (.int .i64 0)/\w=w':=by
 have Hl:=Z1 hl
 have H:=Z1 h
 have HR:=Z1 hr
 clear hl h hr
 go_enter func227,ntmps227
 go_wp2
 go_loop [5] (fun i=>∃ j:Nat,j<=n/\i=.int .i64 j) (fun i=>n-(intOf i).toNat)
 case atStart=>exact⟨0,Nat.zero_le _,rfl⟩
 case round =>
  obtain⟨j,hj,rfl⟩:=hrel
  by_cases hlt:j<n
  ·have hjl:j<l.length:=by have:=Hl.out;omega
   obtain⟨b,o,rfl,hbB,c0⟩:=EtrsAt.seven H.out hjl
   have hno:(decide (l[j].c.kind=3)&&decide (l[j].c.of_=id))=false:=by
    have:=List.any_eq_false.1 HR.out l[j].c (List.mem_map_of_mem (List.getElem_mem hjl))
    simpa using this
   obtain⟨u,hu⟩:∃ u,u=l[j].c.kind:=⟨_,rfl⟩
   obtain⟨v,hv⟩:∃ v,v=l[j].c.of_:=⟨_,rfl⟩
   have p3:w.cell? ⟨b,o+j*7+3,none⟩=some (.int .i64 l[j].c.kind):=c0 3 _ rfl
   have p4:w.cell? ⟨b,o+j*7+4,none⟩=some (.int .i64 l[j].c.of_):=c0 4 _ rfl
   rw [<- hu] at p3 hno
   rw [<- hv] at p4 hno
   have hcs:(u==3)=false∨((u==3)=true/\(v==id)=false):=by
    by_cases g:u=3
    ·right;simp [g] at hno ⊢;exact hno
    ·left;simp [g]
   clear hu hv c0 hno
   rcases hcs with k1 | ⟨k1,k2⟩
   all_goals
    go_wp2
    go_round
    case rel=>exact⟨j+1,by omega,by go_num⟩
    case measure=>simp [intOf];omega
  ·obtain rfl:j=n:=by omega
   go_wp2
   go_ret
   exact⟨rfl,rfl⟩
end
end Go.Proofs.YtniaimjknmhapaaGreatDoor
namespace Go.Proofs.YtniaimjknmhapaaGreatDoor
open Go.Proofs.Tryz Go.RowKit
def Lin.opp (x:Lin):Lin:=⟨x.acct,-x.amt,x.prt⟩
theorem opposite_eq:∀(a b:List Lin),Jr.opposite a b=true->a=b.map Lin.opp
 | [],[],_=>rfl
 | [],_::_,h=>by cases h
 | _::_,[],h=>by cases h
 | x::a,y::b,h=>by
  simp only [Jr.opposite,Bool.and_eq_true] at h
  obtain⟨h1,h2⟩:=h
  unfold Jr.oppL at h1
  rw [decide_eq_true_eq] at h1
  rw [List.map_cons,opposite_eq a b h2]
  congr 1
  obtain⟨x0,x1,x2⟩:=x
  obtain⟨h3,h4,h5⟩:=h1
  simp only at h3 h4 h5
  subst h3 h4 h5
  rfl
theorem linInfoQ:(prog.info? 68).map (fun i=>(i.zero,i.size,i.bytes))=some (some (.agg #[.int .i64 0,.int .i64 0,.int .i64 0]),3,24):=by kernel_rfl
section
variable (w:World)
theorem ropp_any (A B:Option Addr) (n c m d:Nat) (la lb:List Lin) (ho:Jr.opposite la lb=true) (hla:la.length=n) (hlb:lb.length=m) (hm:m<=60) (hw:∀ x∈lb,x.wf) (hA:LinsAt w w.heap.size A la) (hB:LinsAt w w.heap.size B lb) :
  Calls prog 228 #[.slice A n c,.slice B m d] w fun e w'=>e=.returned (.bool true)/\Below w.heap.size w w':=by
 have hab:=opposite_eq la lb ho
 have Hab:=Z1 hab
 have HA:=Z1 hA
 have HB:=Z1 hB
 have Hla:=Z1 hla
 have Hlb:=Z1 hlb
 have HWl:=Z1 hw
 have hnm:Hid (n=m):=by show n=m;rw [<- hla,<- hlb,hab,List.length_map]
 obtain⟨i0,hi,hz0,hz1,hz2⟩:=info_parts linInfoQ
 clear ho hla hlb hw hA hB hab
 go_enter func228,ntmps228
 go_wp2
 go_loopw [5,6] (fun v i wr=>∃ k:Nat,k<=m/\i=.int .i64 k/\wr.ownsRow w.heap.size 68 3 v ((lb.take k).map Lin.opp).length (((lb.take k).map Lin.opp).flatMap Lin.cells)/\Below w.heap.size w wr) (fun _ i _=>m-(intOf i).toNat)
 case atStart=>exact⟨0,Nat.zero_le _,rfl,World.ownsRow_nil _ _ _ _,Below.refl _ _⟩
 case round =>
  obtain⟨k,hk,rfl,hown,hbw⟩:=hrel
  have hswr:=hbw.size
  by_cases hlt:k<m
  case neg =>
   obtain rfl:k=m:=by omega
   rw [List.take_of_length_le (by have:=Hlb.out;omega),<- Hab.out] at hown
   obtain⟨A2,c2,rfl,hA2⟩:=own_flat (f:=Lin.cells) (sz:=3) (by decide) (fun _=>rfl) hown rfl
   rw [Hla.out,hnm.out] at hown
   have Hs:=Z1 (samel_any wr A A2 k c c2 la (Hla.out.trans hnm.out) (by omega) (RowsAt.more (RowsAt.below HA.out hbw (Nat.le_refl _)) hswr) hA2)
   have HBw:=Z1 hbw
   rw [Hla.out,hnm.out]
   clear hown hA2 hbw
   go_wp2_with (fail)
   refine Hs.out.mono ?_
   rintro ev W2 ⟨rfl,hB2⟩
   go_wp2
   go_ret
   exact⟨rfl,HBw.out.trans (hB2.mono hswr)⟩
  have hkl:k<lb.length:=by have:=Hlb.out;omega
  obtain⟨bl,ol,hle,hbl,hr⟩:=LinsAt.three (RowsAt.below HB.out hbw (Nat.le_refl _)) hkl
  subst hle
  obtain⟨x,hx⟩:∃ x,x=lb[k]:=⟨_,rfl⟩
  have Hst:Hid ((lb.take (k+1)).map Lin.opp=(lb.take k).map Lin.opp++[Lin.opp x]):=by show _=_;rw [List.take_succ_eq_append_getElem hkl,List.map_append,hx];rfl
  have hlen:((lb.take k).map Lin.opp).length<=60:=by simp;omega
  have hxa:=(HWl.out x (by rw [hx];exact List.getElem_mem _)).2.1
  have ho1:-9223372036854775808<=-x.amt:=by omega
  have ho2:-x.amt<=9223372036854775807:=by omega
  rw [<- hx] at hr
  have Hr:=Z1 hr
  have hblw:bl<wr.heap.size:=by omega
  obtain⟨L,hL⟩:∃ L,L=(lb.take k).map Lin.opp:=⟨_,rfl⟩
  rw [<- hL] at hown Hst hlen
  obtain⟨Wa,hWa,hBa,hra,hza⟩:=nw1 wr #[.int .i64 x.acct,.int .i64 (-x.amt),.int .i64 x.prt] 68
  have HWa:=Z1 hWa
  have Hra:=Z1 hra
  have HBa:=Z1 (hbw.trans (hBa.mono hswr))
  have Howa:=Z1 (pOwns_below hown hBa)
  have sa:wr.heap.size<Wa.heap.size:=by omega
  clear hown hbw hr hx hL hWa hra hza hBa hxa
  go_upto_region 7 with(refine wpList_load_mid rfl 68 (.tmp 16) rfl bl (ol+k*3) rfl [.int .i64 x.acct,.int .i64 x.amt,.int .i64 x.prt] _ Hr.out underlying68 rfl linSize ?_)
  rw [<- HWa.out]
  have hownN2:=Howa.out.alloc (.cells #[.int .i64 x.acct,.int .i64 (-x.amt),.int .i64 x.prt] 68)
  have hnew:=cells_new Wa [.int .i64 x.acct,.int .i64 (-x.amt),.int .i64 x.prt] 68
  have hone:∀ u∈([.int .i64 x.acct,.int .i64 (-x.amt),.int .i64 x.prt]:List Value),u.oneCell'=true:=by simp [Value.oneCell']
  have h63:L.length+1<=maxLen:=by unfold maxLen;omega
  have h64:(L.length+1)*24<=140737488355328:=by omega
  have h65:w.heap.size<=(Wa.alloc (.cells #[.int .i64 x.acct,.int .i64 (-x.amt),.int .i64 x.prt] 68)).heap.size:=by have:=HBa.out.size;simp;omega
  have hbN2:=HBa.out.alloc HBa.out.size (.cells #[.int .i64 x.acct,.int .i64 (-x.amt),.int .i64 x.prt] 68)
  go_wp2_with (first | (refine wpList_load_row rfl 68 _ rfl _ rfl _ _ _ _ Hra.out underlying68 rfl linSize ?_) | (at_builtin;refine Hid.out ?_))
  show wpList _ _ _ _ _ _
  refine wpList_append_own _ rfl _ _ 69 rfl w.heap.size 68 i0 (.agg #[.int .i64 0,.int .i64 0,.int .i64 0]) 3 24 underlying69 hi hz0 hz1 hz2 rfl (by decide) _ _ _ rfl hownN2 ⟨Wa.heap.size,0,none⟩ 1 1 [.int .i64 x.acct,.int .i64 (-x.amt),.int .i64 x.prt] rfl rfl hnew hone h63 h64 h65 ?_
  intro v' w1 hown' hgrow _
  have hb1:=hbN2.grown hgrow h65 (fun j hj=>(hownN2.lt j hj).1)
  go_wp2
  go_roundw
  case rel=>exact⟨k+1,by omega,by go_num,by rw [Hst.out,List.length_append,List.flatMap_append];simpa [Lin.cells,Lin.opp] using hown',hb1⟩
  case measure=>simp [intOf];omega
end
end Go.Proofs.YtniaimjknmhapaaGreatDoor
namespace Go.Proofs.YtniaimjknmhapaaGreatDoor
open Go.Proofs.Tryz Go.RowKit
section
variable (w:World)
theorem rpost_any (g:Grp) (B:Option Addr) (m d:Nat) (l:List Etr) (c:EtC) (A:Option Addr) (n kc:Nat) (hg:g.At w w.heap.size) (hx:(⟨c,A,n,kc⟩:Etr).At w w.heap.size) (hlm:l.length=m) (hm:m<=100) (hB:RowsAt Etr.cells 7 w w.heap.size B l) (hBx:∀ y∈l,y.At w w.heap.size)
  (hp:Jr.postOk g (l.map (·.c)) c=true) :
  Calls prog 185 #[.agg #[.string g.cur,.int .i64 g.Y,.int .i64 g.M,.int .i64 g.N,.slice g.cA g.cn g.cc,.int .i64 g.r0,.int .i64 g.r1,.int .i64 g.r2,.int .i64 g.r3,.int .i64 g.r4,.int .i64 g.r5,.int .i64 g.r6,.int .i64 g.r7,.int .i64 g.r8,.int .i64 g.r9,.int .i64 g.r10,.int .i64 g.r11,.int .i64 g.r12,.int .i64 g.r13,.int .i64 g.r14,.slice g.eA g.en g.ec],.slice B m d,.agg #[.int .i64 c.id,.int .i64 c.ent,.int .i64 c.date,.int .i64 c.kind,.int .i64 c.of_,.string c.text,.slice A n kc]] w fun ev w'=>ev=.returned (.int .i64 0)/\Below w.heap.size w w':=by
 unfold Jr.postOk at hp
 simp only [Bool.and_eq_true] at hp
 obtain⟨⟨⟨hf,hno⟩,hrv⟩,_⟩:=hp
 have hke:∃ ke:Nat,c.ent=ke:=by
  have h1:=hf
  unfold Jr.fine at h1;simp only [Bool.and_eq_true] at h1
  obtain⟨_,ke,h2,_⟩:=Jr.fine_parts h1.1.1.1
  exact⟨ke,h2⟩
 obtain⟨ke,hke⟩:=hke
 obtain⟨W1,hW1,hB0,hb0,hb1,hz⟩:=nw2 w #[.string g.cur,.int .i64 g.Y,.int .i64 g.M,.int .i64 g.N,.slice g.cA g.cn g.cc,.int .i64 g.r0,.int .i64 g.r1,.int .i64 g.r2,.int .i64 g.r3,.int .i64 g.r4,.int .i64 g.r5,.int .i64 g.r6,.int .i64 g.r7,.int .i64 g.r8,.int .i64 g.r9,.int .i64 g.r10,.int .i64 g.r11,.int .i64 g.r12,.int .i64 g.r13,.int .i64 g.r14,.slice g.eA g.en g.ec] #[.int .i64 c.id,.int .i64 c.ent,.int .i64 c.date,.int .i64 c.kind,.int .i64 c.of_,.string c.text,.slice A n kc] 29 71
 have HW:=Z1 hW1
 have hg1:=Z1 (hg.at_ hB0)
 have hx1:=Z1 (hx.at_ hB0)
 have HBr:=Z1 (RowsAt.at_ hB hB0)
 have HBx:=Z1 (fun y hy=>(hBx y hy).at_ hB0)
 have Hlm:=Z1 hlm
 have Hb1:=Z1 hb1
 have s1:w.heap.size<W1.heap.size:=by omega
 have s1':w.heap.size+1<W1.heap.size:=by omega
 have Hck:=Z1 (rcheck11_any W1 g c A n kc ke hg1.out hx1.out hke hf)
 have hload:W1.rangeAt w.heap.size 0 [.string g.cur,.int .i64 g.Y,.int .i64 g.M,.int .i64 g.N,.slice g.cA g.cn g.cc,.int .i64 g.r0,.int .i64 g.r1,.int .i64 g.r2,.int .i64 g.r3,.int .i64 g.r4,.int .i64 g.r5,.int .i64 g.r6,.int .i64 g.r7,.int .i64 g.r8,.int .i64 g.r9,.int .i64 g.r10,.int .i64 g.r11,.int .i64 g.r12,.int .i64 g.r13,.int .i64 g.r14,.slice g.eA g.en g.ec]:=range_of hb0
 have hload2:=hb1
 have Hno:=Z1 hno
 have Hrv:=Z1 hrv
 have HB0:=Z1 hB0
 have hm2:¬ (m:Int) ≥ 2000:=by omega
 clear hW1 hz hb0 hb1 hg hx hlm hB hBx hke hf hno hrv hB0
 go_enter func185,ntmps185
 go_upto_region 1 with(fail)
 rw [<- HW.out]
 go_wp2_with (first | (refine wpList_load_want (by rfl) 29 (.tmp 3) rfl w.heap.size 0 rfl _ _ hload underlying29 rfl grpSize ?_) | (refine wpList_load_row rfl 71 _ rfl _ rfl _ _ _ _ hload2 underlying71 rfl etrSize ?_))
 refine Hck.out.mono ?_
 rintro ev W2 ⟨rfl,hB2⟩
 have HB2:=Z1 (HB0.out.trans (hB2.mono HB0.out.size))
 have HBr2:=Z1 (RowsAt.at_ HBr.out hB2)
 have hb2:=gbox Hb1.out hB2 s1'
 have Hx2:=Z1 (hx1.out.at_ hB2)
 have HBx2:=Z1 (fun y hy=>(HBx.out y hy).at_ hB2)
 have z0:=cr9 0 hb2
 have z1:=cr9 1 hb2
 have z2:=cr9 2 hb2
 have z3:=cr9 3 hb2
 have z4:=cr9 4 hb2
 have z6:=cr9 6 hb2
 simp at z0 z1 z2 z3 z4 z6
 have s2:=some_lt hb2
 have Hb2:=Z1 hb2
 have Hget:=Z1 (fun id=>rget_any W2 B m d l id Hlm.out (by omega) HBr2.out)
 clear hload hload2 hB2 hb2
 go_wp2_with (fail)
 refine(Hget.out c.id).mono ?_
 rintro ev W3 ⟨⟨i,rfl,hi⟩,rfl⟩
 have hi1:i=-1:=by
  rcases hi with⟨_,h⟩ | ⟨k,hk,_,h⟩
  ·exact h
  ·have:=Hno.out;rw [h] at this;cases this
 subst hi1
 clear hi
 by_cases hk3:c.kind=3
 case neg =>
  have k1:(c.kind==3)=false:=by simp [hk3]
  clear hk3
  go_wp2
  go_ret
  exact⟨rfl,HB2.out⟩
 have k1:(c.kind==3)=true:=by simp [hk3]
 have hrv2:Jr.revOk (l.map (·.c)) c=true:=by have:=Hrv.out;simpa [hk3] using this
 clear hk3
 go_wp2_with (fail)
 refine(Hget.out c.of_).mono ?_
 rintro ev W3 ⟨⟨i,rfl,hi⟩,rfl⟩
 unfold Jr.revOk at hrv2
 rcases hi with⟨h,_⟩ | ⟨k,hk,rfl,h⟩
 ·rw [h] at hrv2;cases hrv2
 rw [h] at hrv2
 simp only [Bool.and_eq_true,decide_eq_true_eq,Bool.not_eq_true'] at hrv2
 obtain⟨⟨⟨⟨q1,q2⟩,q3⟩,q4⟩,q5⟩:=hrv2
 obtain⟨b,o,rfl,hbB,c0⟩:=EtrsAt.seven HBr2.out hk
 obtain⟨y,hy⟩:∃ y,y=l[k]:=⟨_,rfl⟩
 have hya:=HBx2.out y (by rw [hy];exact List.getElem_mem _)
 rw [<- hy] at c0 q2 q3 q4 q5
 have Hya:=Z1 hya
 have p1:=c0 1 _ rfl
 have p2:=c0 2 _ rfl
 have p3:=c0 3 _ rfl
 have p6:=c0 6 _ rfl
 have hbw:b<W2.heap.size:=hbB
 have hkm:(k:Int)<(m:Int):=by have:=Hlm.out;omega
 have k0:¬ (k:Int)<0:=by omega
 have k2:(y.c.kind==3)=false:=by simp [q2]
 have k3:(y.c.ent != c.ent)=false:=by simp [q3]
 have k4:¬ y.c.date > c.date:=by omega
 have Hrl:=Z1 (rrevl_any W2 (some ⟨b,o,none⟩) m d l c.of_ Hlm.out (by omega) q1 HBr2.out)
 have Hop:=Z1 (fun(W:World) (h1:LinsAt W W.heap.size A c.lines) (h2:LinsAt W W.heap.size y.lA y.c.lines)=>ropp_any W A y.lA n kc y.ln y.lc c.lines y.c.lines q5 (show c.lines.length=n from Hx2.out.hl) hya.hl (by have h1:y.c.lines.length<=60:=hya.hw.hln;have h2:=hya.hl;omega) (fun z hz=>hya.hw.hlw z hz) h1 h2)
 have HA2:Hid (LinsAt W2 W2.heap.size A c.lines):=Hx2.out.hA
 clear hy hya c0 q1 q2 q3 q4 q5 h z0
 go_upto_region 10 with(fail)
 go_wp2_with (fail)
 refine Hrl.out.mono ?_
 rintro ev W3 ⟨rfl,rfl⟩
 go_upto_region 12 with(fail)
 have hS:Below W2.heap.size W2 W2.drew:=below_drawn (Below.refl _ _) 1
 refine wp_region_held (S:=Below W2.heap.size W2) (by kernel_rfl) ?_
 change wpAnyH _ _ _ _ _ _ _ _ (World.drew W2)
 obtain⟨W_0,hWd⟩:∃ W0,W0=W2.drew:=⟨_,rfl⟩
 rw [<- hWd] at hS ⊢
 clear hWd
 refine tk (i:=0) (v:=.slice (some ⟨b,o,none⟩) m d) rfl (.inl ⟨by rfl,fun W' hS'=>by go_simp⟩) hS ?_
 try simp only [z]
 refine tk (i:=1) (v:=.int .i64 k) rfl (.inl ⟨by rfl,fun W' hS'=>by go_simp⟩) hS ?_
 try simp only [z]
 refine tk (i:=2) (v:=.pointer (some ⟨b,o+k*7,none⟩)) rfl (.inl ⟨by rfl,fun W' hS'=>by go_simp⟩) hS ?_
 try simp only [z]
 refine tk (i:=3) (v:=.pointer (some ⟨b,o+k*7+1,none⟩)) rfl (.inl ⟨by rfl,fun W' hS'=>by go_simp⟩) hS ?_
 try simp only [z]
 refine tk (i:=4) (v:=.int .i64 y.c.ent) rfl (.inl ⟨by rfl,fun W' hS'=>by have c0:=(hS'.cell (p:=⟨b,o+k*7+1,none⟩) (by show _<_;omega)).trans p1;go_simp⟩) hS ?_
 try simp only [z]
 refine tk (i:=5) (v:=.pointer (some ⟨w.heap.size+1,1,none⟩)) rfl (.inl ⟨by rfl,fun W' hS'=>by go_simp⟩) hS ?_
 try simp only [z]
 refine tk (i:=6) (v:=.int .i64 c.ent) rfl (.inl ⟨by rfl,fun W' hS'=>by have c0:=(hS'.cell (p:=⟨w.heap.size+1,1,none⟩) (by show _<_;omega)).trans z1;go_simp⟩) hS ?_
 try simp only [z]
 refine tk (i:=7) (v:=.bool false) rfl (.inl ⟨by rfl,fun W' hS'=>by go_simp⟩) hS ?_
 try simp only [z]
 refine tk (i:=8) (v:=.bool false) rfl (.inl ⟨by rfl,fun W' hS'=>by go_simp⟩) hS ?_
 try simp only [z]
 refine tk (i:=9) (v:=.slice (some ⟨b,o,none⟩) m d) rfl (.inl ⟨by rfl,fun W' hS'=>by go_simp⟩) hS ?_
 try simp only [z]
 refine tk (i:=10) (v:=.int .i64 k) rfl (.inl ⟨by rfl,fun W' hS'=>by go_simp⟩) hS ?_
 try simp only [z]
 refine tk (i:=11) (v:=.pointer (some ⟨b,o+k*7,none⟩)) rfl (.inl ⟨by rfl,fun W' hS'=>by go_simp⟩) hS ?_
 try simp only [z]
 refine tk (i:=12) (v:=.pointer (some ⟨b,o+k*7+2,none⟩)) rfl (.inl ⟨by rfl,fun W' hS'=>by go_simp⟩) hS ?_
 try simp only [z]
 refine tk (i:=13) (v:=.int .i64 y.c.date) rfl (.inl ⟨by rfl,fun W' hS'=>by have c0:=(hS'.cell (p:=⟨b,o+k*7+2,none⟩) (by show _<_;omega)).trans p2;go_simp⟩) hS ?_
 try simp only [z]
 refine tk (i:=14) (v:=.pointer (some ⟨w.heap.size+1,2,none⟩)) rfl (.inl ⟨by rfl,fun W' hS'=>by go_simp⟩) hS ?_
 try simp only [z]
 refine tk (i:=15) (v:=.int .i64 c.date) rfl (.inl ⟨by rfl,fun W' hS'=>by have c0:=(hS'.cell (p:=⟨w.heap.size+1,2,none⟩) (by show _<_;omega)).trans z2;go_simp⟩) hS ?_
 try simp only [z]
 refine tk (i:=16) (v:=.bool false) rfl (.inl ⟨by rfl,fun W' hS'=>by go_simp⟩) hS ?_
 try simp only [z]
 refine tk (i:=17) (v:=.bool false) rfl (.inl ⟨by rfl,fun W' hS'=>by go_simp⟩) hS ?_
 try simp only [z]
 refine tk (i:=18) (v:=.bool false) rfl (.inl ⟨by rfl,fun W' hS'=>by go_simp⟩) hS ?_
 try simp only [z]
 refine tk (i:=19) (v:=.pointer (some ⟨w.heap.size+1,6,none⟩)) rfl (.inl ⟨by rfl,fun W' hS'=>by go_simp⟩) hS ?_
 try simp only [z]
 refine tk (i:=20) (v:=.slice A n kc) rfl (.inl ⟨by rfl,fun W' hS'=>by have c0:=(hS'.cell (p:=⟨w.heap.size+1,6,none⟩) (by show _<_;omega)).trans z6;go_simp⟩) hS ?_
 try simp only [z]
 refine tk (i:=21) (v:=.slice (some ⟨b,o,none⟩) m d) rfl (.inl ⟨by rfl,fun W' hS'=>by go_simp⟩) hS ?_
 try simp only [z]
 refine tk (i:=22) (v:=.int .i64 k) rfl (.inl ⟨by rfl,fun W' hS'=>by go_simp⟩) hS ?_
 try simp only [z]
 refine tk (i:=23) (v:=.pointer (some ⟨b,o+k*7,none⟩)) rfl (.inl ⟨by rfl,fun W' hS'=>by go_simp⟩) hS ?_
 try simp only [z]
 refine tk (i:=24) (v:=.pointer (some ⟨b,o+k*7+6,none⟩)) rfl (.inl ⟨by rfl,fun W' hS'=>by go_simp⟩) hS ?_
 try simp only [z]
 refine tk (i:=25) (v:=.slice y.lA y.ln y.lc) rfl (.inl ⟨by rfl,fun W' hS'=>by have c0:=(hS'.cell (p:=⟨b,o+k*7+6,none⟩) (by show _<_;omega)).trans p6;go_simp⟩) hS ?_
 try simp only [z]
 refine rd9 26 (by kernel_rfl) rfl (fun K hK=>?_)
 have HC:=Z1 (Hop.out W_0 (RowsAt.at_ HA2.out hS) (RowsAt.at_ Hya.out.hA hS))
 go_simp
 refine HC.out.mono ?_
 rintro ev W4 ⟨rfl,hB4⟩
 have hS2:=hS.trans (hB4.mono hS.size)
 refine hK.out _ _ hS2 (fun _=>?_)
 clear hK K
 try simp only [z]
 refine rd9 27 (by kernel_rfl) rfl (fun K hK=>?_)
 go_simp
 refine hK.out _ _ hS2 (fun _=>?_)
 clear hK K
 try simp only [z]
 refine rd9 28 (by kernel_rfl) rfl (fun K hK=>?_)
 go_simp
 refine hK.out _ _ hS2 (fun _=>?_)
 clear hK K
 try simp only [z]
 refine rd9 29 (by kernel_rfl) rfl (fun K hK=>?_)
 go_simp
 refine hK.out _ _ hS2 (fun _=>?_)
 clear hK K
 try simp only [z]
 refine wpAnyH_done (by kernel_rfl) ?_ _
 try simp only [z]
 have HBF:=Z1 (HB2.out.trans (hS2.mono HB2.out.size))
 clear hS hS2 z1 z2 z3 z4 z6 p1 p2 p3 p6
 go_wp2
 go_ret
 exact⟨rfl,HBF.out⟩
end
end Go.Proofs.YtniaimjknmhapaaGreatDoor
