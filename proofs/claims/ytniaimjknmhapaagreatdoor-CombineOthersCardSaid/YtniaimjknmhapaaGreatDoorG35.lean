/- My texts MethW, DaysW, IvsW, CtIv. -/
import Derived.Test.YtniaimjknmhapaaGreatDoorG33
set_option linter.unusedVariables false
set_option linter.unusedSimpArgs false
set_option maxRecDepth 100000
set_option maxHeartbeats 16000000
namespace Go.Proofs.YtniaimjknmhapaaGreatDoor
open Go.Proofs.Tryz Go.RowKit Go.Shelf
section
variable (w:World)
theorem b1i (g:Grp) (A:Option Addr) (n c:Nat) (l:List Hld) (d:Int) (hg:g.At w w) (hl:l.length=n) (hn:n<=200) (hw:∀ x∈l,x.wf) (hA:RowsAt Hld.cells 4 w w A l) (hv:Hd.valid g.ents.length l=true) (hd:-25567<=d/\d<=84005) :
  Calls prog 213 #[g,.slice A n c,d] w (ListPost icell 1 ((List.range g.en).map (fun e=>Ct.meth g l e d)) w):=by
 have hm:1<=g.ents.length/\g.ents.length<=12:=by have:=hv;unfold Hd.valid at this;simp at this;omega
 have hel:=hg.hel;obtain⟨W1,hW1,hB1,hb1,hz1⟩:=nw1 w g 29;have x20:=cr9 20 hb1;simp at x20;have s1:=Vq hb1;obtain⟨HW,HB1,Hb1⟩:=Z3 hW1 hB1 hb1;have hq1:w.heap.size<=W1.heap.size:=hB1.size;obtain⟨m,hme⟩:∃ m,m=g.ents.length:=⟨_,rfl⟩;have Hc:=fun(W:World) (hB:Below w w W)=>Z1 (a4g W A n c m l d hl hn hw ((RowsAt.below hA hB lR).more hB.size) (by rw [hme];exact hv) hd);have Hvs:=fun(W:World) (hB:Below w w W)=>Z1 (a5l W A n c m l d hl hn hw ((RowsAt.below hA hB lR).more hB.size) (by rw [hme];exact hv) hd);have hem:g.en=m:=oM;have HGr:=Z1 hg;obtain⟨S,hS⟩:∃ S,S=Ct.ctrl (Hd.matrix m l d):=⟨_,rfl⟩;obtain⟨V,hV⟩:∃ V:Nat->Int,V=fun e=>Ct.votes (Hd.matrix m l d) S e m:=⟨_,rfl⟩;obtain⟨f,hf⟩:∃ f:Nat->Int,f=fun e=>Ct.meth g l e d:=⟨_,rfl⟩;have Hf:Hid (∀ e,f e=if S.testBit e then 3 else if V e<2000 then 0 else if (Gr.eat g.ents e).joint then 2 else 1):=Z1 (fun e=>by rw [hf,hV,hS,hme];rfl);rw [<- hf];rw [<- hS,<- hV] at Hvs;rw [<- hS] at Hc;have hm1:1<=m:=oM;have hm2:m<=12:=oM;obtain⟨i0,hi,hz0,hz1',hz2⟩:=info_parts intInfo;have Hem:=Z1 hem;clear hS hV hf hA hl hw hd hv hn hm hg hW1 hb1 hB1 hz1 hme hel;clear hem;go_enter func213,ntmps213;go_upto_region 1 with(fail);rw [<- HW.out];rw [Hem.out] at x20;simp only [Hem.out];go_wp2_with (fail);refine(Hc W1 HB1.out).out.mono ?_;rintro ev W2 ⟨hB2,A2,c2,rfl,hA2⟩;have HA2:=Z1 hA2;have HB2:=Z1 (HB1.out.trans (hB2.mono hq1));have Hb2:=gB Hb1 hB2 s1;have hq2:W1.heap.size<=W2.heap.size:=hB2.size;clear hA2 hB2 x20;simp only [List.length_map,List.length_range];go_wp2_with (fail);refine(Hvs W2 HB2.out).out.mono ?_;rintro ev W3 ⟨hB3,A3,c3,rfl,hA3⟩;have HA3:=Z1 hA3;have HA2':=Z1 ((RowsAt.below HA2.out hB3 lR).more hB3.size);have HB3:=bT HB2 hB3;have Hb3:=gB Hb2 hB3 oM;have hq3:W2.heap.size<=W3.heap.size:=hB3.size;clear hA3 hB3 HA2;simp only [List.length_map,List.length_range];go_wp2_with (at_make;refine a0C icell 1 (0:Int) rfl _ _ 128 rfl 3 i0 (.int .i64 0) rfl dC underlying128 hi hz0 rfl hz1' oM _ _ _ _ m rfl rfl rfl rfl oM ?_;intro w2 hw2);obtain⟨h,hh⟩:∃ h,h=W3.heap.size:=⟨_,rfl⟩
 have harr:Row w2 h 3 (cellsI (upTo f 0 m 0)):=by
  have:=heap_alloc_new W3 (.cells ((List.replicate m (0:Int)).flatMap icell).toArray 3);have e:∀ k,((List.replicate k (0:Int)).flatMap icell).toArray=cellsI (List.replicate k 0):=fun k=>by unfold cellsI;congr 1;induction k with | zero=>rfl | succ k ih=>rw [List.replicate_succ,List.flatMap_cons,ih];rfl
  rw [a3m,<- e];unfold Row;rw [hh,hw2.out];exact this
 have HBw:Hid (Below h W3 w2):=Z1 (by rw [hw2.out];exact(Below.refl h W3).alloc (by rw [hh];exact lR) _);have HAc:Hid (RowsAt boolcell 1 W3 h A2 ((List.range m).map fun e=>S.testBit e)):=Z1 (by rw [hh];exact HA2'.out);have HAv:Hid (RowsAt icell 1 W3 h A3 ((List.range m).map V)):=Z1 (by rw [hh];exact HA3.out);have HG3:Hid (g.At W3 h):=Z1 (by rw [hh];exact HGr.out.at_ HB3.out);have hwh:w.heap.size<h:=oM;rw [<- hh];have Harr:=Z1 harr;have hhs:h<=W3.heap.size:=Nat.le_of_eq hh;clear hw2 harr hh Hc Hvs HA2' HA3 HGr
 go_loopw [41] (fun i wr=>∃ k:Nat,k<=m/\i=.int .i64 k/\Row wr h 3 (cellsI (upTo f 0 m k))/\Below h W3 wr) (fun i _=>m-(intOf i).toNat)
 case atStart=>exact⟨0,Nat.zero_le _,rfl,Harr.out,HBw.out⟩
 case round =>
  obtain⟨k,hk,rfl,harr,hb⟩:=hrel;have sg:=Vq harr
  by_cases hlt:k<m
  case neg =>
   obtain rfl:k=m:=oM
   have HP:Hid (ListPost icell 1 ((List.range k).map f) w (.returned (.tuple #[.slice (some ⟨h,0,none⟩) k k,()])) wr):=by
    refine Z1 ⟨HB3.out.trans (hb.mono oM),some ⟨h,0,none⟩,k,sP,?_⟩;rw [a2Y] at harr;exact a3c (Value.int .i64) harr
   clear harr hb;go_wp2
   go_ret2
   rw [Hem.out];exact HP.out
  have hk1:k<((List.range m).map fun e=>S.testBit e).length:=by simpa using hlt
  have hk2:k<((List.range m).map V).length:=by simpa using hlt
  obtain⟨b2,o2,rfl,hl2,hr2⟩:=RowsAt.look (RowsAt.below HAc.out hb lR) hk1;obtain⟨b3,o3,rfl,hl3,hr3⟩:=RowsAt.look (RowsAt.below HAv.out hb lR) hk2;have hk4:k<g.ents.length:=by have:=HG3.out.hel;have:=Hem.out;omega
  obtain⟨b4,o4,hA4,hl4,hr4⟩:=RowsAt.look (RowsAt.below HG3.out.he hb lR) hk4;have c2:=hr2 0 _ rfl;have c3:=hr3 0 _ rfl;have c4:=hr4 4 _ rfl;simp at c2 c3;have hb1:=(hb.block w hwh).trans Hb3.out;have x20:=cr9 20 hb1;simp at x20;rw [hA4,Hem.out] at x20;have he4:Gr.eat g.ents k=g.ents[k]:=a9T hk4;have sw:=Vq hb1;have hfk:=Hf.out k;obtain⟨jt,hjt⟩:∃ jt,jt=(g.ents[k]).joint:=⟨_,rfl⟩;rw [he4,<- hjt] at hfk;rw [<- hjt] at c4;obtain⟨vk,hvk⟩:∃ vk,vk=V k:=⟨_,rfl⟩;rw [<- hvk] at c3 hfk;have Hfk:=Z1 hfk
  have Hrn:∀ x:Int,x=f k->Hid (Row (wr.setCell ⟨h,k,none⟩ (.int .i64 x)) h 3 (cellsI (upTo f 0 m (k+1)))/\Below h W3 (wr.setCell ⟨h,k,none⟩ (.int .i64 x))):=fun x hx=>Z1 (by
   have hj:=Row.set harr k (.int .i64 x)
   have hce:(cellsI (upTo f 0 m k)).setIfInBounds k (.int .i64 x)=cellsI (upTo f 0 m (k+1)):=by
    rw [<- a4N f 0 hlt,hx];unfold cellsI;simp [List.map_set]
   rw [hce] at hj;exact⟨hj,hb.setCell (p:=⟨h,k,none⟩) lR (.int .i64 x)⟩)
  have hlen:(upTo f 0 m k).length=m:=a4O f 0 hk;have y0:wr.cell? ⟨h,k,none⟩=some (.int .i64 ((upTo f 0 m k)[k])):=by rw [cr9 k harr];simp [cellsI]
  have y1:=fr0 k harr;have hk0:(0:Int)<=(k:Int):=oM;have hkm:(k:Int)<(m:Int):=oM;clear hr2 hr3 hr4 hb1 he4 hjt hvk hfk hA4 hb
  cases hs:S.testBit k with
  | true =>
   have H9:=Hrn 3 (by rw [Hfk.out,hs];rfl);rw [hs] at c2;clear hs;go_wp2;go_roundw
   case rel=>exact⟨k+1,oM,by go_num,H9.out.1,H9.out.2⟩
   case measure=>simp [intOf];omega
  | false =>
   rw [hs] at c2
   by_cases hv:vk<2000
   ·have H9:=Hrn 0 (by rw [Hfk.out,hs];simp [hv])
    have hdv:decide (vk<2000)=true:=by simp [hv]
    clear hs;go_wp2;go_roundw
    case rel=>exact⟨k+1,oM,by go_num,H9.out.1,H9.out.2⟩
    case measure=>simp [intOf];omega
   ·have hdv:decide (vk<2000)=false:=by simp [hv]
    cases jt with
    | true =>
     have H9:=Hrn 2 (by rw [Hfk.out,hs];simp [hv]);clear hs;go_wp2;go_roundw
     case rel=>exact⟨k+1,oM,by go_num,H9.out.1,H9.out.2⟩
     case measure=>simp [intOf];omega
    | false =>
     have H9:=Hrn 1 (by rw [Hfk.out,hs];simp [hv]);clear hs;go_wp2;go_roundw
     case rel=>exact⟨k+1,oM,by go_num,H9.out.1,H9.out.2⟩
     case measure=>simp [intOf];omega
theorem b2G (g:Grp) (A:Option Addr) (n c:Nat) (l:List Hld) (e:Nat) (d:Int) (he:e<g.en) (hg:g.At w w) (hl:l.length=n) (hn:n<=200) (hw:∀ x∈l,x.wf) (hA:RowsAt Hld.cells 4 w w A l) (hv:Hd.valid g.ents.length l=true) (hd:-25567<=d/\d<=84005) :
  CL 166 #[g,.slice A n c,e,d] w (.tuple #[(Ct.meth g l e d),()]):=by
 obtain⟨W1,hW1,hB1,hb1,hz1⟩:=nw1 w g 29;have HW:=Z1 hW1;have HB1:=Z1 hB1;have hload:W1.rangeAt w.heap.size 0 g:=Xx hb1;have s1:=Vq hb1;have Hm:=Z1 (b1i W1 g A n c l d (hg.at_ hB1) hl hn hw (RowsAt.at_ hA hB1) hv hd);obtain⟨f,hf⟩:∃ f:Nat->Int,f=fun e=>Ct.meth g l e d:=⟨_,rfl⟩;have hfe:Ct.meth g l e d=f e:=by rw [hf]
 rw [<- hf] at Hm;rw [hfe];clear hW1 hz1 hg hA hv hw hl hd hB1 hf hfe hb1;go_enter func166,ntmps166;go_upto_region 1 with(fail);rw [<- HW.out];go_wp2_with (refine Vk (by rfl) 29 (.tmp 4) rfl w.heap.size 0 rfl _ _ hload underlying29 rfl VJ ?_);refine Hm.out.mono ?_;rintro ev W2 ⟨hB2,A2,c2,rfl,hA2⟩;have hk1:e<((List.range g.en).map f).length:=by simpa using he
 obtain⟨b2,o2,rfl,hl2,hr2⟩:=RowsAt.look hA2 hk1;have y2:=hr2 0 _ rfl;simp at y2;have HB2:=bT HB1 hB2;have he0:(0:Int)<=(e:Int):=oM;have hen:(e:Int)<(g.en:Int):=oM;simp only [List.length_map,List.length_range];clear hA2 hr2 hB2 hload;go_wp2
 go_ret2
 exact⟨rfl,HB2.out⟩
end
open Go.Proofs.Tryz Go.RowKit Go.Shelf
attribute [local go_sem] Oper.semAt_some
def Day:={ d:Int // -25567<=d/\d<=84005 }
def encD (d:Day):Array Value:=#[.int .i64 d.1]
def dmap (l:List Day):List Int:=l.map (·.1)
theorem a5Z {l:List Hld} {d:Int} (h:d∈Hd.dates l):∃ x∈l,x.date=d:=by
 unfold Hd.dates at h;rw [List.mem_mergeSort,Hd.mem_keys] at h;simpa using h
section
variable (w:World)
theorem b1T (A:Option Addr) (n c:Nat) :
  Calls prog 165 #[.slice A n c] w fun ev w' =>
   ev=.returned (.func (.func 212) #[] #[.pointer (some ⟨w,0,none⟩)])/\w'=w.alloc (.cells #[.slice A n c] 32):=by
 go_enter func165,ntmps165;go_wp2;go_ret;exact⟨rfl,rfl⟩
theorem a6a (l:List Hld):(Hd.dates l).length<=l.length:=by
 unfold Hd.dates;rw [List.length_mergeSort];have:=Hd.keys_len (l.map (·.date))
 rwa [List.length_map] at this
def after (d:Int):Bool:=decide (-25567<d)
theorem b1U (m:Nat) (hm:1<=m) (l n₀ lo hi:Nat) (B0:Nat) (A:Option Addr) (n c:Nat) (hs:List Hld) (hl:hs.length=n) (hn:n<=200) (hw:∀ x∈hs,(Lit.int .i64 x.date).wf=true) (hdt:∀ x∈hs,-25567<=x.date/\x.date<=84005)
  (q:Nat) (hq:q<=n₀) (hLq:q<=lo) (hb0:B0<n₀) (hl0:B0<lo∨hi<=B0)
  (J Jx:List Day->World->Prop) (W:World) (hW:n₀<=W.heap.size) (hJ:AbidesFrom W J)
  (hY:∀ pre x W1,J pre W1->pre.length<202->YieldAt Fence.wide (m-1) prog l (encD x) W1 fun e W' =>
   (e=.returned (.bool true)/\J (pre++[x]) W'/\(KeepR n₀ lo hi W1 W'/\KeepT 3 W1 W'/\W1.heap.size<=W'.heap.size))∨(e=.returned (.bool false)/\Jx (pre++[x]) W'))
  (c0:W.cell? ⟨B0,0,none⟩=some (.slice A n c)) (hA:RowsAt Hld.cells 4 W q A hs) (h0:J [] W) :
  CallsIn Fence.wide m prog 212 #[.func (.yield l) #[] #[],.pointer (some ⟨B0,0,none⟩)] W fun e W'=>(∃ v,e=.returned v) /\
   ((∃ ys,dmap ys=Ct.days hs/\J ys W')∨(∃ pre,True/\Jx pre W')):=by
 refine callsIn_of_wp func212 rfl trivial ?_ rfl;simp only [ntmps212,List.size_toArray,List.length_cons,List.length_nil,Nat.reduceAdd,Nat.reduceSub,Array.replicate_succ,Array.replicate_zero,List.push_toArray,List.append_toArray,List.nil_append,List.cons_append];obtain⟨fn,tmps,assign,body,hy,hR⟩:=hY [] ⟨-25567,dC⟩ W h0 dC;unfold encD at hy;obtain⟨HA,Hl,HW⟩:=Z3 hA hl hw;have HDt:Hid (∀ d∈Hd.dates hs,-25567<=d/\d<=84005):=Z1 (fun d h=>by obtain⟨x,hx,rfl⟩:=a5Z h;exact hdt x hx);clear hA hw hl hdt
 gi_wp2
 refine hR.mono ?_;rintro ev W3 (⟨rfl,hJ3,hk3,ht3,hs3⟩ | ⟨rfl,hJx3⟩)
 case inr =>
  gi_wp2
  refine bodyPost_ret (results_none rfl _ _ _) rfl ?_;exact⟨⟨_,rfl⟩,.inr ⟨_,trivial,hJx3⟩⟩
 have e1:=(hk3.cell hb0 hl0 0).trans c0;have f1:B0<W3.heap.size:=oM;obtain⟨Hd0,HJ3,HK3⟩:=Z3 (a3O W3 A n c hs Hl.out oM HW.out ((HA.out.keepR hk3 hq hLq).more oM)) hJ3 hk3;obtain⟨L,hL⟩:∃ L,L=Hd.dates hs:=⟨_,rfl⟩;have hLn:L.length<=200:=by have:=a6a hs;rw [hL];have:=Hl.out;omega
 have HD:Hid (Ct.days hs=-25567::L.filter after):=by show _=_;rw [hL];rfl
 rw [<- hL] at Hd0 HDt;clear hJ3 hk3 ht3 hL hy hR c0
 gi_wp2
 refine⟨trivial,callsIn_wide.2 (Hd0.out.mono ?_)⟩;rintro ev W4 ⟨hB4,A4,c4,⟨_,hty⟩,rfl,hA4⟩;have HJ4:Hid (J ([]++[(⟨-25567,dC⟩:Day)]) W4):=Z1 (hJ _ _ _ none HJ3.out ⟨hB4.os,hB4.tape,hB4.output,hB4.size,fun k hk _=>hB4.block k hk⟩ sP);have HK4:Hid (KeepR n₀ lo hi W W4):=Z1 (HK3.out.trans (fun b hb _=>hB4.block b oM));have hq4:=hB4.size;have HTy:=Z1 hty;have HA4:=Z1 hA4;clear hB4 hty hA4
 gi_wp2
 gi_loopw [11] (fun i wr=>∃(k:Nat) (pre:List Day),k<=L.length/\i=.int .i64 k/\Hid (dmap pre=-25567::(L.take k).filter after)/\J pre wr/\KeepR n₀ lo hi W wr/\KeepT 3 W4 wr/\W4.heap.size<=wr.heap.size) (fun i _=>L.length-(intOf i).toNat)
 case atStart=>exact⟨0,_,Nat.zero_le _,rfl,Z1 rfl,HJ4.out,HK4.out,KeepT.refl _ _,lR⟩
 case round =>
  obtain⟨k,pre,hk,rfl,HP,hJs,hKb,hKt,hsz⟩:=hrel
  by_cases hlt:k<L.length
  case neg =>
   obtain rfl:k=L.length:=oM;have HP2:Hid (dmap pre=-25567::L.filter after):=by have:=HP.out;rw [List.take_length] at this;exact this
   gi_wp2
   go_end0
   exact⟨⟨_,rfl⟩,.inl ⟨_,HP2.out.trans HD.out.symm,hJs⟩⟩
  obtain⟨bb,o,rfl,hbB,hr⟩:=RowsAt.look (RowsTy.keepT HTy.out HA4.out hKt hsz).2 hlt;have d0:=hr 0 _ rfl;simp at d0;obtain⟨x,hx⟩:∃ x,x=L[k]:=⟨_,rfl⟩;rw [<- hx] at d0
  by_cases hsel:-25567<x
  case neg =>
   have hft:(L.take (k+1)).filter after=(L.take k).filter after:=by
    rw [tse hlt,List.filter_append,List.filter_cons_of_neg (by rw [<- hx];simp [after,hsel]),List.filter_nil,List.append_nil]
   have hJ':Hid (dmap pre=-25567::(L.take (k+1)).filter after):=by show _=_;rw [hft];exact HP.out
   have k1:decide (x > -25567)=false:=by simpa using hsel
   clear hft hr hx
   gi_wp2
   refine⟨fun _ _=>trivial,?_⟩
   gi_wp2
   go_roundw
   case rel=>exact⟨k+1,pre,oM,by go_num,hJ',hJs,hKb,hKt,hsz⟩
   case measure=>simp [intOf];omega
  have hft:Hid ((L.take (k+1)).filter after=(L.take k).filter after++[x]):=by
   show _=_;rw [tse hlt,List.filter_append,List.filter_cons_of_pos (by rw [<- hx];simp [after,hsel]),List.filter_nil,<- hx]
  have hlen:((L.take k).filter after).length<200:=Nat.lt_of_le_of_lt (List.length_filter_le _ _) (by rw [List.length_take];omega);have hxd:-25567<=x/\x<=84005:=HDt.out x (by rw [hx];exact List.getElem_mem hlt);have hpl:pre.length<202:=by have:=congrArg List.length HP.out;unfold dmap at this;simp only [List.length_map,List.length_cons] at this;omega
  obtain⟨x',hx'⟩:∃ x':Day,x'=⟨x,hxd⟩:=⟨_,rfl⟩;obtain⟨fn,tmps,assign,body,hy,hR⟩:=hY pre x' _ hJs hpl;rw [show encD x'=#[.int .i64 x] by rw [hx'];rfl] at hy
  have HP3:Hid (dmap (pre++[x'])=-25567::(L.take (k+1)).filter after):=by
   show _=_;rw [hft.out];unfold dmap;rw [List.map_append];have:=HP.out;unfold dmap at this;rw [this,hx'];rfl
  have k1:decide (x > -25567)=true:=by simpa using hsel
  clear hlen hr hx hJs hpl hx'
  gi_wp2
  refine hR.mono ?_;rintro ev W5 (⟨rfl,hJ5,hk5,ht5,hs5⟩ | ⟨rfl,hJx5⟩)
  ·have hK5:=hKb.trans hk5
   have hT5:=hKt.trans ht5
   gi_wp2
   go_roundw
   case rel=>exact⟨k+1,_,oM,by go_num,HP3,hJ5,hK5,hT5,oM⟩
   case measure=>simp [intOf];omega
  ·gi_wp2
   refine bodyPost_ret (results_none rfl _ _ _) rfl ?_;exact⟨⟨_,rfl⟩,.inr ⟨_,trivial,hJx5⟩⟩
end
open Go.Proofs.Tryz Go.RowKit Go.Shelf
attribute [local go_sem] Oper.semAt_some
def accD (f:Int->Int) (pre:List Day):List Itv:=(dmap pre).foldl (fun acc d=>Ct.add acc d (f d)) []
theorem a6p (f:Int->Int) (pre:List Day) (x:Day):accD f (pre++[x])=Ct.add (accD f pre) x.1 (f x.1):=by unfold accD dmap;rw [List.map_append,List.foldl_append];rfl
theorem a2D (d m:Int):Ct.add [] d m=[⟨d,84006,m⟩]:=rfl
theorem a3g (p:List Itv) (x:Itv) (d m:Int):Ct.add (p++[x]) d m=if x.meth=m then p++[x] else (p++[⟨x.frm,d,x.meth⟩])++[⟨d,84006,m⟩]:=by
 unfold Ct.add;simp
theorem b0m (acc:List Itv) (d m:Int):(Ct.add acc d m).length<=acc.length+1:=by
 rcases List.eq_nil_or_concat acc with h | ⟨p,x,h⟩
 ·subst h;simp [a2D]
 ·rw [h,List.concat_eq_append,a3g];split <;> simp
theorem a7w (f:Int->Int) (pre:List Day):(accD f pre).length<=pre.length:=by
 obtain⟨k,hk⟩:∃ k,k=pre.length:=⟨_,rfl⟩
 induction k generalizing pre with
 | zero=>have:pre=[]:=List.length_eq_zero_iff.1 hk.symm;subst this;exact lR
 | succ k ih =>
  rcases List.eq_nil_or_concat pre with h | ⟨p,x,h⟩
  ·subst h;simp at hk
  ·rw [List.concat_eq_append] at h
   subst h;have h1:=ih p (by simpa using hk);have h2:=b0m (accD f p) x.1 (f x.1);rw [a6p,List.length_append,List.length_singleton];omega
theorem Hd.valid_date {n:Nat} {l:List Hld} (h:Hd.valid n l=true):∀ x∈l,-25567<=x.date/\x.date<=84005:=by
 intro x hx;obtain⟨i,hi,rfl⟩:=List.getElem_of_mem hx;unfold Hd.valid at h;simp only [Bool.and_eq_true,List.all_eq_true,List.mem_range] at h;have h1:=h.1.2 i hi;unfold Hd.keyAt at h1;simp only [Bool.and_eq_true] at h1;have e:Hd.hat l i=l[i]:=by unfold Hd.hat;simp [hi]
 rw [e] at h1;have h2:=h1.1;unfold Hd.proper Gr.date at h2;simp only [Bool.and_eq_true,decide_eq_true_eq] at h2;exact h2.1.2
theorem a8s (ws:World) (g n₀ B0 m:Nat) (hm:1<=m) (A:Option Addr) (n c:Nat) (hs:List Hld) (hl:hs.length=n) (hn:n<=200) (hw:∀ x∈hs,(Lit.int .i64 x.date).wf=true) (hdt:∀ x∈hs,-25567<=x.date/\x.date<=84005) (hws:ws.heap.size=n₀) (h1:g+1<=B0) (h2:B0<n₀)
  (c0:ws.cell? ⟨B0,0,none⟩=some (.slice A n c)) (hA:RowsAt Hld.cells 4 ws g A hs) :
  SeqStopsK Fence.wide m prog 212 #[.pointer (some ⟨B0,0,none⟩)] encD
   (fun W W'=>KeepR n₀ g (g+1) W W'/\KeepT 3 W W'/\W.heap.size<=W'.heap.size) (fun ys=>dmap ys=Ct.days hs) (fun _=>True) 202 ws:=fun l J Jx W hW hJ _ hY h0 =>
 b1U m hm l n₀ g (g+1) B0 A n c hs hl hn hw hdt g oM lR h2 (.inr h1) J Jx W (by have:=hW.size;omega) hJ hY
  ((hW.cell (p:=⟨B0,0,none⟩) (by show B0<ws.heap.size;omega)).trans c0) (RowsAt.below hA hW oM) h0
def IvKeep (B ob:Nat) (W W':World):Prop:=KeepsFrom B W W'/\(KeepR (ob+2) ob (ob+1) W W'/\KeepT 3 W W'/\W.heap.size<=W'.heap.size)/\Below ob W W'
theorem IvKeep.trans {B ob:Nat} {X Y Z:World} (h:IvKeep B ob X Y) (k:IvKeep B ob Y Z):IvKeep B ob X Z :=
 ⟨h.1.trans k.1,⟨h.2.1.1.trans k.2.1.1,h.2.1.2.1.trans k.2.1.2.1,Nat.le_trans h.2.1.2.2 k.2.1.2.2⟩,h.2.2.trans k.2.2⟩
theorem IvKeep.below {B ob:Nat} {W W':World} (h:Below W W W') (hob:ob+2<=W.heap.size):IvKeep B ob W W' :=
 ⟨KeepsFrom.of_grownBy (show W.grownBy W' none from⟨h.os,h.tape,h.output,h.size,fun k hk _=>h.block k hk⟩) (fun j e=>by cases e),⟨fun b hb _=>h.block b oM,KeepT.below h,h.size⟩,h.mono oM⟩
theorem IvKeep.store {B ob g cap k:Nat} {W:World} {xs:List Value} (h:W.ownsRow (ob+2) 115 3 (.slice (some ⟨g,0,none⟩) k cap) k xs) (j:Nat) (u:Value):IvKeep B ob W (W.setCell ⟨g,j,none⟩ u):=by
 have hg:=h.lt g rfl
 have hb:∃ cur fr,W.heap[g]?=some (.cells cur 115 fr):=by
  rcases h.2 with⟨e,_⟩ | ⟨g',cap',cur,e,_,hc,_⟩
  ·cases e
  ·cases e;exact⟨cur,_,hc⟩
 obtain⟨cur,fr,hb⟩:=hb;exact⟨(KeepsOthers.setCell _ _ _).from _,⟨fun b hb2 _=>Below.heap_setCell _ _ _ _ (by show b≠g;omega),KeepT.setCell (p:=⟨g,j,none⟩) hb dC u,by simp [World.setCell]⟩,bR.setCell (p:=⟨g,j,none⟩) (by show ob<=g;omega) u⟩
theorem IvKeep.push {B ob:Nat} {W w1:World} {v v':Value} {k m:Nat} {xs ys:List Value} {tmp:Obj} (J1:Boxed W ob 119 v) (J2:W.ownsRow (ob+2) 115 3 v k xs) (hob:ob+2<=W.heap.size)
  (ho:w1.ownsRow (ob+2) 115 3 v' m ys) (hg:(W.alloc tmp).grownBy w1 v.ownBlock) :
  Boxed w1 ob 119 v/\IvKeep B ob W (w1.setCell ⟨ob,0,none⟩ v')/\Boxed (w1.setCell ⟨ob,0,none⟩ v') ob 119 v'/\(w1.setCell ⟨ob,0,none⟩ v').ownsRow (ob+2) 115 3 v' m ys:=by
 obtain⟨h1,h2,h3,h4,h5⟩:=Boxed.appended (tmp:=tmp) J1 (show(119:Nat)≠115 by decide) (b2n J2 (show ob<=ob+2 by omega)) oM lR (b2n ho oM) hg;have hlt:=(J2.alloc tmp).lt;refine⟨h1,⟨h4.from _,⟨fun b hb hL=>?_,?_,h5.size⟩,h5⟩,h2,ho.kept (grownBy_setCell' w1 ob v') ?_⟩
 ·rw [Below.heap_setCell _ _ _ _ (by show b≠ob;omega)]
  exact(hg.block b sO (fun e=>by have:=hlt b e.symm;omega)).trans (Below.heap_alloc W _ b oM)
 ·exact((KeepT.below (bR.alloc lR _)).trans (a2v (J2.alloc tmp) hg dC)).trans (KeepT.setCell (p:=⟨ob,0,none⟩) h1 dC v')
 ·cases hv:v'.ownBlock with
  | none=>exact .inl rfl
  | some g=>exact .inr (fun e=>by cases e;have:=ho.lt ob hv;omega)
theorem b2r (p:List Itv) (y:Itv) (j:Nat) (hj:j<3):((p++[y]).flatMap Itv.cells)[p.length*3+j]?=y.cells[j]?:=by
 rw [List.flatMap_append,List.getElem?_append_right (by rw [a0x (f:=Itv.cells) (sz:=3) (fun _=>rfl)];omega),a0x (f:=Itv.cells) (sz:=3) (fun _=>rfl),show p.length*3+j-p.length*3=j by omega];simp
theorem b2L (p:List Itv) (y:Itv) (d:Int):((p++[y]).flatMap Itv.cells).set (p.length*3+1) (.int .i64 d)=(p++[(⟨y.frm,d,y.meth⟩:Itv)]).flatMap Itv.cells:=by
 rw [List.flatMap_append,List.flatMap_append,List.set_append_right _ _ (by rw [a0x (f:=Itv.cells) (sz:=3) (fun _=>rfl)];omega),a0x (f:=Itv.cells) (sz:=3) (fun _=>rfl),show p.length*3+1-p.length*3=1 by omega];simp [Itv.cells]
section
variable (w:World)
theorem b2K (g:Grp) (A:Option Addr) (n c:Nat) (l:List Hld) (e:Nat) (he0:e≠0) (he:e<g.ents.length) (hg:g.At w w) (hl:l.length=n) (hn:n<=200) (hw:∀ x∈l,x.wf) (hA:HldsAt w w A l) (hv:Hd.valid g.ents.length l=true) :
  Calls prog 100 #[g,.slice A n c,e] w (IvsPost (Ct.intervals g l e) w):=by
 obtain⟨W0,hW0,hB0,hb0,hb1,hz0⟩:=nw2 w g #[.slice A n c] 29 32;obtain⟨W1,hW1,hB1,hb2,hb3,hz1⟩:=nw2 W0 #[e] #[.slice none 0 0] 3 119;obtain⟨W2,hW2,hB2,hb4,hz2⟩:=nw1 W1 #[()] 47;have hWW:W2=((((w.alloc (.cells g 29)).alloc (.cells #[.slice A n c] 32)).alloc (.cells #[e] 3)).alloc (.cells #[.slice none 0 0] 119)).alloc (.cells #[()] 47):=by rw [hW2,hW1,hW0]
 have HW:=Z1 hWW;have hB02:Below w w W2:=(hB0.trans (hB1.mono hB0.size)).trans (hB2.mono oM);have g0:W2.heap[w.heap.size]?=some (.cells g 29 (0,0)):=gbox (gbox hb0 hB1 oM) hB2 oM;have g1:W2.heap[w.heap.size+1]?=some (.cells #[.slice A n c] 32 (0,0)):=gbox (gbox hb1 hB1 oM) hB2 oM;have g2:W2.heap[w.heap.size+2]?=some (.cells #[e] 3 (0,0)):=by have:=gbox hb2 hB2 oM;rw [hz0] at this;exact this
 have g3:W2.heap[w.heap.size+3]?=some (.cells #[.slice none 0 0] 119 (0,0)):=by have:=gbox hb3 hB2 oM;rw [hz0] at this;exact this
 have g4:W2.heap[w.heap.size+4]?=some (.cells #[()] 47 (0,0)):=by have:=hb4;rw [hz1,hz0] at this;exact this
 have hel:=hg.hel;have hm:1<=g.ents.length/\g.ents.length<=12:=by have:=hv;unfold Hd.valid at this;simp at this;omega
 obtain⟨f,hf⟩:∃ f:Int->Int,f=fun d=>Ct.meth g l e d:=⟨_,rfl⟩;have HF:Hid (∀ ys,dmap ys=Ct.days l->accD f ys=Ct.intervals g l e):=Z1 (fun ys h=>by unfold Ct.intervals accD;rw [if_neg he0,h,hf])
 have Hcall:Hid (∀ W,RowsAt Hld.cells 4 W W A l->CL 49 #[g.en,.slice A n c] W true):=Z1 (fun W h=>by
  have:=a1Z W g.ents.length A n c l oM hl hn hw h;rw [hv,hel] at this;exact this)
 have Hmat:Hid (∀ W d,-25567<=d/\d<=84005->Below w w W->CL 166 #[g,.slice A n c,e,.int .i64 d] W (.tuple #[(f d),()])):=Z1 (fun W d hd hB=>by
  rw [hf];exact b2G W g A n c l e d oM (hg.at_ hB) hl hn hw (RowsAt.at_ hA hB) hv hd)
 have hen:(e:Int)<(g.en:Int):=oM;have k1:decide ((e:Int)<0)=false:=decide_eq_false oM;have k2:decide ((e:Int) ≥ (g.en:Int))=false:=decide_eq_false oM;have k3:((e:Int)==0)=false:=sO;have x20:=cr9 20 g0;have y1:=cr9 0 g1;simp at x20 y1;obtain⟨HA2,HA,Hl,Hw,G0,G1,G2⟩:=Z7 (RowsAt.at_ hA hB02) hA hl hw g0 g1 g2;obtain⟨G3,G4,HB02⟩:=Z3 g3 g4 hB02;have hz5:W2.heap.size=w.heap.size+5:=oM;have HDt:Hid (∀ x∈l,-25567<=x.date/\x.date<=84005):=Z1 (fun x hx=>Hd.valid_date hv x hx);rw [hWW] at x20 y1;clear hW0 hW1 hW2 hWW hb0 hb1 hb2 hb3 hb4 hz0 hz1 hz2 hB0 hB1 hB2 g0 g1 g2 g3 g4 hg hA hv hw hl hB02 hf hel;refine callsIn_wide.1 (callsIn_of_wp_marks (F:=Fence.wide) (n:=8) func100 rfl trivial ?_ rfl);simp only [ntmps100,List.size_toArray,List.length_cons,List.length_nil,Nat.reduceAdd,Nat.reduceSub,Array.replicate_succ,Array.replicate_zero,List.push_toArray,List.append_toArray,List.nil_append,List.cons_append]
 gi_wp2
 rw [<- HW.out];refine⟨trivial,callsIn_wide.2 ((Hcall.out _ HA2.out).mono ?_)⟩;rintro ev W3 ⟨rfl,hB3⟩;have HB03:=bT HB02 hB3;have q0:=gbox G0.out hB3 (Vq G0.out);have q1:=gbox G1.out hB3 (Vq G1.out);have q2:=gbox G2.out hB3 (Vq G2.out);have q3:=gbox G3.out hB3 (Vq G3.out);have q4:=gbox G4.out hB3 (Vq G4.out);have z1:=cr9 0 q1;have z2:=cr9 0 q2;simp at z1 z2;have t1:=Vq q1;have t2:=Vq q2;have hs3:=hB3.size;obtain⟨Q0,Q1,Q2,Q3,Q4⟩:=Z5 q0 q1 q2 q3 q4;clear q0 q1 q2 q3 q4 hB3 x20 y1
 gi_wp2
 refine⟨trivial,callsIn_wide.2 ((b1T _ _ _ _).mono ?_)⟩;rintro ev w5 ⟨rfl,rfl⟩
 gi_wp2
 obtain⟨ob,hob⟩:∃ ob,ob=W3.heap.size:=⟨_,rfl⟩;have Hob:=Z1 hob;obtain⟨ws,hws⟩:∃ ws,ws=(W3.alloc (.cells #[.slice none 0 0] 119)).alloc (.cells #[.slice A n c] 32):=⟨_,rfl⟩;obtain⟨hBs,r0,r1,hwsz⟩:=a1g W3 #[.slice none 0 0] #[.slice A n c] 119 32;rw [<- hws] at hBs r0 r1 hwsz;rw [<- hws,<- hob];rw [<- hob] at hBs r0 r1 hwsz;have c2:ws.cell? ⟨ob+1,0,none⟩=some (.slice A n c):=by have:=cr9 0 r1;simpa using this
 have HAs:Hid (RowsAt Hld.cells 4 ws ob A l):=Z1 (RowsAt.more (RowsAt.below HA.out (HB03.out.trans (hBs.mono oM)) lR) oM);have hbox:Boxed ws ob 119 (.slice none 0 0):=r0;have hob1:ob<=W3.heap.size:=Nat.le_of_eq Hob.out;have hob2:W3.heap.size<=ob:=Nat.le_of_eq Hob.out.symm;clear hob hws r0
 refine wpIn_rangeFunc_ownH rfl (by omega:1<=8) (gf:=212) (lb:=#[.pointer (some ⟨ob+1,0,none⟩)]) rfl trivial (enters_of func212 kR rfl)
  (a8s ws ob (ob+2) (ob+1) 7 oM A n c l Hl.out hn (fun x hx=>(Hw.out x hx).2.2.1) HDt.out hwsz oM oM c2 HAs.out)
  (fun h k=>⟨h.1.trans k.1,h.2.1.trans k.2.1,Nat.le_trans h.2.2 k.2.2⟩) (fun W l o o' h1 h2 h3 h4=>⟨KeepR.putObj (n:=ob+2) (w:=ws) oM W l o o' h1 h2 h3 h4,KeepT.putObj W l o o' h2 h3,by simp [World.putObj]⟩) bR (fun _=>rfl)
  (fun pre W=>(∃ v,Boxed W ob 119 v/\W.ownsRow (ob+2) 115 3 v (accD f pre).length ((accD f pre).flatMap Itv.cells)/\True)/\Below ob W3 W/\ob+2<=W.heap.size) (fun _ _ _=>False)
  (OwnFrom.and (Own.from (holdsRow_own (ob+2) ob 119 115 3 (fun pre:List Day=>(accD f pre).length) (fun pre=>(accD f pre).flatMap Itv.cells) (fun _ _=>True)) _) (OwnFrom.and (ownFrom_below oM oM) (fun _ _ _ _ hs hg _=>Nat.le_trans hs hg.size))) (fun _ _ _ _ _ hs _ _=>hs)
  ⟨⟨_,hbox,World.ownsRow_nil _ _ _ _,trivial⟩,hBs,oM⟩
  (fun x a' W=>a'={ tmps:=#[.agg g,.slice A n c,.int .i64 e,.pointer (some ⟨w,0,none⟩),.pointer (some ⟨w.heap.size+1,0,none⟩),.pointer (some ⟨w.heap.size+1+1,0,none⟩),.pointer (some ⟨w.heap.size+1+1+1,0,none⟩),.pointer (some ⟨w.heap.size+1+1+1+1,0,none⟩),.int .i64 g.en,.pointer (some ⟨ob,0,none⟩),.int .i64 x.1,undef,undef,undef,
   .pointer (some ⟨w,20,none⟩),.slice g.eA g.en g.ec,.int .i64 g.en,.int .i64 g.en,.slice A n c,.bool true,.bool false,.int .i64 e,.bool false,.bool false,.int .i64 e,.int .i64 g.en,.bool false,.bool false,.int .i64 e,.bool false,undef,undef,.slice A n c,
   .func (.func 212) #[] #[.pointer (some ⟨ob+1,0,none⟩)],.int .i64 x.1,undef,undef,undef,undef,undef,undef,undef,undef,undef,undef,undef,undef,undef,undef,undef,undef,undef,undef,undef,undef,undef,undef,undef,undef,undef,undef,undef,undef,undef,undef,undef,undef,undef,undef,undef,undef,undef,undef,undef,undef],defers:=[] })
  ?hAx ?assign ?body ?done ?stop
 case hAx=>exact fun _ _ _ _ _ _ h _ _=>h
 case assign =>
  rintro l pre x W K ⟨i1,i2,i3⟩ hK;dsimp only [encD]
  gi_wp2
  exact hK _ _ (KeepsFrom.of_grownBy (Xq W none) (fun j e=>by cases e)) ⟨KeepR.refl _ _ _ _,KeepT.refl _ _,lR⟩ ⟨i1,i2,i3⟩ rfl
 case body =>
  rintro lp pre x a' W hl' ⟨r,hr'⟩ ⟨⟨v,i1,i2,_⟩,i3,i4⟩ rfl hlt;have hbw:Below w w W:=HB03.out.trans (i3.mono oM);have q0:=(i3.block w oM).trans Q0.out;have q1:=(i3.block (w.heap.size+1) oM).trans Q1.out;have q2:=(i3.block (w.heap.size+2) oM).trans Q2.out;have y1:=cr9 0 q1;have y2:=cr9 0 q2;simp at y1 y2;have t1:=Vq q1;have t2:=Vq q2;have Hm:=Z1 (Hmat.out W x.1 x.2 hbw);obtain⟨m,hmx⟩:∃ m,m=f x.1:=⟨_,rfl⟩;rw [<- hmx] at Hm;have Hal:=Z1 (a7w f pre);have Hsn:=Z1 (a6p f pre x);rw [<- hmx] at Hsn;clear hmx hl' hr' hbw
  gi_wp2_with (refine a1u rfl 29 _ rfl _ rfl _ _ _ _ q0 underlying29 rfl VJ ?_)
  refine⟨trivial,CallsIn.inRound lp (callsIn_wide.2 (Hm.out.mono ?_))⟩;rintro ev W4 ⟨rfl,hB4⟩;have j1:Boxed W4 ob 119 v:=(hB4.block ob oM).trans i1;have j2:=Vj i2 hB4;have HK4:=Z1 (IvKeep.below (B:=ws.heap.size) (ob:=ob) hB4 oM);have HI3:=Z1 i3;have hs4:=hB4.size;have J1:=Z1 j1;have J2:=Z1 j2;have b0:=cr9 0 j1;simp at b0;have b1:=Vq j1;have b2:=fr0 0 j1;clear q0 q1 q2 y1 y2 i1 i2 i3 hB4 j1 j2;obtain⟨acc,hacc⟩:∃ acc,acc=accD f pre:=⟨_,rfl⟩;rw [<- hacc] at J2 Hal Hsn;clear hacc
  rcases List.eq_nil_or_concat acc with hz | ⟨p,y,hz⟩
  ·subst hz
   obtain⟨A5,c5,rfl,_⟩:=Xz (l:=([]:List Itv)) (f:=Itv.cells) (sz:=3) dC (fun _=>rfl) J2.out rfl
   gi_wp2_with (gi_at_builtin;refine Hid.out ?_)
   show wpListIn _ _ _ _ _ _ _ _;refine a2m eltItv J2.out [x.1,(84006:Int),m] rfl rfl rfl rfl rfl oC sP oM ?_;intro v' w1 ho' hg';obtain⟨g7,c7,rfl⟩:=ownsRow_succ ho';obtain⟨p1,p2,p3,p4⟩:=IvKeep.push (B:=ws.heap.size) J1.out J2.out oM ho' hg';have q0:=cr9 0 p1;simp at q0;have q1:=Vq p1;have q2:=fr0 0 p1;have HF:=Z1 (HK4.out.trans p2);have HO:Hid ((w1.setCell ⟨ob,0,none⟩ (.slice (some ⟨g7,0,none⟩) 1 c7)).ownsRow (ob+2) 115 3 (.slice (some ⟨g7,0,none⟩) 1 c7) (accD f (pre++[x])).length ((accD f (pre++[x])).flatMap Itv.cells)):=by show World.ownsRow _ _ _ _ _ _ _;rw [Hsn.out,a2D];exact p4
   have P3:=Z1 p3;clear ho' hg' p1 p2 p3 p4 b0 b1 b2
   gi_wp2
   exact⟨HF.out.1,HF.out.2.1,⟨⟨_,P3.out,HO.out,trivial⟩,HI3.out.trans HF.out.2.2,Nat.le_trans i4 HF.out.2.1.2.2⟩⟩
  rw [List.concat_eq_append] at hz;subst hz;rw [List.length_append,List.length_singleton] at J2;obtain⟨g',cap,rfl⟩:=ownsRow_succ J2.out;have hgl:=J2.out.lt g' rfl;have m0:=(J2.out.cellAt (p.length*3+2) oM).trans (b2r p y 2 oM);simp only [Itv.cells,List.getElem?_cons_succ,List.getElem?_cons_zero] at m0;have hpl:p.length<=202:=by have:=Hal.out;simp at this;omega
  have e1:((p.length+1:Nat):Int)-1=(p.length:Int):=oM;have e2:decide (((p.length+1:Nat):Int) > 0)=true:=decide_eq_true oM
  by_cases hm:y.meth=m
  ·have k4:(y.meth==m)=true:=by simp [hm]
   have HO:Hid (W4.ownsRow (ob+2) 115 3 (.slice (some ⟨g',0,none⟩) (p.length+1) cap) (accD f (pre++[x])).length ((accD f (pre++[x])).flatMap Itv.cells)):=by show World.ownsRow _ _ _ _ _ _ _;rw [Hsn.out,a3g,if_pos hm,List.length_append,List.length_singleton];exact J2.out
   clear hm
   gi_wp2
   exact⟨HK4.out.1,HK4.out.2.1,⟨⟨_,J1.out,HO.out,trivial⟩,HI3.out.trans HK4.out.2.2,oM⟩⟩
  have k4:(y.meth==m)=false:=by simp [hm]
  have m1:=(J2.out.cellAt (p.length*3+1) oM).trans (b2r p y 1 oM);simp only [Itv.cells,List.getElem?_cons_succ,List.getElem?_cons_zero] at m1;have m2:=J2.out.frozenAt (p.length*3+1);have hst:=(J2.out.stored (p.length*3+1) (.int .i64 x.1)).1;rw [b2L] at hst;have hk5:=IvKeep.store (B:=ws.heap.size) J2.out (p.length*3+1) (.int .i64 x.1);obtain⟨W5,hW5⟩:∃ W5,W5=W4.setCell ⟨g',p.length*3+1,none⟩ (.int .i64 x.1):=⟨_,rfl⟩;have j5:Boxed W5 ob 119 (.slice (some ⟨g',0,none⟩) (p.length+1) cap):=by rw [hW5];exact(Below.heap_setCell _ _ _ _ (by show ob≠g';omega)).trans J1.out
  rw [<- hW5] at hst hk5;have hs5:W5.heap.size=W4.heap.size:=by rw [hW5];simp [World.setCell]
  have b5:=cr9 0 j5;simp at b5;have b6:=Vq j5;obtain⟨J5,J6,HK5,HW5,Hme⟩:=Z5 j5 hst (HK4.out.trans hk5) hW5 hm;clear hst hk5 hW5 j5 hm
  gi_wp2_with (gi_at_builtin;refine Hid.out ?_)
  show wpListIn _ _ _ _ _ _ _ _;rw [<- HW5.out];refine a2m eltItv J6.out [x.1,(84006:Int),m] rfl rfl rfl (by rw [hs5];rfl) rfl oC sO oM ?_;intro v' w1 ho' hg';obtain⟨g7,c7,rfl⟩:=ownsRow_succ ho';obtain⟨p1,p2,p3,p4⟩:=IvKeep.push (B:=ws.heap.size) J5.out J6.out oM ho' hg';have q0:=cr9 0 p1;simp at q0;have q1:=Vq p1;have q2:=fr0 0 p1;have HF:=Z1 (HK5.out.trans p2)
  have HO:Hid ((w1.setCell ⟨ob,0,none⟩ (.slice (some ⟨g7,0,none⟩) (p.length+1+1) c7)).ownsRow (ob+2) 115 3 (.slice (some ⟨g7,0,none⟩) (p.length+1+1) c7) (accD f (pre++[x])).length ((accD f (pre++[x])).flatMap Itv.cells)):=by
   show World.ownsRow _ _ _ _ _ _ _;rw [Hsn.out,a3g,if_neg Hme.out];have h9:=p4;simpa [List.flatMap_append,Itv.cells] using h9
  have P3:=Z1 p3;clear ho' hg' p1 p2 p3 p4 b0 b1 b2 b5 b6 m0 m1 m2
  gi_wp2
  exact⟨HF.out.1,HF.out.2.1,⟨⟨_,P3.out,HO.out,trivial⟩,HI3.out.trans HF.out.2.2,Nat.le_trans i4 HF.out.2.1.2.2⟩⟩
 case done =>
  rintro D ys W hD hS ⟨⟨v,i1,i2,_⟩,i3,i4⟩ hK;have hlen:=a7w f ys;rw [HF.out ys hS] at i2;obtain⟨A5,c5,rfl,_⟩:=Xz (f:=Itv.cells) (sz:=3) dC (fun _=>rfl) i2 rfl;have b0:=cr9 0 i1;simp at b0;have b1:=Vq i1;have q3:Row W (w.heap.size+3) 119 #[.slice none 0 0]:=(i3.block (w.heap.size+3) oM).trans Q3.out;have q4:Row W (w.heap.size+4) 47 #[()]:=(i3.block (w.heap.size+4) oM).trans Q4.out;have z3:=cr9 0 q3;have z4:=cr9 0 q4;simp at z3 z4;have t3:=Vq q3;have t4:=Vq q4;have f3:=fun j=>fr0 j q3;have f4:=fun j=>fr0 j q4;obtain⟨L,hL⟩:∃ L,L=Ct.intervals g l e:=⟨_,rfl⟩;have HL:=Z1 hL;rw [<- hL] at b0 i2;rw [<- hL];have HO:=Z1 i2;have hDs:W3.heap.size+2<=D:=oM;obtain⟨Q3',Q4',HK,hbw⟩:=Z4 q3 q4 hK (HB03.out.trans (i3.mono oM));clear i1 i2 i3 hK q3 q4 hL hS
  gi_wp2
  obtain⟨V1,hV1⟩:∃ V1,V1=(W.setCell ⟨w.heap.size+1+1+1,0,none⟩ (.slice A5 L.length c5)).setCell ⟨w.heap.size+1+1+1+1,0,none⟩ (.int .i64 0):=⟨_,rfl⟩
  have v3:Row V1 (w.heap.size+3) 119 #[.slice A5 L.length c5]:=by
   rw [hV1];exact Row.other (Row.set Q3'.out 0 _) ⟨w.heap.size+1+1+1+1,0,none⟩ (by show w.heap.size+3≠w.heap.size+1+1+1+1;omega) _
  have v4:Row V1 (w.heap.size+4) 47 #[()]:=by
   rw [hV1];exact Row.set (Row.other Q4'.out ⟨w.heap.size+1+1+1,0,none⟩ (by show w.heap.size+4≠w.heap.size+1+1+1;omega) _) 0 _
  have hKV:V1.heap[D]?=some (.deferred (some [])):=by rw [hV1];exact a0y (g:=w.heap.size+1+1+1+1) (a0y (g:=w.heap.size+1+1+1) HK.out oM) oM
  have hBV:Below w w V1:=by rw [hV1];exact(hbw.out.setCell (p:=⟨w.heap.size+1+1+1,0,none⟩) (by show w.heap.size<=w.heap.size+1+1+1;omega) _).setCell (p:=⟨w.heap.size+1+1+1+1,0,none⟩) (by show w.heap.size<=w.heap.size+1+1+1+1;omega) _
  have hOV:V1.ownsRow (ob+2) 115 3 (.slice A5 L.length c5) L.length (L.flatMap Itv.cells):=by
   rw [hV1];exact ownsRow_setCell_below (ownsRow_setCell_below HO.out (a:=⟨w.heap.size+1+1+1,0,none⟩) (by show w.heap.size+1+1+1<ob+2;omega) _) (a:=⟨w.heap.size+1+1+1+1,0,none⟩) (by show w.heap.size+1+1+1+1<ob+2;omega) _
  rw [<- hV1];have u3:Row (V1.putObj D (.deferred none)) (w.heap.size+3) 119 #[.slice A5 L.length c5]:=v3.putObj D _ oM;have u4:Row (V1.putObj D (.deferred none)) (w.heap.size+4) 47 #[()]:=v4.putObj D _ oM;have y3:=cr9 0 u3;have y4:=cr9 0 u4;simp at y3 y4;have r3:=b2p y3;have r4:=b2q y4;refine⟨sP,.inl ⟨_,_,rfl,run_takeDeferred hKV,⟨.tuple #[.slice A5 L.length c5,()],by simp [results,results100,asAddr,r3,r4],?_,?_⟩⟩⟩
  ·exact hBV.trans ((belowK_b (w:=ws) lR V1 D _ (.deferred none) oM hKV rfl rfl).mono oM)
  ·obtain⟨A6,c6,e6,hA6⟩:=Xz (f:=Itv.cells) (sz:=3) dC (fun _=>rfl) (ownsRow_putObj hOV (.deferred none) hKV rfl) rfl
   cases e6
   rw [<- HL.out];exact⟨A5,c5,rfl,hA6⟩
 case stop =>
  rintro D c' pre W _ _ hx _;exact hx.elim
end
namespace Ct
structure Good (acc:List Itv):Prop where
 cov:∀ d,-25567<=d->d<84006->∃ x∈acc,x.frm<=d/\d<x.to
 frm:∀ x∈acc,-25567<=x.frm/\x.frm<=84005
 met:∀ x∈acc,x.meth=0∨x.meth=1∨x.meth=2∨x.meth=3
 last:∀ x,acc.getLast?=some x->x.to=84006
theorem Good.add {acc:List Itv} {d m:Int} (h:Good acc) (hne:acc≠[]) (hd:-25567<=d/\d<=84005) (hm:m=0∨m=1∨m=2∨m=3):Good (add acc d m)/\Ct.add acc d m≠[]:=by
 obtain⟨p,x,rfl⟩:∃ p x,acc=p++[x]:=⟨acc.dropLast,acc.getLast hne,(List.dropLast_concat_getLast hne).symm⟩;rw [a3g]
 split
 ·exact⟨h,sP⟩
 ·have hx:=h.last x sP
  refine⟨⟨fun v h1 h2=>?_,fun y hy=>?_,fun y hy=>?_,fun y hy=>?_⟩,sP⟩
  ·obtain⟨y,hy,h3,h4⟩:=h.cov v h1 h2
   rcases List.mem_append.1 hy with hy | hy
   ·exact⟨y,by simp [hy],h3,h4⟩
   ·simp at hy
    subst hy
    by_cases hv:v<d
    ·exact⟨⟨y.frm,d,y.meth⟩,sP,h3,hv⟩
    ·exact⟨⟨d,84006,m⟩,sP,by show d<=v;omega,h2⟩
  ·simp only [List.mem_append,List.mem_singleton] at hy
   rcases hy with(hy | rfl) | rfl
   ·exact h.frm y (by simp [hy])
   ·exact h.frm x sP
   ·exact hd
  ·simp only [List.mem_append,List.mem_singleton] at hy
   rcases hy with(hy | rfl) | rfl
   ·exact h.met y (by simp [hy])
   ·exact h.met x sP
   ·exact hm
  ·simp at hy
   rw [<- hy]
theorem Good.first (m:Int) (hm:m=0∨m=1∨m=2∨m=3):Good (Ct.add [] (-25567) m):=by
 rw [a2D];refine⟨fun v h1 h2=>⟨_,List.mem_singleton_self _,h1,h2⟩,fun y hy=>?_,fun y hy=>?_,fun y hy=>?_⟩
 ·simp at hy;subst hy;exact⟨by show(-25567:Int)<=-25567;decide,by show(-25567:Int)<=84005;decide⟩
 ·simp at hy;subst hy;exact hm
 ·simp at hy;rw [<- hy]
theorem a9p (g:Grp) (l:List Hld) (e:Nat) (d:Int):meth g l e d=0∨meth g l e d=1∨meth g l e d=2∨meth g l e d=3:=by
 unfold meth
 split
 ·simp
 ·split
  ·simp
  ·split <;> simp
theorem a5T (f:Int->Int) (hf:∀ d,f d=0∨f d=1∨f d=2∨f d=3):∀(ds:List Int) (acc:List Itv),Good acc->acc≠[]->(∀ d∈ds,-25567<=d/\d<=84005) ->
  Good (ds.foldl (fun acc d=>add acc d (f d)) acc)/\(ds.foldl (fun acc d=>add acc d (f d)) acc).length<=acc.length+ds.length
 | [],acc,h,_,_=>⟨h,sP⟩
 | d::ds,acc,h,hne,hd=>by
  obtain⟨h1,h2⟩:=Good.add h hne (hd d List.mem_cons_self) (hf d);obtain⟨h3,h4⟩:=a5T f hf ds (add acc d (f d)) h1 h2 (fun x hx=>hd x (List.mem_cons_of_mem _ hx));refine⟨h3,?_⟩;have:=b0m acc d (f d);simp only [List.foldl_cons,List.length_cons];omega
theorem ivs_good (g:Grp) (l:List Hld) (e:Nat) (he:e≠0) (hl:l.length<=200) (hd:∀ x∈l,-25567<=x.date/\x.date<=84005):Good (intervals g l e)/\(intervals g l e).length<=1000:=by
 unfold intervals;rw [if_neg he];unfold days;rw [List.foldl_cons]
 obtain⟨h1,h2⟩:=a5T (fun d=>meth g l e d) (a9p g l e) ((Hd.dates l).filter (fun d=>decide (-25567<d))) (add [] (-25567) (meth g l e (-25567))) (Good.first _ (a9p _ _ _ _)) (by rw [a2D];simp)
  (fun d h=>by obtain⟨x,hx,rfl⟩:=a5Z (List.mem_filter.1 h).1;exact hd x hx)
 refine⟨h1,Nat.le_trans h2 ?_⟩;have h3:=List.length_filter_le (fun d=>decide ((-25567:Int)<d)) (Hd.dates l);have h4:=a6a l;rw [a2D];simp only [List.length_singleton];omega
theorem current_good {g:Grp} {l:List Hld} {e:Nat} {d:Int} (h:Good (intervals g l e)) (hd:-25567<=d/\d<=84005):∃ x,(intervals g l e).find? (fun x=>decide (x.frm<=d/\d<x.to))=some x/\x∈intervals g l e:=by
 obtain⟨x,hx,h1,h2⟩:=h.cov d hd.1 oM
 cases hf:(intervals g l e).find? (fun x=>decide (x.frm<=d/\d<x.to)) with
 | none=>exact absurd (by simpa using List.find?_eq_none.1 hf x hx:x.frm<=d->x.to<=d) (fun h=>by have:=h h1;omega)
 | some y=>exact⟨y,rfl,List.mem_of_find?_eq_some hf⟩
end Ct
end Go.Proofs.YtniaimjknmhapaaGreatDoor
