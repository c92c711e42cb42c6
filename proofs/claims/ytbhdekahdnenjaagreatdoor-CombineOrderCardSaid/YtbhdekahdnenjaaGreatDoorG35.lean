/- Lemmas. -/
import Derived.Test.YtbhdekahdnenjaaGreatDoorG33
set_option linter.unusedVariables false
set_option linter.unusedSimpArgs false
set_option maxRecDepth 100000
set_option maxHeartbeats 16000000
namespace Go.Proofs.YtbhdekahdnenjaaGreatDoor
open Go.Proofs.Tryz Go.RowKit Go.Shelf
variable (w:World)
theorem b2x (g:Grp) (A:OA) (n c:Nat) (l:List Hld) (d:Int) (hg:g.At w w) (hl:l.length=n) (hn:n<=200) (hw:∀x∈l,x.wf) (hA:RowsAt Hld.cells 4 w w A l) (hv:Hd.valid g.ents.length l) (hd:-25567<=d/\d<=84005) :
  Calls prog 180 #[g,.slice A n c,d] w (ListPost icell 1 ((List.range g.en).map (fun e=>Ct.meth g l e d)) w):=by
 have hm:1<=g.ents.length/\g.ents.length<=12:=by have:=hv;unfold Hd.valid at this;simp at this;omega
 have b7:=hg.hel;obtain⟨W1,al,a6,o,be⟩:=nw1 w g 29;have E:=cr9 20 o;simp at E;have s1:=Vq o;obtain⟨HW,ac,az⟩:=Z3 al a6 o;have ba:(w:Nat)<=W1:=a6.size;obtain⟨m,a0⟩:=eX g.ents.length;have Hc:=fun(W:World) (hB:Below w w W)=>Z1 (a4z W A n c m l d hl hn hw ((RowsAt.below hA hB lR).more hB.size) (by rw[a0];exact hv) hd);have a5:=fun(W:World) (hB:Below w w W)=>Z1 (a5G W A n c m l d hl hn hw ((RowsAt.below hA hB lR).more hB.size) (by rw[a0];exact hv) hd);have an:g.en=m:=oM;have ag:=Z1 hg;obtain⟨S,hS⟩:=eX (Ct.ctrl (Hd.matrix m l d));obtain⟨V,hV⟩:=eX (fun e=>Ct.votes (Hd.matrix m l d) S e m:Nat->Int);obtain⟨f,hf⟩:=eX (fun e=>Ct.meth g l e d:Nat->Int);have Hf:Hid (∀e,f e=if S.testBit e then 3 else if V e<2000 then 0 else if(Gr.eat g.ents e).joint then 2 else 1):=Z1 (fun e=>by rw[hf,hV,hS,a0];rfl);rw[<- hf];rw[<- hS,<- hV] at a5;rw[<- hS] at Hc;have bm:1<=m:=oM;have bn:m<=12:=oM;obtain⟨i0,hi,bc,av,bq⟩:=XW intInfo;have J:=Z1 an;clear hS hV hf hA hl hw hd hv hn hm hg al o a6 be a0 b7;clear an;go_enter func180,ntmps180;go_upto_region 1 with(fail);rw[<- HW];rw[J] at E;simp only[J.out];go_wp2_with (fail);refine(Hc W1 ac).out.mono ?_;rintro ev W2 ⟨T,A2,c2,rfl,ai⟩;have aa:=Z1 ai;have ad:=Z1 (ac.out.trans (T.mono ba));have b0:=gB az T s1;have bo:(W1:Nat)<=W2:=T.size;clear ai T E;simp only[Xt,Qv];go_wp2_with (fail);refine(a5 W2 ad).out.mono ?_;rintro ev W3 ⟨s,A3,c3,rfl,aj⟩;have ab:=Z1 aj;have a4:=Z1 ((RowsAt.below aa s lR).more s.size);have ae:=bT ad s;have b1:=gB b0 s oM;have bp:(W2:Nat)<=W3:=s.size;clear aj s aa;simp only[Xt,Qv];go_wp2_with (at_make;refine a0D icell 1 (0:Int) rfl _ _ 108 rfl 3 i0 (.int .i64 0) rfl dC ZT hi bc rfl av oM _ _ _ _ m rfl rfl rfl rfl oM ?_;intro w2 a9);obtain⟨h,hh⟩:=eX W3.heap.size
 have a:Row w2 h 3 (cellsI (upTo f 0 m 0)):=by
  have:=Vh W3 (.cells ((List.replicate m (0:Int)).flatMap icell).toArray 3);have e:∀k,((List.replicate k (0:Int)).flatMap icell).toArray=cellsI (List.replicate k 0):=fun k=>by unfold cellsI;congr 1;induction k with|zero=>rfl|succ k ih=>rw[Yj,XB,ih];rfl
  rw[a3I,<- e];unfold Row;rw[hh,a9.out];exact this
 have ay:Hid (Below h W3 w2):=Z1 (by rw[a9.out];exact(VM h W3).alloc (by rw[hh];exact lR) _);have aw:Hid (RowsAt boolcell 1 W3 h A2 ((List.range m).map fun e=>S.testBit e)):=Z1 (by rw[hh];exact a4);have ax:Hid (RowsAt icell 1 W3 h A3 ((List.range m).map V)):=Z1 (by rw[hh];exact ab);have af:Hid (g.At W3 h):=Z1 (by rw[hh];exact ag.at_ ae);have bb:w<h:=oM;rw[<- hh];have ah:=Z1 a;have bg:h<=W3:=X6 hh;clear a9 a hh Hc a5 a4 ab ag
 go_loopw [41] (fun i wr=>∃k:Nat,k<=m/\i=k/\Row wr h 3 (cellsI (upTo f 0 m k))/\Below h W3 wr) (fun i _=>m-(intOf i).toNat)
 case atStart=>exact⟨0,Vb _,rfl,ah,ay⟩
 case round =>
  obtain⟨k,hk,rfl,a,hb⟩:=hrel;have sg:=Vq a
  by_cases a8:k<m
  case neg =>
   obtain rfl:k=m:=oM
   have HP:Hid (ListPost icell 1 ((List.range k).map f) w (.returned (.tuple #[.slice (some ⟨h,0,none⟩) k k,()])) wr):=by
    refine Z1 ⟨ae.out.trans (hb.mono oM),some ⟨h,0,none⟩,k,sP,?_⟩;rw[a3r] at a;exact a3v (Value.int .i64) a
   clear a hb;go_wp2
   go_ret2
   rw[J];exact HP
  have b8:k<((List.range m).map fun e=>S.testBit e).length:=by simpa using a8
  have b9:k<((List.range m).map V).length:=by simpa using a8
  obtain⟨b2,o2,rfl,bj,ap⟩:=RowsAt.look (RowsAt.below aw hb lR) b8;obtain⟨b3,o3,rfl,bk,aq⟩:=RowsAt.look (RowsAt.below ax hb lR) b9;have ao:k<g.ents.length:=by have:=af.out.hel;have:=J.out;omega
  obtain⟨b4,o4,ak,bl,ar⟩:=RowsAt.look (RowsAt.below af.he hb lR) ao;have c2:=ap 0 _ rfl;have c3:=aq 0 _ rfl;have c4:=ar 4 _ rfl;simp at c2 c3;have o:=(hb.block w bb).trans b1;have E:=cr9 20 o;simp at E;rw[ak,J] at E;have am:Gr.eat g.ents k=g.ents[k]:=a6u ao;have sw:=Vq o;have X:=Hf.out k;obtain⟨jt,a7⟩:=eX ((g.ents[k]).joint);rw[am,<- a7] at X;rw[<- a7] at c4;obtain⟨vk,au⟩:=eX (V k);rw[<- au] at c3 X;have O:=Z1 X
  have Q:∀x:Int,x=f k->Hid (Row (wr.setCell ⟨h,k,none⟩ (.int .i64 x)) h 3 (cellsI (upTo f 0 m (k+1)))/\Below h W3 (wr.setCell ⟨h,k,none⟩ (.int .i64 x))):=fun x hx=>Z1 (by
   have hj:=Row.set a k (.int .i64 x)
   have b5:(cellsI (upTo f 0 m k)).setIfInBounds k (.int .i64 x)=cellsI (upTo f 0 m (k+1)):=by
    rw[<- a5g f 0 a8,hx];unfold cellsI;simp[ZM]
   rw[b5] at hj;exact⟨hj,hb.setCell (p:=⟨h,k,none⟩) lR (.int .i64 x)⟩)
  have bf:(upTo f 0 m k).length=m:=a5h f 0 hk;have y0:wr.cell? ⟨h,k,none⟩=some (.int .i64 ((upTo f 0 m k)[k])):=by rw[cr9 k a];simp[cellsI]
  have y1:=fr0 k a;have bh:(0:Int)<=(k:Int):=oM;have bi:(k:Int)<(m:Int):=oM;clear ap aq ar o am a7 au X ak hb
  cases L:S.testBit k with
  |true =>
   have I:=Q 3 (by rw[O,L];rfl);rw[L] at c2;clear L;go_wp2;go_roundw
   case rel=>exact⟨k+1,oM,by go_num,I.1,I.2⟩
   case measure=>exact mS
  |false =>
   rw[L] at c2
   by_cases hv:vk<2000
   ·have I:=Q 0 (by rw[O,L];simp[hv])
    have b6:decide (vk<2000):=by simp[hv]
    clear L;go_wp2;go_roundw
    case rel=>exact⟨k+1,oM,by go_num,I.1,I.2⟩
    case measure=>exact mS
   ·have b6:decide (vk<2000)=false:=by simp[hv]
    cases jt with
    |true =>
     have I:=Q 2 (by rw[O,L];simp[hv]);clear L;go_wp2;go_roundw
     case rel=>exact⟨k+1,oM,by go_num,I.1,I.2⟩
     case measure=>exact mS
    |false =>
     have I:=Q 1 (by rw[O,L];simp[hv]);clear L;go_wp2;go_roundw
     case rel=>exact⟨k+1,oM,by go_num,I.1,I.2⟩
     case measure=>exact mS
theorem b3Z (g:Grp) (A:OA) (n c:Nat) (l:List Hld) (e:Nat) (d:Int) (he:e<g.en) (hg:g.At w w) (hl:l.length=n) (hn:n<=200) (hw:∀x∈l,x.wf) (hA:RowsAt Hld.cells 4 w w A l) (hv:Hd.valid g.ents.length l) (hd:-25567<=d/\d<=84005) :
  CL 131 #[g,.slice A n c,e,d] w (.tuple #[(Ct.meth g l e d),()]):=by
 obtain⟨W1,I,i,o,W⟩:=nw1 w g 29;have HW:=Z1 I;have O:=Z1 i;have a:W1.rangeAt w.heap.size 0 g:=Xq o;have s1:=Vq o;have X:=Z1 (b2x W1 g A n c l d (hg.at_ i) hl hn hw (RowsAt.at_ hA i) hv hd);obtain⟨f,S⟩:=eX (fun e=>Ct.meth g l e d:Nat->Int);have J:Ct.meth g l e d=f e:=by rw[S]
 rw[<- S] at X;rw[J];clear I W hg hA hv hw hl hd i S J o;go_enter func131,ntmps131;go_upto_region 1 with(fail);rw[<- HW];go_wp2_with (refine Vv (by rfl) 29 (.tmp 4) rfl w.heap.size 0 rfl _ _ a VS rfl VJ ?_);refine X.mono ?_;rintro ev W2 ⟨E,A2,c2,rfl,s⟩;have T:e<((List.range g.en).map f).length:=by simpa using he
 obtain⟨b2,o2,rfl,a5,L⟩:=RowsAt.look s T;have y2:=L 0 _ rfl;simp at y2;have Q:=bT O E;have a0:(0:Int)<=(e:Int):=oM;have a4:(e:Int)<(g.en:Int):=oM;simp only[Xt,Qv];clear s L E a;go_wp2
 go_ret2
 exact⟨rfl,Q⟩
attribute [local go_sem] Oper.semAt_some
def Day:={ d:Int // -25567<=d/\d<=84005 }
def encD (d:Day):Array Value:=#[.int .i64 d.1]
def dmap (l:List Day):List Int:=l.map (·.1)
theorem dates_mem {l:List Hld} {d:Int} (h:d∈Hd.dates l):∃x∈l,x.date=d:=by
 unfold Hd.dates at h;rw[Qq,Hd.mem_keys] at h;simpa using h
theorem b3h (A:OA) (n c:Nat) :
  Calls prog 130 #[.slice A n c] w fun ev w' =>
   ev=.returned (.func (.func 179) #[] #[.pointer (some ⟨w,0,none⟩)])/\w'=w.alloc (.cells #[.slice A n c] 32):=by
 go_enter func130,ntmps130;go_wp2;go_ret;exact⟨rfl,rfl⟩
theorem a6x (l:List Hld):(Hd.dates l).length<=l.length:=by
 unfold Hd.dates;rw[Kn];have:=Hd.keys_len (l.map (·.date))
 rwa [Xt] at this
def after (d:Int):Bool:=decide (-25567<d)
theorem b3i (m:Nat) (hm:1<=m) (l n₀ lo hi:Nat) (B0:Nat) (A:Option Addr) (n c:Nat) (hs:List Hld) (hl:hs.length=n) (hn:n<=200) (hw:∀ x∈hs,(Lit.int .i64 x.date).wf=true) (hdt:∀ x∈hs,-25567<=x.date/\x.date<=84005)
  (q:Nat) (hq:q<=n₀) (hLq:q<=lo) (hb0:B0<n₀) (hl0:B0<lo∨hi<=B0)
  (J Jx:List Day->World->Prop) (W:World) (hW:n₀<=W.heap.size) (hJ:AbidesFrom W J)
  (hY:∀ pre x W1,J pre W1->pre.length<202->YieldAt Fence.wide (m-1) prog l (encD x) W1 fun e W' =>
   (e=.returned (.bool true)/\J (pre++[x]) W'/\(KeepR n₀ lo hi W1 W'/\KeepT 3 W1 W'/\W1.heap.size<=W'.heap.size))∨(e=.returned (.bool false)/\Jx (pre++[x]) W'))
  (c0:W.cell? ⟨B0,0,none⟩=some (.slice A n c)) (hA:RowsAt Hld.cells 4 W q A hs) (h0:J [] W) :
  CallsIn Fence.wide m prog 179 #[.func (.yield l) #[] #[],.pointer (some ⟨B0,0,none⟩)] W fun e W'=>(∃ v,e=.returned v) /\
   ((∃ ys,dmap ys=Ct.days hs/\J ys W')∨(∃ pre,True/\Jx pre W')):=by
 refine callsIn_of_wp func179 rfl trivial ?_ rfl;simp only [ntmps179,List.size_toArray,List.length_cons,List.length_nil,Nat.reduceAdd,Nat.reduceSub,Array.replicate_succ,Array.replicate_zero,List.push_toArray,List.append_toArray,List.nil_append,List.cons_append];obtain⟨fn,tmps,assign,body,hy,hR⟩:=hY [] ⟨-25567,dC⟩ W h0 dC;unfold encD at hy;obtain⟨HA,Hl,HW⟩:=Z3 hA hl hw;have HDt:Hid (∀ d∈Hd.dates hs,-25567<=d/\d<=84005):=Z1 (fun d h=>by obtain⟨x,hx,rfl⟩:=dates_mem h;exact hdt x hx);clear hA hw hl hdt
 gi_wp2
 refine hR.mono ?_;rintro ev W3 (⟨rfl,hJ3,hk3,ht3,hs3⟩ | ⟨rfl,hJx3⟩)
 case inr =>
  gi_wp2
  refine bodyPost_ret (results_none rfl _ _ _) rfl ?_;exact⟨⟨_,rfl⟩,.inr ⟨_,trivial,hJx3⟩⟩
 have e1:=(hk3.cell hb0 hl0 0).trans c0;have f1:B0<W3.heap.size:=oM;obtain⟨Hd0,HJ3,HK3⟩:=Z3 (a4h W3 A n c hs Hl.out oM HW.out ((HA.out.keepR hk3 hq hLq).more oM)) hJ3 hk3;obtain⟨L,hL⟩:∃ L,L=Hd.dates hs:=⟨_,rfl⟩;have hLn:L.length<=200:=by have:=a6x hs;rw [hL];have:=Hl.out;omega
 have HD:Hid (Ct.days hs=-25567::L.filter after):=by show _=_;rw [hL];rfl
 rw [<- hL] at Hd0 HDt;clear hJ3 hk3 ht3 hL hy hR c0
 gi_wp2
 refine⟨trivial,callsIn_wide.2 (Hd0.out.mono ?_)⟩;rintro ev W4 ⟨hB4,A4,c4,⟨_,hty⟩,rfl,hA4⟩;have HJ4:Hid (J ([]++[(⟨-25567,dC⟩:Day)]) W4):=Z1 (hJ _ _ _ none HJ3.out ⟨hB4.os,hB4.tape,hB4.output,hB4.size,fun k hk _=>hB4.block k hk⟩ sP);have HK4:Hid (KeepR n₀ lo hi W W4):=Z1 (HK3.out.trans (fun b hb _=>hB4.block b oM));have hq4:=hB4.size;have HTy:=Z1 hty;have HA4:=Z1 hA4;clear hB4 hty hA4
 gi_wp2
 gi_loopw [11] (fun i wr=>∃(k:Nat) (pre:List Day),k<=L.length/\i=.int .i64 k/\Hid (dmap pre=-25567::(L.take k).filter after)/\J pre wr/\KeepR n₀ lo hi W wr/\KeepT 3 W4 wr/\W4.heap.size<=wr.heap.size) (fun i _=>L.length-(intOf i).toNat)
 case atStart=>exact⟨0,_,Nat.zero_le _,rfl,Z1 rfl,HJ4.out,HK4.out,KeepT.refl _ _,lR⟩
 case round =>
  obtain⟨k,pre,hk,rfl,HP,hJs,hKb,hKt,hsz⟩:=hrel
  by_cases hlt:k<L.length
  case neg =>
   obtain rfl:k=L.length:=oM;have HP2:Hid (dmap pre=-25567::L.filter after):=by have:=HP.out;rw [List.take_length] at this;exact this
   gi_wp2
   go_end0
   exact⟨⟨_,rfl⟩,.inl ⟨_,HP2.out.trans HD.out.symm,hJs⟩⟩
  obtain⟨bb,o,rfl,hbB,hr⟩:=RowsAt.look (RowsTy.keepT HTy.out HA4.out hKt hsz).2 hlt;have d0:=hr 0 _ rfl;simp at d0;obtain⟨x,hx⟩:∃ x,x=L[k]:=⟨_,rfl⟩;rw [<- hx] at d0
  by_cases hsel:-25567<x
  case neg =>
   have hft:(L.take (k+1)).filter after=(L.take k).filter after:=by
    rw [tse hlt,List.filter_append,List.filter_cons_of_neg (by rw [<- hx];simp [after,hsel]),List.filter_nil,List.append_nil]
   have hJ':Hid (dmap pre=-25567::(L.take (k+1)).filter after):=by show _=_;rw [hft];exact HP.out
   have k1:decide (x > -25567)=false:=by simpa using hsel
   clear hft hr hx
   gi_wp2
   refine⟨fun _ _=>trivial,?_⟩
   gi_wp2
   go_roundw
   case rel=>exact⟨k+1,pre,oM,by go_num,hJ',hJs,hKb,hKt,hsz⟩
   case measure=>simp [intOf];omega
  have hft:Hid ((L.take (k+1)).filter after=(L.take k).filter after++[x]):=by
   show _=_;rw [tse hlt,List.filter_append,List.filter_cons_of_pos (by rw [<- hx];simp [after,hsel]),List.filter_nil,<- hx]
  have hlen:((L.take k).filter after).length<200:=Nat.lt_of_le_of_lt (List.length_filter_le _ _) (by rw [List.length_take];omega);have hxd:-25567<=x/\x<=84005:=HDt.out x (by rw [hx];exact List.getElem_mem hlt);have hpl:pre.length<202:=by have:=congrArg List.length HP.out;unfold dmap at this;simp only [List.length_map,List.length_cons] at this;omega
  obtain⟨x',hx'⟩:∃ x':Day,x'=⟨x,hxd⟩:=⟨_,rfl⟩;obtain⟨fn,tmps,assign,body,hy,hR⟩:=hY pre x' _ hJs hpl;rw [show encD x'=#[.int .i64 x] by rw [hx'];rfl] at hy
  have HP3:Hid (dmap (pre++[x'])=-25567::(L.take (k+1)).filter after):=by
   show _=_;rw [hft.out];unfold dmap;rw [List.map_append];have:=HP.out;unfold dmap at this;rw [this,hx'];rfl
  have k1:decide (x > -25567)=true:=by simpa using hsel
  clear hlen hr hx hJs hpl hx'
  gi_wp2
  refine hR.mono ?_;rintro ev W5 (⟨rfl,hJ5,hk5,ht5,hs5⟩ | ⟨rfl,hJx5⟩)
  ·have hK5:=hKb.trans hk5
   have hT5:=hKt.trans ht5
   gi_wp2
   go_roundw
   case rel=>exact⟨k+1,_,oM,by go_num,HP3,hJ5,hK5,hT5,oM⟩
   case measure=>simp [intOf];omega
  ·gi_wp2
   refine bodyPost_ret (results_none rfl _ _ _) rfl ?_;exact⟨⟨_,rfl⟩,.inr ⟨_,trivial,hJx5⟩⟩
attribute [local go_sem] Oper.semAt_some
def accD (f:Int->Int) (a:List Day):List Itv:=(dmap a).foldl (fun acc d=>Ct.add acc d (f d)) []
theorem a6Q (f:Int->Int) (a:List Day) (x:Day):accD f (a++[x])=Ct.add (accD f a) x.1 (f x.1):=by unfold accD dmap;rw[Xn,YH];rfl
theorem a2S (d m:Int):Ct.add [] d m=[⟨d,84006,m⟩]:=rfl
theorem a3D (p:List Itv) (x:Itv) (d m:Int):Ct.add (p++[x]) d m=if x.meth=m then p++[x] else(p++[⟨x.frm,d,x.meth⟩])++[⟨d,84006,m⟩]:=by
 unfold Ct.add;simp
theorem b1u (acc:List Itv) (d m:Int):(Ct.add acc d m).length<=acc.length+1:=by
 rcases JV acc with h|⟨p,x,h⟩
 ·subst h;simp[a2S]
 ·rw[h,JX,a3D];split <;> simp
theorem a8l (f:Int->Int) (a:List Day):(accD f a).length<=a.length:=by
 obtain⟨k,i⟩:=eX a.length
 induction k generalizing a with
 |zero=>have:a=[]:=List.length_eq_zero_iff.1 i.symm;subst this;exact lR
 |succ k ih =>
  rcases JV a with h|⟨p,x,h⟩
  ·subst h;simp at i
  ·rw[JX] at h
   subst h;have o:=ih p (by simpa using i);have s:=b1u (accD f p) x.1 (f x.1);rw[a6Q,Vc,Zy];omega
theorem Hd.valid_date {n:Nat} {l:List Hld} (h:Hd.valid n l):∀x∈l,-25567<=x.date/\x.date<=84005:=by
 intro x E;obtain⟨i,s,rfl⟩:=XD E;unfold Hd.valid at h;simp only[Vp,Xb,XK] at h;have a:=h.1.2 i s;unfold Hd.keyAt at a;simp only[Vp] at a;have e:Hd.hat l i=l[i]:=by unfold Hd.hat;simp[s]
 rw[e] at a;have o:=a.1;unfold Hd.proper Gr.date at o;simp only[Vp,Xm] at o;exact o.1.2
theorem a9n (o:World) (g s a m:Nat) (hm:1<=m) (A:OA) (n c:Nat) (i:List Hld) (hl:i.length=n) (hn:n<=200) (hw:∀x∈i,(Lit.int .i64 x.date).wf) (I:∀x∈i,-25567<=x.date/\x.date<=84005) (a0:o.heap.size=s) (S:g+1<=a) (T:a<s)
  (O:o.cell? ⟨a,0,none⟩=some (.slice A n c)) (X:RowsAt Hld.cells 4 o g A i) :
  SeqStopsK Fence.wide m prog 179 #[.pointer (some ⟨a,0,none⟩)] encD
   (fun W W'=>KeepR s g (g+1) W W'/\KeepT 3 W W'/\(W:Nat)<=W') (fun ys=>dmap ys=Ct.days i) (fun _=>True) 202 o:=fun l J L W E hJ _ hY Q =>
 b3i m hm l s g (g+1) a A n c i hl hn hw I g oM lR T (.inr S) J L W (by have:=E.size;omega) hJ hY
  ((E.cell (p:=⟨a,0,none⟩) (by show a<o;omega)).trans O) (RowsAt.below X E oM) Q
def IvKeep (B ob:Nat) (W a:World):Prop:=KeepsFrom B W a/\(KeepR (ob+2) ob (ob+1) W a/\KeepT 3 W a/\(W:Nat)<=a)/\Below ob W a
theorem IvKeep.trans {B ob:Nat} {X Y Z:World} (h:IvKeep B ob X Y) (k:IvKeep B ob Y Z):IvKeep B ob X Z :=
 ⟨h.1.trans k.1,⟨h.2.1.1.trans k.2.1.1,h.2.1.2.1.trans k.2.1.2.1,Vn h.2.1.2.2 k.2.1.2.2⟩,h.2.2.trans k.2.2⟩
theorem IvKeep.below {B ob:Nat} {W a:World} (h:Below W W a) (o:ob+2<=W):IvKeep B ob W a :=
 ⟨KeepsFrom.of_grownBy (show W.grownBy a none from⟨h.os,h.tape,h.output,h.size,fun k i _=>h.block k i⟩) (fun j e=>by cases e),⟨fun b s _=>h.block b oM,KeepT.below h,h.size⟩,h.mono oM⟩
theorem IvKeep.store {B ob g a k:Nat} {W:World} {J:List Value} (h:W.ownsRow (ob+2) 93 3 (.slice (some ⟨g,0,none⟩) k a) k J) (j:Nat) (u:Value):IvKeep B ob W (W.setCell ⟨g,j,none⟩ u):=by
 have L:=h.lt g rfl
 have i:∃cur s,W.heap[g]?=some (.cells cur 93 s):=by
  rcases h.2 with⟨e,_⟩|⟨g',o,cur,e,_,I,_⟩
  ·cases e
  ·cases e;exact⟨cur,_,I⟩
 obtain⟨cur,s,i⟩:=i;exact⟨(KeepsOthers.setCell _ _ _).from _,⟨fun b E _=>VR _ _ _ _ (by show b≠g;omega),KeepT.setCell (p:=⟨g,j,none⟩) i dC u,by simp[World.setCell]⟩,bR.setCell (p:=⟨g,j,none⟩) (by show ob<=g;omega) u⟩
theorem IvKeep.push {B ob:Nat} {W i:World} {v a:Value} {k m:Nat} {xs O:List Value} {tmp:Obj} (Q:Boxed W ob 97 v) (o:W.ownsRow (ob+2) 93 3 v k xs) (X:ob+2<=W)
  (I:i.ownsRow (ob+2) 93 3 a m O) (s:(W.alloc tmp).grownBy i v.ownBlock) :
  Boxed i ob 97 v/\IvKeep B ob W (i.setCell ⟨ob,0,none⟩ a)/\Boxed (i.setCell ⟨ob,0,none⟩ a) ob 97 a/\(i.setCell ⟨ob,0,none⟩ a).ownsRow (ob+2) 93 3 a m O:=by
 obtain⟨J,S,h3,T,L⟩:=Boxed.appended (tmp:=tmp) Q (show(97:Nat)≠93 by decide) (b3A o (show ob<=ob+2 by omega)) oM lR (b3A I oM) s;have E:=(o.alloc tmp).lt;refine⟨J,⟨T.from _,⟨fun b hb hL=>?_,?_,L.size⟩,L⟩,S,I.kept (grownBy_setCell' i ob a) ?_⟩
 ·rw[VR _ _ _ _ (by show b≠ob;omega)]
  exact(s.block b sO (fun e=>by have:=E b e.symm;omega)).trans (VD W _ b oM)
 ·exact((KeepT.below (bR.alloc lR _)).trans (a2L (o.alloc tmp) s dC)).trans (KeepT.setCell (p:=⟨ob,0,none⟩) J dC a)
 ·cases hv:a.ownBlock with
  |none=>exact .inl rfl
  |some g=>exact .inr (fun e=>by cases e;have:=I.lt ob hv;omega)
theorem b3G (p:List Itv) (y:Itv) (j:Nat) (a:j<3):((p++[y]).flatMap Itv.cells)[p.length*3+j]?=y.cells[j]?:=by
 rw[VL,List.getElem?_append_right (by rw[Xj (f:=Itv.cells) (sz:=3) (fun _=>rfl)];omega),Xj (f:=Itv.cells) (sz:=3) (fun _=>rfl),show p.length*3+j-p.length*3=j by omega];simp
theorem b4f (p:List Itv) (y:Itv) (d:Int):((p++[y]).flatMap Itv.cells).set (p.length*3+1) (.int .i64 d)=(p++[(⟨y.frm,d,y.meth⟩:Itv)]).flatMap Itv.cells:=by
 rw[VL,VL,Yv _ _ (by rw[Xj (f:=Itv.cells) (sz:=3) (fun _=>rfl)];omega),Xj (f:=Itv.cells) (sz:=3) (fun _=>rfl),show p.length*3+1-p.length*3=1 by omega];simp[Itv.cells]
theorem b4e (g:Grp) (A:OA) (n c:Nat) (l:List Hld) (e:Nat) (bo:e≠0) (he:e<g.ents.length) (hg:g.At w w) (hl:l.length=n) (hn:n<=200) (hw:∀x∈l,x.wf) (hA:HldsAt w w A l) (hv:Hd.valid g.ents.length l) :
  Calls prog 75 #[g,.slice A n c,e] w (IvsPost (Ct.intervals g l e) w):=by
 obtain⟨W0,aw,ai,az,b3,ae⟩:=nw2 w g #[.slice A n c] 29 32;obtain⟨W1,ax,a9,b4,b7,bb⟩:=nw2 W0 #[e] #[.slice none 0 0] 3 97;obtain⟨W2,ay,J,b8,bs⟩:=nw1 W1 #[()] 56;have ak:W2=((((w.alloc (.cells g 29)).alloc (.cells #[.slice A n c] 32)).alloc (.cells #[e] 3)).alloc (.cells #[.slice none 0 0] 97)).alloc (.cells #[()] 56):=by rw[ay,ax,aw]
 have HW:=Z1 ak;have a4:Below w w W2:=(ai.trans (a9.mono ai.size)).trans (J.mono oM);have g0:W2.heap[w.heap.size]?=some (.cells g 29 (0,0)):=gbox (gbox az a9 oM) J oM;have g1:W2.heap[w.heap.size+1]?=some (.cells #[.slice A n c] 32 (0,0)):=gbox (gbox b3 a9 oM) J oM;have g2:W2.heap[w.heap.size+2]?=some (.cells #[e] 3 (0,0)):=by have:=gbox b4 J oM;rw[ae] at this;exact this
 have g3:W2.heap[w.heap.size+3]?=some (.cells #[.slice none 0 0] 97 (0,0)):=by have:=gbox b7 J oM;rw[ae] at this;exact this
 have g4:W2.heap[w.heap.size+4]?=some (.cells #[()] 56 (0,0)):=by have:=b8;rw[bb,ae] at this;exact this
 have ba:=hg.hel;have hm:1<=g.ents.length/\g.ents.length<=12:=by have:=hv;unfold Hd.valid at this;simp at this;omega
 obtain⟨f,hf⟩:=eX (fun d=>Ct.meth g l e d:Int->Int);have T:Hid (∀ys,dmap ys=Ct.days l->accD f ys=Ct.intervals g l e):=Z1 (fun ys h=>by unfold Ct.intervals accD;rw[VB bo,h,hf])
 have ah:Hid (∀W,RowsAt Hld.cells 4 W W A l->CL 32 #[g.en,.slice A n c] W true):=Z1 (fun W h=>by
  have:=a2o W g.ents.length A n c l oM hl hn hw h;rw[hv,ba] at this;exact this)
 have ar:Hid (∀W d,-25567<=d/\d<=84005->Below w w W->CL 131 #[g,.slice A n c,e,.int .i64 d] W (.tuple #[(f d),()])):=Z1 (fun W d hd hB=>by
  rw[hf];exact b3Z W g A n c l e d oM (hg.at_ hB) hl hn hw (RowsAt.at_ hA hB) hv hd)
 have bx:(e:Int)<(g.en:Int):=oM;have k1:decide ((e:Int)<0)=false:=Vr oM;have k2:decide ((e:Int) ≥ (g.en:Int))=false:=Vr oM;have k3:((e:Int)==0)=false:=sO;have ao:=cr9 20 g0;have y1:=cr9 0 g1;simp at ao y1;obtain⟨bc,HA,Hl,Hw,G0,G1,G2⟩:=Z7 (RowsAt.at_ hA a4) hA hl hw g0 g1 g2;obtain⟨G3,G4,ap⟩:=Z3 g3 g4 a4;have c8:(W2:Nat)=w+5:=oM;have bf:Hid (∀x∈l,-25567<=x.date/\x.date<=84005):=Z1 (fun x hx=>Hd.valid_date hv x hx);rw[ak] at ao y1;clear aw ax ay ak az b3 b4 b7 b8 ae bb bs ai a9 J g0 g1 g2 g3 g4 hg hA hv hw hl a4 hf ba;refine XL.1 (callsIn_of_wp_marks (F:=Fence.wide) (n:=8) func75 rfl trivial ?_ rfl);simp only[ntmps75,Yn,Xl,Y8,Nat.reduceAdd,Nat.reduceSub,Yr,Yl,YT,YW,Xr,XM]
 gi_wp2
 rw[<- HW];refine⟨trivial,XL.2 ((ah _ bc).mono ?_)⟩;rintro ev W3 ⟨rfl,s⟩;have S:=bT ap s;have q0:=gbox G0.out s (Vq G0.out);have q1:=gbox G1.out s (Vq G1.out);have q2:=gbox G2.out s (Vq G2.out);have q3:=gbox G3.out s (Vq G3.out);have q4:=gbox G4.out s (Vq G4.out);have z1:=cr9 0 q1;have z2:=cr9 0 q2;simp at z1 z2;have t1:=Vq q1;have t2:=Vq q2;have c3:=s.size;obtain⟨Q0,Q1,Q2,Q3,Q4⟩:=Z5 q0 q1 q2 q3 q4;clear q0 q1 q2 q3 q4 s ao y1
 gi_wp2
 refine⟨trivial,XL.2 ((b3h _ _ _ _).mono ?_)⟩;rintro ev w5 ⟨rfl,rfl⟩
 gi_wp2
 obtain⟨ob,ac⟩:=eX W3.heap.size;have au:=Z1 ac;obtain⟨ws,an⟩:=eX ((W3.alloc (.cells #[.slice none 0 0] 97)).alloc (.cells #[.slice A n c] 32));obtain⟨aa,r0,r1,a8⟩:=a1m W3 #[.slice none 0 0] #[.slice A n c] 97 32;rw[<- an] at aa r0 r1 a8;rw[<- an,<- ac];rw[<- ac] at aa r0 r1 a8;have c2:ws.cell? ⟨ob+1,0,none⟩=some (.slice A n c):=by have:=cr9 0 r1;simpa using this
 have be:Hid (RowsAt Hld.cells 4 ws ob A l):=Z1 (RowsAt.more (RowsAt.below HA (S.out.trans (aa.mono oM)) lR) oM);have b9:Boxed ws ob 97 (.slice none 0 0):=r0;have bu:ob<=W3:=X6 au;have bv:W3<=ob:=X6 au.symm;clear ac an r0
 refine wpIn_rangeFunc_ownH rfl (by omega:1<=8) (gf:=179) (lb:=#[.pointer (some ⟨ob+1,0,none⟩)]) rfl trivial (enters_of func179 kR rfl)
  (a9n ws ob (ob+2) (ob+1) 7 oM A n c l Hl hn (fun x hx=>(Hw x hx).2.2.1) bf a8 oM oM c2 be)
  (fun h k=>⟨h.1.trans k.1,h.2.1.trans k.2.1,Vn h.2.2 k.2.2⟩) (fun W l o o' h1 h2 h3 h4=>⟨KeepR.putObj (n:=ob+2) (w:=ws) oM W l o o' h1 h2 h3 h4,KeepT.putObj W l o o' h2 h3,by simp[World.putObj]⟩) bR (fun _=>rfl)
  (fun i W=>(∃v,Boxed W ob 97 v/\W.ownsRow (ob+2) 93 3 v (accD f i).length ((accD f i).flatMap Itv.cells)/\True)/\Below ob W3 W/\ob+2<=W) (fun _ _ _=>False)
  (OwnFrom.and (Own.from (holdsRow_own (ob+2) ob 97 93 3 (fun i:List Day=>(accD f i).length) (fun i=>(accD f i).flatMap Itv.cells) (fun _ _=>True)) _) (OwnFrom.and (ownFrom_below oM oM) (fun _ _ _ _ hs hg _=>Vn hs hg.size))) (fun _ _ _ _ _ hs _ _=>hs)
  ⟨⟨_,b9,Xp _ _ _ _,trivial⟩,aa,oM⟩
  (fun x a' W=>a'={ tmps:=#[.agg g,.slice A n c,.int .i64 e,.pointer (some ⟨w,0,none⟩),.pointer (some ⟨w+1,0,none⟩),.pointer (some ⟨w+1+1,0,none⟩),.pointer (some ⟨w+1+1+1,0,none⟩),.pointer (some ⟨w+1+1+1+1,0,none⟩),.int .i64 g.en,.pointer (some ⟨ob,0,none⟩),.int .i64 x.1,undef,undef,undef,
   .pointer (some ⟨w,20,none⟩),.slice g.eA g.en g.ec,.int .i64 g.en,.int .i64 g.en,.slice A n c,.bool true,.bool false,.int .i64 e,.bool false,.bool false,.int .i64 e,.int .i64 g.en,.bool false,.bool false,.int .i64 e,.bool false,undef,undef,.slice A n c,
   .func (.func 179) #[] #[.pointer (some ⟨ob+1,0,none⟩)],.int .i64 x.1,undef,undef,undef,undef,undef,undef,undef,undef,undef,undef,undef,undef,undef,undef,undef,undef,undef,undef,undef,undef,undef,undef,undef,undef,undef,undef,undef,undef,undef,undef,undef,undef,undef,undef,undef,undef,undef,undef,undef,undef],defers:=[] })
  ?hAx ?assign ?body ?done ?stop
 case hAx=>exact fun _ _ _ _ _ _ h _ _=>h
 case assign =>
  rintro l i x W K ⟨i1,i2,Q⟩ hK;dsimp only[encD]
  gi_wp2
  exact hK _ _ (KeepsFrom.of_grownBy (Xx W none) (fun j e=>by cases e)) ⟨KeepR.refl _ _ _ _,KeepT.refl _ _,lR⟩ ⟨i1,i2,Q⟩ rfl
 case body =>
  rintro lp i x a' W bp ⟨r,bq⟩ ⟨⟨v,i1,i2,_⟩,Q,i4⟩ rfl c0;have ab:Below w w W:=S.out.trans (Q.mono oM);have q0:=(Q.block w oM).trans Q0.out;have q1:=(Q.block (w+1) oM).trans Q1.out;have q2:=(Q.block (w+2) oM).trans Q2.out;have y1:=cr9 0 q1;have y2:=cr9 0 q2;simp at y1 y2;have t1:=Vq q1;have t2:=Vq q2;have Hm:=Z1 (ar W x.1 x.2 ab);obtain⟨m,am⟩:=eX (f x.1);rw[<- am] at Hm;have aq:=Z1 (a8l f i);have a0:=Z1 (a6Q f i x);rw[<- am] at a0;clear am bp bq ab
  gi_wp2_with (refine a1C rfl 29 _ rfl _ rfl _ _ _ _ q0 VS rfl VJ ?_)
  refine⟨trivial,CallsIn.inRound lp (XL.2 (Hm.mono ?_))⟩;rintro ev W4 ⟨rfl,a5⟩;have j1:Boxed W4 ob 97 v:=(a5.block ob oM).trans i1;have j2:=Vj i2 a5;have X:=Z1 (IvKeep.below (B:=ws.heap.size) (ob:=ob) a5 oM);have ag:=Z1 Q;have c4:=a5.size;have J1:=Z1 j1;have I:=Z1 j2;have b0:=cr9 0 j1;simp at b0;have b1:=Vq j1;have b2:=fr0 0 j1;clear q0 q1 q2 y1 y2 i1 i2 Q a5 j1 j2;obtain⟨acc,af⟩:=eX (accD f i);rw[<- af] at I aq a0;clear af
  rcases JV acc with hz|⟨p,y,hz⟩
  ·subst hz
   obtain⟨A5,c5,rfl,_⟩:=Xw (l:=([]:List Itv)) (f:=Itv.cells) (sz:=3) dC (fun _=>rfl) I.out rfl
   gi_wp2_with (gi_at_builtin;refine Hid.out ?_)
   show wpListIn _ _ _ _ _ _ _ _;refine a2B eltItv I.out [x.1,(84006:Int),m] rfl rfl rfl rfl rfl oC sP oM ?_;intro v' w1 E a7;obtain⟨g7,c7,rfl⟩:=ownsRow_succ E;obtain⟨p1,p2,p3,p4⟩:=IvKeep.push (B:=ws.heap.size) J1.out I.out oM E a7;have q0:=cr9 0 p1;simp at q0;have q1:=Vq p1;have q2:=fr0 0 p1;have T:=Z1 (X.out.trans p2);have HO:Hid ((w1.setCell ⟨ob,0,none⟩ (.slice (some ⟨g7,0,none⟩) 1 c7)).ownsRow (ob+2) 93 3 (.slice (some ⟨g7,0,none⟩) 1 c7) (accD f (i++[x])).length ((accD f (i++[x])).flatMap Itv.cells)):=by show World.ownsRow _ _ _ _ _ _ _;rw[a0,a2S];exact p4
   have P3:=Z1 p3;clear E a7 p1 p2 p3 p4 b0 b1 b2
   gi_wp2
   exact⟨T.1,T.2.1,⟨⟨_,P3.out,HO,trivial⟩,ag.out.trans T.2.2,Vn i4 T.2.1.2.2⟩⟩
  rw[JX] at hz;subst hz;rw[Vc,Zy] at I;obtain⟨g',av,rfl⟩:=ownsRow_succ I.out;have bz:=I.out.lt g' rfl;have m0:=(I.out.cellAt (p.length*3+2) oM).trans (b3G p y 2 oM);simp only[Itv.cells,List.getElem?_cons_succ,List.getElem?_cons_zero] at m0;have c1:p.length<=202:=by have:=aq.out;simp at this;omega
  have e1:((p.length+1:Nat):Int)-1=(p.length:Int):=oM;have e2:decide (((p.length+1:Nat):Int) > 0):=VT oM
  by_cases hm:y.meth=m
  ·have k4:(y.meth==m):=by simp[hm]
   have HO:Hid (W4.ownsRow (ob+2) 93 3 (.slice (some ⟨g',0,none⟩) (p.length+1) av) (accD f (i++[x])).length ((accD f (i++[x])).flatMap Itv.cells)):=by show World.ownsRow _ _ _ _ _ _ _;rw[a0,a3D,Vt hm,Vc,Zy];exact I.out
   clear hm
   gi_wp2
   exact⟨X.1,X.2.1,⟨⟨_,J1.out,HO,trivial⟩,ag.out.trans X.2.2,oM⟩⟩
  have k4:(y.meth==m)=false:=by simp[hm]
  have m1:=(I.out.cellAt (p.length*3+1) oM).trans (b3G p y 1 oM);simp only[Itv.cells,List.getElem?_cons_succ,List.getElem?_cons_zero] at m1;have m2:=I.out.frozenAt (p.length*3+1);have ad:=(I.out.stored (p.length*3+1) (.int .i64 x.1)).1;rw[b4f] at ad;have al:=IvKeep.store (B:=ws.heap.size) I.out (p.length*3+1) (.int .i64 x.1);obtain⟨W5,a6⟩:=eX (W4.setCell ⟨g',p.length*3+1,none⟩ (.int .i64 x.1));have j5:Boxed W5 ob 97 (.slice (some ⟨g',0,none⟩) (p.length+1) av):=by rw[a6];exact(VR _ _ _ _ (by show ob≠g';omega)).trans J1.out
  rw[<- a6] at ad al;have br:(W5:Nat)=W4:=by rw[a6];simp[World.setCell]
  have b5:=cr9 0 j5;simp at b5;have b6:=Vq j5;obtain⟨J5,J6,bg,bh,bi⟩:=Z5 j5 ad (X.out.trans al) a6 hm;clear ad al a6 j5 hm
  gi_wp2_with (gi_at_builtin;refine Hid.out ?_)
  show wpListIn _ _ _ _ _ _ _ _;rw[<- bh];refine a2B eltItv J6.out [x.1,(84006:Int),m] rfl rfl rfl (by rw[br];rfl) rfl oC sO oM ?_;intro v' w1 E a7;obtain⟨g7,c7,rfl⟩:=ownsRow_succ E;obtain⟨p1,p2,p3,p4⟩:=IvKeep.push (B:=ws.heap.size) J5.out J6.out oM E a7;have q0:=cr9 0 p1;simp at q0;have q1:=Vq p1;have q2:=fr0 0 p1;have T:=Z1 (bg.out.trans p2)
  have HO:Hid ((w1.setCell ⟨ob,0,none⟩ (.slice (some ⟨g7,0,none⟩) (p.length+1+1) c7)).ownsRow (ob+2) 93 3 (.slice (some ⟨g7,0,none⟩) (p.length+1+1) c7) (accD f (i++[x])).length ((accD f (i++[x])).flatMap Itv.cells)):=by
   show World.ownsRow _ _ _ _ _ _ _;rw[a0,a3D,VB bi.out];have h9:=p4;simpa[VL,Itv.cells] using h9
  have P3:=Z1 p3;clear E a7 p1 p2 p3 p4 b0 b1 b2 b5 b6 m0 m1 m2
  gi_wp2
  exact⟨T.1,T.2.1,⟨⟨_,P3.out,HO,trivial⟩,ag.out.trans T.2.2,Vn i4 T.2.1.2.2⟩⟩
 case done =>
  rintro D ys W hD hS ⟨⟨v,i1,i2,_⟩,Q,i4⟩ hK;have bt:=a8l f ys;rw[T ys hS] at i2;obtain⟨A5,c5,rfl,_⟩:=Xw (f:=Itv.cells) (sz:=3) dC (fun _=>rfl) i2 rfl;have b0:=cr9 0 i1;simp at b0;have b1:=Vq i1;have q3:Row W (w+3) 97 #[.slice none 0 0]:=(Q.block (w+3) oM).trans Q3.out;have q4:Row W (w+4) 56 #[()]:=(Q.block (w+4) oM).trans Q4.out;have z3:=cr9 0 q3;have z4:=cr9 0 q4;simp at z3 z4;have t3:=Vq q3;have t4:=Vq q4;have f3:=fun j=>fr0 j q3;have f4:=fun j=>fr0 j q4;obtain⟨L,hL⟩:=eX (Ct.intervals g l e);have HL:=Z1 hL;rw[<- hL] at b0 i2;rw[<- hL];have HO:=Z1 i2;have bw:W3+2<=D:=oM;obtain⟨bj,bk,HK,ab⟩:=Z4 q3 q4 hK (S.out.trans (Q.mono oM));clear i1 i2 Q hK q3 q4 hL hS
  gi_wp2
  obtain⟨V1,O⟩:=eX ((W.setCell ⟨w+1+1+1,0,none⟩ (.slice A5 L.length c5)).setCell ⟨w+1+1+1+1,0,none⟩ (.int .i64 0))
  have v3:Row V1 (w+3) 97 #[.slice A5 L.length c5]:=by
   rw[O];exact Row.other (Row.set bj.out 0 _) ⟨w+1+1+1+1,0,none⟩ (by show(w:Nat)+3≠w+1+1+1+1;omega) _
  have v4:Row V1 (w+4) 56 #[()]:=by
   rw[O];exact Row.set (Row.other bk.out ⟨w+1+1+1,0,none⟩ (by show(w:Nat)+4≠w+1+1+1;omega) _) 0 _
  have aj:V1.heap[D]?=some (.deferred (some [])):=by rw[O];exact a0y (g:=w.heap.size+1+1+1+1) (a0y (g:=w.heap.size+1+1+1) HK oM) oM
  have bm:Below w w V1:=by rw[O];exact(ab.out.setCell (p:=⟨w+1+1+1,0,none⟩) (by show(w:Nat)<=w+1+1+1;omega) _).setCell (p:=⟨w+1+1+1+1,0,none⟩) (by show(w:Nat)<=w+1+1+1+1;omega) _
  have bn:V1.ownsRow (ob+2) 93 3 (.slice A5 L.length c5) L.length (L.flatMap Itv.cells):=by
   rw[O];exact ownsRow_setCell_below (ownsRow_setCell_below HO (a:=⟨w+1+1+1,0,none⟩) (by show w+1+1+1<ob+2;omega) _) (a:=⟨w+1+1+1+1,0,none⟩) (by show w+1+1+1+1<ob+2;omega) _
  rw[<- O];have u3:Row (V1.putObj D (.deferred none)) (w+3) 97 #[.slice A5 L.length c5]:=v3.putObj D _ oM;have u4:Row (V1.putObj D (.deferred none)) (w+4) 56 #[()]:=v4.putObj D _ oM;have y3:=cr9 0 u3;have y4:=cr9 0 u4;simp at y3 y4;have r3:=b3D y3;have r4:=b3E y4;refine⟨sP,.inl ⟨_,_,rfl,run_takeDeferred aj,⟨.tuple #[.slice A5 L.length c5,()],by simp[results,results75,asAddr,r3,r4],?_,?_⟩⟩⟩
  ·exact bm.trans ((belowK_b (w:=ws) lR V1 D _ (.deferred none) oM aj rfl rfl).mono oM)
  ·obtain⟨A6,c6,e6,bl⟩:=Xw (f:=Itv.cells) (sz:=3) dC (fun _=>rfl) (ownsRow_putObj bn (.deferred none) aj rfl) rfl
   cases e6
   rw[<- HL];exact⟨A5,c5,rfl,bl⟩
 case stop =>
  rintro D c' i W _ _ hx _;exact hx.elim
namespace Ct
structure Good (acc:List Itv):Prop where
 cov:∀d,-25567<=d->d<84006->∃x∈acc,x.frm<=d/\d<x.to
 frm:∀x∈acc,-25567<=x.frm/\x.frm<=84005
 met:∀x∈acc,x.meth=0∨x.meth=1∨x.meth=2∨x.meth=3
 last:∀x,acc.getLast?=some x->x.to=84006
theorem Good.add {acc:List Itv} {d m:Int} (h:Good acc) (i:acc≠[]) (J:-25567<=d/\d<=84005) (L:m=0∨m=1∨m=2∨m=3):Good (add acc d m)/\Ct.add acc d m≠[]:=by
 obtain⟨p,x,rfl⟩:∃p x,acc=p++[x]:=⟨acc.dropLast,acc.getLast i,(KH i).symm⟩;rw[a3D]
 split
 ·exact⟨h,sP⟩
 ·have O:=h.last x sP
  refine⟨⟨fun v E o=>?_,fun y a=>?_,fun y a=>?_,fun y a=>?_⟩,sP⟩
  ·obtain⟨y,a,s,I⟩:=h.cov v E o
   rcases V9.1 a with a|a
   ·exact⟨y,by simp[a],s,I⟩
   ·simp at a
    subst a
    by_cases hv:v<d
    ·exact⟨⟨y.frm,d,y.meth⟩,sP,s,hv⟩
    ·exact⟨⟨d,84006,m⟩,sP,by show d<=v;omega,o⟩
  ·simp only[V9,VY] at a
   rcases a with(a|rfl)|rfl
   ·exact h.frm y (by simp[a])
   ·exact h.frm x sP
   ·exact J
  ·simp only[V9,VY] at a
   rcases a with(a|rfl)|rfl
   ·exact h.met y (by simp[a])
   ·exact h.met x sP
   ·exact L
  ·simp at a
   rw[<- a]
theorem Good.first (m:Int) (s:m=0∨m=1∨m=2∨m=3):Good (Ct.add [] (-25567) m):=by
 rw[a2S];refine⟨fun v i o=>⟨_,List.mem_singleton_self _,i,o⟩,fun y a=>?_,fun y a=>?_,fun y a=>?_⟩
 ·simp at a;subst a;exact⟨by show(-25567:Int)<=-25567;decide,by show(-25567:Int)<=84005;decide⟩
 ·simp at a;subst a;exact s
 ·simp at a;rw[<- a]
theorem b0v (g:Grp) (l:List Hld) (e:Nat) (d:Int):meth g l e d=0∨meth g l e d=1∨meth g l e d=2∨meth g l e d=3:=by
 unfold meth
 split
 ·simp
 ·split
  ·simp
  ·split <;> simp
theorem a6q (f:Int->Int) (i:∀d,f d=0∨f d=1∨f d=2∨f d=3):∀(a:LI) (acc:List Itv),Good acc->acc≠[]->(∀d∈a,-25567<=d/\d<=84005) ->
  Good (a.foldl (fun acc d=>add acc d (f d)) acc)/\(a.foldl (fun acc d=>add acc d (f d)) acc).length<=acc.length+a.length
 |[],acc,h,_,_=>⟨h,sP⟩
 |d::a,acc,h,hne,hd=>by
  obtain⟨o,s⟩:=Good.add h hne (hd d XN) (i d);obtain⟨E,J⟩:=a6q f i a (add acc d (f d)) o s (fun x I=>hd x (XZ _ I));refine⟨E,?_⟩;have:=b1u acc d (f d);simp only[Zt,Xl];omega
theorem ivs_good (g:Grp) (l:List Hld) (e:Nat) (s:e≠0) (L:l.length<=200) (o:∀x∈l,-25567<=x.date/\x.date<=84005):Good (intervals g l e)/\(intervals g l e).length<=1000:=by
 unfold intervals;rw[VB s];unfold days;rw[Zt]
 obtain⟨a,i⟩:=a6q (fun d=>meth g l e d) (b0v g l e) ((Hd.dates l).filter (fun d=>decide (-25567<d))) (add [] (-25567) (meth g l e (-25567))) (Good.first _ (b0v _ _ _ _)) (by rw[a2S];simp)
  (fun d h=>by obtain⟨x,E,rfl⟩:=dates_mem (Yw.1 h).1;exact o x E)
 refine⟨a,Vn i ?_⟩;have I:=XY (fun d=>decide ((-25567:Int)<d)) (Hd.dates l);have J:=a6x l;rw[a2S];simp only[Zy];omega
theorem current_good {g:Grp} {l:List Hld} {e:Nat} {d:Int} (h:Good (intervals g l e)) (o:-25567<=d/\d<=84005):∃x,(intervals g l e).find? (fun x=>decide (x.frm<=d/\d<x.to))=some x/\x∈intervals g l e:=by
 obtain⟨x,s,i,E⟩:=h.cov d o.1 oM
 cases a:(intervals g l e).find? (fun x=>decide (x.frm<=d/\d<x.to)) with
 |none=>exact absurd (by simpa using List.find?_eq_none.1 a x s:x.frm<=d->x.to<=d) (fun h=>by have:=h i;omega)
 |some y=>exact⟨y,rfl,List.mem_of_find?_eq_some a⟩
end Ct
end Go.Proofs.YtbhdekahdnenjaaGreatDoor
