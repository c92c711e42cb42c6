/- Lemmas. -/
import Derived.Test.YtbhdekahdnenjaaGreatDoorG31
set_option linter.unusedVariables false
set_option linter.unusedSimpArgs false
set_option maxRecDepth 100000
set_option maxHeartbeats 16000000
namespace Go.Proofs.YtbhdekahdnenjaaGreatDoor
open Go.RowKit
variable (w:World)
theorem Hd.validR_key {n:Nat} {l:List Hld} {i:Nat} (a:i<l.length) (h:Hd.keyAt n l i=false):Hd.validR n l=false:=by
 unfold Hd.validR Hd.okAll;have:(List.range l.length).all (Hd.keyAt n l)=false:=Yb.2 ⟨i,XK.2 a,by simp[h]⟩;rw[this];simp
theorem Hd.okAll_shr {n:Nat} {l:List Hld} (h:Hd.okAll n l):∀x∈l,0<=x.shr/\x.shr<=10000:=by
 intro x s;obtain⟨i,o,rfl⟩:=XD s;unfold Hd.okAll at h;rw[Xb] at h;have a:=h i (XK.2 o);unfold Hd.keyAt at a;rw[Hd.hat_lt o] at a;simp only[Vp] at a;exact Hd.proper_shr a.1
theorem Hd.range_all_succ {f:Nat->Bool} {k:Nat} (h:(List.range k).all f) (a:f k):(List.range (k+1)).all f:=by
 rw[Ym,Yp,h];simp[a]
open Go.Proofs.Tryz
theorem hldLaw:Maps.Keyed prog 43:=Kx (deep_law_laid laidOut (m:=2) oM (YZ kR) kR kR)
theorem hldKey (a b c d:Int) (J:(Lit.int .i64 a).wf) (L:(Lit.int .i64 b).wf) (O:(Lit.int .i64 c).wf) (Q:(Lit.int .i64 d).wf):∃kl,keyOf prog 43 (.agg #[a,b,c,d])=some kl:=by
 unfold keyOf;rw[ZN];have s:prog.keyType 43:=kR;have i:prog.cellsOf 43=4:=kR
 have E:(Value.agg #[a,b,c,d]).formed prog 43:=by
  simp[Value.formed,ZN,i]
 simp only[s,E,Qm,if_true];have I:∃n,prog.types.size=n+1:=⟨prog.types.size-1,by have:0<prog.types.size:=YZ kR;omega⟩;obtain⟨n,S⟩:=I;rw[S];have o:prog.cellsOf 3=1:=kR;simp[Program.keyLits,ZN,YM,Value.cells,o,i,J,L,O,Q]
def SeenH (w:World) (b:Nat) (l:List Hld) (k:Nat):Prop :=
 ∃f,MapAt w prog 43 b k f/\∀y:Hld,f (.agg #[y.hdr,y.ent,y.date,()])=if(l.take k).any (fun r=>Hd.same r y) then some (.bool true) else none
theorem SeenH.lt {w:World} {b k:Nat} {l:List Hld} (h:SeenH w b l k):b<w:=by obtain⟨f,h,_⟩:=h;exact h.lt
theorem SeenH.below {w w':World} {b B k:Nat} {l:List Hld} (h:SeenH w b l k) (i:Below B w w') (a:b<B):SeenH w' b l k:=by obtain⟨f,h,r⟩:=h;exact⟨f,h.below i a,r⟩
theorem SeenH.made (w:World) (l:List Hld):SeenH (w.alloc (.map #[] 0)) w l 0:=⟨_,MapAt.made w _ _,fun y=>sP⟩
theorem SeenH.look {w:World} {b k:Nat} {l:List Hld} (h:SeenH w b l k) (y:Hld) (E:(Lit.int .i64 y.hdr).wf) (hy:(Lit.int .i64 y.ent).wf) (I:(Lit.int .i64 y.date).wf) :
  (Instr.lookup 149 (.map (some b)) (.agg #[y.hdr,y.ent,y.date,()]) false).run prog w=.ok (.bool ((l.take k).any (fun r=>Hd.same r y))) w:=by
 obtain⟨f,s,i⟩:=h;obtain⟨J,o⟩:=hldKey y.hdr y.ent y.date 0 E hy I rfl;have a:(zeroValue 4).run prog w=.ok (.bool false) w:=kR;rw[s.lookup hldLaw underlying149 a o,i]
 cases(l.take k).any (fun r=>Hd.same r y) <;> rfl
open Classical in
theorem a8x {l:List Hld} {k:Nat} (J:k<l.length) (f:Value->Option Value) (I:∀y:Hld,f (.agg #[y.hdr,y.ent,y.date,()])=if(l.take k).any (fun r=>Hd.same r y) then some (.bool true) else none) (x:Hld) (L:x=l[k]) :
  ∀y:Hld,(fun v=>if v=.agg #[x.hdr,x.ent,x.date,()] then some (Value.bool true) else f v) (.agg #[y.hdr,y.ent,y.date,()])=if(l.take (k+1)).any (fun r=>Hd.same r y) then some (.bool true) else none:=by
 intro y;show(if _ then _ else f _)=_;rw[tse J,YD,<- L]
 by_cases h:x.hdr=y.hdr/\x.ent=y.ent/\x.date=y.date
 ·obtain⟨i,o,s⟩:=h
  have a:Hd.same x y:=by unfold Hd.same;simp[i,o,s]
  rw[Vt (by rw[i,o,s]),Vt (by simp[a])]
 ·rw[VB (by
   intro e;simp only[Value.agg.injEq,Array.mk.injEq,List.cons.injEq,Value.int.injEq,Jl,KF] at e;exact h ⟨e.1.symm,e.2.1.symm,e.2.2.symm⟩),I]
  have E:Hd.same x y=false:=by
   cases a:Hd.same x y with
   |false=>rfl
   |true=>exfalso;apply h;unfold Hd.same at a;simp at a;exact⟨a.1.1,a.1.2,a.2⟩
  simp[E]
theorem Hd.valid_key {n:Nat} {l:List Hld} {i:Nat} (a:i<l.length) (h:Hd.keyAt n l i=false):Hd.valid n l=false:=by
 rw[Hd.valid_eq];exact Hd.validR_key a h
theorem Hd.keyAt_eq {n:Nat} {l:List Hld} {i:Nat} (a:i<l.length) (x:Hld) (o:x=l[i]):Hd.keyAt n l i=(Hd.proper n x&&!(l.take i).any (fun r=>Hd.same r x)):=by
 unfold Hd.keyAt;rw[Hd.hat_lt a,<- o]
theorem a2o (m:Nat) (A:OA) (n c:Nat) (l:List Hld) (hm:m<=100000) (hl:l.length=n) (hn:n<=200) (hw:∀x∈l,x.wf) (hA:RowsAt Hld.cells 4 w w A l) :
  CL 32 #[m,.slice A n c] w (Hd.valid m l):=by
 obtain⟨HA,Hl,a9,a6,a5⟩:=Z5 hA hl hw (SeenH.made w l) ((VM w w).alloc lR (.map #[] 0));have br:=@ZS prog;obtain⟨v,hv⟩:=eX (Hd.valid m l);rw[<- hv];have HV:=Z1 hv;clear hA hl hv hw;have n9:¬ (n:Int) > 200:=oM
 by_cases h1:1<=m
 case neg =>
  have k1:(m:Int)<1:=oM;have a7:Hid (v=false):=by show _=_;rw[HV];unfold Hd.valid;rw[Vr oM];simp
  go_enter func32,ntmps32;go_wp2;go_ret;exact⟨by rw[a7];rfl,bR⟩
 have k1:¬ (m:Int)<1:=oM
 by_cases h2:m<=12
 case neg =>
  have k2:(m:Int) > 12:=oM;have a7:Hid (v=false):=by show _=_;rw[HV];unfold Hd.valid;rw[Vr oM];simp
  go_enter func32,ntmps32;go_wp2;go_ret;exact⟨by rw[a7];rfl,bR⟩
 have k2:¬ (m:Int) > 12:=oM
 have b7:Hid (v=((List.range l.length).all (Hd.keyAt m l)&&(Hd.dates l).all (Hd.most l m))):=by
  show _=_;rw[HV];unfold Hd.valid;rw[VT oM,VT (by have:=Hl.out;omega)];simp
 go_enter func32,ntmps32;go_wp2
 go_loopw [26] (fun i wr=>∃k:Nat,k<=n/\i=k/\Hid ((List.range k).all (Hd.keyAt m l))/\SeenH wr w l k/\Below w w wr) (fun i _=>n-(intOf i).toNat)
 case atStart=>exact⟨0,Vb _,rfl,Z1 rfl,a6,a5⟩
 case round =>
  obtain⟨k,hk,rfl,HK,ag,hb⟩:=hrel;have Hm:=Z1 ag;have bp:=ag.lt;have hq:=hb.size;clear ag br
  by_cases bz:k<n
  case neg =>
   obtain rfl:k=n:=oM;have X:Hd.okAll m l:=by unfold Hd.okAll;rw[Hl];exact HK
   have b5:=Z1 (Hd.okAll_shr X)
   have a8:Hid (v=(Hd.dates l).all (Hd.most l m)):=by
    show _=_;rw[b7];unfold Hd.okAll at X;rw[X];rfl
   have b1:=Z1 (RowsAt.more (RowsAt.below HA hb lR) hq);have ao:=Z1 (b1f wr A k c l Hl oM (fun x hx=>(a9 x hx).2.2.1) b1)
   have bn:(Hd.dates l).length<=200:=by
    unfold Hd.dates;rw[Kn];have:=Hd.keys_len (l.map (·.date));rw[Xt,Hl] at this;omega
   obtain⟨ds,aw⟩:=eX (Hd.dates l);rw[<- aw] at a8 ao bn;clear X aw a6 a5 Hm;go_wp2_with (fail);refine ao.mono ?_;rintro e W2 ⟨bi,A2,c2,_,rfl,ap⟩;have b0:=Z1 ap;have au:=hb.trans (bi.mono hq);have bs:=au.size;clear ap;go_wp2
   go_loopw [47] (fun i ws=>∃q:Nat,q<=ds.length/\i=q/\Hid ((ds.take q).all (Hd.most l m))/\Below W2 W2 ws) (fun i _=>ds.length-(intOf i).toNat)
   case atStart=>exact⟨0,Vb _,rfl,Z1 rfl,bR⟩
   case round =>
    obtain⟨ws,rfl⟩:=eX wr;obtain⟨q,az,rfl,HQ,S⟩:=hrel;have ad:=au.trans (S.mono bs);have bv:=S.size
    by_cases J:q<ds.length
    case neg =>
     obtain rfl:q=ds.length:=oM;have a:Hid (v):=by show _=_;rw[a8];have:=HQ.out;rw[Xs] at this;exact this
     go_wp2;go_ret;exact⟨by rw[a];rfl,ad⟩
    obtain⟨bb,o,rfl,bk,hr⟩:=RowsAt.look (RowsAt.below b0 S lR) J;obtain⟨d,hd⟩:=eX (ds[q]);have d0:=hr 0 _ rfl;rw[<- hd] at d0;simp at d0;have bm:bb<ws:=oM;have bh:Hid ((ds.take (q+1)).all (Hd.most l m)=Hd.most l m d):=by show _=_;rw[tse J,Yp,HQ,<- hd];simp
    have b9:Hid (Hd.most l m d=false->v=false):=Z1 (fun h=>by rw[a8,Yb];exact⟨d,by rw[hd];exact Vm J,by simp[h]⟩);clear hr hd;go_wp2
    go_loopw [52] (fun j wt=>∃u:Nat,u<=m/\j=u/\Hid ((List.range u).all (fun(e:Nat)=>decide (Hd.total l e d<=10000)))/\Below ws ws wt) (fun j _=>m-(intOf j).toNat)
    case atStart=>exact⟨0,Vb _,rfl,Z1 rfl,bR⟩
    case round =>
     obtain⟨wt,rfl⟩:=eX wr;obtain⟨u,hu,rfl,HU,T⟩:=hrel;have bl:=S.trans (T.mono bv);have Q:=ad.trans (T.mono ad.size)
     by_cases ay:u<m
     case neg =>
      obtain rfl:u=m:=oM;have b4:Hid ((ds.take (q+1)).all (Hd.most l u)):=by show _=_;rw[bh];exact HU
      go_wp2;go_roundw
      case rel=>exact⟨q+1,oM,by go_num,b4,bl⟩
      case measure=>exact mS
     have b2:=Z1 (RowsAt.more (RowsAt.below HA Q lR) Q.size);have Ht:=Z1 (a9x wt A k c l u d Hl oM (fun x hx=>(a9 x hx).1) b5 b2);have am:Hid (Hd.total l u d<=10000->(List.range (u+1)).all (fun(e:Nat)=>decide (Hd.total l e d<=10000))):=Z1 (fun h=>Hd.range_all_succ HU (by simpa using h));have an:Hid (¬ Hd.total l u d<=10000->v=false):=Z1 (fun h=>b9 (by unfold Hd.most;rw[Yb];exact⟨u,XK.2 ay,by simpa using h⟩));obtain⟨t,ht⟩:=eX (Hd.total l u d);rw[<- ht] at Ht am an;have bt:=Q.size;clear ht
     by_cases ht:t<=10000
     ·have q9:¬ t > 10000:=oM
      have b6:=Z1 (am ht);clear ht;go_wp2_with (fail);refine Ht.mono ?_;rintro e W5 ⟨rfl,ac⟩;go_wp2;go_roundw
      case rel=>exact⟨u+1,oM,by go_num,b6,T.trans (ac.mono T.size)⟩
      case measure=>exact mS
     ·have q9:t > 10000:=oM
      have a:=Z1 (an ht);clear ht;go_wp2_with (fail);refine Ht.mono ?_;rintro e W5 ⟨rfl,ac⟩;go_wp2;go_ret;exact⟨by rw[a];rfl,Q.trans (ac.mono bt)⟩
  have W:k<l.length:=by have:=Hl.out;omega
  obtain⟨b,o,rfl,bk,hr⟩:=RowsAt.look (RowsAt.below HA hb lR) W;obtain⟨x,hx⟩:=eX (l[k]);rw[<- hx] at hr;have E:=a9.out x (by rw[hx];exact Vm _);have bm:b<wr:=oM;obtain⟨Hr,s,a0,aa⟩:=Z4 hr (Hd.keyAt_eq (n:=m) W x hx) (Hd.valid_key (n:=m) W) (fun f hf=>a8x W f hf x hx);obtain⟨Wa,ar,aq,ak,aj,bw⟩:=nw2 wr x #[x.hdr,x.ent,x.date,()] 43 43;have b8:=Z1 ar;have av:=hb.trans (aq.mono hq);have bu:=av.size;have t1:(wr:Nat)<Wa:=Vq ak;have t2:(wr:Nat)+1<Wa:=Vq aj;obtain⟨bc,be,bg,bf⟩:=Z4 (Hm.below aq bp) (a8P Wa m x) ak aj;clear hr hx ar bw ak aj a6 a5;go_upto_region 9 with(refine VH rfl 43 (.tmp 28) rfl b (o+k*4) rfl x _ Hr ZN rfl a3a ?_);rw[<- b8];have I:=bg.out;go_wp2_with (refine Vd rfl 43 _ rfl _ rfl _ _ _ _ I ZN rfl a3a ?_);refine be.mono ?_;rintro e W3 ⟨rfl,ab⟩;have O:=av.trans (ab.mono bu);have ae:=gbox bf ab t2;have ah:=bc.out.below ab oM;have af:=ah.look x E.1 E.2.1 E.2.2.1;have ba:=Z1 ah;have t3:=Vq ae;have az:=O.size;have a4:W3.rangeAt (wr+1) 0 [x.hdr,x.ent,x.date,()]:=Xq ae;clear I ah;obtain⟨pr,ai⟩:=eX (Hd.proper m x);obtain⟨sm,al⟩:=eX ((l.take k).any (fun r=>Hd.same r x));rw[<- ai,<- al] at s;rw[<- al] at af;rw[<- ai];clear ai al;have bx:=Z1 af
  cases pr with
  |false =>
   have a:Hid (v=false):=by show _=_;rw[HV];exact a0 (by rw[s];rfl)
   clear af ae;go_wp2;go_ret;exact⟨by rw[a];rfl,O⟩
  |true =>
  cases sm with
  |true =>
   have a:Hid (v=false):=by show _=_;rw[HV];exact a0 (by rw[s];rfl)
   go_wp2_with (refine Vv (by rfl) 43 (.tmp 8) rfl (wr+1) 0 rfl [x.hdr,x.ent,x.date,()] _ a4 ZN rfl a3a ?_);go_ret;exact⟨by rw[a];rfl,O⟩
  |false =>
   have b3:Hid ((List.range (k+1)).all (Hd.keyAt m l)):=Z1 (Hd.range_all_succ HK (by rw[s];rfl));obtain⟨f,hm,hf⟩:=ba.out;have L:=Z1 (aa f hf);obtain⟨kl,ax⟩:=hldKey x.hdr x.ent x.date 0 E.1 E.2.1 E.2.2.1 rfl;clear hf;go_wp2_with (first|(refine Vv (by rfl) 43 (.tmp 8) rfl (wr+1) 0 rfl [x.hdr,x.ent,x.date,()] _ a4 ZN rfl a3a ?_)|(at_mapUpdate;refine Xv rfl _ _ _ rfl hm hldLaw underlying149 rfl (by unfold maxLen;omega) _ _ _ rfl rfl ax ?_;intro w7 bq bo));have bj:=O.grown bo az (fun j e=>by cases e;exact lR);go_wp2;go_roundw
   case rel=>exact⟨k+1,oM,by go_num,b3,⟨_,bq,L⟩,bj⟩
   case measure=>exact mS
def IvsPost (l:List Itv) (w:World) (e:Ending) (w':World):Prop :=
 Below w w w'/\∃A c,e=.returned (.tuple #[.slice A l.length c,()])/\ItvsAt w' w' A l
theorem b3D {w:World} {a:Addr} {v:Value} (h:w.cell? a=some v):(loadVar 97 a).run prog w=.ok v w:=by
 unfold loadVar;simp[Jz,Tryz.isAgg97,h,Result.andThen]
theorem b3E {w:World} {a:Addr} {v:Value} (h:w.cell? a=some v):(loadVar 56 a).run prog w=.ok v w:=by
 unfold loadVar;simp[Jz,Tryz.isAgg56,h,Result.andThen]
theorem b2F (g:Grp) (A:OA) (n c:Nat) (l:List Hld) (T:g.At w w) (hl:l.length=n) (hn:n<=200) (hw:∀x∈l,x.wf) (hA:HldsAt w w A l) (hv:Hd.valid g.ents.length l) :
  Calls prog 75 #[g,.slice A n c,()] w (IvsPost [⟨-25568,84006,3⟩] w):=by
 obtain⟨W0,a5,O,a9,aa,I⟩:=nw2 w g #[.slice A n c] 29 32;obtain⟨W1,a6,E,ab,ac,J⟩:=nw2 W0 #[()] #[.slice none 0 0] 3 97;obtain⟨W2,a7,a,ad,ae⟩:=nw1 W1 #[()] 56;have a8:W2=((((w.alloc (.cells g 29)).alloc (.cells #[.slice A n c] 32)).alloc (.cells #[()] 3)).alloc (.cells #[.slice none 0 0] 97)).alloc (.cells #[()] 56):=by rw[a7,a6,a5]
 have HW:=Z1 a8;have o:Below w w W2:=(O.trans (E.mono O.size)).trans (a.mono oM);have g0:W2.heap[w.heap.size]?=some (.cells g 29 (0,0)):=gbox (gbox a9 E oM) a oM;have g1:W2.heap[w.heap.size+1]?=some (.cells #[.slice A n c] 32 (0,0)):=gbox (gbox aa E oM) a oM;have g2:W2.heap[w.heap.size+2]?=some (.cells #[()] 3 (0,0)):=by have:=gbox ab a oM;rw[I] at this;exact this
 have g3:W2.heap[w.heap.size+3]?=some (.cells #[.slice none 0 0] 97 (0,0)):=by have:=gbox ac a oM;rw[I] at this;exact this
 have g4:W2.heap[w.heap.size+4]?=some (.cells #[()] 56 (0,0)):=by have:=ad;rw[J,I] at this;exact this
 have af:=cr9 20 g0;have y0:=cr9 0 g1;simp at af y0;have s0:=Vq g0;have s1:=Vq g1;have ag:=Z1 (RowsAt.at_ hA o);have ai:=Z1 T.hel;have aj:=T.hen;have Hv:=Z1 hv
 have L:Hid (∀W,RowsAt Hld.cells 4 W W A l->CL 32 #[g.en,.slice A n c] W true):=Z1 (fun W h=>by
  have:=a2o W g.ents.length A n c l (by have:=T.hel;omega) hl hn hw h;rw[hv,T.hel] at this;exact this)
 have ah:1<=g.en:=by have:=T.hel;unfold Hd.valid at hv;simp at hv;omega
 obtain⟨G2,G3,G4⟩:=Z3 g2 g3 g4;clear a5 a6 a7 a8 a9 aa ab ac ad I J ae O E a g0 g1 g2 g3 g4 T hA hv hw hl;go_enter func75,ntmps75;go_upto_region 1 with(fail);rw[<- HW];go_wp2_with (fail);refine(L _ ag.out).mono ?_;rintro e W3 ⟨rfl,s⟩;have a0:=o.trans (s.mono o.size);have q2:=gbox G2.out s (Vq G2.out);have q3:=gbox G3.out s (Vq G3.out);have q4:=gbox G4.out s (Vq G4.out);have z2:=cr9 0 q2;have z3:=cr9 0 q3;have z4:=cr9 0 q4;simp at z2 z3 z4;have t2:=Vq q2;have t3:=Vq q3;have t4:=Vq q4;have f3:=fun j=>fr0 j q3;have f4:=fun j=>fr0 j q4;have ak:¬ (0:Int) ≥ (g.en:Int):=oM;clear af y0;obtain⟨H3,H4,Hq,X⟩:=Z4 q3 q4 s.size a0;clear q2 q3 q4;go_wp2;obtain⟨V1,i⟩:=eX ((W3.setCell ⟨w+1+1+1,0,none⟩ (.slice (some ⟨W3,0,none⟩) 1 1)).setCell ⟨w+1+1+1+1,0,none⟩ (.int .i64 0))
 have v3:V1.heap[w.heap.size+3]?=some (.cells #[.slice (some ⟨W3,0,none⟩) 1 1] 97 (0,0)):=by
  rw[i];exact Row.other (Row.set H3 0 _) ⟨w+1+1+1+1,0,none⟩ (by show(w:Nat)+3≠w+1+1+1+1;omega) _
 have v4:V1.heap[w.heap.size+4]?=some (.cells #[()] 56 (0,0)):=by
  rw[i];exact Row.set (Row.other H4 ⟨w+1+1+1,0,none⟩ (by show(w:Nat)+4≠w+1+1+1;omega) _) 0 _
 have J:(V1:Nat)=W3:=by rw[i];simp[World.setCell]
 have Q:Below w w V1:=by rw[i];exact(X.setCell (p:=⟨w+1+1+1,0,none⟩) (by show(w:Nat)<=w+1+1+1;omega) _).setCell (p:=⟨w+1+1+1+1,0,none⟩) (by show(w:Nat)<=w+1+1+1+1;omega) _
 rw[<- i];obtain⟨V2,a4,a,S,ae⟩:=nw1 V1 #[(-25568:Int),(84006:Int),(3:Int)] 93;rw[<- a4];have u3:=gbox v3 a (Vq v3);have u4:=gbox v4 a (Vq v4);have c3:=cr9 0 u3;have c4:=cr9 0 u4;simp at c3 c4;have l3:=Vq u3;have l4:=Vq u4
 have HP:Hid (Below w w V2/\ItvsAt V2 V2.heap.size (some ⟨W3,0,none⟩) [⟨-25568,84006,3⟩]):=by
  refine⟨Q.trans (a.mono Q.size),?_⟩;rw[<- J];exact a0z (f:=Itv.cells) (l:=[⟨-25568,84006,3⟩]) S (Vq S) (fun _ _=>rfl)
 clear i v3 v4 Q a4 a S u3 u4;have r3:=b3D c3;have r4:=b3E c4;exact VG (v:=.tuple #[.slice (some ⟨W3,0,none⟩) 1 1,()]) (by simp[results,results75,asAddr,r3,r4]) rfl ⟨HP.1,_,_,rfl,HP.2⟩
theorem b2O (b:Bks) (e:Nat) (f o:Int) (L:List Itv) (hL:L.length<=1000) (hb:b.At w w)
  (hI:∀W:World,b.At W W.heap.size->Calls prog 75 #[b.g,.slice b.hA b.hn b.hc,e] W (IvsPost L W)) :
  Calls prog 37 #[.agg #[f,o],b,e] w (DelPost w (L.filter (fun x=>!Iv.off f o x)) w):=by
 obtain⟨W1,T,E,J,i,hz⟩:=nw2 w #[f,o] b 91 36;obtain⟨HW,a6,a5,ab⟩:=Z4 T (hb.at_ E) E J;have ad:Hid (∀j v,(b.g:List Value)[j]?=some v->W1.cell? ⟨w+1,0+j,none⟩=some v):=fun j v hj=>by have:=cr9 j i;rw[VN,this];exact a1O hj
 have a0:=cr9 23 i;simp at a0;have s1:=Vq i;have s0:=Vq J;have Hi:=Z1 (hI W1 a6);clear T hz i J hb E hI;go_enter func37,ntmps37;go_upto_region 1 with(fail);rw[<- HW];go_wp2_with (refine Vv (by rfl) 29 (.tmp 10) rfl (w+1) 0 rfl _ _ ad.out VS rfl VJ ?_);refine Hi.mono ?_;rintro ev W2 ⟨I,A,c,rfl,hA⟩;have O:=Z1 I;have ae:=I.size;have a9:=Z1 (b1l W2 A L.length c L rfl oM hA);clear a0 hA I;go_wp2_with (fail);refine a9.mono ?_;rintro ev W3 ⟨a,A3,c3,rfl,s⟩;have ac:=a.size;have X:=gbox (gbox ab O s0) a oM;have aa:=Z1 (a7y W3 W2 A3 L.length c3 L f o w X oM ac rfl hL s);have a7:=Z1 ((a5.out.trans (O.mono oM)).trans (a.mono oM));clear X s a;go_wp2_with (fail);refine aa.mono ?_;rintro ev W4 ⟨S,A4,c4,rfl,Q⟩;have a4:=Z1 Q;have a8:=Z1 (a7.out.trans (S.mono oM));clear Q S;go_wp2;go_ret;exact⟨a8,A4,c4,rfl,a4⟩
def CurPost (x:Itv) (w:World) (a:Ending) (w':World):Prop :=
 Below w w w'/\a=.returned (.tuple #[.agg #[x.frm,x.to,x.meth],()])
theorem a5y {α:Type} {p:α->Bool} {l:List α} {k:Nat} (o:k<l.length) (a:(l.take k).find? p=none) (i:p l[k]):l.find? p=some l[k]:=by
 have e:l=l.take k++l[k]::l.drop (k+1):=by rw[Kw,X7]
 generalize s:l[k]=x at *
 rw[e,List.find?_append,a];simp[i]
theorem a4y {α:Type} {p:α->Bool} {l:List α} {k:Nat} (a:k<l.length) (i:(l.take k).find? p=none) (o:p l[k]=false):(l.take (k+1)).find? p=none:=by
 rw[tse a,List.find?_append,i];simp[o]
theorem a7z (b:Bks) (E d:Int) (L:List Itv) (a6:Itv) (hd:-25567<=d/\d<=84005) (hf:L.find? (fun x=>decide (x.frm<=d/\d<x.to))=some a6) (hL:L.length<=1000) (hb:b.At w w)
  (hI:∀W:World,b.At W W.heap.size->Calls prog 75 #[b.g,.slice b.hA b.hn b.hc,E] W (IvsPost L W)) :
  Calls prog 35 #[b.g,.slice b.hA b.hn b.hc,E,d] w (CurPost a6 w):=by
 obtain⟨W1,aa,X,a0,a5,hz⟩:=nw2 w b.g #[(),(),()] 29 93;obtain⟨HW,ad,ac,ae⟩:=Z4 aa (hb.at_ X) X a5;have s:W1.rangeAt w.heap.size 0 b.g:=Xq a0;have s0:=Vq a0;have s1:=Vq a5;have Hi:=Z1 (hI W1 ad);have HF:=Z1 hf
 have T:Hid (∀W:World,Calls prog 76 #[d] W fun e w'=>e=.returned (.bool true)/\W=w'):=Z1 (fun W=>by
  have:=a0S d W;rw[VT hd] at this;exact this)
 clear aa hz a0 a5 hb X hI hf hd;go_enter func35,ntmps35;go_upto_region 1 with(fail);rw[<- HW];go_wp2_with (refine Vv (by rfl) 29 (.tmp 4) rfl w.heap.size 0 rfl _ _ s VS rfl VJ ?_);refine Hi.mono ?_;rintro ev W2 ⟨O,A,c,rfl,hA⟩;have a7:=Z1 (ac.out.trans (O.mono oM));have ap:=O.size;have HA:=Z1 hA;have af:=gB ae O s1;have s2:(w:Nat)+1<W2:=oM;clear hA O s;go_wp2
 go_loopw [27] (fun i wr=>∃k:Nat,k<=L.length/\i=k/\Hid ((L.take k).find? (fun x=>decide (x.frm<=d/\d<x.to))=none)/\Below W2 W2 wr) (fun i _=>L.length-(intOf i).toNat)
 case atStart=>exact⟨0,Vb _,rfl,Z1 rfl,bR⟩
 case round =>
  obtain⟨k,hk,rfl,HN,S⟩:=hrel;have ak:=S.size;have an:=a7.out.trans (S.mono oM)
  by_cases a4:k<L.length
  case neg =>
   obtain rfl:k=L.length:=oM;have h1:=HN.out;rw[Xs,HF] at h1
   cases h1
  obtain⟨bb,o,rfl,am,hr⟩:=RowsAt.look (RowsAt.below HA S lR) a4;obtain⟨x,hx⟩:=eX (L[k]);rw[<- hx] at hr;have Hr:=Z1 hr;have ao:bb<wr:=oM
  have I:Hid (decide (x.frm<=d/\d<x.to)->x=a6):=Z1 (fun hp=>by
   have:=a5y (p:=fun x:Itv=>decide (x.frm<=d/\d<x.to)) a4 HN (by rw[<- hx];exact hp);rw[HF,<- hx] at this;exact(XV this).symm)
  have a:Hid (decide (x.frm<=d/\d<x.to)=false->(L.take (k+1)).find? (fun x=>decide (x.frm<=d/\d<x.to))=none):=Z1 (fun hp=>a4y a4 HN (by rw[<- hx];exact hp));obtain⟨V,hV,a9,J,al⟩:=nw1 wr #[x.frm,x.to,x.meth] 93;have HV:=Z1 hV;have z0:=cr9 0 J;have z1:=cr9 1 J;simp at z0 z1;have sV:=Vq J;have Q:=S.trans (a9.mono ak);have Hz:=gB af Q s2;have ag:=Z1 J;have a8:=a7.out.trans (Q.mono oM);clear hr hx hV J al a9;go_upto_region 7 with(refine VH rfl 93 (.tmp 29) rfl bb (o+k*3) rfl [x.frm,x.to,x.meth] _ Hr ZX rfl a1h ?_);rw[<- HV]
  by_cases h1:x.frm<=d
  case neg =>
   have Hn:=Z1 (a (by simp[h1]));clear I a HN;go_wp2_with (fail);refine(T _).mono ?_;rintro ev W5 ⟨rfl,rfl⟩;go_wp2;go_roundw
   case rel=>exact⟨k+1,oM,by go_num,Hn,Q⟩
   case measure=>exact mS
  by_cases h2:d<x.to
  case neg =>
   have Hn:=Z1 (a (by simp[h2]));clear I a HN;go_wp2_with (fail);refine(T _).mono ?_;rintro ev W5 ⟨rfl,rfl⟩;go_wp2;go_roundw
   case rel=>exact⟨k+1,oM,by go_num,Hn,Q⟩
   case measure=>exact mS
  have ab:=I.out (by simp[h1,h2]);have Ho:Hid ((#[x.frm,x.to,x.meth]:AV).all (·.oneCell')):=Z1 oC;have hR:=VC V (w+1) _ #[x.frm,x.to,x.meth] _ _ Hz;have s:=Z1 (VW (P:=prog) _ _ _ 93 _ _ _ hR ZX rfl a1h);have ai:=Z1 (below_setRow a8 (show(w:Nat)<=w+1 by omega) #[x.frm,x.to,x.meth]);have ah:=Z1 ab;have aj:=ag.out;clear hR ab I a HN;go_wp2_with (fail);refine(T _).mono ?_;rintro ev W5 ⟨rfl,rfl⟩;go_wp2_with (first|(refine Vd rfl 93 _ rfl _ rfl _ _ _ _ aj ZX rfl a1h ?_)|(refine Vz rfl 93 (.tmp 8) (.tmp 45) none rfl rfl (w+1) 93 _ #[x.frm,x.to,x.meth] rfl rfl Hz rfl a1h Ho ?_));exact VG (v:=.tuple #[.agg #[x.frm,x.to,x.meth],()]) (by simp[results,results35,asAddr,Act.put,s.out]) rfl ⟨ai.out,by rw[ah]⟩
def MatPost (n:Nat) (L:List (List Int)) (w:World) (e:Ending) (w':World):Prop :=
 Below w w w'/\∃A c m,e=.returned (.tuple #[.slice A n c,()])/\MatI w' w' A n n m/\matL m=L
def rowTo (f:Nat->Int) (q:Nat):List Int:=(List.range q).map f++List.replicate (12-q) 0
theorem a5Y (f:Nat->Int) {q:Nat} (h:q<=12):(rowTo f q).length=12:=by simp[rowTo];omega
theorem a9S (f:Nat->Int) {q:Nat} (h:q<12):(rowTo f q).set q (f q)=rowTo f (q+1):=by
 unfold rowTo;rw[Yv _ _ sP,Ym,Xn];obtain⟨k,a⟩:∃k,12-q=k+1:=⟨11-q,oM⟩;rw[a,show 12-(q+1)=k by omega];simp[Yj]
theorem a8G (f:Nat->Int) {q:Nat}:(rowTo f q).take q=(List.range q).map f:=by
 unfold rowTo;rw[List.take_left' sP]
def RowOk (w:World) (n:Nat) (r:IRow):Prop:=(r.At w w.heap.size/\r.n=n)/\RowsTy 3 w r.A r.l
theorem RowOk.below {w w':World} {n:Nat} {r:IRow} (h:RowOk w n r) (a:Below w w w'):RowOk w' n r:=⟨⟨(h.1.1.below a lR).more a.size,h.1.2⟩,h.2.below a⟩
theorem RowOk.kept {w w':World} {n:Nat} {r:IRow} (h:RowOk w n r) {v:Value} {base s k:Nat} {o:TypeId} {J:List Value} (I:w.ownsRow base o s v k J) (i:o≠3) (E:w.grownBy w' v.ownBlock):RowOk w' n r:=by
 obtain⟨a,b⟩:=RowsTy.kept h.2 h.1.1.hA I i E;exact⟨⟨⟨h.1.1.hl,b⟩,h.1.2⟩,a⟩
theorem intInfo:(prog.info? 3).map (fun i=>(i.zero,i.size,i.bytes))=some (some (.int .i64 0),1,8):=kR
theorem rowInfo:(prog.info? 108).map (fun i=>(i.zero,i.size,i.bytes))=some (some (.slice none 0 0),1,24):=kR
theorem b1m (A:OA) (n c:Nat) (l:LI) (Q:l.length=n) (hn:n<=100000) (h:RowsAt icell 1 w w A l) :
  Calls prog 234 #[.slice A n c] w (ClonePost icell 1 3 n l w):=by
 have qn:=fun(w:World) (a:OA) (n c n' c':Nat)=>Zp (P:=prog) w _ _ a n c n' c' ZT
 cases A with
 |none =>
  have T:l=[]:=by rcases h with h|⟨b,o,e,_⟩;exact h;cases e
  subst T;obtain rfl:n=0:=by simpa using Q.symm
  clear Q h hn;go_enter func234,ntmps234;go_wp2;go_ret;exact ClonePost.nil
 |some ad =>
  obtain⟨i0,hi,a4,a5,a6⟩:=XW intInfo;have E:Hid (∀j u,(l.flatMap icell)[j]?=some u->(w.alloc (.cells #[] 3)).cell? (ad.add j)=some u):=Z1 fun j u hj=>Lib.cell?_alloc_some _ (a0N (f:=icell) (sz:=1) dC (fun _=>rfl) h j u hj);have J:Hid ((l.flatMap icell).length=n*1):=by show _=_;rw[Xj (f:=icell) (sz:=1) (fun _=>rfl),Q]
  have L:Hid (∀u∈l.flatMap icell,u.oneCell'):=Z1 fun u hu=>by
   rw[Yz] at hu;obtain⟨x,_,hx⟩:=hu;revert u;simp[icell,Value.oneCell']
  have W:0+n<=maxLen:=by unfold maxLen;omega
  have X:(0+n)*8<=140737488355328:=oM;have a0:w.heap.size<=(w.alloc (.cells #[] 3)).heap.size:=sP;have s:=Y5 (e:=3) (size:=1) w #[] 0 lR (Vb _) rfl;clear Q h;go_enter func234,ntmps234;go_wp2_with (at_builtin;refine Hid.out ?_);show wpList _ _ _ _ _ _;refine Xd _ rfl _ _ 108 rfl w.heap.size 3 i0 (.int .i64 0) 1 8 ZT hi a4 a5 a6 rfl dC _ _ _ rfl s ad n c (l.flatMap icell) rfl J E L W X a0 ?_;intro v' w1 i I _;have hb:Below w w w1:=((VM _ w).alloc lR _).grown I sP (fun k hk=>(s.lt k hk).1);rw[VN,Xr] at i
  obtain⟨S,c',rfl⟩:∃S c',v'=.slice S n c':=by
   rcases i.2 with⟨e,T⟩|⟨g,a7,cur,e,_⟩
   ·exact⟨none,0,by rw[e,T]⟩
   ·exact⟨_,_,e⟩
  have O:=Z1 i;have Hb:=Z1 hb;clear i hb;go_wp2;go_ret;exact⟨Hb,S,c',rfl,O⟩
theorem a2Z (A:OA) (n c m:Nat) (l:List Hld) (d:Int) (hl:l.length=n) (hn:n<=200) (hw:∀x∈l,x.wf) (hA:RowsAt Hld.cells 4 w w A l) (hv:Hd.valid m l) (hd:-25567<=d/\d<=84005) :
  Calls prog 182 #[m,.slice A n c,d] w (MatPost m (Hd.matrix m l d) w):=by
 have hm:1<=m/\m<=12:=by have:=hv;unfold Hd.valid at this;simp at this;omega
 have Hv:=Z1 (a2o w m A n c l oM hl hn hw hA);rw[hv] at Hv;have HA:=Z1 hA;have Hl:=Z1 hl;have bm:=hd.1;have bn:=hd.2;have c3:=hm.1;have c6:=hm.2;obtain⟨i0,hi,bq,br,bs⟩:=XW rowInfo;clear hv hA hl hw hd hm;go_enter func182,ntmps182;go_wp2_with (fail);refine Hv.mono ?_;rintro e W1 ⟨rfl,ap⟩;have b3:=Z1 ap;clear ap;go_wp2_with (fail);refine(a0S _ _).mono ?_;rw[VT (show-25567<=d/\d<=84005 from⟨bm,bn⟩)];rintro e W2 ⟨rfl,rfl⟩;go_wp2
 go_loopw [8,20] (fun v i wr=>∃k:Nat,k<=m/\i=k/\∃rows:List IRow,rows.length=k/\matL rows=(List.range k).map (fun(h:Nat)=>(List.range m).map (fun(e:Nat)=>Hd.at_ l h e d))/\(∀r∈rows,RowOk wr m r)/\wr.ownsRow w.heap.size 108 1 v rows.length (rows.flatMap IRow.cells)/\Below w w wr) (fun _ i _=>m-(intOf i).toNat)
 case atStart=>exact⟨0,Vb _,rfl,[],rfl,rfl,sP,Xp _ _ _ _,b3⟩
 case round =>
  obtain⟨k,hk,rfl,rows,a0,I,L,J,hb⟩:=hrel;have hq:=hb.size
  by_cases c1:k<m
  case neg =>
   obtain rfl:k=m:=oM;obtain⟨A2,c2,rfl,an⟩:=Xw (f:=IRow.cells) (sz:=1) dC (fun _=>rfl) J rfl;have HP:Hid (MatPost k (Hd.matrix k l d) w (.returned (.tuple #[.slice A2 rows.length c2,()])) wr):=Z1 ⟨hb,A2,c2,rows,by rw[a0],⟨a0,an,fun r hr=>(L r hr).1⟩,I⟩;clear a0 I L J an hb;go_wp2
   go_ret2
   exact HP
  obtain⟨wo,rfl⟩:=eX wr;obtain⟨f,hf⟩:=eX (fun(e:Nat)=>Hd.at_ l k e d:Nat->Int);have Hf:=Z1 hf;have b1:(List.range (k+1)).map (fun(h:Nat)=>(List.range m).map (fun(e:Nat)=>Hd.at_ l h e d))=(List.range k).map (fun(h:Nat)=>(List.range m).map (fun(e:Nat)=>Hd.at_ l h e d))++[(List.range m).map f]:=by rw[Ym,Xn,hf];rfl
  have bh:=Z1 b1;obtain⟨W3,ar,ac,ae,cc⟩:=nw1 wo #[(),(),(),(),(),(),(),(),(),(),(),()] 216;have b6:=Z1 ar;obtain⟨gb,af⟩:=eX wo.heap.size;rw[<- af] at ae;have aa:=Z1 af;have ah:Hid (Arr .i64 216 W3 gb (rowTo f 0)):=Z1 (by unfold Arr;rw[ae];rfl);obtain⟨bv,b4,ak,al⟩:=Z4 hb (hb.trans (ac.mono hq)) J L;have bi:Hid (Below gb wo W3):=Z1 (by rw[aa];exact ac);have ab:=Z1 a0;have ai:=Z1 I;have c8:(w:Nat)<=W3:=oM;have bo:w<=gb:=oM;have bx:gb<W3:=oM;clear hf b1 ar ae af hb ac J L a0 I;go_upto_region 10 with(fail);rw[<- b6,<- aa];go_wp2
  go_loopw [24] (fun i wi=>∃q:Nat,q<=m/\i=q/\Arr .i64 216 wi gb (rowTo f q)/\Below gb W3 wi) (fun i _=>m-(intOf i).toNat)
  case atStart=>exact⟨0,Vb _,rfl,ah,bR⟩
  case round =>
   obtain⟨wi,rfl⟩:=eX wr;obtain⟨q,c9,rfl,E,O⟩:=hrel;have cb:=O.size;have a8:=Z1 (b4.out.trans (O.mono bo))
   by_cases bt:q<m
   case neg =>
    obtain rfl:q=m:=oM
    have ay:RowsAt icell 1 wi wi (some ⟨gb,0,none⟩) ((List.range q).map f):=.inr ⟨gb,0,rfl,oM,fun k hk j v hj=>by
     have bp:k<q:=by simpa using hk
     have bz:j<1:=(List.getElem?_eq_some_iff.1 hj).1;obtain rfl:j=0:=oM;have aw:=a5Y f (show q<=12 by omega);have e1:(rowTo f q)[k]?=((List.range q).map f)[k]?:=by rw[<- a8G f,List.getElem?_take,Vt bp]
     rw[List.getElem?_eq_getElem hk] at e1;have hc:=E.cell (k:=k) oM;rw[List.getElem?_eq_getElem oM] at e1;simp only[Option.some.injEq] at e1;rw[e1] at hc;simp[icell] at hj;rw[<- hj];simpa using hc⟩
    have b9:=Z1 (b1m wi (some ⟨gb,0,none⟩) q 12 ((List.range q).map f) sP oM ay);have au:=bi.out.trans O;have W:Below wo wo wi:=by rw[<- aa];exact au
    have ba:=Z1 (Vj ak W);have be:Hid (∀r∈rows,RowOk wi q r):=Z1 (fun r hr=>(al r hr).below W);have bu:q<=12:=oM;have ca:(q:Int)<=12:=oM;have c7:(0:Int)<=(q:Int):=oM;clear E O ay au W;go_wp2_with (fail);refine b9.mono ?_;rintro e w4 ⟨s,Q,T,rfl,ag⟩;have bb:=Z1 (Vj ba s);have bf:Hid (∀r∈rows,RowOk w4 q r):=Z1 (fun r hr=>(be r hr).below s);have a7:=bT a8 s;have aq:=a3j (l:=(List.range q).map f) ag sP;obtain⟨A5,c5,e5,ao⟩:=Xw (l:=(List.range q).map f) (f:=icell) (sz:=1) dC (fun _=>rfl) ag sP
    cases e5
    have aj:Hid (RowOk w4 q ⟨Q,q,T,(List.range q).map f⟩):=Z1 ⟨⟨⟨sP,ao⟩,rfl⟩,aq⟩;clear s ag aq ao;have a:=bb.out.alloc (.cells #[.slice Q q T] 108);have a6:=Xk w4 [.slice Q q T] 108;have ax:∀u∈([.slice Q q T]:List Value),u.oneCell':=oC;have bj:rows.length+1<=maxLen:=by have:=ab.out;unfold maxLen;omega
    have bk:(rows.length+1)*24<=140737488355328:=by have:=ab.out;omega
    have am:w.heap.size<=(w4.alloc (.cells #[.slice Q q T] 108)).heap.size:=by have:=a7.out.size;simp;omega
    have a5:=a7.out.alloc a7.size (.cells #[.slice Q q T] 108);go_wp2_with (at_builtin;refine Hid.out ?_);show wpList _ _ _ _ _ _;refine Xd _ rfl _ _ 222 rfl w.heap.size 108 i0 (.slice none 0 0) 1 24 underlying222 hi bq br bs rfl dC _ _ _ rfl a ⟨w4,0,none⟩ 1 1 [.slice Q q T] rfl rfl a6 ax bj bk am ?_;intro v' w1 X o _;have bl:=a5.grown o am (fun j hj=>(a.lt j hj).1);have ha:Below w4 w4 (w4.alloc (.cells #[.slice Q q T] 108)):=bR.alloc lR _
    have az:∀r∈rows++[(⟨Q,q,T,(List.range q).map f⟩:IRow)],RowOk w1 q r:=by
     intro r hr
     rcases V9.1 hr with h|h
     ·exact((bf r h).below ha).kept a dC o
     ·rw[VY.1 h];exact(aj.below ha).kept a dC o
    have bg:=Z1 az
    have bc:Hid (w1.ownsRow w.heap.size 108 1 v' (rows++[(⟨Q,q,T,(List.range q).map f⟩:IRow)]).length ((rows++[(⟨Q,q,T,(List.range q).map f⟩:IRow)]).flatMap IRow.cells)):=by
     show World.ownsRow _ _ _ _ _ _ _;rw[Vc,VL];simpa[IRow.cells] using X
    clear X o a a6 ha a5 az;go_wp2;go_roundw
    case rel=>exact⟨k+1,oM,by go_num,_,by rw[Vc,ab];rfl,by rw[bh,<- ai];simp[matL],bg,bc,bl⟩
    case measure=>exact mS
   have b2:=Z1 ((RowsAt.below HA a8 lR).more a8.size);have S:=Z1 (a4N wi A n c l k q d Hl oM b2);have av:f q=Hd.at_ l k q d:=by rw[Hf]
   rw[<- av] at S;have a9:=Z1 E;have b0:=Z1 (a9S f (show q<12 by omega));have aw:=a5Y f (show q<=12 by omega);have h0:(0:Int)<=(q:Int):=oM;have bw:(q:Int)<12:=oM;have b8:=Z1 O;clear av E O;go_wp2_with (fail);refine S.mono ?_;rintro e w4 ⟨rfl,s⟩;have a4:=a9.out.below s oM;have c0:=a4.cell (k:=q) oM;have f0:=a4.free q;have ad:=a4.set q (f q);rw[b0.out] at ad;have b7:=Z1 ad;have b5:=Z1 ((b8.out.trans (s.mono oM)).setCell (p:=⟨gb,q,none⟩) lR (.int .i64 (f q)));clear a4 ad s;go_wp2;go_roundw
   case rel=>exact⟨q+1,oM,by go_num,b7,b5⟩
   case measure=>exact mS
end Go.Proofs.YtbhdekahdnenjaaGreatDoor
namespace Go.Proofs.YtbhdekahdnenjaaGreatDoor
open Go.Proofs.Tryz Go.RowKit
variable (w:World)
structure Ctn where
 ent:Int
 meth:Int
 since:Int
 s:Rn
 f:Rn
 A:Option Addr
 n:Nat
 c:Nat
 B:Option Addr
 m:Nat
 d:Nat
structure CT0 where
 a:Unit
def CT:CT0:=⟨()⟩
instance:CoeFun CT0 (fun _=>Int->Itv->Rn->Rn->Option Addr->Nat->Nat->Option Addr->Nat->Nat->Array Value):=⟨fun _ e n x y A a b B c d=>#[.int .i64 e,.int .i64 n.meth,.int .i64 n.frm,.bool x.g1,.slice x.A1 x.n1 x.c1,.bool x.g2,.slice x.A2 x.n2 x.c2,.bool y.g1,.slice y.A1 y.n1 y.c1,.bool y.g2,.slice y.A2 y.n2 y.c2,.slice A a b,.slice B c d]⟩
instance:Coe Ctn (Array Value):=⟨fun x=>#[.int .i64 x.ent,.int .i64 x.meth,.int .i64 x.since,.bool x.s.g1,.slice x.s.A1 x.s.n1 x.s.c1,.bool x.s.g2,.slice x.s.A2 x.s.n2 x.s.c2,.bool x.f.g1,.slice x.f.A1 x.f.n1 x.f.c1,.bool x.f.g2,.slice x.f.A2 x.f.n2 x.f.c2,.slice x.A x.n x.c,.slice x.B x.m x.d]⟩
instance:Coe Ctn Value:=⟨fun x=>.agg #[.int .i64 x.ent,.int .i64 x.meth,.int .i64 x.since,.bool x.s.g1,.slice x.s.A1 x.s.n1 x.s.c1,.bool x.s.g2,.slice x.s.A2 x.s.n2 x.s.c2,.bool x.f.g1,.slice x.f.A1 x.f.n1 x.f.c1,.bool x.f.g2,.slice x.f.A2 x.f.n2 x.f.c2,.slice x.A x.n x.c,.slice x.B x.m x.d]⟩
instance:Coe Ctn (List Value):=⟨fun x=>[.int .i64 x.ent,.int .i64 x.meth,.int .i64 x.since,.bool x.s.g1,.slice x.s.A1 x.s.n1 x.s.c1,.bool x.s.g2,.slice x.s.A2 x.s.n2 x.s.c2,.bool x.f.g1,.slice x.f.A1 x.f.n1 x.f.c1,.bool x.f.g2,.slice x.f.A2 x.f.n2 x.f.c2,.slice x.A x.n x.c,.slice x.B x.m x.d]⟩
def Ctn.v (x:Ctn):Value:=x
def Ctn.zero:Ctn:=⟨0,0,0,Rn.zero,Rn.zero,none,0,0,none,0,0⟩
def EffPost (K:Nat) (Q:Int->Int->Int->Prop) (d:Int) (w:World) (a:Ending) (w':World):Prop :=
 Below w w w'/\∃(x:Rn) (N D:Int),a=.returned x.v/\RI w' w' K K x.v N D/\Q d N D
theorem a0x:(prog.info? 55).map (·.size)=some 13:=kR
theorem none13 (cs:AV) (h:cs.toList.all (fun v=>match v with|.int .u32 _=>false|_=>true)):∀(j:Nat) (n:Int),cs[j]?≠some (.int .u32 n):=by
 intro j n e;rw[<- Array.getElem?_toList] at e;have:=Xb.1 h _ (List.mem_of_getElem? e)
 cases this
theorem a5i:(prog.info? 91).map (·.size)=some 2:=kR
theorem a7E (b:Bks) (hb:b.At w w):CL 15 #[b] w (Cb.valid b):=by
 obtain⟨W1,a7,a5,J,hz⟩:=nw1 w b 36;obtain⟨HW,a,ab,ad⟩:=Z4 a7 (hb.at_ a5) a5 J;have a8:W1.rangeAt w.heap.size 0 b.g:=fun j v hj=>by have:=cr9 j J;rw[VN,this];exact a1O hj
 have a9:=cr9 21 J;simp at a9;have s0:=Vq J;have Hj:=Z1 (a4L W1 b.g b.eA b.en b.ec b.ents a.hg a.hel a.hen a.hE a.hEx);have HV:Hid (Cb.valid b=(Jr.ok b.g (b.ents.map (·.c))&&Rates.valid b.g.cur b.rates&&Hd.valid b.g.ents.length b.holds)):=Z1 rfl;obtain⟨j,hj⟩:=eX (Jr.ok b.g (b.ents.map (·.c)));obtain⟨r,hr⟩:=eX (Rates.valid b.g.cur b.rates);obtain⟨h,hh⟩:=eX (Hd.valid b.g.ents.length b.holds);rw[<- hj] at Hj;rw[<- hj,<- hr,<- hh] at HV;have Hr:Hid (∀W:World,b.At W W.heap.size->CL 31 #[.string b.g.cur,.slice b.rA b.rn b.rc] W r):=Z1 (fun W s=>by rw[hr];exact a1j W b.rA b.rn b.rc b.rates b.g.cur s.hrl (by have:=s.hrn;omega) s.hg.hn s.hRw s.hR)
 have Hh:Hid (∀W:World,b.At W W.heap.size->CL 32 #[b.g.en,.slice b.hA b.hn b.hc] W h):=Z1 (fun W s=>by
  have h1:=a2o W b.g.ents.length b.hA b.hn b.hc b.holds (by have:=s.hg.hel;have:=s.hg.hen;omega) s.hhl (by have:=s.hhn;omega) s.hHw s.hH;rw[<- hh,s.hg.hel] at h1;exact h1)
 clear a7 hz J hb a5 hj hr hh;go_enter func15,ntmps15;go_upto_region 1 with(fail);rw[<- HW];go_wp2_with (refine Vv (by rfl) 29 (.tmp 6) rfl w.heap.size 0 rfl _ _ a8 VS rfl VJ ?_);refine Hj.mono ?_;rintro ev W2 ⟨⟨i,m,rfl,hm⟩,o⟩;have ai:=Z1 o;have aj:=o.size;have L:=gbox ad o s0;have ae:=Z1 L;have T:=Z1 (a.at_ o);have y0:=cr9 0 L;have aa:=cr9 22 L;simp at y0 aa;have s2:=Vq L;have X:=Z1 (ab.out.trans (o.mono oM));clear a8 a9 o L
 by_cases E:m=0
 case neg =>
  have O:j=false:=by cases j with|false=>rfl|true=>exact absurd (hm.2 rfl) E
  have Q:Hid (Cb.valid b=false):=by show _=_;rw[HV,O];rfl
  have k1:(m==0)=false:=by simp[E]
  clear hm E O;go_wp2;go_ret;exact⟨by rw[Q];rfl,X⟩
 have O:j:=hm.1 E;have k1:(m==0):=by simp[E]
 have Q:Hid (Cb.valid b=(r&&h)):=by show _=_;rw[HV,O];rfl
 clear hm E O;go_wp2_with (fail);refine(Hr _ T).mono ?_;rintro ev W3 ⟨rfl,I⟩;have ak:=I.size;have S:=gbox ae I s2;have a6:=Z1 (T.at_ I);have ag:=cr9 20 S;have ah:=cr9 23 S;simp at ag ah;have s3:=Vq S;have a0:=Z1 (X.out.trans (I.mono (by have:=X.out.size;omega)));clear y0 aa I S
 cases r with
 |false =>
  have a4:Hid (Cb.valid b=false):=by show _=_;rw[Q];rfl
  go_wp2;go_ret;exact⟨by rw[a4];rfl,a0⟩
 |true =>
 have a4:Hid (Cb.valid b=h):=by show _=_;rw[Q];rfl
 go_wp2_with (fail);refine(Hh _ a6).mono ?_;rintro ev W4 ⟨rfl,af⟩;have ac:=Z1 (a0.out.trans (af.mono (by have:=a0.out.size;omega)));go_wp2;go_ret;exact⟨by rw[a4];rfl,ac⟩
def QOne (e:Nat) (_ N D:Int):Prop:=e=0->N=1/\D=1
theorem b2X (b:Bks) (d:Int):Calls prog 36 #[b,.int .i64 (0:Nat),d] w (EffPost 3 (QOne 0) d w):=by
 obtain⟨W1,a6,a4,aj,X,hz⟩:=nw2 w b ZR 36 52;obtain⟨HW,a9,ag⟩:=Z3 a6 a4 X;have s1:=Vq X;have W:=a2i W1 1 1 oM oM oM oM oM;have e1:Int.tdiv 1 (redBy 1 1)=1:=dC;rw[e1] at W;have af:=Z1 W;clear a6 hz aj X a4 W e1;go_enter func36,ntmps36;go_upto_region 1 with(fail);rw[<- HW];go_wp2_with (fail);refine af.mono ?_;rintro ev W2 ⟨⟨rv,rfl,hr⟩,O⟩;obtain⟨E,a,J,o,I,i,L,s,rfl⟩:=hr.open;obtain⟨x,hx⟩:=eX (⟨E,a,J,o,I,i,L,s,1,1⟩:Rn);have am:=Z1 hr;have an:=O.size;have ab:=Z1 (a9.out.trans (O.mono oM));have ah:=gB ag O s1;obtain⟨W3,a7,Q,a8,al⟩:=nw1 W2 #[E,.slice a J o,I,.slice i L s] 52;have ad:=Z1 a7;have ae:=Z1 a8;have T:=gS ah Q;have ac:=Z1 (hr.at_ Q);have aa:=bT ab Q;have a0:Hid ((#[E,.slice a J o,I,.slice i L s]:AV).all (·.oneCell')):=by show _=true;simp[Value.oneCell']
 have a5:=VC W3 (w+1) _ #[E,.slice a J o,I,.slice i L s] _ _ T;have S:=Z1 (VW (P:=prog) _ _ _ 52 _ _ _ a5 Xf rfl Vy);have ai:=Z1 (below_setRow aa (show(w:Nat)<=w+1 by omega) #[E,.slice a J o,I,.slice i L s]);have hp:=Z1 ((ac.other (w':=W3.setRow (w+1) #[E,.slice a J o,I,.slice i L s]) T a0G (fun c hc=>Vl _ _ _ _ hc)).more (C:=(W3.setRow (w+1) #[E,.slice a J o,I,.slice i L s]).heap.size) sP (Yh 3) (Yh 3));have ak:=ae.out;clear hr O a7 Q a8 al a5 hx;go_upto_region 3 with(fail);rw[<- ad];go_wp2_with (first|(refine Vd rfl 52 _ rfl _ rfl _ _ _ _ ak Xf rfl Vy ?_)|(refine Vz rfl 52 (.tmp 6) (.tmp 17) none rfl rfl (w+1) 52 _ #[E,.slice a J o,I,.slice i L s] rfl rfl T rfl Vy a0 ?_));exact VG (v:=.agg #[E,.slice a J o,I,.slice i L s]) (by simp[results,results36,asAddr,Act.put,S.out]) rfl ⟨ai.out,⟨E,a,J,o,I,i,L,s,1,1⟩,1,1,rfl,hp.out,fun _=>⟨rfl,rfl⟩⟩
theorem b0j (b:Bks) (E p:Int) (h:Cal.err b.g.Y b.g.M b.g.N p≠0):CL 16 #[b,E,p] w (.tuple #[Ctn.zero.v,(2:Int)]):=by
 obtain⟨W1,O,L,a,s,hz⟩:=nw2 w b ZC 36 55;obtain⟨HW,S,X⟩:=Z3 O L s;have x1:=cr9 1 a;have x2:=cr9 2 a;have x3:=cr9 3 a;simp at x1 x2 x3;have s0:=Vq a;have s1:=Vq s;have I:=Z1 (fun W=>a4k b.g.Y b.g.M b.g.N p W h);obtain⟨er,Q⟩:=eX (Cal.err b.g.Y b.g.M b.g.N p);rw[<- Q] at I h;have k1:(er != 0):=by simpa using h
 clear O hz a s L Q h;go_enter func16,ntmps16;go_upto_region 1 with(fail);rw[<- HW];go_wp2_with (fail);refine(I _).mono ?_;rintro ev W2 ⟨rfl,i⟩;have T:=Z1 (S.out.trans (i.mono oM));have J:=gB X i s1;clear x1 x2 x3 i;have Ho:Hid ((ZC:AV).all (·.oneCell')):=Z1 oC;have hR:=VC W2 (w+1) _ ZC _ _ J;have o:=Z1 (VW (P:=prog) _ _ _ 55 _ _ _ hR Zd rfl a0x);have a0:=Z1 (below_setRow T (show(w:Nat)<=w+1 by omega) ZC);clear hR;go_wp2_with (refine Vz rfl 55 (.tmp 6) (.tmp 39) none rfl rfl (w+1) 55 _ ZC rfl rfl J rfl a0x Ho ?_);exact VG (v:=.tuple #[ZC,(2:Int)]) (by simp[results,results16,asAddr,Act.put,o.out]) rfl ⟨rfl,a0.out⟩
end Go.Proofs.YtbhdekahdnenjaaGreatDoor
