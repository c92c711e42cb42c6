/- Lemmas. -/
import Derived.Test.YtbhdekahdnenjaaGreatDoorG25
set_option linter.unusedVariables false
set_option linter.unusedSimpArgs false
set_option maxRecDepth 100000
set_option maxHeartbeats 16000000
namespace Go.Proofs.YtbhdekahdnenjaaGreatDoor
open Go.Proofs.Tryz Go.RowKit Go.Maps
variable (w:World)
theorem a2n {w:World} {P:Program} {k e:TypeId} {b n B s m:Nat} {f:Value->Option Value} {v:Value} {L:List Value} (h:MapAt w P k b n f) (J:w.ownsRow B e s v m L):some b≠v.ownBlock:=fun q=>by
 obtain⟨D,⟨O,i,I,_⟩,_⟩:=h
 rcases J.2 with⟨rfl,_⟩|⟨g,E,o,rfl,_,a,_⟩
 ·simp[Value.ownBlock] at q
 ·simp[Value.ownBlock] at q
  subst q;rw[I] at a
  cases a
theorem a0u {w:World} {P:Program} {k:TypeId} {b d n:Nat} {f:Value->Option Value} {cs:AV} {t:TypeId} {o:Nat × Nat} (h:MapAt w P k b n f) (s:w.heap[d]?=some (.cells cs t o)):b≠d:=fun q=>by
 obtain⟨D,⟨E,a,i,_⟩,_⟩:=h;subst q;rw[s] at i
 cases i
theorem Etr.kept {w w':World} {x:Etr} (h:x.At w w.heap.size/\RowsTy 66 w x.lA x.c.lines) {k:Nat} (s:∀cur fr,w.heap[k]?≠some (.cells cur 66 fr)) (o:w.grownBy w' (some k)):x.At w' w'.heap.size/\RowsTy 66 w' x.lA x.c.lines:=by
 obtain⟨a,i⟩:=h.2.keep h.1.hA s o;exact⟨⟨h.1.hl,i,h.1.hw⟩,a⟩
open Classical in
theorem a2r {w:World} {t e:TypeId} {b n:Nat} {f:Value->Option Value} {o:Oper} {a:Act} {K:Act->World->Prop} {Q:Exit->Act->World->Prop}
  (m y v:Operand) (i:o.op=Op.mapUpdate t m y v) (h:MapAt w prog 3 b n f) (O:prog.underlying t=some (.map 3 e))
  (J:a.eval m=.map (some b)) (L:n<maxLen) (x:Int) (val:Value) (T:a.eval y=x) (hv:a.eval v=val) (S:(Lit.int .i64 x).wf)
  (I:∀w' f',MapAt w' prog 3 b (n+1) f'->(∀z,f' (.int .i64 z)=if z=x then some val else f (.int .i64 z))->w.grownBy w' (some b)->K (a.put o.dst undef) w'):o.wp prog a w K Q :=
 a1P m y v i h intLaw O J L _ val _ T hv (keyOf_int_mk YM S) fun w' s E=>I w' _ s (fun z=>by
  show(if _ then _ else _:Option Value)=_
  by_cases e:z=x <;> simp[e]) E
def PostPost (B b:Nat) (g:Grp) (p:List EtC) (c:EtC) (w:World) (e:Ending) (w':World):Prop :=
 Below B w w'/\∃n,e=.returned (.int .i64 n)/\(n=0 ↔ Jr.postOk g p c)/\(n=0->Jrns B w' b g (p++[c]))
theorem PostPost.bad {B b:Nat} {g:Grp} {p:List EtC} {c:EtC} {w w':World} {n:Int} (h:Below B w w') (a:n≠0) (i:Jr.postOk g p c=false):PostPost B b g p c w (.returned (.int .i64 n)) w' :=
 ⟨h,n,rfl,by simp[a,i],fun h=>(a h).elim⟩
structure Jrm (B:Nat) (w:World) (b:Nat) (g:Grp) (p:List EtC) (x:EtC) (g':Grp) (q:List Etr) (A:Option Addr) (c m1 m2:Nat) (f2:Value->Option Value):Prop where
 hb:w.heap[b]?=some (.cells #[.string g'.cur,g'.Y,g'.M,g'.N,.slice g'.cA g'.cn g'.cc,g'.r0,g'.r1,g'.r2,g'.r3,g'.r4,g'.r5,g'.r6,g'.r7,g'.r8,g'.r9,g'.r10,g'.r11,g'.r12,g'.r13,g'.r14,.slice g'.eA g'.en g'.ec,.slice A q.length c,.map (some m1),.map (some m2)] 205 (0,0))
 he:g'.era=g.era
 hg:g'.At w B
 hBb:B<=b
 hB1:B<=m1
 hB2:B<=m2
 hne:m1≠m2
 hq:q.map (·.c)=p
 ho:w.ownsRow B 46 7 (.slice A q.length c) q.length (q.flatMap Etr.cells)
 hx:∀x∈q,x.At w w.heap.size/\RowsTy 66 w x.lA x.c.lines
 h2:MapAt w prog 3 m2 (p.length+1) f2
 hf2:∀z,(f2 (.int .i64 z)).isSome=Jr.revd (p++[x]) z
 hw:∀x∈p,x.wf
theorem b2D {g':Grp} {x y z:Value} {j:Nat} {v:Value} (a:(g':List Value)[j]?=some v):(#[.string g'.cur,g'.Y,g'.M,g'.N,.slice g'.cA g'.cn g'.cc,g'.r0,g'.r1,g'.r2,g'.r3,g'.r4,g'.r5,g'.r6,g'.r7,g'.r8,g'.r9,g'.r10,g'.r11,g'.r12,g'.r13,g'.r14,.slice g'.eA g'.en g'.ec,x,y,z]:AV)[j]?=some v:=by
 have i:j<21:=by have:=(List.getElem?_eq_some_iff.1 a).1;simpa using this
 have:(#[.string g'.cur,g'.Y,g'.M,g'.N,.slice g'.cA g'.cn g'.cc,g'.r0,g'.r1,g'.r2,g'.r3,g'.r4,g'.r5,g'.r6,g'.r7,g'.r8,g'.r9,g'.r10,g'.r11,g'.r12,g'.r13,g'.r14,.slice g'.eA g'.en g'.ec,x,y,z]:AV)=(g'++#[x,y,z]:AV):=rfl;rw[this,Array.getElem?_append_left (by simpa using i)];simpa using a
theorem b2c (B b:Nat) (g:Grp) (p:List EtC) (c:EtC) (A:OA) (n kc:Nat) (hj:Jrns B w b g p) (hB:B<=w) (W:(⟨c,A,n,kc⟩:Etr).At w B) (hp:p.length<=100) :
  Calls prog 63 #[.pointer (some ⟨b,0,none⟩),.agg (TE c A n kc)] w (PostPost B b g p c w):=by
 obtain⟨g',q,A',cq,m1,m2,f1,f2,hj⟩:=hj;have ec:=Vq hj.hb;have bc:=hj.ho;obtain⟨W1,d8,ax,da,hz⟩:=nw1 w (TE c A n kc) 46;obtain⟨HW,HJ,Hx⟩:=Z3 d8 (hj.below ax hB) (W.below (ax.mono hB) lR);have bq:Hid c.wf:=W.hw;have d7:=Z1 (ax.mono hB);have ay:B<=W1:=by have:=ax.size;omega
 have ca:=Z1 bc;have s1:(w:Nat)<W1:=oM;have sb:b<W1:=oM;have dx:Hid (b≠w.heap.size):=by show _≠_;omega
 have cr:=Z1 da;have aw:=Z1 HJ.out.len;have dw:Hid (Jr.fine g' c=Jr.fine g c):=Jr.fine_same HJ.he c;clear d8 hz da hj W ax bc;go_enter func63,ntmps63;go_upto_region 1 with(fail);rw[<- HW];go_upto_region 3 with(fail);have o:Below W1 W1 W1.drew:=Vw bR 1;refine Vs (S:=Below W1 W1) kR ?_;change wpAnyH _ _ _ _ _ _ _ _ (World.drew W1);obtain⟨W_0,Q⟩:=eX W1.drew;rw[<- Q] at o⊢;clear Q;refine jT 0 o ?_;refine jT 1 o ?_;refine jT 2 o ?_;refine jT 3 o ?_ (v:=g') (hy:=(Vf (by rfl) 29 _ rfl b 0 rfl g' _ (fun W' s=>fun j v hj=>by have:=cr9 j (gbox HJ.hb s sb);rw[VN,this];exact b2D hj) VS rfl VJ));refine jT 4 o ?_ (v:=.agg (TE c A n kc)) (hy:=(Vf (by rfl) 46 _ rfl w.heap.size 0 rfl [c.id,c.ent,c.date,c.kind,c.of_,.string c.text,.slice A n kc] _ (fun W' s=>Xq (gbox cr s s1)) X0 rfl a0v));refine rZ 5 fun K J=>?_;have HC:=Z1 (a9i W_0 g' c A n kc ((HJ.hg.below o ay).more (by have:=o.size;omega)) ((Hx.below o ay).more (by have:=o.size;omega)));go_simp;refine HC.mono ?_;rintro e W2 ⟨⟨m,rfl,hm⟩,ah⟩;have a7:=o.trans (ah.mono o.size);refine jK J a7 ?_;clear J K;refine rZ 6 fun K J=>?_;go_simp;refine jK J a7 ?_;clear J K;refine VF kR ?_ _
 try simp only[z]
 rw[dw] at hm;obtain⟨du,b1,bg,e1⟩:=Z4 a7 (d7.out.trans (a7.mono ay)) (HJ.below a7 ay) (Hx.below a7 ay);have cj:=gbox cr a7 s1;have s2:(w:Nat)<W2:=Vq cj;have dc:=bg.out.hb;have ee:b<W2:=Vq dc;have ah:B<=W2:=by have:=a7.size;omega
 have cs:=Z1 cj;clear o a7 dc cj ah du;have ah:B<=W2:=oM
 by_cases O:m=0
 case neg =>
  have k1:(m != 0):=by simp[O]
  have HV:Hid (Jr.postOk g p c=false):=by
   show _=_;unfold Jr.postOk
   cases hf:Jr.fine g c
   ·rfl
   ·exact absurd (hm.2 hf) O
  have Hm:=Z1 O;clear hm O;go_wp2;go_ret;exact PostPost.bad b1.out Hm HV
 have k1:(m != 0)=false:=by simp[O]
 have c8:=Z1 (hm.1 O);clear hm O;go_upto_region 6 with(fail);have b9:=bg.out.look1 c.id bq.out.hid;have dt:=cr9 22 bg.hb;have y0:=cr9 0 cs;simp at dt y0
 cases hi:Jr.idx p c.id with
 |some k =>
  have HV:Hid (Jr.postOk g p c=false):=by show _=_;unfold Jr.postOk;rw[Jr.get_some hi];simp
  rw[hi] at b9;simp only[JR,JB,Option.isSome_some] at b9;clear hi;go_quiet (fail);go_wp2;go_ret;exact PostPost.bad (Vw b1.out _) dC HV
 |none =>
 have bt:Hid ((Jr.get p c.id).isNone):=by show _=_;rw[Jr.get_none hi];rfl
 rw[hi] at b9;simp only[Option.map_none,Option.getD_none,Option.isSome_none] at b9;clear hi;go_quiet (fail);obtain⟨W3,ch⟩:=eX (W2.drewN nq);have a5:Below W2 W2 W3:=by rw[ch];exact Vw bR _
 rw[<- ch];obtain⟨b2,L,bi⟩:=Z3 (b1.out.trans (a5.mono ah)) (bg.below a5 ah) (e1.below a5 ah);have aq:=gB cs a5 s2;have s3:(w:Nat)<W3:=Vq aq;have dr:b<W3:=Vq L.hb;have ai:B<=W3:=by have:=a5.size;omega
 have bf:=cr9 21 L.hb;have y3:=cr9 3 aq;simp at bf y3;clear dt y0 b9 ch a5 nq;have ed:(q.length:Int)<2000:=by have:=aw.out;omega
 have c5:Hid (Jr.postOk g p c=(decide (c.kind≠3)||Jr.revOk p c)):=by
  show _=_;unfold Jr.postOk;rw[c8,bt,VT (show p.length<2000 by omega)];simp
 by_cases al:c.kind=3
 focus
  have k3:(c.kind==3):=by simp[al]
  have K3:=Z1 al;clear al;go_upto_region 10 with(fail);have dl:=Z1 (a6a W3 B b g p c A n kc ⟨g',q,A',cq,m1,m2,f1,f2,L⟩ ai (bi.more ai));go_wp2_with (refine Vd rfl 46 _ rfl _ rfl _ _ _ _ aq X0 rfl a0v ?_);refine dl.out.mono ?_;rintro e W4 ⟨⟨m4,rfl,ba⟩,a6⟩;have bv:=Z1 (b2.out.trans (a6.mono ai))
  by_cases O:m4=0
  case neg =>
   have k1:(m4 != 0):=by simp[O]
   have HV:Hid (Jr.postOk g p c=false):=by
    show _=_;rw[c5]
    cases hf:Jr.revOk p c
    ·simp[K3.out]
    ·exact absurd (ba.2 hf) O
   have Hm:=Z1 O;clear ba O bf y3;go_wp2;go_ret;exact PostPost.bad bv.out Hm HV
  have k1:(m4 != 0)=false:=by simp[O]
  have HV:Hid (Jr.postOk g p c):=by show _=_;rw[c5,ba.1 O];simp
  have eb:=Z1 (ba.1 O);clear ba O;have bh:=Z1 (L.below a6 ai);have e2:=Z1 (bi.below a6 ai);have c6:=gB aq a6 s3;have s4:(w:Nat)<W4:=Vq c6;have ef:b<W4:=Vq bh.hb;have a6:B<=W4:=by have:=a6.size;omega
  have c4:=cr9 21 bh.hb;have ds:=cr9 3 c6;simp at c4 ds;clear bf y3;go_upto_region 16 with(fail);have o:(fun W':World=>W'.heap[b]?=some (.cells #[.string g'.cur,g'.Y,g'.M,g'.N,.slice g'.cA g'.cn g'.cc,g'.r0,g'.r1,g'.r2,g'.r3,g'.r4,g'.r5,g'.r6,g'.r7,g'.r8,g'.r9,g'.r10,g'.r11,g'.r12,g'.r13,g'.r14,.slice g'.eA g'.en g'.ec,.slice A' q.length cq,.map (some m1),.map (some m2)] 205 (0,0))/\W'.heap[w.heap.size]?=some (.cells (TE c A n kc) 46 (0,0))) W4.drew:=⟨bh.hb,c6⟩;refine Vs (S:=fun W':World=>W'.heap[b]?=some (.cells #[.string g'.cur,g'.Y,g'.M,g'.N,.slice g'.cA g'.cn g'.cc,g'.r0,g'.r1,g'.r2,g'.r3,g'.r4,g'.r5,g'.r6,g'.r7,g'.r8,g'.r9,g'.r10,g'.r11,g'.r12,g'.r13,g'.r14,.slice g'.eA g'.en g'.ec,.slice A' q.length cq,.map (some m1),.map (some m2)] 205 (0,0))/\W'.heap[w.heap.size]?=some (.cells (TE c A n kc) 46 (0,0))) kR ?_;change wpAnyH _ _ _ _ _ _ _ _ (World.drew W4);obtain⟨W_0,Q⟩:=eX W4.drew;have a:Below W4 W4 W_0:=by rw[Q];exact Vw bR 1
  rw[<- Q] at o⊢;clear Q;refine jT 0 o ?_;refine jT 1 o ?_;refine jT 2 o ?_;refine jT 3 o ?_ (v:=.map (some m2)) (hy:=(.inl ⟨by rfl,fun W' s=>by have c0:=cr9 23 s.1;simp at c0;have c9:b<W':=Vq s.1;go_simp⟩));refine jT 4 o ?_;refine jT 5 o ?_ (v:=.int .i64 c.of_) (hy:=(.inl ⟨by rfl,fun W' s=>by have c0:=cr9 4 s.2;simp at c0;have c9:(w:Nat)<W':=Vq s.2;go_simp⟩));refine jT 6 o ?_;refine jT 7 o ?_ (v:=.int .i64 c.id) (hy:=(.inl ⟨by rfl,fun W' s=>by have c0:=cr9 0 s.2;simp at c0;have c9:(w:Nat)<W':=Vq s.2;go_simp⟩));refine rZ 8 fun K J=>?_;have i:=bh.out.below a a6;have cn:p.length<maxLen:=by unfold maxLen;omega
  refine a2r _ _ _ rfl i.h2 underlying203 rfl cn c.of_ _ rfl rfl bq.out.hof ?_;intro W5 f5 dj dd a9;have af:some b≠some m2:=fun q=>a0u i.h2 o.1 (XV q).symm;have ag:some w.heap.size≠some m2:=fun q=>a0u i.h2 o.2 (XV q).symm;have bk:(fun W':World=>W'.heap[b]?=some (.cells #[.string g'.cur,g'.Y,g'.M,g'.N,.slice g'.cA g'.cn g'.cc,g'.r0,g'.r1,g'.r2,g'.r3,g'.r4,g'.r5,g'.r6,g'.r7,g'.r8,g'.r9,g'.r10,g'.r11,g'.r12,g'.r13,g'.r14,.slice g'.eA g'.en g'.ec,.slice A' q.length cq,.map (some m1),.map (some m2)] 205 (0,0))/\W'.heap[w.heap.size]?=some (.cells (TE c A n kc) 46 (0,0))) W5:=⟨(a9.block b (Vq o.1) af).trans o.1,(a9.block _ (Vq o.2) ag).trans o.2⟩;refine jK J bk ?_;clear J K;refine VF kR ?_ _
  try simp only[z]
  have b3:=Z1 ((bv.out.trans (a.mono a6)).grown a9 (by have:=a.size;omega) (fun j e=>by cases e;exact i.hB2));have T:∀cur fr,W_0.heap[m2]?≠some (.cells cur 66 fr):=fun cur fr e=>a0u i.h2 e rfl
  have HM:Hid (Jrm B W5 b g p c g' q A' cq m1 m2 f5):=by
   refine⟨bk.1,i.he,i.hg.below ((VM B _).grown a9 (by have:=a.size;omega) (fun j e=>by cases e;exact i.hB2)) lR,i.hBb,i.hB1,i.hB2,i.hne,i.hq,i.ho.kept a9 (.inr fun e=>a2n i.h2 i.ho e.symm),fun x W=>Etr.kept (i.hx x W) T a9,dj,fun z=>?_,i.hw⟩;rw[Jr.revd_snoc];rw[dd]
   by_cases hz:z=c.of_
   ·rw[Vt hz];simp[hz,K3.out]
   ·rw[VB hz,i.hf2];simp[Ne.symm hz]
  have HI:Hid (MapAt W5 prog 3 m1 p.length f1):=i.h1.kept a9 (by simp[i.hne]);have ct:=Z1 i.hf1;have c7:=Z1 bk.2;have bx:=(VM B W_0).grown a9 (by have:=a.size;omega) (fun j e=>by cases e;exact i.hB2);have cy:=Z1 ((e2.below a a6).below bx lR);have s5:(w:Nat)<W5:=Vq c7;have e7:b<W5:=Vq HM.hb;have d5:B<=W5:=by have:=b3.out.size;omega
  obtain⟨d2,ae⟩:=eX f5;rw[<- ae] at HM;clear ae dj dd a9 af ag bk o a T i bx c4 ds;go_upto_region 17 with(fail)
 rotate_left
 focus
  have k3:(c.kind==3)=false:=by simp[al]
  have HV:Hid (Jr.postOk g p c):=by show _=_;rw[c5];simp[al]
  have HM:Hid (Jrm B W3 b g p c g' q A' cq m1 m2 f2) :=
   ⟨L.hb,L.he,L.hg,L.hBb,L.hB1,L.hB2,L.hne,L.hq,L.ho,L.hx,L.h2.mono oM,fun z=>by rw[Jr.revd_snoc,L.hf2];simp[al],L.hw⟩
  have HI:Hid (MapAt W3 prog 3 m1 p.length f1):=L.h1;have ct:=Z1 L.out.hf1;obtain⟨W5,d9⟩:=eX W3;obtain⟨d2,ae⟩:=eX f2;rw[<- ae] at HM;clear ae;rw[<- d9] at HM HI b2 aq bi s3 dr ai bf y3⊢;have b3:=b2;have c7:=aq;have cy:=bi;have s5:=s3;have e7:=dr;have d5:=ai;clear al d9;go_upto_region 17 with(fail);clear bf y3
 all_goals
  have ac:=HM.out;have o:(fun W':World=>W'.heap[b]?=some (.cells #[.string g'.cur,g'.Y,g'.M,g'.N,.slice g'.cA g'.cn g'.cc,g'.r0,g'.r1,g'.r2,g'.r3,g'.r4,g'.r5,g'.r6,g'.r7,g'.r8,g'.r9,g'.r10,g'.r11,g'.r12,g'.r13,g'.r14,.slice g'.eA g'.en g'.ec,.slice A' q.length cq,.map (some m1),.map (some m2)] 205 (0,0))/\W'.heap[w.heap.size]?=some (.cells (TE c A n kc) 46 (0,0))) W5.drew:=⟨HM.hb,c7⟩;refine Vs (S:=fun W':World=>W'.heap[b]?=some (.cells #[.string g'.cur,g'.Y,g'.M,g'.N,.slice g'.cA g'.cn g'.cc,g'.r0,g'.r1,g'.r2,g'.r3,g'.r4,g'.r5,g'.r6,g'.r7,g'.r8,g'.r9,g'.r10,g'.r11,g'.r12,g'.r13,g'.r14,.slice g'.eA g'.en g'.ec,.slice A' q.length cq,.map (some m1),.map (some m2)] 205 (0,0))/\W'.heap[w.heap.size]?=some (.cells (TE c A n kc) 46 (0,0))) kR ?_;change wpAnyH _ _ _ _ _ _ _ _ (World.drew W5);obtain⟨W_0,Q⟩:=eX W5.drew;have a:Below W5 W5 W_0:=by rw[Q];exact Vw bR 1
  rw[<- Q] at o⊢;clear Q;refine jT 0 o ?_;refine jT 1 o ?_;refine jT 2 o ?_;refine jT 3 o ?_ (v:=.map (some m1)) (hy:=(.inl ⟨by rfl,fun W' s=>by have c0:=cr9 22 s.1;simp at c0;have c9:b<W':=Vq s.1;go_simp⟩));refine jT 4 o ?_;refine jT 5 o ?_ (v:=.int .i64 c.id) (hy:=(.inl ⟨by rfl,fun W' s=>by have c0:=cr9 0 s.2;simp at c0;have c9:(w:Nat)<W':=Vq s.2;go_simp⟩));refine jT 6 o ?_;refine jT 7 o ?_;refine jT 8 o ?_;refine jT 9 o ?_ (v:=.slice A' q.length cq) (hy:=(.inl ⟨by rfl,fun W' s=>by have c0:=cr9 21 s.1;simp at c0;have c9:b<W':=Vq s.1;go_simp⟩));refine jT 10 o ?_;refine rZ 11 fun K J=>?_;have ar:=HI.out.below a HI.lt;have cn:p.length<maxLen:=by unfold maxLen;omega
  refine a2r _ _ _ rfl ar underlying203 rfl cn c.id _ rfl rfl bq.out.hid ?_;intro W6 f6 dk de ak;have af:some b≠some m1:=fun q=>a0u ar o.1 (XV q).symm;have ag:some w.heap.size≠some m1:=fun q=>a0u ar o.2 (XV q).symm;have bl:(fun W':World=>W'.heap[b]?=some (.cells #[.string g'.cur,g'.Y,g'.M,g'.N,.slice g'.cA g'.cn g'.cc,g'.r0,g'.r1,g'.r2,g'.r3,g'.r4,g'.r5,g'.r6,g'.r7,g'.r8,g'.r9,g'.r10,g'.r11,g'.r12,g'.r13,g'.r14,.slice g'.eA g'.en g'.ec,.slice A' q.length cq,.map (some m1),.map (some m2)] 205 (0,0))/\W'.heap[w.heap.size]?=some (.cells (TE c A n kc) 46 (0,0))) W6:=⟨(ak.block b (Vq o.1) af).trans o.1,(ak.block _ (Vq o.2) ag).trans o.2⟩;refine jK J bl ?_;clear J K;refine VF kR ?_ _
  try simp only[z]
  have an:Below B W5 W6:=(a.mono d5).grown ak (by have:=a.size;omega) (fun j e=>by cases e;exact ac.hB1);have bs:=Z1 (b3.out.trans an);have T:∀cur fr,W_0.heap[m1]?≠some (.cells cur 66 fr):=fun cur fr e=>a0u ar e rfl;have dm:∀x∈q,x.At W_0 W_0.heap.size/\RowsTy 66 W_0 x.lA x.c.lines:=fun x W=>⟨(ac.hx x W).1.at_ a,(ac.hx x W).2.below a⟩;have cp:=Vj ac.ho a;obtain⟨av,a0,dy,e0,cu,cw⟩:=Z6 bl.1 bl.2 (ac.hg.below an lR) (cp.kept ak (.inr fun e=>a2n ar cp e.symm)) (fun x W=>Etr.kept (dm x W) T ak:∀x∈q,x.At W6 W6.heap.size/\RowsTy 66 W6 x.lA x.c.lines) dk;have cx:=Z1 ((ac.h2.below a ac.h2.lt).kept ak (by simp[ac.hne.symm]));have cz:=Z1 (cy.below an lR)
  have df:Hid (∀z,f6 (.int .i64 z)=(Jr.idx (p++[c]) z).map (fun(k:Nat)=>Value.int .i64 (k:Int))):=Z1 fun z=>by
   rw[de,Jr.idx_snoc bt,ct]
   by_cases hz:z=c.id
   ·rw[Vt hz,Vt hz,aw];rfl
   ·rw[VB hz,VB hz]
  have s6:(w:Nat)<W6:=Vq a0;have br:b<W6:=Vq av;have cd:B<=W6:=by have:=bs.out.size;omega
  have cb:Hid (∀k,(Value.slice A' q.length cq).ownBlock=some k->k≠w.heap.size):=Z1 fun k hk e=>by have:=(ca.lt k hk).2;omega
  clear dk de ak af ag bl o a T ar dm cp an;go_upto_region 18 with(fail);have o:(fun W':World=>W'.heap[w.heap.size]?=some (.cells (TE c A n kc) 46 (0,0))) W6.drew:=a0;refine Vs (S:=fun W':World=>W'.heap[w.heap.size]?=some (.cells (TE c A n kc) 46 (0,0))) kR ?_;change wpAnyH _ _ _ _ _ _ _ _ (World.drew W6);obtain⟨W_0,Q⟩:=eX W6.drew;have a:Below W6 W6 W_0:=by rw[Q];exact Vw bR 1
  have ea:(W_0:Nat)=W6:=by rw[Q];rfl
  rw[<- Q] at o⊢;clear Q;refine jT 0 o ?_;refine jT 1 o ?_;refine jT 2 o ?_;refine jT 3 o ?_;refine jT 5 o ?_ (v:=.agg (TE c A n kc)) (hy:=(Vf (by rfl) 46 _ rfl w.heap.size 0 rfl [c.id,c.ent,c.date,c.kind,c.of_,.string c.text,.slice A n kc] _ (fun W' s=>Xq s) X0 rfl a0v));refine a0w fun e6 dq Q' a' dh di bn dg=>?_;obtain⟨RG,cg⟩:=eX (fun W':World=>W'.heap[w.heap.size]?=some (.cells (TE c A n kc) 46 (0,0)):World->Prop);rw[<- cg]
  have cc:∀(W7:World) (A7:OA) (k7:Nat),Below W6 W6 W7->(⟨c,A7,n,k7⟩:Etr).At W7 W7.heap.size->RowsTy 66 W7 A7 c.lines ->
   wpAnyH prog e6 dq Q' RG 4 #[true,true,true,true,true,true,true,true,false,false,false,false] (((a'.put (some 72) (.slice A' q.length cq)).put (some 74) (.agg (TE c A7 n k7))).put (some 75) (.slice (some ⟨W7,0,none⟩) 1 1)) (W7.alloc (.cells (TE c A7 n k7) 46)):=by
   intro W7 A7 k7 h7 hat am;subst dh di bn dg cg
   try simp only[z]
   obtain⟨i0,hi,e3,e4,e5⟩:=XW etrInfo;have b6:Below W7 W7 (W7.alloc (.cells (TE c A7 n k7) 46)):=bR.alloc lR _;have h8:=h7.trans (b6.mono h7.size);have bm:=gbox a0 h8 s6;have b7:=gbox av h8 br;have aa:=Vj e0 h8;have c1:=Xk W7 [c.id,c.ent,c.date,c.kind,c.of_,.string c.text,.slice A7 n k7] 46;have c2:∀u∈([c.id,c.ent,c.date,c.kind,c.of_,.string c.text,.slice A7 n k7]:List Value),u.oneCell':=oC;have bn:=aw.out;have d3:q.length+1<=maxLen:=by unfold maxLen;omega
   have d4:(q.length+1)*80<=140737488355328:=oM;have bj:B<=(W7.alloc (.cells (TE c A7 n k7) 46)).heap.size:=by have:=h8.size;omega
   have au:=fun x W=>(⟨(cu x W).1.at_ h8,(cu x W).2.below h8⟩:_/\_);have bo:=cw.out.below h8 cw.lt;have bp:=cx.out.below h8 cx.lt;have ad:=hat.at_ b6;have be:=am.below b6;obtain⟨W8,ci⟩:=eX (W7.alloc (.cells (TE c A7 n k7) 46));have bb:∀j u,([c.id,c.ent,c.date,c.kind,c.of_,.string c.text,.slice A7 n k7]:List Value)[j]?=some u->W8.cell? ((⟨W7,0,none⟩:Addr).add j)=some u:=by rw[ci];exact c1
   rw[<- ci] at b6 h8 bm b7 aa bj au bo bp ad be⊢;clear c1;refine rZ 8 fun K J=>?_;refine Ql W8 _ _ 30 rfl B 46 i0 (.agg #[(),(),(),(),(),.string ByteArray.empty,.slice none 0 0]) 7 80 underlying30 hi e3 e4 e5 rfl dC _ _ _ rfl aa ⟨W7,0,none⟩ 1 1 [c.id,c.ent,c.date,c.kind,c.of_,.string c.text,.slice A7 n k7] rfl rfl bb c2 d3 d4 bj ?_;intro v9 W9 ab I _
   obtain⟨A9,c9,rfl⟩:∃A9 c9,v9=.slice A9 (q.length+1) c9:=by
    rcases ab.2 with⟨e,h0⟩|⟨g,d1,cur,e,_⟩
    ·omega
    ·exact⟨_,_,e⟩
   have bz:∀k,(Value.slice A' q.length cq).ownBlock=some k->k≠b:=fun k hk e=>by
    subst e
    rcases aa.2 with⟨e,_⟩|⟨g,d1,e9,e,_,b8,_⟩
    ·rw[e] at hk;simp[Value.ownBlock] at hk
    ·rw[e] at hk;simp[Value.ownBlock] at hk;subst hk;rw[b7] at b8;cases b8
   have a8:=(I.block b (Vq b7) (fun e=>bz b e.symm rfl)).trans b7;have b5:=(I.block w (Vq bm) (fun e=>cb _ e.symm rfl)).trans bm
   have dn:∀x∈q,x.At W9 W9.heap.size/\RowsTy 66 W9 x.lA x.c.lines:=fun x W=>by
    obtain⟨r1,r2⟩:=(au x W).2.kept (au x W).1.hA aa dC I;exact⟨⟨(au x W).1.hl,r2,(au x W).1.hw⟩,r1⟩
   have dp:(⟨c,A7,n,k7⟩:Etr).At W9 W9.heap.size/\RowsTy 66 W9 A7 c.lines:=by
    obtain⟨r1,r2⟩:=be.kept ad.hA aa dC I;exact⟨⟨ad.hl,r2,ad.hw⟩,r1⟩
   have ck:=bo.kept I (a2n bo aa);have co:=bp.kept I (a2n bp aa);have bu:Below B W8 W9:=(VM B W8).grown I bj (fun k hk=>(aa.lt k hk).1);have az:Below B W6 W9:=(h8.mono cd).trans bu;refine jK J b5 ?_;clear J K;refine jT 9 b5 ?_;refine jT 10 b5 ?_;refine rZ 11 fun K J=>?_;have d0:=cr9 21 a8;simp at d0;have e8:b<W9:=Vq a8;have cf:=fun j=>fr0 j a8;go_simp;have ao:=Xh W9 b 21 _ _ (.slice A9 (q.length+1) c9) a8;simp at ao;have b4:(W9.setCell ⟨b,21,none⟩ (.slice A9 (q.length+1) c9)).heap[w.heap.size]?=some (.cells (TE c A n kc) 46 (0,0)):=(YJ W9 ⟨b,21,none⟩ _ _ (Ne.symm dx)).trans b5;refine J.out _ _ b4 (fun _=>?_);clear J K;refine VF kR ?_ _
   try simp only[z]
   have X:W9.grownBy (W9.setCell ⟨b,21,none⟩ (.slice A9 (q.length+1) c9)) (some b):=Xz (Xx _ _) _ _;obtain⟨W10,bw⟩:=eX (W9.setCell ⟨b,21,none⟩ (.slice A9 (q.length+1) c9));rw[<- bw] at ao b4 X⊢;have d6:B<=W9:=by have:=az.size;omega
   have b0:Below B W9 W10:=(VM B W9).grown X d6 (fun k hk=>by cases hk;exact HM.hBb);have aj:=az.trans b0;have T:∀cur fr,W9.heap[b]?≠some (.cells cur 66 fr):=fun cur fr e=>by rw[a8] at e;cases e
   have ap:=ab.kept X (.inr fun e=>by
    rcases ab.2 with⟨q1,h0⟩|⟨g,d1,cur,q1,_,b8,_⟩
    ·omega
    ·rw[q1] at e;simp[Value.ownBlock] at e;subst e;rw[a8] at b8;cases b8)
   have HF:Hid (Jrns B W10 b g (p++[c])):=by
    refine⟨g',q++[⟨c,A7,n,k7⟩],A9,c9,m1,m2,f6,d2,?_⟩;have c3:(q++[(⟨c,A7,n,k7⟩:Etr)]).length=q.length+1:=sP;refine⟨by rw[c3];exact ao,HM.he,dy.below aj lR,HM.hBb,HM.hB1,HM.hB2,HM.hne,by rw[Xn,HM.hq];rfl,?_,fun x W=>?_,?_,?_,df.out,HM.hf2,fun x W=>?_⟩
    ·rw[c3,VL];exact ap
    ·rw[V9,VY] at W
     rcases W with W|rfl
     ·exact Etr.kept (dn x W) T X
     ·exact Etr.kept dp T X
    ·rw[Vc];exact ck.kept X (fun e=>a0u ck a8 (XV e))
    ·rw[Vc];exact co.kept X (fun e=>a0u co a8 (XV e))
    ·rw[V9,VY] at W
     rcases W with W|rfl
     ·exact HM.hw x W
     ·exact bq.out
   have dv:=Z1 (bs.out.trans aj);clear ao b4 X b0 aj T ap d6 az bu ck co dp dn b5 a8 bz ab I d0 cf e8 ad be bp bo au d3 d4 bj c2 bb aa b7 bm h8 b6 h7 hat am bw ci bn o;go_wp2;go_ret;exact⟨dv,0,rfl,by simp[HV.out],fun _=>HF⟩
  subst dh di bn dg cg
  try simp only[z]
  refine Xc (rs:=[4,6]) kR sP (.cons rfl (fun K J=>?_) (.cons rfl (fun K J=>?_) .nil))
  ·have q1:=gbox av a br
   have c0:=cr9 21 q1;simp at c0;have c9:=Vq q1;go_simp;refine J.out _ _ (gbox a0 a s6) (fun _=>?_);clear J K c0 c9 q1
   try simp only[z]
   refine Xc (rs:=[6]) kR sP (.cons rfl (fun K J=>?_) .nil);have HC:=Z1 (a4X W_0 c A n kc ((cz.below (a.mono cd) lR).more (by have:=a.size;omega)));go_simp;refine HC.mono ?_;rintro r W7 ⟨ce,A7,k7,rfl,hat,am⟩;have E:=a.trans (ce.mono a.size);refine jK J (gbox a0 E s6) ?_;clear J K;refine Xc (rs:=[7]) kR sP (.cons rfl (fun K J=>?_) .nil);have a4:Below W6 W6 (W7.alloc (.cells (TE c A7 n k7) 46)):=E.trans ((bR.alloc lR _).mono E.size);go_simp;refine jK J (gbox a0 a4 s6) ?_;clear J K;have hn:=cc W7 A7 k7 E hat am
   try simp only[z] at hn
   exact hn
  ·have HC:=Z1 (a4X W_0 c A n kc ((cz.below (a.mono cd) lR).more (by have:=a.size;omega)))
   go_simp;refine HC.mono ?_;rintro r W7 ⟨ce,A7,k7,rfl,hat,am⟩;have E:=a.trans (ce.mono a.size);refine jK J (gbox a0 E s6) ?_;clear J K;refine Xc (rs:=[4,7]) kR sP (.cons rfl (fun K J=>?_) (.cons rfl (fun K J=>?_) .nil))
   ·have q1:=gbox av E br
    have c0:=cr9 21 q1;simp at c0;have c9:=Vq q1;go_simp;refine J.out _ _ (gbox a0 E s6) (fun _=>?_);clear J K c0 c9 q1
    try simp only[z]
    refine Xc (rs:=[7]) kR sP (.cons rfl (fun K J=>?_) .nil);have a4:Below W6 W6 (W7.alloc (.cells (TE c A7 n k7) 46)):=E.trans ((bR.alloc lR _).mono E.size);go_simp;refine jK J (gbox a0 a4 s6) ?_;clear J K;have hn:=cc W7 A7 k7 E hat am
    try simp only[z] at hn
    exact hn
   ·have a4:Below W6 W6 (W7.alloc (.cells (TE c A7 n k7) 46)):=E.trans ((bR.alloc lR _).mono E.size)
    go_simp;refine jK J (gbox a0 a4 s6) ?_;clear J K;refine Xc (rs:=[4]) kR sP (.cons rfl (fun K J=>?_) .nil);have q1:=gbox av a4 br;have c0:=cr9 21 q1;simp at c0;have c9:=Vq q1;go_simp;refine J.out _ _ (gbox a0 a4 s6) (fun _=>?_);clear J K c0 c9 q1
    try simp only[z]
    have hn:=cc W7 A7 k7 E hat am
    try simp only[z] at hn
    exact hn
def JNewPost (g:Grp) (w:World) (e:Ending) (w':World):Prop :=
 Below w w w'/\((Gr.valid g=false/\∃n,n≠0/\e=.returned (.tuple #[.pointer none,.int .i64 n])) ∨
  (Gr.valid g/\∃B b,w.heap.size<=B/\B<=w'.heap.size/\e=.returned (.tuple #[.pointer (some ⟨b,0,none⟩),()])/\Jrns B w' b g []))
def JPost (b:Bool) (w:World) (e:Ending) (w':World):Prop:=(∃i n,e=.returned (.tuple #[.int .i64 i,.int .i64 n])/\(n=0 ↔ b))/\Below w w w'
theorem Jr.ok_bad {g:Grp} {l:List EtC} {k:Nat} (a:k<l.length) (h:Jr.postOk g (l.take k) l[k]=false):Jr.ok g l=false:=by
 have:(List.range l.length).all (fun i=>Jr.postOk g (l.take i) (l.getD i EtC.zero))=false:=by
  rw[Yb];exact⟨k,by simpa using a,by simp[a,h]⟩
 unfold Jr.ok;rw[this,Yc]
theorem b2E (g:Grp) (hg:g.At w w):Calls prog 62 #[g] w (JNewPost g w):=by
 obtain⟨W1,L,E,O,hz⟩:=nw1 w g 29;have HW:=Z1 L;have Q:=Z1 (hg.at_ E);have s1:w.heap.size<W1.heap.size:=oM;have I:=Z1 O;have a0:=Z1 hg.hel;have a9:=@ZS prog;clear L hz O hg;go_enter func62,ntmps62;go_upto_region 1 with(fail);rw[<- HW];go_wp2_with (refine Vd rfl 29 _ rfl _ rfl _ _ _ _ I VS rfl VJ ?_);refine(a5v W1 g Q.out).mono ?_;rintro e W2 ⟨rfl,hB2⟩;have i:=E.trans (hB2.mono E.size);have J:=gB I hB2 s1;have s2:w.heap.size<W2.heap.size:=Vq J;have a7:=Z1 (Q.out.at_ hB2)
 by_cases h1:Gr.valid g
 case neg =>
  have s:Gr.valid g=false:=by simpa using h1
  have X:=Z1 s;rw[s];clear h1 s;go_wp2
  go_ret2
  exact⟨i,.inl ⟨X,1,dC,rfl⟩⟩
 have X:=Z1 h1
 have a5:1<=g.en:=by
  have:=X.out;unfold Gr.valid at this;simp only[Vp,Xm] at this;have:=a0.out;omega
 rw[h1];clear h1;have hc:=Z1 (b0P W2 g a7.out a5);go_wp2_with (refine Vd rfl 29 _ rfl _ rfl _ _ _ _ J VS rfl VJ ?_);refine hc.out.mono ?_;rintro e a ⟨a6,g',rfl,he,S⟩;have o:=i.trans (a6.mono i.size);have He:=Z1 he;have a4:=Z1 S;have a8:=o.size;clear he S;go_wp2
 go_ret2
 have a1:Below w w (a.alloc (.map #[] 0)):=o.alloc a8 _;have a2:=a1.alloc a1.size (.map #[] 0);have a3:=a2.alloc a2.size (.cells #[.string g'.cur,g'.Y,g'.M,g'.N,.slice g'.cA g'.cn g'.cc,g'.r0,g'.r1,g'.r2,g'.r3,g'.r4,g'.r5,g'.r6,g'.r7,g'.r8,g'.r9,g'.r10,g'.r11,g'.r12,g'.r13,g'.r14,.slice g'.eA g'.en g'.ec,.slice none 0 0,.map (some a),.map (some (a.heap.size+1))] 205);have T:(a.alloc (.map #[] 0)).heap.size=a.heap.size+1:=sP;have W:((a.alloc (.map #[] 0)).alloc (.map #[] 0)).heap.size=a.heap.size+2:=sP;have m2:=MapAt.made (a.alloc (.map #[] 0)) prog 3;rw[T] at m2;have m1:=(MapAt.made a prog 3).alloc (.map #[] 0);have r3:=Vh ((a.alloc (.map #[] 0)).alloc (.map #[] 0)) (.cells #[.string g'.cur,g'.Y,g'.M,g'.N,.slice g'.cA g'.cn g'.cc,g'.r0,g'.r1,g'.r2,g'.r3,g'.r4,g'.r5,g'.r6,g'.r7,g'.r8,g'.r9,g'.r10,g'.r11,g'.r12,g'.r13,g'.r14,.slice g'.eA g'.en g'.ec,.slice none 0 0,.map (some a),.map (some (a.heap.size+1))] 205);rw[W] at r3
 have b3:Below a a (((a.alloc (.map #[] 0)).alloc (.map #[] 0)).alloc (.cells #[.string g'.cur,g'.Y,g'.M,g'.N,.slice g'.cA g'.cn g'.cc,g'.r0,g'.r1,g'.r2,g'.r3,g'.r4,g'.r5,g'.r6,g'.r7,g'.r8,g'.r9,g'.r10,g'.r11,g'.r12,g'.r13,g'.r14,.slice g'.eA g'.en g'.ec,.slice none 0 0,.map (some a),.map (some (a.heap.size+1))] 205)) :=
  ((bR.alloc lR _).alloc sP _).alloc sO _
 have hJ:Jrns a (((a.alloc (.map #[] 0)).alloc (.map #[] 0)).alloc (.cells #[.string g'.cur,g'.Y,g'.M,g'.N,.slice g'.cA g'.cn g'.cc,g'.r0,g'.r1,g'.r2,g'.r3,g'.r4,g'.r5,g'.r6,g'.r7,g'.r8,g'.r9,g'.r10,g'.r11,g'.r12,g'.r13,g'.r14,.slice g'.eA g'.en g'.ec,.slice none 0 0,.map (some a),.map (some (a.heap.size+1))] 205)) (a.heap.size+2) g [] :=
  ⟨g',[],none,0,a,a.heap.size+1,_,_,{ hb:=r3,he:=He,hg:=a4.below b3 lR,hBb:=oM,hB1:=Yh _,hB2:=oM,hne:=oM,hq:=rfl,ho:=Xp _ _ _ _,hx:=fun x hx=>(nomatch hx),h1:=m1.alloc _,h2:=m2.alloc _,hf1:=fun x=>rfl,hf2:=fun x=>rfl,hw:=fun x hx=>(nomatch hx) }⟩
 exact⟨a3,.inr ⟨X,a,a.heap.size+2,oM,b3.size,rfl,hJ⟩⟩
theorem a4L (g:Grp) (A:OA) (n c:Nat) (l:List Etr) (hg:g.At w w) (hl:l.length=n) (hn:n<=61) (hA:RowsAt Etr.cells 7 w w A l) (hx:∀x∈l,x.At w w) :
  Calls prog 30 #[g,.slice A n c] w (JPost (Jr.ok g (l.map (·.c))) w):=by
 obtain⟨W1,af,W,ah,hz⟩:=nw1 w g 29;have HW:=Z1 af;have au:=Z1 (hg.at_ W);have s1:w.heap.size<W1.heap.size:=oM;obtain⟨an,HA,HX,Hl⟩:=Z4 ah hA hx hl;clear af hz ah hg hA hx hl;go_enter func30,ntmps30;go_upto_region 1 with(fail);rw[<- HW];go_wp2_with (refine Vd rfl 29 _ rfl _ rfl _ _ _ _ an VS rfl VJ ?_);refine(b2E W1 g au.out).mono ?_;rintro e W2 ⟨aa,h⟩;have s:=W.trans (aa.mono W.size)
 rcases h with⟨hv,m,S,rfl⟩|⟨hv,B,b,ax,ad,rfl,hj⟩
 ·have k1:(m != 0):=by simp[S]
  have Hm:=Z1 S;have HV:Hid (Jr.ok g (l.map (·.c))=false):=by show _=_;unfold Jr.ok;rw[hv];rfl
  clear hv S;go_wp2
  go_ret2
  exact⟨⟨0,m,rfl,by simp[Hm.out,HV.out]⟩,s⟩
 have HV:Hid (Jr.ok g (l.map (·.c))=(List.range (l.map (·.c)).length).all (fun i=>Jr.postOk g ((l.map (·.c)).take i) ((l.map (·.c)).getD i EtC.zero))):=by show _=_;unfold Jr.ok;rw[hv];rfl
 have HJ:=Z1 hj;have a9:=Z1 s;have ae:w.heap.size<=B:=oM;clear hv hj;go_upto_region 4 with(fail);go_wp2
 go_loopw [21] (fun i wr=>∃k:Nat,k<=n/\i=k/\Jrns B wr b g ((l.map (·.c)).take k)/\(List.range k).all (fun i=>Jr.postOk g ((l.map (·.c)).take i) ((l.map (·.c)).getD i EtC.zero))/\Below w w wr/\B<=wr.heap.size) (fun i _=>n-(intOf i).toNat)
 case atStart=>exact⟨0,Vb _,rfl,HJ,rfl,a9,ad⟩
 case round =>
  obtain⟨k,hk,rfl,hj,a,hb,ar⟩:=hrel;have al:=Z1 hj;have L:=Z1 a;clear hj a ad aa s
  by_cases b0:k<n
  case neg =>
   obtain rfl:k=n:=oM;have a:=L.out;rw[show k=(l.map (·.c)).length by rw[Xt];exact Hl.symm] at a;have HF:Hid (Jr.ok g (l.map (·.c))):=by show _=_;rw[HV];exact a
   clear a;go_wp2
   go_ret2
   exact⟨⟨0,0,rfl,by simp[HF.out]⟩,hb⟩
  have a0:k<l.length:=by have:=Hl.out;omega
  have a4:k<(l.map (·.c)).length:=by rw[Xt];exact a0
  obtain⟨bq,oq,rfl,ay,hr⟩:=RowsAt.look (RowsAt.below HA hb lR) a0;have a8:=HX.out l[k] (Vm a0);obtain⟨x,a7⟩:=eX (l[k]);have J:(l.map (·.c))[k]=x.c:=by rw[a7];simp
  have O:=Z1 (fun h=>Jr.ok_bad (g:=g) a4 h);have aq:Hid ((l.map (·.c)).take (k+1)=(l.map (·.c)).take k++[x.c]):=by show _=_;rw[tse a4,J]
  have T:Hid (Jr.postOk g ((l.map (·.c)).take k) x.c->(List.range (k+1)).all (fun i=>Jr.postOk g ((l.map (·.c)).take i) ((l.map (·.c)).getD i EtC.zero))):=Z1 fun h =>
   Gr.range_all L (by rw[List.getD_eq_getElem?_getD,List.getElem?_eq_getElem a4,J];exact h)
  rw[<- a7] at hr a8;rw[J] at O;have Hr:=Z1 hr;have az:bq<wr.heap.size:=by have:=hb.size;omega
  have av:((l.map (·.c)).take k).length<=100:=by rw[XF];omega
  obtain⟨o,xA,xn,xk⟩:=x;obtain⟨Wa,ag,I,a6,aw⟩:=nw1 wr (TE o xA xn xk) 46;have am:=Z1 ag;have aj:=hb.trans (I.mono hb.size);have a5:=Z1 (b2c Wa B b g ((l.map (·.c)).take k) o xA xn xk (al.below I ar) (by have:=I.size;omega) ((a8.below aj lR).more ae) av);have ap:=Z1 a6;have sa:wr.heap.size<Wa.heap.size:=Vq a6;have ao:Hid (wr.rangeAt bq (oq+k*7) [o.id,o.ent,o.date,o.kind,o.of_,.string o.text,.slice xA xn xk]):=Hr;clear hr a7 J a8 ag a6 aw;go_upto_region 7 with(refine VH rfl 46 (.tmp 24) rfl bq (oq+k*7) rfl [o.id,o.ent,o.date,o.kind,o.of_,.string o.text,.slice xA xn xk] _ ao X0 rfl a0v ?_);rw[<- am];go_wp2_with (refine Vd rfl 46 _ rfl _ rfl _ _ _ _ ap X0 rfl a0v ?_);refine a5.out.mono ?_;rintro e W5 ⟨ab,m,rfl,S,X⟩;have ai:=aj.trans (ab.mono ae);have ac:B<=W5.heap.size:=by have:=ab.size;have:=I.size;omega
  by_cases Q:m=0
  ·have k1:(m != 0)=false:=by simp[Q]
   have E:=X Q;rw[<- aq] at E;have ak:=Z1 E;have HN:=Z1 (T (S.1 Q));clear X E Q S;go_wp2;go_roundw
   case rel=>exact⟨k+1,oM,by go_num,ak,HN,ai,ac⟩
   case measure=>exact mS
  ·have k1:(m != 0):=by simp[Q]
   have HF:=Z1 (O (by cases hq:Jr.postOk g ((l.map (·.c)).take k) o;rfl;exact absurd (S.2 hq) Q));have Hm:=Z1 Q;clear X Q S;go_wp2
   go_ret2
   exact⟨⟨k,m,rfl,by simp[Hm.out,HF.out]⟩,ai⟩
end Go.Proofs.YtbhdekahdnenjaaGreatDoor
namespace Go.Proofs.YtbhdekahdnenjaaGreatDoor
open Go.Proofs.Tryz Go.RowKit Go.Maps
variable (w:World)
abbrev HldsAt:=RowsAt Hld.cells 4
def Hld.wf (x:Hld):Prop:=(Lit.int .i64 x.hdr).wf/\(Lit.int .i64 x.ent).wf/\(Lit.int .i64 x.date).wf/\(Lit.int .i64 x.shr).wf
structure Bks.At (w:World) (B:Nat) (b:Bks):Prop where
 hg:b.g.At w B
 hel:b.ents.length=b.en
 hen:b.en<=61
 hE:RowsAt Etr.cells 7 w B b.eA b.ents
 hEx:∀x∈b.ents,x.At w B
 hrl:b.rates.length=b.rn
 hrn:b.rn<=300
 hR:RatesAt w B b.rA b.rates
 hRw:∀r∈b.rates,r.wf
 hhl:b.holds.length=b.hn
 hhn:b.hn<=30
 hH:HldsAt w B b.hA b.holds
 hHw:∀x∈b.holds,x.wf
theorem Bks.At.below {w w':World} {B C:Nat} {b:Bks} (h:b.At w B) (i:Below C w w') (a:B<=C):b.At w' B :=
 ⟨h.hg.below i a,h.hel,h.hen,RowsAt.below h.hE i a,fun x o=>(h.hEx x o).below i a,h.hrl,h.hrn,h.hR.below i a,h.hRw,h.hhl,h.hhn,RowsAt.below h.hH i a,h.hHw⟩
theorem Bks.At.more {w:World} {B C:Nat} {b:Bks} (h:b.At w B) (a:B<=C):b.At w C :=
 ⟨h.hg.more a,h.hel,h.hen,RowsAt.more h.hE a,fun x i=>(h.hEx x i).more a,h.hrl,h.hrn,h.hR.more a,h.hRw,h.hhl,h.hhn,RowsAt.more h.hH a,h.hHw⟩
theorem Bks.At.at_ {w w':World} {b:Bks} (h:b.At w w) (a:Below w w w'):b.At w' w'.heap.size:=(h.below a lR).more a.size
theorem momLaw:Maps.Keyed prog 317:=Kx (deep_law_laid laidOut (m:=2) oM (YZ kR) kR kR)
theorem momKey (a b:Int) (J:(Lit.int .i64 a).wf) (L:(Lit.int .i64 b).wf):∃kl,keyOf prog 317 (.agg #[.int .i64 a,.int .i64 b])=some kl:=by
 unfold keyOf;rw[KV];have s:prog.keyType 317:=kR;have i:prog.cellsOf 317=2:=kR
 have E:(Value.agg #[.int .i64 a,.int .i64 b]).formed prog 317:=by
  simp[Value.formed,KV,i]
 simp only[s,E,Qm,if_true];have I:∃n,prog.types.size=n+1:=⟨prog.types.size-1,by have:0<prog.types.size:=YZ kR;omega⟩;obtain⟨n,O⟩:=I;rw[O];have o:prog.cellsOf 3=1:=kR;simp[Program.keyLits,KV,YM,Value.cells,o,i,J,L]
theorem b0t:(prog.info? 317).map (·.size)=some 2:=kR
theorem b0Q:(prog.info? 319).map (·.size)=some 2:=kR
theorem Cal.perV_wf {Y M N d:Int} (h:Cal.ok Y M N):(Lit.int .i64 (Cal.perV Y M N d)).wf:=by
 have a:=Cal.per_range Y M N d;have i:=(Cal.ok_iff Y M N).1 h;unfold Cal.perV
 split <;> simp[Lit.wf,IntKind.min,IntKind.max,IntKind.signed,IntKind.bits] <;> omega
def Tr.keyed (b:Bks) (cur:BA) (bs d:Int):Int × Int:=if bs=2 then Rates.avgG b.g b.rates cur d else Rates.spotG b.g b.rates cur d
def Tr.kdate (b:Bks) (la bs d:Int):Int:=if bs=1 then la else if bs=2 then Cal.perV b.g.Y b.g.M b.g.N d else d
theorem Tr.look_keyed {b:Bks} {cur:BA} {la bs d:Int} (h:cur≠b.g.cur):Tr.look b cur la bs d=Tr.keyed b cur bs (Tr.kdate b la bs d):=by
 unfold Tr.look Tr.keyed Tr.kdate;rw[VB h]
 by_cases a:bs=2
 ·subst a;simp
 ·rw[VB a,VB a,VB a]
structure Desk (B:Nat) (w:World) (bd mk nk:Nat) (b:Bks) (e:Nat) (p la:Int) (cur:ByteArray) (cv:Bool) (f:Value->Option Value):Prop where
 hb:w.heap[bd]?=some (.cells #[.string b.g.cur,.int .i64 b.g.Y,.int .i64 b.g.M,.int .i64 b.g.N,.slice b.g.cA b.g.cn b.g.cc,.int .i64 b.g.r0,.int .i64 b.g.r1,.int .i64 b.g.r2,.int .i64 b.g.r3,.int .i64 b.g.r4,.int .i64 b.g.r5,.int .i64 b.g.r6,.int .i64 b.g.r7,.int .i64 b.g.r8,.int .i64 b.g.r9,.int .i64 b.g.r10,.int .i64 b.g.r11,.int .i64 b.g.r12,.int .i64 b.g.r13,.int .i64 b.g.r14,.slice b.g.eA b.g.en b.g.ec,.slice b.eA b.en b.ec,.slice b.rA b.rn b.rc,.slice b.hA b.hn b.hc,b.m0,b.m1,b.m2,.int .i64 e,.int .i64 p,.int .i64 la,.map (some mk),.string cur,.bool cv] 172 (0,0))
 hB1:B<=bd
 hB2:B<=mk
 hm:MapAt w prog 317 mk nk f
 hf:∀bs d v,f (.agg #[.int .i64 bs,.int .i64 d])=some v->v=.agg #[.int .i64 (Tr.keyed b cur bs d).1,.int .i64 (Tr.keyed b cur bs d).2]
def Desks (B:Nat) (w:World) (bd mk nk:Nat) (b:Bks) (e:Nat) (p la:Int) (cur:BA) (cv:Bool):Prop:=∃f,Desk B w bd mk nk b e p la cur cv f
structure Kp (B mk:Nat) (w w':World):Prop where
 b:Below B w w'
 k:KeepBut w (some mk) w w'
theorem Kp.of {B mk:Nat} {w w':World} (h:Below w w w') (a:B<=w):Kp B mk w w':=⟨h.mono a,KeepBut.of_below h lR⟩
theorem Kp.trans {B mk:Nat} {w w' a:World} (h:Kp B mk w w') (k:Kp B mk w' a):Kp B mk w a :=
 ⟨h.b.trans k.b,fun i o s=>(k.k i (Xg o h.b.size) s).trans (h.k i o s)⟩
theorem Kp.grown {B mk:Nat} {w w':World} (h:w.grownBy w' (some mk)) (a:B<=w) (s:B<=mk):Kp B mk w w' :=
 ⟨bR.grown h a (fun j q=>by cases q;exact s),fun i o E=>h.block i o E⟩
theorem Kp.box {B mk i:Nat} {w w':World} {o:Obj} (h:Kp B mk w w') (a:w.heap[i]?=some o) (s:i≠mk):w'.heap[i]?=some o:=(h.k i (Array.getElem?_eq_some_iff.1 a).1 (by simpa using s)).trans a
section
variable {B bd mk nk e:Nat} {w w':World} {b:Bks} {p la:Int} {cur:ByteArray} {cv:Bool}
theorem Desk.below {f:Value->Option Value} (h:Desk B w bd mk nk b e p la cur cv f) (a:Below w w w'):Desk B w' bd mk nk b e p la cur cv f :=
 ⟨gbox h.hb a (Vq h.hb),h.hB1,h.hB2,h.hm.below a h.hm.lt,h.hf⟩
theorem Desks.below (h:Desks B w bd mk nk b e p la cur cv) (a:Below w w w'):Desks B w' bd mk nk b e p la cur cv:=by
 obtain⟨f,h⟩:=h;exact⟨f,gbox h.hb a (Vq h.hb),h.hB1,h.hB2,h.hm.below a h.hm.lt,h.hf⟩
theorem Desks.mono (h:Desks B w bd mk nk b e p la cur cv) {a:Nat} (i:nk<=a):Desks B w bd mk a b e p la cur cv:=by
 obtain⟨f,h⟩:=h;exact⟨f,h.hb,h.hB1,h.hB2,h.hm.mono i,h.hf⟩
end
open Classical in
theorem b3f {B bd mk nk e:Nat} {w w':World} {b:Bks} {p la:Int} {cur:BA} {cv:Bool} {f:Value->Option Value} (h:Desk B w bd mk nk b e p la cur cv f) {bs d:Int}
  (o:MapAt w' prog 317 mk (nk+1) (fun v=>if v=.agg #[.int .i64 bs,.int .i64 d] then some (.agg #[.int .i64 (Tr.keyed b cur bs d).1,.int .i64 (Tr.keyed b cur bs d).2]) else f v)) (i:w.grownBy w' (some mk)):Desks B w' bd mk (nk+1) b e p la cur cv:=by
 refine⟨_,(i.block bd (Vq h.hb) (fun q=>a0u h.hm h.hb (XV q).symm)).trans h.hb,h.hB1,h.hB2,o,fun x y v hv=>?_⟩
 revert hv
 show(if _ then _ else _:Option Value)=_->_
 by_cases a:(Value.agg #[.int .i64 x,.int .i64 y])=.agg #[.int .i64 bs,.int .i64 d]
 ·rw[Vt a]
  simp only[Value.agg.injEq,Array.mk.injEq,List.cons.injEq,Value.int.injEq,Jl,KF] at a;obtain⟨rfl,rfl⟩:=a;intro hv;cases hv;rfl
 ·rw[VB a];exact h.hf x y v
def LookPost (B bd mk nk:Nat) (b:Bks) (e:Nat) (p la:Int) (cur:BA) (cv:Bool) (r:Int × Int) (w:World) (a:Ending) (w':World):Prop :=
 Kp B mk w w'/\a=.returned (.tuple #[.int .i64 r.1,.int .i64 r.2])/\Desks B w' bd mk nk b e p la cur cv
theorem a7x {b:Bks} {a i o s E I:Value} {j:Nat} {v:Value} (J:(b.g:List Value)[j]?=some v):(#[.string b.g.cur,.int .i64 b.g.Y,.int .i64 b.g.M,.int .i64 b.g.N,.slice b.g.cA b.g.cn b.g.cc,.int .i64 b.g.r0,.int .i64 b.g.r1,.int .i64 b.g.r2,.int .i64 b.g.r3,.int .i64 b.g.r4,.int .i64 b.g.r5,.int .i64 b.g.r6,.int .i64 b.g.r7,.int .i64 b.g.r8,.int .i64 b.g.r9,.int .i64 b.g.r10,.int .i64 b.g.r11,.int .i64 b.g.r12,.int .i64 b.g.r13,.int .i64 b.g.r14,.slice b.g.eA b.g.en b.g.ec,.slice b.eA b.en b.ec,.slice b.rA b.rn b.rc,.slice b.hA b.hn b.hc,b.m0,b.m1,b.m2,a,i,o,s,E,I]:AV)[j]?=some v:=by
 have L:j<21:=by have:=(List.getElem?_eq_some_iff.1 J).1;simpa using this
 have:(#[.string b.g.cur,.int .i64 b.g.Y,.int .i64 b.g.M,.int .i64 b.g.N,.slice b.g.cA b.g.cn b.g.cc,.int .i64 b.g.r0,.int .i64 b.g.r1,.int .i64 b.g.r2,.int .i64 b.g.r3,.int .i64 b.g.r4,.int .i64 b.g.r5,.int .i64 b.g.r6,.int .i64 b.g.r7,.int .i64 b.g.r8,.int .i64 b.g.r9,.int .i64 b.g.r10,.int .i64 b.g.r11,.int .i64 b.g.r12,.int .i64 b.g.r13,.int .i64 b.g.r14,.slice b.g.eA b.g.en b.g.ec,.slice b.eA b.en b.ec,.slice b.rA b.rn b.rc,.slice b.hA b.hn b.hc,b.m0,b.m1,b.m2,a,i,o,s,E,I]:AV)=(b.g++#[.slice b.eA b.en b.ec,.slice b.rA b.rn b.rc,.slice b.hA b.hn b.hc,b.m0,b.m1,b.m2,a,i,o,s,E,I]:AV):=rfl;rw[this,Array.getElem?_append_left (by simpa using L)];simpa using J
theorem b2y (B bd mk nk:Nat) (b:Bks) (e:Nat) (p la:Int) (cur:BA) (cv:Bool) (bs d:Int) (hd:Desks B w bd mk nk b e p la cur cv) (aw:cv=decide (cur≠b.g.cur)) (hB:B<=w) (hb:b.At w B) (bq:Cal.ok b.g.Y b.g.M b.g.N)
  (bk:cur.size<=maxLen) (ca:(Lit.int .i64 bs).wf) (cb:(Lit.int .i64 d).wf) (cc:(Lit.int .i64 la).wf) (hn:nk<=100000) :
  Calls prog 198 #[.pointer (some ⟨bd,0,none⟩),.int .i64 bs,.int .i64 d] w (LookPost B bd mk (nk+1) b e p la cur cv (Tr.look b cur la bs d) w):=by
 obtain⟨f,hd⟩:=hd;have Hd:=Z1 hd;have bz:=cr9 32 hd.hb;simp at bz;have sd:bd<w:=Vq hd.hb;clear hd;go_enter func198,ntmps198
 by_cases hc:cur=b.g.cur
 ·have ao:cv=false:=by rw[aw];simp[hc]
  have HV:Hid (Tr.look b cur la bs d=(1000000,0)):=by show _=_;unfold Tr.look;rw[Vt hc]
  have HD:=Z1 (Desks.mono ⟨f,Hd⟩ (J8 _));subst ao;clear aw hc;go_wp2
  go_ret2
  exact⟨Kp.of bR hB,by rw[HV];rfl,HD⟩
 have ao:cv:=by rw[aw];simp[hc]
 have HV:Hid (Tr.look b cur la bs d=Tr.keyed b cur bs (Tr.kdate b la bs d)):=Tr.look_keyed hc;have HK:Hid (Tr.kdate b la bs d=if bs=1 then la else if bs=2 then Cal.perV b.g.Y b.g.M b.g.N d else d):=rfl;subst ao;clear aw hc;obtain⟨W1,bh,al,az,ce⟩:=nw1 w #[.int .i64 bs,.int .i64 d] 317;have c4:=Z1 bh;have b8:=Z1 az;have s1:(w:Nat)<W1:=oM;have ap:=gbox Hd.hb al sd;have bx:=cr9 29 ap;have z1:=cr9 1 ap;have z2:=cr9 2 ap;have z3:=cr9 3 ap;simp at bx z1 z2 z3;have co:bd<W1:=oM;have k1:=cr9 1 az;have kf:=fun j=>fr0 j az;simp at k1;clear bh ap az ce;go_upto_region 4 with(fail);rw[<- c4]
 by_cases h1:bs=1
 focus
  have b1:(bs==1):=by simp[h1]
  have b2:(bs==2)=false:=by simp[h1]
  obtain⟨I,O⟩:=eX la;have av:Hid (Tr.kdate b la bs d=I):=by show _=_;rw[HK,O];rw[Vt h1]
  have bc:Hid ((Lit.int .i64 I).wf):=by show _=_;rw[O];exact cc
  have ac:Below w w (W1.setCell ⟨w,1,none⟩ (.int .i64 la)):=al.setCell (p:=⟨w,1,none⟩) lR _;have ab:(W1.setCell ⟨w,1,none⟩ (.int .i64 la)).heap[w.heap.size]?=some (.cells #[.int .i64 bs,.int .i64 I] 317 (0,0)):=by rw[O];exact Xh W1 w.heap.size 1 _ _ (.int .i64 la) b8
  obtain⟨W2,a4⟩:=eX ((W1.setCell ⟨w,1,none⟩ (.int .i64 la)));rw[<- a4] at ac ab;have ak:=Z1 a4;clear a4 O;clear h1;go_upto_region 9 with(fail);rw[<- ak]
 rotate_left;have B1:(bs==1)=false:=by simp[h1]
 by_cases h2:bs=2
 focus
  have b2:(bs==2):=by simp[h2]
  go_upto_region 8 with(fail);go_wp2_with (fail);refine(a4j b.g.Y b.g.M b.g.N d W1 bq).mono ?_;rintro ev W1' ⟨rfl,ba⟩;obtain⟨pe,br⟩:=eX (Cal.perE b.g.Y b.g.M b.g.N d);obtain⟨pv,b0⟩:=eX (Cal.perV b.g.Y b.g.M b.g.N d);rw[<- br,<- b0];clear br;have aa:=gbox b8 ba s1;have cj:(w:Nat)<W1':=Vq aa;have bw:=cr9 1 aa;have ch:=fun j=>fr0 j aa;simp at bw;obtain⟨I,O⟩:=eX pv;have av:Hid (Tr.kdate b la bs d=I):=by show _=_;rw[HK,O];rw[VB h1,Vt h2,b0]
  have bc:Hid ((Lit.int .i64 I).wf):=by show _=_;rw[O];rw[b0];exact Cal.perV_wf bq
  have ac:Below w w (W1'.setCell ⟨w,1,none⟩ (.int .i64 pv)):=(al.trans (ba.mono al.size)).setCell (p:=⟨w,1,none⟩) lR _;have ab:(W1'.setCell ⟨w,1,none⟩ (.int .i64 pv)).heap[w.heap.size]?=some (.cells #[.int .i64 bs,.int .i64 I] 317 (0,0)):=by rw[O];exact Xh W1' w.heap.size 1 _ _ (.int .i64 pv) aa
  obtain⟨W2,a4⟩:=eX ((W1'.setCell ⟨w,1,none⟩ (.int .i64 pv)));rw[<- a4] at ac ab;have ak:=Z1 a4;clear a4 O;clear h1 h2 ba aa b0;go_upto_region 9 with(fail);rw[<- ak];clear bw ch
 rotate_left
 focus
  have b1:(bs==1)=false:=by simp[h1]
  have b2:(bs==2)=false:=by simp[h2]
  obtain⟨I,O⟩:=eX d;have av:Hid (Tr.kdate b la bs d=I):=by show _=_;rw[HK,O];rw[VB h1,VB h2]
  have bc:Hid ((Lit.int .i64 I).wf):=by show _=_;rw[O];exact cb
  have ac:Below w w W1:=al;have ab:W1.heap[w.heap.size]?=some (.cells #[.int .i64 bs,.int .i64 I] 317 (0,0)):=by rw[O];exact b8
  obtain⟨W2,a4⟩:=eX W1;rw[<- a4] at ac ab;have ak:=Z1 a4;clear a4 O;clear h1 h2;go_upto_region 9 with(fail);rw[<- ak]
 all_goals
  obtain⟨ag,o,aj⟩:=Z3 ab (Hd.below ac) ac;have s2:(w:Nat)<W2:=Vq ab;have T:bd<W2:=Vq o.hb;have b4:B<=W2:=oM;clear k1 kf bx z1 z2 z3 ab bz;obtain⟨kl,bn⟩:=momKey bs I ca bc.out;have hz:∀W,(zeroValue 319).run prog W=.ok (.agg #[.int .i64 0,.int .i64 0]) W:=fun W=>kR;obtain⟨fv,bl⟩:=eX (f (.agg #[.int .i64 bs,.int .i64 I]));have b7:=Z1 bl;clear bl
  have bu:Hid (∃a1 a2:Int,(fv.getD (.agg #[.int .i64 0,.int .i64 0]))=.agg #[.int .i64 a1,.int .i64 a2]):=by
   show∃_ _,_
   cases hq:fv with
   |none=>exact⟨0,0,rfl⟩
   |some v=>exact⟨_,_,o.hf bs I v (by rw[<- b7,hq])⟩
  obtain⟨a1,a2,ha⟩:=bu.out
  have bo:∀W',Below W2 W2 W'->(Instr.lookup 170 (.map (some mk)) (.agg #[.int .i64 bs,.int .i64 I]) true).run prog W'=.ok (.tuple #[.agg #[.int .i64 a1,.int .i64 a2],.bool fv.isSome]) W':=fun W' c8=>by
   rw[MapAt.lookOk (o.below c8).hm momLaw underlying170 (hz W') bn,<- b7,ha]
  have c5:=Z1 bo;clear bo hz bu;have a:Below W2 W2 W2.drew:=Vw bR 1;refine Vs (S:=Below W2 W2) kR ?_;change wpAnyH _ _ _ _ _ _ _ _ (World.drew W2);obtain⟨W_0,L⟩:=eX W2.drew;rw[<- L] at a⊢;clear L;refine jT 0 a ?_;refine jT 1 a ?_;refine jT 2 a ?_;refine jT 3 a ?_ (v:=.map (some mk)) (hy:=(.inl ⟨by rfl,fun W' i=>by have Q:=cr9 30 (gbox o.hb i T);simp at Q;have c9:=Vq (gbox o.hb i T);go_simp⟩));refine jT 4 a ?_ (v:=.agg #[.int .i64 bs,.int .i64 I]) (hy:=(Vf (by rfl) 317 _ rfl w.heap.size 0 rfl [.int .i64 bs,.int .i64 I] _ (fun W' i=>Xq (gbox ag i s2)) KV rfl b0t));refine jT 5 a ?_ (v:=.tuple #[.agg #[.int .i64 a1,.int .i64 a2],.bool fv.isSome]) (hy:=(.inl ⟨by rfl,fun W' i=>by have hl:=c5.out W' i;go_simp⟩));refine jT 6 a ?_;refine jT 7 a ?_;refine jT 8 a ?_ (v:=.bool fv.isSome);refine rZ 9 fun K J=>?_;obtain⟨W3,bi,bg,be,cg⟩:=nw1 W_0 #[.int .i64 0,.int .i64 0] 319;go_simp;rw[<- bi];clear bi;have bb:=a.trans (bg.mono a.size);refine jK J bb ?_;clear J K;refine rZ 10 fun K J=>?_;rw[Vt (by rfl)];refine VQ 319 _ _ none rfl rfl W_0.heap.size 319 _ #[.int .i64 a1,.int .i64 a2] rfl rfl be rfl b0Q oC ?_;have ai:=below_setRow bb (show(W2:Nat)<=W_0 from a.size) #[.int .i64 a1,.int .i64 a2];have au:=VC W3 W_0 _ #[.int .i64 a1,.int .i64 a2] _ _ be;refine jK J ai ?_;clear J K;refine rZ 11 fun K J=>?_;go_simp;refine jK J ai ?_;clear J K;refine VF kR ?_ _
  try simp only[z]
  obtain⟨W4,bj⟩:=eX (W3.setRow W_0 #[.int .i64 a1,.int .i64 a2]);have ar:(W2:Nat)<=W_0:=a.size;rw[<- bj] at ai au⊢;clear bj a bb bg be cg;obtain⟨q9,bt⟩:=eX W_0.heap.size;rw[<- bt] at au ar⊢;clear bt;have b6:=Z1 ai;have ah:=Z1 au;have s9:q9<W4:=Vq au;have bf:=bT aj ai;clear au ai
  cases ay:fv.isSome with
  |true =>
   obtain⟨v,hv⟩:=Option.isSome_iff_exists.1 ay;have bv:=o.out.hf bs I v (by rw[<- b7,hv])
   have HR:Hid (Tr.look b cur la bs d=(a1,a2)):=by
    show _=_;rw[HV,av];rw[hv,JB] at ha;rw[bv] at ha;simp only[Value.agg.injEq,Array.mk.injEq,List.cons.injEq,Value.int.injEq,Jl,KF] at ha;exact Prod.ext ha.1 ha.2
   have HD:=Z1 (Desks.mono ⟨f,o.below b6⟩ (J8 nk));have Q:=cr9 0 ah;have c1:=cr9 1 ah;simp at Q c1;clear hv bv ha ay;go_upto_region 15 with(fail);go_quiet (fail);go_wp2
   go_ret2
   exact⟨Kp.of (Vw bf _) hB,by rw[HR];rfl,HD.below (Vw bR _)⟩
  |false =>
  have ci:Hid (fv=none):=by show _=_;cases fv with
   |none=>rfl
   |some v=>cases ay
  clear ay ha
  by_cases h2:bs=2
  try any_goals (exfalso;simp[h2] at b2;done)
  all_goals
   first
   |guard_hyp h2:bs=2
    have b3:(bs==2):=by simp[h2]
    go_upto_region 12 with(fail);have a:Below W2 W2 W4.drew:=Vw b6 1;refine Vs (S:=Below W2 W2) kR ?_;change wpAnyH _ _ _ _ _ _ _ _ (World.drew W4);obtain⟨W_1,L⟩:=eX W4.drew;have X:Below W4 W4 W_1:=by rw[L];exact Vw bR 1
    rw[<- L] at a⊢;clear L;refine jT 0 a ?_;refine jT 1 a ?_;refine jT 2 a ?_;refine jT 3 a ?_;refine jT 4 a ?_ (v:=b.g) (hy:=(Vf (by rfl) 29 _ rfl bd 0 rfl b.g _ (fun W' i=>fun j v hj=>by have:=cr9 j (gbox o.hb i T);rw[VN,this];exact a7x hj) VS rfl VJ));refine jT 5 a ?_;refine jT 6 a ?_;refine jT 7 a ?_;refine jT 8 a ?_;refine jT 9 a ?_ (v:=.slice b.rA b.rn b.rc) (hy:=(.inl ⟨by rfl,fun W' i=>by have Q:=cr9 22 (gbox o.hb i T);simp at Q;have c9:=Vq (gbox o.hb i T);go_simp⟩));refine jT 10 a ?_;refine jT 11 a ?_;refine jT 12 a ?_;refine jT 13 a ?_ (v:=.string cur) (hy:=(.inl ⟨by rfl,fun W' i=>by have Q:=cr9 31 (gbox o.hb i T);simp at Q;have c9:=Vq (gbox o.hb i T);go_simp⟩));refine jT 14 a ?_;refine jT 15 a ?_ (v:=.int .i64 I) (hy:=(.inl ⟨by rfl,fun W' i=>by have Q:=cr9 1 (gbox ag i s2);simp at Q;have c9:=Vq (gbox ag i s2);go_simp⟩));refine rZ 16 fun K J=>?_;have a5:=(hb.below ((aj.mono hB).trans (a.mono b4)) lR).more (show B<=W_1 by have:=a.size;omega);have HC:=Z1 (b3n W_1 b.g b.rA b.rn b.rc b.rates cur I a5.hrl (by have:=a5.hrn;omega) a5.hg.hn bk a5.hRw a5.hR);go_simp;refine HC.mono ?_;rintro ev W5 ⟨rfl,ad⟩;obtain⟨r,hr⟩:=eX (Rates.avgG b.g b.rates cur I);rw[<- hr];have Hr:=Z1 hr;clear hr;have s:=a.trans (ad.mono a.size);have a6:=gbox (gbox ah X s9) ad (Vq (gbox ah X s9));refine jK J s ?_;clear J K;refine jT 17 s ?_;refine jT 18 s ?_;refine jT 19 s ?_;refine jT 20 s ?_;refine rZ 21 fun K J=>?_;have Q:=cr9 0 a6;simp at Q;have cf:=fun j=>fr0 j a6;have s5:=Vq a6;go_simp;have a0:=s.setCell (p:=⟨q9,0,none⟩) ar (.int .i64 r.1);have E:=Xh W5 q9 0 _ _ (.int .i64 r.1) a6;simp at E;refine jK J a0 ?_;clear J K;obtain⟨W6,am⟩:=eX (W5.setCell ⟨q9,0,none⟩ (.int .i64 r.1));rw[<- am] at a0 E⊢;clear am Q cf s5;refine jT 22 a0 ?_;refine rZ 23 fun K J=>?_;have c1:=cr9 1 E;simp at c1;have cf:=fun j=>fr0 j E;have s6:=Vq E;go_simp;have a7:=a0.setCell (p:=⟨q9,1,none⟩) ar (.int .i64 r.2);have a8:=Xh W6 q9 1 _ _ (.int .i64 r.2) E;simp at a8;refine jK J a7 ?_;clear J K;refine VF kR ?_ _
    try simp only[z]
    obtain⟨W7,an⟩:=eX (W6.setCell ⟨q9,1,none⟩ (.int .i64 r.2));rw[<- an] at a7 a8⊢;have b5:Hid (Tr.keyed b cur bs I=r):=by show _=_;unfold Tr.keyed;rw[Vt h2];exact Hr.symm
    have af:=Z1 a7;have b9:=Z1 a8;clear an a s a0 a7 a6 E a8 c1 cf s6 ad X h2;go_upto_region 14 with(fail)
   |have b3:(bs==2)=false:=by simp[h2]
    go_upto_region 13 with(fail);have a:Below W2 W2 W4.drew:=Vw b6 1;refine Vs (S:=Below W2 W2) kR ?_;change wpAnyH _ _ _ _ _ _ _ _ (World.drew W4);obtain⟨W_1,L⟩:=eX W4.drew;have X:Below W4 W4 W_1:=by rw[L];exact Vw bR 1
    rw[<- L] at a⊢;clear L;refine jT 0 a ?_;refine jT 1 a ?_;refine jT 2 a ?_;refine jT 3 a ?_;refine jT 4 a ?_ (v:=b.g) (hy:=(Vf (by rfl) 29 _ rfl bd 0 rfl b.g _ (fun W' i=>fun j v hj=>by have:=cr9 j (gbox o.hb i T);rw[VN,this];exact a7x hj) VS rfl VJ));refine jT 5 a ?_;refine jT 6 a ?_;refine jT 7 a ?_;refine jT 8 a ?_;refine jT 9 a ?_ (v:=.slice b.rA b.rn b.rc) (hy:=(.inl ⟨by rfl,fun W' i=>by have Q:=cr9 22 (gbox o.hb i T);simp at Q;have c9:=Vq (gbox o.hb i T);go_simp⟩));refine jT 10 a ?_;refine jT 11 a ?_;refine jT 12 a ?_;refine jT 13 a ?_ (v:=.string cur) (hy:=(.inl ⟨by rfl,fun W' i=>by have Q:=cr9 31 (gbox o.hb i T);simp at Q;have c9:=Vq (gbox o.hb i T);go_simp⟩));refine jT 14 a ?_;refine jT 15 a ?_ (v:=.int .i64 I) (hy:=(.inl ⟨by rfl,fun W' i=>by have Q:=cr9 1 (gbox ag i s2);simp at Q;have c9:=Vq (gbox ag i s2);go_simp⟩));refine rZ 16 fun K J=>?_;have a5:=(hb.below ((aj.mono hB).trans (a.mono b4)) lR).more (show B<=W_1 by have:=a.size;omega);have HC:=Z1 (a9E W_1 b.g b.rA b.rn b.rc b.rates cur I a5.hrl (by have:=a5.hrn;omega) a5.hg.hn bk a5.hRw a5.hR);go_simp;refine HC.mono ?_;rintro ev W5 ⟨rfl,ad⟩;obtain⟨r,hr⟩:=eX (Rates.spotG b.g b.rates cur I);rw[<- hr];have Hr:=Z1 hr;clear hr;have s:=a.trans (ad.mono a.size);have a6:=gbox (gbox ah X s9) ad (Vq (gbox ah X s9));refine jK J s ?_;clear J K;refine jT 17 s ?_;refine jT 18 s ?_;refine jT 19 s ?_;refine jT 20 s ?_;refine rZ 21 fun K J=>?_;have Q:=cr9 0 a6;simp at Q;have cf:=fun j=>fr0 j a6;have s5:=Vq a6;go_simp;have a0:=s.setCell (p:=⟨q9,0,none⟩) ar (.int .i64 r.1);have E:=Xh W5 q9 0 _ _ (.int .i64 r.1) a6;simp at E;refine jK J a0 ?_;clear J K;obtain⟨W6,am⟩:=eX (W5.setCell ⟨q9,0,none⟩ (.int .i64 r.1));rw[<- am] at a0 E⊢;clear am Q cf s5;refine jT 22 a0 ?_;refine rZ 23 fun K J=>?_;have c1:=cr9 1 E;simp at c1;have cf:=fun j=>fr0 j E;have s6:=Vq E;go_simp;have a7:=a0.setCell (p:=⟨q9,1,none⟩) ar (.int .i64 r.2);have a8:=Xh W6 q9 1 _ _ (.int .i64 r.2) E;simp at a8;refine jK J a7 ?_;clear J K;refine VF kR ?_ _
    try simp only[z]
    obtain⟨W7,an⟩:=eX (W6.setCell ⟨q9,1,none⟩ (.int .i64 r.2));rw[<- an] at a7 a8⊢;have b5:Hid (Tr.keyed b cur bs I=r):=by show _=_;unfold Tr.keyed;rw[VB h2];exact Hr.symm
    have af:=Z1 a7;have b9:=Z1 a8;clear an a s a0 a7 a6 E a8 c1 cf s6 ad X h2;go_upto_region 14 with(fail)
  all_goals
   have ax:=o.out.below af;have bm:=gbox ag af s2;have ck:=Vq b9;have a:(fun W':World=>W'.heap[bd]?=some (.cells #[.string b.g.cur,.int .i64 b.g.Y,.int .i64 b.g.M,.int .i64 b.g.N,.slice b.g.cA b.g.cn b.g.cc,.int .i64 b.g.r0,.int .i64 b.g.r1,.int .i64 b.g.r2,.int .i64 b.g.r3,.int .i64 b.g.r4,.int .i64 b.g.r5,.int .i64 b.g.r6,.int .i64 b.g.r7,.int .i64 b.g.r8,.int .i64 b.g.r9,.int .i64 b.g.r10,.int .i64 b.g.r11,.int .i64 b.g.r12,.int .i64 b.g.r13,.int .i64 b.g.r14,.slice b.g.eA b.g.en b.g.ec,.slice b.eA b.en b.ec,.slice b.rA b.rn b.rc,.slice b.hA b.hn b.hc,b.m0,b.m1,b.m2,.int .i64 e,.int .i64 p,.int .i64 la,.map (some mk),.string cur,.bool true] 172 (0,0))/\W'.heap[w.heap.size]?=some (.cells #[.int .i64 bs,.int .i64 I] 317 (0,0))/\W'.heap[q9]?=some (.cells #[.int .i64 r.1,.int .i64 r.2] 319 (0,0))) W7.drew:=⟨ax.hb,bm,b9⟩;refine Vs (S:=fun W':World=>W'.heap[bd]?=some (.cells #[.string b.g.cur,.int .i64 b.g.Y,.int .i64 b.g.M,.int .i64 b.g.N,.slice b.g.cA b.g.cn b.g.cc,.int .i64 b.g.r0,.int .i64 b.g.r1,.int .i64 b.g.r2,.int .i64 b.g.r3,.int .i64 b.g.r4,.int .i64 b.g.r5,.int .i64 b.g.r6,.int .i64 b.g.r7,.int .i64 b.g.r8,.int .i64 b.g.r9,.int .i64 b.g.r10,.int .i64 b.g.r11,.int .i64 b.g.r12,.int .i64 b.g.r13,.int .i64 b.g.r14,.slice b.g.eA b.g.en b.g.ec,.slice b.eA b.en b.ec,.slice b.rA b.rn b.rc,.slice b.hA b.hn b.hc,b.m0,b.m1,b.m2,.int .i64 e,.int .i64 p,.int .i64 la,.map (some mk),.string cur,.bool true] 172 (0,0))/\W'.heap[w.heap.size]?=some (.cells #[.int .i64 bs,.int .i64 I] 317 (0,0))/\W'.heap[q9]?=some (.cells #[.int .i64 r.1,.int .i64 r.2] 319 (0,0))) kR ?_;change wpAnyH _ _ _ _ _ _ _ _ (World.drew W7);obtain⟨W_1,L⟩:=eX W7.drew;have a9:Below W7 W7 W_1:=by rw[L];exact Vw bR 1
   rw[<- L] at a⊢;clear L;refine jT 0 a ?_;refine jT 1 a ?_;refine jT 2 a ?_;refine jT 3 a ?_ (v:=.map (some mk)) (hy:=(.inl ⟨by rfl,fun W' i=>by have Q:=cr9 30 i.1;simp at Q;have c9:=Vq i.1;go_simp⟩));refine jT 4 a ?_ (v:=.agg #[.int .i64 bs,.int .i64 I]) (hy:=(Vf (by rfl) 317 _ rfl w.heap.size 0 rfl [.int .i64 bs,.int .i64 I] _ (fun W' i=>Xq i.2.1) KV rfl b0t));refine jT 5 a ?_ (v:=.agg #[.int .i64 r.1,.int .i64 r.2]) (hy:=(Vf (by rfl) 319 _ rfl q9 0 rfl [.int .i64 r.1,.int .i64 r.2] _ (fun W' i=>Xq i.2.2) underlying319 rfl b0Q));refine rZ 6 fun K J=>?_;have aq:=(ax.below a9).hm;have cd:nk<maxLen:=by unfold maxLen;omega
   refine a1P _ _ _ rfl aq momLaw underlying170 rfl cd _ _ _ rfl rfl bn ?_;intro W8 bp ae;have e1:=(ae.block bd (Vq a.1) (fun q=>a0u aq a.1 (XV q).symm)).trans a.1;have e2:=(ae.block w (Vq a.2.1) (fun q=>a0u aq a.2.1 (XV q).symm)).trans a.2.1;have e3:=(ae.block q9 (Vq a.2.2) (fun q=>a0u aq a.2.2 (XV q).symm)).trans a.2.2;refine jK J ⟨e1,e2,e3⟩ ?_;clear J K;refine VF kR ?_ _
   try simp only[z]
   have c3:=Z1 (b3f (ax.below a9) (bs:=bs) (d:=I) (by rw[b5];exact bp) ae);have c6:B<=W_1:=by have:=af.out.size;have:=a9.size;omega
   have c2:=Z1 ((Kp.of (mk:=mk) ((aj.out.trans (af.mono aj.size)).trans (a9.mono (by have:=af.out.size;omega))) hB).trans (Kp.grown ae c6 o.hB2));have HR:Hid (Tr.look b cur la bs d=(r.1,r.2)):=by show _=_;rw[HV,av,b5]
   have Q:=cr9 0 e3;have c1:=cr9 1 e3;simp at Q c1;have cn:=Vq e3;have c7:B<=W8:=by have:=ae.size;omega
   clear a ax bm aq bp ae e1 e2 e3 a9;go_upto_region 15 with(fail);go_quiet (fail);go_wp2
   go_ret2
   exact⟨c2.out.trans (Kp.of (Vw bR _) c7),by rw[HR];rfl,c3.below (Vw bR _)⟩
end Go.Proofs.YtbhdekahdnenjaaGreatDoor
