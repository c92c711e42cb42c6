/- My texts JrnV, JrnC. -/
import Derived.Test.YtniaimjknmhapaaGreatDoorG25
set_option linter.unusedVariables false
set_option linter.unusedSimpArgs false
set_option maxRecDepth 100000
set_option maxHeartbeats 16000000
namespace Go.Proofs.YtniaimjknmhapaaGreatDoor
open Go.Proofs.Tryz Go.RowKit Go.Maps
theorem a1Y {w:World} {P:Program} {k e:TypeId} {b n B s m:Nat} {f:Value->Option Value} {v:Value} {xs:List Value} (h:MapAt w P k b n f) (ho:w.ownsRow B e s v m xs):some b≠v.ownBlock:=fun q=>by
 obtain⟨D,⟨es,clock,hb,_⟩,_⟩:=h
 rcases ho.2 with⟨rfl,_⟩ | ⟨g,cap,cur',rfl,_,hg',_⟩
 ·simp [Value.ownBlock] at q
 ·simp [Value.ownBlock] at q
  subst q;rw [hb] at hg'
  cases hg'
theorem a0w {w:World} {P:Program} {k:TypeId} {b d n:Nat} {f:Value->Option Value} {cs:Array Value} {t:TypeId} {fr:Nat × Nat} (h:MapAt w P k b n f) (hd:w.heap[d]?=some (.cells cs t fr)):b≠d:=fun q=>by
 obtain⟨D,⟨es,clock,hb,_⟩,_⟩:=h;subst q;rw [hd] at hb
 cases hb
theorem Etr.kept {w w':World} {x:Etr} (h:x.At w w.heap.size/\RowsTy 68 w x.lA x.c.lines) {k:Nat} (hk:∀ cur fr,w.heap[k]?≠some (.cells cur 68 fr)) (hg:w.grownBy w' (some k)):x.At w' w'.heap.size/\RowsTy 68 w' x.lA x.c.lines:=by
 obtain⟨h1,h2⟩:=h.2.keep h.1.hA hk hg;exact⟨⟨h.1.hl,h2,h.1.hw⟩,h1⟩
open Classical in
theorem a2b {w:World} {t e:TypeId} {b n:Nat} {f:Value->Option Value} {o:Oper} {a:Act} {K:Act->World->Prop} {Q:Exit->Act->World->Prop}
  (m y v:Operand) (hop:o.op=Op.mapUpdate t m y v) (h:MapAt w prog 3 b n f) (ht:prog.underlying t=some (.map 3 e))
  (hm:a.eval m=.map (some b)) (hn:n<maxLen) (x:Int) (val:Value) (hx:a.eval y=.int .i64 x) (hv:a.eval v=val) (hw:(Lit.int .i64 x).wf=true)
  (hK:∀ w' f',MapAt w' prog 3 b (n+1) f'->(∀ z,f' (.int .i64 z)=if z=x then some val else f (.int .i64 z))->w.grownBy w' (some b)->K (a.put o.dst undef) w'):o.wp prog a w K Q :=
 a1E m y v hop h intLaw ht hm hn _ val _ hx hv (keyOf_int_mk underlying3 hw) fun w' h1 h2=>hK w' _ h1 (fun z=>by
  show(if _ then _ else _:Option Value)=_
  by_cases e:z=x <;> simp [e]) h2
def PostPost (B b:Nat) (g:Grp) (p:List EtC) (c:EtC) (w:World) (e:Ending) (w':World):Prop :=
 Below B w w'/\∃ n,e=.returned (.int .i64 n)/\(n=0 ↔ Jr.postOk g p c=true)/\(n=0->Jrns B w' b g (p++[c]))
theorem PostPost.bad {B b:Nat} {g:Grp} {p:List EtC} {c:EtC} {w w':World} {n:Int} (h:Below B w w') (hn:n≠0) (hb:Jr.postOk g p c=false):PostPost B b g p c w (.returned (.int .i64 n)) w' :=
 ⟨h,n,rfl,by simp [hn,hb],fun h=>(hn h).elim⟩
structure Jrm (B:Nat) (w:World) (b:Nat) (g:Grp) (p:List EtC) (x:EtC) (g':Grp) (q:List Etr) (A:Option Addr) (c m1 m2:Nat) (f2:Value->Option Value):Prop where
 hb:w.heap[b]?=some (.cells #[.string g'.cur,g'.Y,g'.M,g'.N,.slice g'.cA g'.cn g'.cc,g'.r0,g'.r1,g'.r2,g'.r3,g'.r4,g'.r5,g'.r6,g'.r7,g'.r8,g'.r9,g'.r10,g'.r11,g'.r12,g'.r13,g'.r14,.slice g'.eA g'.en g'.ec,.slice A q.length c,.map (some m1),.map (some m2)] 219 (0,0))
 he:g'.era=g.era
 hg:g'.At w B
 hBb:B<=b
 hB1:B<=m1
 hB2:B<=m2
 hne:m1≠m2
 hq:q.map (·.c)=p
 ho:w.ownsRow B 71 7 (.slice A q.length c) q.length (q.flatMap Etr.cells)
 hx:∀ x∈q,x.At w w.heap.size/\RowsTy 68 w x.lA x.c.lines
 h2:MapAt w prog 3 m2 (p.length+1) f2
 hf2:∀ z,(f2 (.int .i64 z)).isSome=Jr.revd (p++[x]) z
 hw:∀ x∈p,x.wf
theorem b1q {g':Grp} {x y z:Value} {j:Nat} {v:Value} (hj:(g':List Value)[j]?=some v):(#[.string g'.cur,g'.Y,g'.M,g'.N,.slice g'.cA g'.cn g'.cc,g'.r0,g'.r1,g'.r2,g'.r3,g'.r4,g'.r5,g'.r6,g'.r7,g'.r8,g'.r9,g'.r10,g'.r11,g'.r12,g'.r13,g'.r14,.slice g'.eA g'.en g'.ec,x,y,z]:Array Value)[j]?=some v:=by
 have hl:j<21:=by have:=(List.getElem?_eq_some_iff.1 hj).1;simpa using this
 have:(#[.string g'.cur,g'.Y,g'.M,g'.N,.slice g'.cA g'.cn g'.cc,g'.r0,g'.r1,g'.r2,g'.r3,g'.r4,g'.r5,g'.r6,g'.r7,g'.r8,g'.r9,g'.r10,g'.r11,g'.r12,g'.r13,g'.r14,.slice g'.eA g'.en g'.ec,x,y,z]:Array Value)=(g'++#[x,y,z]:Array Value):=rfl;rw [this,Array.getElem?_append_left (by simpa using hl)];simpa using hj
section
variable (w:World)
theorem b0R (B b:Nat) (g:Grp) (p:List EtC) (c:EtC) (A:Option Addr) (n kc:Nat) (hj:Jrns B w b g p) (hB:B<=w.heap.size) (hx:(⟨c,A,n,kc⟩:Etr).At w B) (hp:p.length<=100) :
  Calls prog 88 #[.pointer (some ⟨b,0,none⟩),.agg (TE c A n kc)] w (PostPost B b g p c w):=by
 obtain⟨g',q,A',cq,m1,m2,f1,f2,hj⟩:=hj;have hbw:=Vq hj.hb;have hown0:=hj.ho;obtain⟨W1,hW1,hB0,hb0,hz⟩:=nw1 w (TE c A n kc) 71;obtain⟨HW,HJ,Hx⟩:=Z3 hW1 (hj.below hB0 hB) (hx.below (hB0.mono hB) lR);have hwf:Hid c.wf:=hx.hw;have hBB1:=Z1 (hB0.mono hB);have hB1:B<=W1.heap.size:=by have:=hB0.size;omega
 have Hown0:=Z1 hown0;have s1:w.heap.size<W1.heap.size:=oM;have sb:b<W1.heap.size:=oM;have Hbe:Hid (b≠w.heap.size):=by show _≠_;omega
 have Hb0:=Z1 hb0;have Hlen:=Z1 HJ.out.len;have HEt:Hid (Jr.fine g' c=Jr.fine g c):=Jr.fine_same HJ.out.he c;clear hW1 hz hb0 hj hx hB0 hown0;go_enter func88,ntmps88;go_upto_region 1 with(fail);rw [<- HW.out];go_upto_region 3 with(fail);have hS:Below W1 W1 W1.drew:=Vw bR 1;refine wp_region_held (S:=Below W1 W1) kR ?_;change wpAnyH _ _ _ _ _ _ _ _ (World.drew W1);obtain⟨W_0,hWd⟩:∃ W0,W0=W1.drew:=⟨_,rfl⟩;rw [<- hWd] at hS ⊢;clear hWd;refine jT 0 hS ?_;refine jT 1 hS ?_;refine jT 2 hS ?_;refine jT 3 hS ?_ (v:=g') (hy:=(yieldsIf_load_mid (by rfl) 29 _ rfl b 0 rfl g' _ (fun W' hS'=>fun j v hj=>by have:=cr9 j (gbox HJ.out.hb hS' sb);rw [Nat.zero_add,this];exact b1q hj) underlying29 rfl VJ));refine jT 4 hS ?_ (v:=.agg (TE c A n kc)) (hy:=(yieldsIf_load_mid (by rfl) 71 _ rfl w.heap.size 0 rfl [c.id,c.ent,c.date,c.kind,c.of_,.string c.text,.slice A n kc] _ (fun W' hS'=>Xx (gbox Hb0.out hS' s1)) underlying71 rfl a0H));refine rZ 5 fun K hK=>?_;have HC:=Z1 (a8n W_0 g' c A n kc ((HJ.out.hg.below hS hB1).more (by have:=hS.size;omega)) ((Hx.out.below hS hB1).more (by have:=hS.size;omega)));go_simp;refine HC.out.mono ?_;rintro e W2 ⟨⟨m,rfl,hm⟩,hB2⟩;have hS2:=hS.trans (hB2.mono hS.size);refine jK hK hS2 ?_;clear hK K;refine rZ 6 fun K hK=>?_;go_simp;refine jK hK hS2 ?_;clear hK K;refine wpAnyH_done kR ?_ _
 try simp only [z]
 rw [HEt.out] at hm;obtain⟨HB2,hBB2,HJ2,Hx2⟩:=Z4 hS2 (hBB1.out.trans (hS2.mono hB1)) (HJ.out.below hS2 hB1) (Hx.out.below hS2 hB1);have he2:=gbox Hb0.out hS2 s1;have s2:w.heap.size<W2.heap.size:=Vq he2;have hb2:=HJ2.out.hb;have sb2:b<W2.heap.size:=Vq hb2;have hB2:B<=W2.heap.size:=by have:=hS2.size;omega
 have He2:=Z1 he2;clear hS hS2 hb2 he2 hB2 HB2;have hB2:B<=W2.heap.size:=oM
 by_cases hm0:m=0
 case neg =>
  have k1:(m != 0)=true:=by simp [hm0]
  have HV:Hid (Jr.postOk g p c=false):=by
   show _=_;unfold Jr.postOk
   cases hf:Jr.fine g c
   ·rfl
   ·exact absurd (hm.2 hf) hm0
  have Hm:=Z1 hm0;clear hm hm0;go_wp2;go_ret;exact PostPost.bad hBB2.out Hm.out HV.out
 have k1:(m != 0)=false:=by simp [hm0]
 have Hfine:=Z1 (hm.1 hm0);clear hm hm0;go_upto_region 6 with(fail);have hl1:=HJ2.out.look1 c.id hwf.out.hid;have z22:=cr9 22 HJ2.out.hb;have y0:=cr9 0 He2.out;simp at z22 y0
 cases hi:Jr.idx p c.id with
 | some k =>
  have HV:Hid (Jr.postOk g p c=false):=by show _=_;unfold Jr.postOk;rw [Jr.get_some hi];simp
  rw [hi] at hl1;simp only [Option.map_some,Option.getD_some,Option.isSome_some] at hl1;clear hi;go_quiet (fail);go_wp2;go_ret;exact PostPost.bad (Vw hBB2.out _) dC HV.out
 | none =>
 have Hnew:Hid ((Jr.get p c.id).isNone=true):=by show _=_;rw [Jr.get_none hi];rfl
 rw [hi] at hl1;simp only [Option.map_none,Option.getD_none,Option.isSome_none] at hl1;clear hi;go_quiet (fail);obtain⟨W3,hW3⟩:∃ W3,W3=W2.drewN nq:=⟨_,rfl⟩;have hB23:Below W2 W2 W3:=by rw [hW3];exact Vw bR _
 rw [<- hW3];obtain⟨hBB3,HJ3,Hx3⟩:=Z3 (hBB2.out.trans (hB23.mono hB2)) (HJ2.out.below hB23 hB2) (Hx2.out.below hB23 hB2);have He3:=gB He2 hB23 s2;have s3:w.heap.size<W3.heap.size:=Vq He3.out;have sb3:b<W3.heap.size:=Vq HJ3.out.hb;have hB3:B<=W3.heap.size:=by have:=hB23.size;omega
 have z21:=cr9 21 HJ3.out.hb;have y3:=cr9 3 He3.out;simp at z21 y3;clear z22 y0 hl1 hW3 hB23 nq;have hql:(q.length:Int)<2000:=by have:=Hlen.out;omega
 have HVa:Hid (Jr.postOk g p c=(decide (c.kind≠3)||Jr.revOk p c)):=by
  show _=_;unfold Jr.postOk;rw [Hfine.out,Hnew.out,decide_eq_true (show p.length<2000 by omega)];simp
 by_cases hk3:c.kind=3
 focus
  have k3:(c.kind==3)=true:=by simp [hk3]
  have K3:=Z1 hk3;clear hk3;go_upto_region 10 with(fail);have hrev:=Z1 (a5G W3 B b g p c A n kc ⟨g',q,A',cq,m1,m2,f1,f2,HJ3.out⟩ hB3 (Hx3.out.more hB3));go_wp2_with (refine wpList_load_row rfl 71 _ rfl _ rfl _ _ _ _ He3.out underlying71 rfl a0H ?_);refine hrev.out.mono ?_;rintro e W4 ⟨⟨m4,rfl,hm4⟩,hB4⟩;have hBB4:=Z1 (hBB3.out.trans (hB4.mono hB3))
  by_cases hm0:m4=0
  case neg =>
   have k1:(m4 != 0)=true:=by simp [hm0]
   have HV:Hid (Jr.postOk g p c=false):=by
    show _=_;rw [HVa.out]
    cases hf:Jr.revOk p c
    ·simp [K3.out]
    ·exact absurd (hm4.2 hf) hm0
   have Hm:=Z1 hm0;clear hm4 hm0 z21 y3;go_wp2;go_ret;exact PostPost.bad hBB4.out Hm.out HV.out
  have k1:(m4 != 0)=false:=by simp [hm0]
  have HV:Hid (Jr.postOk g p c=true):=by show _=_;rw [HVa.out,hm4.1 hm0];simp
  have Hrv:=Z1 (hm4.1 hm0);clear hm4 hm0;have HJ4:=Z1 (HJ3.out.below hB4 hB3);have Hx4:=Z1 (Hx3.out.below hB4 hB3);have He4:=gB He3 hB4 s3;have s4:w.heap.size<W4.heap.size:=Vq He4.out;have sb4:b<W4.heap.size:=Vq HJ4.out.hb;have hB4:B<=W4.heap.size:=by have:=hB4.size;omega
  have z21':=cr9 21 HJ4.out.hb;have y3':=cr9 3 He4.out;simp at z21' y3';clear z21 y3;go_upto_region 16 with(fail);have hS:(fun W':World=>W'.heap[b]?=some (.cells #[.string g'.cur,g'.Y,g'.M,g'.N,.slice g'.cA g'.cn g'.cc,g'.r0,g'.r1,g'.r2,g'.r3,g'.r4,g'.r5,g'.r6,g'.r7,g'.r8,g'.r9,g'.r10,g'.r11,g'.r12,g'.r13,g'.r14,.slice g'.eA g'.en g'.ec,.slice A' q.length cq,.map (some m1),.map (some m2)] 219 (0,0))/\W'.heap[w.heap.size]?=some (.cells (TE c A n kc) 71 (0,0))) W4.drew:=⟨HJ4.out.hb,He4.out⟩;refine wp_region_held (S:=fun W':World=>W'.heap[b]?=some (.cells #[.string g'.cur,g'.Y,g'.M,g'.N,.slice g'.cA g'.cn g'.cc,g'.r0,g'.r1,g'.r2,g'.r3,g'.r4,g'.r5,g'.r6,g'.r7,g'.r8,g'.r9,g'.r10,g'.r11,g'.r12,g'.r13,g'.r14,.slice g'.eA g'.en g'.ec,.slice A' q.length cq,.map (some m1),.map (some m2)] 219 (0,0))/\W'.heap[w.heap.size]?=some (.cells (TE c A n kc) 71 (0,0))) kR ?_;change wpAnyH _ _ _ _ _ _ _ _ (World.drew W4);obtain⟨W_0,hWd⟩:∃ W0,W0=W4.drew:=⟨_,rfl⟩;have hB_0:Below W4 W4 W_0:=by rw [hWd];exact Vw bR 1
  rw [<- hWd] at hS ⊢;clear hWd;refine jT 0 hS ?_;refine jT 1 hS ?_;refine jT 2 hS ?_;refine jT 3 hS ?_ (v:=.map (some m2)) (hy:=(.inl ⟨by rfl,fun W' hS'=>by have c0:=cr9 23 hS'.1;simp at c0;have c9:b<W'.heap.size:=Vq hS'.1;go_simp⟩));refine jT 4 hS ?_;refine jT 5 hS ?_ (v:=.int .i64 c.of_) (hy:=(.inl ⟨by rfl,fun W' hS'=>by have c0:=cr9 4 hS'.2;simp at c0;have c9:w.heap.size<W'.heap.size:=Vq hS'.2;go_simp⟩));refine jT 6 hS ?_;refine jT 7 hS ?_ (v:=.int .i64 c.id) (hy:=(.inl ⟨by rfl,fun W' hS'=>by have c0:=cr9 0 hS'.2;simp at c0;have c9:w.heap.size<W'.heap.size:=Vq hS'.2;go_simp⟩));refine rZ 8 fun K hK=>?_;have HJ4':=HJ4.out.below hB_0 hB4;have hmx:p.length<maxLen:=by unfold maxLen;omega
  refine a2b _ _ _ rfl HJ4'.h2 underlying217 rfl hmx c.of_ _ rfl rfl hwf.out.hof ?_;intro W5 f5 hm5 hf5 hg5;have hne1:some b≠some m2:=fun q=>a0w HJ4'.h2 hS.1 (Option.some.inj q).symm;have hne2:some w.heap.size≠some m2:=fun q=>a0w HJ4'.h2 hS.2 (Option.some.inj q).symm;have hS5:(fun W':World=>W'.heap[b]?=some (.cells #[.string g'.cur,g'.Y,g'.M,g'.N,.slice g'.cA g'.cn g'.cc,g'.r0,g'.r1,g'.r2,g'.r3,g'.r4,g'.r5,g'.r6,g'.r7,g'.r8,g'.r9,g'.r10,g'.r11,g'.r12,g'.r13,g'.r14,.slice g'.eA g'.en g'.ec,.slice A' q.length cq,.map (some m1),.map (some m2)] 219 (0,0))/\W'.heap[w.heap.size]?=some (.cells (TE c A n kc) 71 (0,0))) W5:=⟨(hg5.block b (Vq hS.1) hne1).trans hS.1,(hg5.block _ (Vq hS.2) hne2).trans hS.2⟩;refine jK hK hS5 ?_;clear hK K;refine wpAnyH_done kR ?_ _
  try simp only [z]
  have hBB5:=Z1 ((hBB4.out.trans (hB_0.mono hB4)).grown hg5 (by have:=hB_0.size;omega) (fun j e=>by cases e;exact HJ4'.hB2));have Hlin:∀ cur fr,W_0.heap[m2]?≠some (.cells cur 68 fr):=fun cur fr e=>a0w HJ4'.h2 e rfl
  have HM:Hid (Jrm B W5 b g p c g' q A' cq m1 m2 f5):=by
   refine⟨hS5.1,HJ4'.he,HJ4'.hg.below ((Below.refl B _).grown hg5 (by have:=hB_0.size;omega) (fun j e=>by cases e;exact HJ4'.hB2)) lR,HJ4'.hBb,HJ4'.hB1,HJ4'.hB2,HJ4'.hne,HJ4'.hq,HJ4'.ho.kept hg5 (.inr fun e=>a1Y HJ4'.h2 HJ4'.ho e.symm),fun x hx=>Etr.kept (HJ4'.hx x hx) Hlin hg5,hm5,fun z=>?_,HJ4'.hw⟩;rw [Jr.revd_snoc];rw [hf5]
   by_cases hz:z=c.of_
   ·rw [if_pos hz];simp [hz,K3.out]
   ·rw [if_neg hz,HJ4'.hf2];simp [Ne.symm hz]
  have HI:Hid (MapAt W5 prog 3 m1 p.length f1):=HJ4'.h1.kept hg5 (by simp [HJ4'.hne]);have Hf1:=Z1 HJ4'.hf1;have He5:=Z1 hS5.2;have hg5B:=(Below.refl B W_0).grown hg5 (by have:=hB_0.size;omega) (fun j e=>by cases e;exact HJ4'.hB2);have Hx5:=Z1 ((Hx4.out.below hB_0 hB4).below hg5B lR);have s5:w.heap.size<W5.heap.size:=Vq He5.out;have sb5:b<W5.heap.size:=Vq HM.out.hb;have hB5:B<=W5.heap.size:=by have:=hBB5.out.size;omega
  obtain⟨f2',hf2'⟩:∃ f2',f2'=f5:=⟨_,rfl⟩;rw [<- hf2'] at HM;clear hf2' hm5 hf5 hg5 hne1 hne2 hS5 hS hB_0 Hlin HJ4' hg5B z21' y3';go_upto_region 17 with(fail)
 rotate_left
 focus
  have k3:(c.kind==3)=false:=by simp [hk3]
  have HV:Hid (Jr.postOk g p c=true):=by show _=_;rw [HVa.out];simp [hk3]
  have HM:Hid (Jrm B W3 b g p c g' q A' cq m1 m2 f2) :=
   ⟨HJ3.out.hb,HJ3.out.he,HJ3.out.hg,HJ3.out.hBb,HJ3.out.hB1,HJ3.out.hB2,HJ3.out.hne,HJ3.out.hq,HJ3.out.ho,HJ3.out.hx,HJ3.out.h2.mono oM,fun z=>by rw [Jr.revd_snoc,HJ3.out.hf2];simp [hk3],HJ3.out.hw⟩
  have HI:Hid (MapAt W3 prog 3 m1 p.length f1):=HJ3.out.h1;have Hf1:=Z1 HJ3.out.hf1;obtain⟨W5,hW5⟩:∃ W5,W5=W3:=⟨_,rfl⟩;obtain⟨f2',hf2'⟩:∃ f2',f2'=f2:=⟨_,rfl⟩;rw [<- hf2'] at HM;clear hf2';rw [<- hW5] at HM HI hBB3 He3 Hx3 s3 sb3 hB3 z21 y3 ⊢;have hBB5:=hBB3;have He5:=He3;have Hx5:=Hx3;have s5:=s3;have sb5:=sb3;have hB5:=hB3;clear hk3 hW5;go_upto_region 17 with(fail);clear z21 y3
 all_goals
  have HJ5:=HM.out;have hS:(fun W':World=>W'.heap[b]?=some (.cells #[.string g'.cur,g'.Y,g'.M,g'.N,.slice g'.cA g'.cn g'.cc,g'.r0,g'.r1,g'.r2,g'.r3,g'.r4,g'.r5,g'.r6,g'.r7,g'.r8,g'.r9,g'.r10,g'.r11,g'.r12,g'.r13,g'.r14,.slice g'.eA g'.en g'.ec,.slice A' q.length cq,.map (some m1),.map (some m2)] 219 (0,0))/\W'.heap[w.heap.size]?=some (.cells (TE c A n kc) 71 (0,0))) W5.drew:=⟨HM.out.hb,He5.out⟩;refine wp_region_held (S:=fun W':World=>W'.heap[b]?=some (.cells #[.string g'.cur,g'.Y,g'.M,g'.N,.slice g'.cA g'.cn g'.cc,g'.r0,g'.r1,g'.r2,g'.r3,g'.r4,g'.r5,g'.r6,g'.r7,g'.r8,g'.r9,g'.r10,g'.r11,g'.r12,g'.r13,g'.r14,.slice g'.eA g'.en g'.ec,.slice A' q.length cq,.map (some m1),.map (some m2)] 219 (0,0))/\W'.heap[w.heap.size]?=some (.cells (TE c A n kc) 71 (0,0))) kR ?_;change wpAnyH _ _ _ _ _ _ _ _ (World.drew W5);obtain⟨W_0,hWd⟩:∃ W0,W0=W5.drew:=⟨_,rfl⟩;have hB_0:Below W5 W5 W_0:=by rw [hWd];exact Vw bR 1
  rw [<- hWd] at hS ⊢;clear hWd;refine jT 0 hS ?_;refine jT 1 hS ?_;refine jT 2 hS ?_;refine jT 3 hS ?_ (v:=.map (some m1)) (hy:=(.inl ⟨by rfl,fun W' hS'=>by have c0:=cr9 22 hS'.1;simp at c0;have c9:b<W'.heap.size:=Vq hS'.1;go_simp⟩));refine jT 4 hS ?_;refine jT 5 hS ?_ (v:=.int .i64 c.id) (hy:=(.inl ⟨by rfl,fun W' hS'=>by have c0:=cr9 0 hS'.2;simp at c0;have c9:w.heap.size<W'.heap.size:=Vq hS'.2;go_simp⟩));refine jT 6 hS ?_;refine jT 7 hS ?_;refine jT 8 hS ?_;refine jT 9 hS ?_ (v:=.slice A' q.length cq) (hy:=(.inl ⟨by rfl,fun W' hS'=>by have c0:=cr9 21 hS'.1;simp at c0;have c9:b<W'.heap.size:=Vq hS'.1;go_simp⟩));refine jT 10 hS ?_;refine rZ 11 fun K hK=>?_;have hI':=HI.out.below hB_0 HI.out.lt;have hmx:p.length<maxLen:=by unfold maxLen;omega
  refine a2b _ _ _ rfl hI' underlying217 rfl hmx c.id _ rfl rfl hwf.out.hid ?_;intro W6 f6 hm6 hf6 hg6;have hne1:some b≠some m1:=fun q=>a0w hI' hS.1 (Option.some.inj q).symm;have hne2:some w.heap.size≠some m1:=fun q=>a0w hI' hS.2 (Option.some.inj q).symm;have hS6:(fun W':World=>W'.heap[b]?=some (.cells #[.string g'.cur,g'.Y,g'.M,g'.N,.slice g'.cA g'.cn g'.cc,g'.r0,g'.r1,g'.r2,g'.r3,g'.r4,g'.r5,g'.r6,g'.r7,g'.r8,g'.r9,g'.r10,g'.r11,g'.r12,g'.r13,g'.r14,.slice g'.eA g'.en g'.ec,.slice A' q.length cq,.map (some m1),.map (some m2)] 219 (0,0))/\W'.heap[w.heap.size]?=some (.cells (TE c A n kc) 71 (0,0))) W6:=⟨(hg6.block b (Vq hS.1) hne1).trans hS.1,(hg6.block _ (Vq hS.2) hne2).trans hS.2⟩;refine jK hK hS6 ?_;clear hK K;refine wpAnyH_done kR ?_ _
  try simp only [z]
  have hB06:Below B W5 W6:=(hB_0.mono hB5).grown hg6 (by have:=hB_0.size;omega) (fun j e=>by cases e;exact HJ5.hB1);have HBB6:=Z1 (hBB5.out.trans hB06);have Hlin:∀ cur fr,W_0.heap[m1]?≠some (.cells cur 68 fr):=fun cur fr e=>a0w hI' e rfl;have hx0:∀ x∈q,x.At W_0 W_0.heap.size/\RowsTy 68 W_0 x.lA x.c.lines:=fun x hx=>⟨(HJ5.hx x hx).1.at_ hB_0,(HJ5.hx x hx).2.below hB_0⟩;have ho0:=Vj HJ5.ho hB_0;obtain⟨Hb6,He6,Hg6,Ho6,Hl6,Hm6⟩:=Z6 hS6.1 hS6.2 (HJ5.hg.below hB06 lR) (ho0.kept hg6 (.inr fun e=>a1Y hI' ho0 e.symm)) (fun x hx=>Etr.kept (hx0 x hx) Hlin hg6:∀ x∈q,x.At W6 W6.heap.size/\RowsTy 68 W6 x.lA x.c.lines) hm6;have Hn6:=Z1 ((HJ5.h2.below hB_0 HJ5.h2.lt).kept hg6 (by simp [HJ5.hne.symm]));have Hx6:=Z1 (Hx5.out.below hB06 lR)
  have hidx:Hid (∀ z,f6 (.int .i64 z)=(Jr.idx (p++[c]) z).map (fun(k:Nat)=>Value.int .i64 (k:Int))):=Z1 fun z=>by
   rw [hf6,Jr.idx_snoc Hnew.out,Hf1.out]
   by_cases hz:z=c.id
   ·rw [if_pos hz,if_pos hz,Hlen.out];rfl
   ·rw [if_neg hz,if_neg hz]
  have s6:w.heap.size<W6.heap.size:=Vq He6.out;have sb6:b<W6.heap.size:=Vq Hb6.out;have hB6:B<=W6.heap.size:=by have:=HBB6.out.size;omega
  have Hown6:Hid (∀ k,(Value.slice A' q.length cq).ownBlock=some k->k≠w.heap.size):=Z1 fun k hk e=>by have:=(Hown0.out.lt k hk).2;omega
  clear hm6 hf6 hg6 hne1 hne2 hS6 hS hB_0 Hlin hI' hx0 ho0 hB06;go_upto_region 18 with(fail);have hS:(fun W':World=>W'.heap[w.heap.size]?=some (.cells (TE c A n kc) 71 (0,0))) W6.drew:=He6.out;refine wp_region_held (S:=fun W':World=>W'.heap[w.heap.size]?=some (.cells (TE c A n kc) 71 (0,0))) kR ?_;change wpAnyH _ _ _ _ _ _ _ _ (World.drew W6);obtain⟨W_0,hWd⟩:∃ W0,W0=W6.drew:=⟨_,rfl⟩;have hB_0:Below W6 W6 W_0:=by rw [hWd];exact Vw bR 1
  have hz_0:W_0.heap.size=W6.heap.size:=by rw [hWd];rfl
  rw [<- hWd] at hS ⊢;clear hWd;refine jT 0 hS ?_;refine jT 1 hS ?_;refine jT 2 hS ?_;refine jT 3 hS ?_;refine jT 5 hS ?_ (v:=.agg (TE c A n kc)) (hy:=(yieldsIf_load_mid (by rfl) 71 _ rfl w.heap.size 0 rfl [c.id,c.ent,c.date,c.kind,c.of_,.string c.text,.slice A n kc] _ (fun W' hS'=>Xx hS') underlying71 rfl a0H));refine a0E fun md' ops' Q' a' hlm hlo hlq hla=>?_;obtain⟨RG,hRG⟩:∃ R:World->Prop,R=fun W':World=>W'.heap[w.heap.size]?=some (.cells (TE c A n kc) 71 (0,0)):=⟨_,rfl⟩;rw [<- hRG]
  have fin:∀(W7:World) (A7:Option Addr) (k7:Nat),Below W6 W6 W7->(⟨c,A7,n,k7⟩:Etr).At W7 W7.heap.size->RowsTy 68 W7 A7 c.lines ->
   wpAnyH prog md' ops' Q' RG 4 #[true,true,true,true,true,true,true,true,false,false,false,false] (((a'.put (some 72) (.slice A' q.length cq)).put (some 74) (.agg (TE c A7 n k7))).put (some 75) (.slice (some ⟨W7,0,none⟩) 1 1)) (W7.alloc (.cells (TE c A7 n k7) 71)):=by
   intro W7 A7 k7 h7 hat hty;subst hlm hlo hlq hla hRG
   try simp only [z]
   obtain⟨i0,hi,hz0,hz1,hz2⟩:=info_parts etrInfo;have ha8:Below W7 W7 (W7.alloc (.cells (TE c A7 n k7) 71)):=bR.alloc lR _;have h8:=h7.trans (ha8.mono h7.size);have hS8:=gbox He6.out h8 s6;have hb8:=gbox Hb6.out h8 sb6;have ho8:=Vj Ho6.out h8;have hnew:=a0v W7 [c.id,c.ent,c.date,c.kind,c.of_,.string c.text,.slice A7 n k7] 71;have hone:∀ u∈([c.id,c.ent,c.date,c.kind,c.of_,.string c.text,.slice A7 n k7]:List Value),u.oneCell'=true:=oC;have hlq:=Hlen.out;have h63:q.length+1<=maxLen:=by unfold maxLen;omega
   have h64:(q.length+1)*80<=140737488355328:=oM;have h65:B<=(W7.alloc (.cells (TE c A7 n k7) 71)).heap.size:=by have:=h8.size;omega
   have hx8:=fun x hx=>(⟨(Hl6.out x hx).1.at_ h8,(Hl6.out x hx).2.below h8⟩:_/\_);have hm8:=Hm6.out.below h8 Hm6.out.lt;have hn8:=Hn6.out.below h8 Hn6.out.lt;have hat8:=hat.at_ ha8;have hty8:=hty.below ha8;obtain⟨W8,hW8⟩:∃ W8,W8=W7.alloc (.cells (TE c A7 n k7) 71):=⟨_,rfl⟩;have hnew':∀ j u,([c.id,c.ent,c.date,c.kind,c.of_,.string c.text,.slice A7 n k7]:List Value)[j]?=some u->W8.cell? ((⟨W7,0,none⟩:Addr).add j)=some u:=by rw [hW8];exact hnew
   rw [<- hW8] at ha8 h8 hS8 hb8 ho8 h65 hx8 hm8 hn8 hat8 hty8 ⊢;clear hnew;refine rZ 8 fun K hK=>?_;refine wp_append_own W8 _ _ 30 rfl B 71 i0 (.agg #[(),(),(),(),(),.string ByteArray.empty,.slice none 0 0]) 7 80 underlying30 hi hz0 hz1 hz2 rfl dC _ _ _ rfl ho8 ⟨W7,0,none⟩ 1 1 [c.id,c.ent,c.date,c.kind,c.of_,.string c.text,.slice A7 n k7] rfl rfl hnew' hone h63 h64 h65 ?_;intro v9 W9 hown9 hgrow9 _
   obtain⟨A9,c9,rfl⟩:∃ A9 c9,v9=.slice A9 (q.length+1) c9:=by
    rcases hown9.2 with⟨e,h0⟩ | ⟨g,cap,cur,e,_⟩
    ·omega
    ·exact⟨_,_,e⟩
   have hne9:∀ k,(Value.slice A' q.length cq).ownBlock=some k->k≠b:=fun k hk e=>by
    subst e
    rcases ho8.2 with⟨e,_⟩ | ⟨g,cap,cur',e,_,hg',_⟩
    ·rw [e] at hk;simp [Value.ownBlock] at hk
    ·rw [e] at hk;simp [Value.ownBlock] at hk;subst hk;rw [hb8] at hg';cases hg'
   have hb9:=(hgrow9.block b (Vq hb8) (fun e=>hne9 b e.symm rfl)).trans hb8;have hS9:=(hgrow9.block w (Vq hS8) (fun e=>Hown6.out _ e.symm rfl)).trans hS8
   have hx9:∀ x∈q,x.At W9 W9.heap.size/\RowsTy 68 W9 x.lA x.c.lines:=fun x hx=>by
    obtain⟨r1,r2⟩:=(hx8 x hx).2.kept (hx8 x hx).1.hA ho8 dC hgrow9;exact⟨⟨(hx8 x hx).1.hl,r2,(hx8 x hx).1.hw⟩,r1⟩
   have hxn:(⟨c,A7,n,k7⟩:Etr).At W9 W9.heap.size/\RowsTy 68 W9 A7 c.lines:=by
    obtain⟨r1,r2⟩:=hty8.kept hat8.hA ho8 dC hgrow9;exact⟨⟨hat8.hl,r2,hat8.hw⟩,r1⟩
   have hm9:=hm8.kept hgrow9 (a1Y hm8 ho8);have hn9:=hn8.kept hgrow9 (a1Y hn8 ho8);have hB89:Below B W8 W9:=(Below.refl B W8).grown hgrow9 h65 (fun k hk=>(ho8.lt k hk).1);have hB69:Below B W6 W9:=(h8.mono hB6).trans hB89;refine jK hK hS9 ?_;clear hK K;refine jT 9 hS9 ?_;refine jT 10 hS9 ?_;refine rZ 11 fun K hK=>?_;have c21:=cr9 21 hb9;simp at c21;have sb9:b<W9.heap.size:=Vq hb9;have cf:=fun j=>fr0 j hb9;go_simp;have hb10:=heap_setCell_same W9 b 21 _ _ (.slice A9 (q.length+1) c9) hb9;simp at hb10;have hS10:(W9.setCell ⟨b,21,none⟩ (.slice A9 (q.length+1) c9)).heap[w.heap.size]?=some (.cells (TE c A n kc) 71 (0,0)):=(heap_setCell_other W9 ⟨b,21,none⟩ _ _ (Ne.symm Hbe.out)).trans hS9;refine hK.out _ _ hS10 (fun _=>?_);clear hK K;refine wpAnyH_done kR ?_ _
   try simp only [z]
   have hg10:W9.grownBy (W9.setCell ⟨b,21,none⟩ (.slice A9 (q.length+1) c9)) (some b):=Xv (Xq _ _) _ _;obtain⟨W10,hW10⟩:∃ W10,W10=W9.setCell ⟨b,21,none⟩ (.slice A9 (q.length+1) c9):=⟨_,rfl⟩;rw [<- hW10] at hb10 hS10 hg10 ⊢;have hB9:B<=W9.heap.size:=by have:=hB69.size;omega
   have hB910:Below B W9 W10:=(Below.refl B W9).grown hg10 hB9 (fun k hk=>by cases hk;exact HM.out.hBb);have hB610:=hB69.trans hB910;have Hlin:∀ cur fr,W9.heap[b]?≠some (.cells cur 68 fr):=fun cur fr e=>by rw [hb9] at e;cases e
   have hown10:=hown9.kept hg10 (.inr fun e=>by
    rcases hown9.2 with⟨q1,h0⟩ | ⟨g,cap,cur,q1,_,hg',_⟩
    ·omega
    ·rw [q1] at e;simp [Value.ownBlock] at e;subst e;rw [hb9] at hg';cases hg')
   have HF:Hid (Jrns B W10 b g (p++[c])):=by
    refine⟨g',q++[⟨c,A7,n,k7⟩],A9,c9,m1,m2,f6,f2',?_⟩;have hql1:(q++[(⟨c,A7,n,k7⟩:Etr)]).length=q.length+1:=sP;refine⟨by rw [hql1];exact hb10,HM.out.he,Hg6.out.below hB610 lR,HM.out.hBb,HM.out.hB1,HM.out.hB2,HM.out.hne,by rw [List.map_append,HM.out.hq];rfl,?_,fun x hx=>?_,?_,?_,hidx.out,HM.out.hf2,fun x hx=>?_⟩
    ·rw [hql1,List.flatMap_append];exact hown10
    ·rw [List.mem_append,List.mem_singleton] at hx
     rcases hx with hx | rfl
     ·exact Etr.kept (hx9 x hx) Hlin hg10
     ·exact Etr.kept hxn Hlin hg10
    ·rw [List.length_append];exact hm9.kept hg10 (fun e=>a0w hm9 hb9 (Option.some.inj e))
    ·rw [List.length_append];exact hn9.kept hg10 (fun e=>a0w hn9 hb9 (Option.some.inj e))
    ·rw [List.mem_append,List.mem_singleton] at hx
     rcases hx with hx | rfl
     ·exact HM.out.hw x hx
     ·exact hwf.out
   have HBF:=Z1 (HBB6.out.trans hB610);clear hb10 hS10 hg10 hB910 hB610 Hlin hown10 hB9 hB69 hB89 hm9 hn9 hxn hx9 hS9 hb9 hne9 hown9 hgrow9 c21 cf sb9 hat8 hty8 hn8 hm8 hx8 h63 h64 h65 hone hnew' ho8 hb8 hS8 h8 ha8 h7 hat hty hW10 hW8 hlq hS;go_wp2;go_ret;exact⟨HBF.out,0,rfl,by simp [HV.out],fun _=>HF.out⟩
  subst hlm hlo hlq hla hRG
  try simp only [z]
  refine wpAnyH_ready (rs:=[4,6]) kR sP (.cons rfl (fun K hK=>?_) (.cons rfl (fun K hK=>?_) .nil))
  ·have q1:=gbox Hb6.out hB_0 sb6
   have c0:=cr9 21 q1;simp at c0;have c9:=Vq q1;go_simp;refine hK.out _ _ (gbox He6.out hB_0 s6) (fun _=>?_);clear hK K c0 c9 q1
   try simp only [z]
   refine wpAnyH_ready (rs:=[6]) kR sP (.cons rfl (fun K hK=>?_) .nil);have HC:=Z1 (a4G W_0 c A n kc ((Hx6.out.below (hB_0.mono hB6) lR).more (by have:=hB_0.size;omega)));go_simp;refine HC.out.mono ?_;rintro r W7 ⟨hB7,A7,k7,rfl,hat,hty⟩;have hB7':=hB_0.trans (hB7.mono hB_0.size);refine jK hK (gbox He6.out hB7' s6) ?_;clear hK K;refine wpAnyH_ready (rs:=[7]) kR sP (.cons rfl (fun K hK=>?_) .nil);have hB8':Below W6 W6 (W7.alloc (.cells (TE c A7 n k7) 71)):=hB7'.trans ((bR.alloc lR _).mono hB7'.size);go_simp;refine jK hK (gbox He6.out hB8' s6) ?_;clear hK K;have hn:=fin W7 A7 k7 hB7' hat hty
   try simp only [z] at hn
   exact hn
  ·have HC:=Z1 (a4G W_0 c A n kc ((Hx6.out.below (hB_0.mono hB6) lR).more (by have:=hB_0.size;omega)))
   go_simp;refine HC.out.mono ?_;rintro r W7 ⟨hB7,A7,k7,rfl,hat,hty⟩;have hB7':=hB_0.trans (hB7.mono hB_0.size);refine jK hK (gbox He6.out hB7' s6) ?_;clear hK K;refine wpAnyH_ready (rs:=[4,7]) kR sP (.cons rfl (fun K hK=>?_) (.cons rfl (fun K hK=>?_) .nil))
   ·have q1:=gbox Hb6.out hB7' sb6
    have c0:=cr9 21 q1;simp at c0;have c9:=Vq q1;go_simp;refine hK.out _ _ (gbox He6.out hB7' s6) (fun _=>?_);clear hK K c0 c9 q1
    try simp only [z]
    refine wpAnyH_ready (rs:=[7]) kR sP (.cons rfl (fun K hK=>?_) .nil);have hB8':Below W6 W6 (W7.alloc (.cells (TE c A7 n k7) 71)):=hB7'.trans ((bR.alloc lR _).mono hB7'.size);go_simp;refine jK hK (gbox He6.out hB8' s6) ?_;clear hK K;have hn:=fin W7 A7 k7 hB7' hat hty
    try simp only [z] at hn
    exact hn
   ·have hB8':Below W6 W6 (W7.alloc (.cells (TE c A7 n k7) 71)):=hB7'.trans ((bR.alloc lR _).mono hB7'.size)
    go_simp;refine jK hK (gbox He6.out hB8' s6) ?_;clear hK K;refine wpAnyH_ready (rs:=[4]) kR sP (.cons rfl (fun K hK=>?_) .nil);have q1:=gbox Hb6.out hB8' sb6;have c0:=cr9 21 q1;simp at c0;have c9:=Vq q1;go_simp;refine hK.out _ _ (gbox He6.out hB8' s6) (fun _=>?_);clear hK K c0 c9 q1
    try simp only [z]
    have hn:=fin W7 A7 k7 hB7' hat hty
    try simp only [z] at hn
    exact hn
end
open Go.Proofs.Tryz Go.RowKit Go.Maps
def JNewPost (g:Grp) (w:World) (e:Ending) (w':World):Prop :=
 Below w w w'/\((Gr.valid g=false/\∃ n,n≠0/\e=.returned (.tuple #[.pointer none,.int .i64 n])) ∨
  (Gr.valid g=true/\∃ B b,w.heap.size<=B/\B<=w'.heap.size/\e=.returned (.tuple #[.pointer (some ⟨b,0,none⟩),()])/\Jrns B w' b g []))
def JPost (b:Bool) (w:World) (e:Ending) (w':World):Prop:=(∃ i n,e=.returned (.tuple #[.int .i64 i,.int .i64 n])/\(n=0 ↔ b=true))/\Below w w w'
theorem Jr.ok_bad {g:Grp} {l:List EtC} {k:Nat} (hk:k<l.length) (h:Jr.postOk g (l.take k) l[k]=false):Jr.ok g l=false:=by
 have:(List.range l.length).all (fun i=>Jr.postOk g (l.take i) (l.getD i EtC.zero))=false:=by
  rw [List.all_eq_false];exact⟨k,by simpa using hk,by simp [hk,h]⟩
 unfold Jr.ok;rw [this,Bool.and_false]
section
variable (w:World)
theorem b1r (g:Grp) (hg:g.At w w):Calls prog 87 #[g] w (JNewPost g w):=by
 obtain⟨W1,hW1,hB0,hb0,hz⟩:=nw1 w g 29;have HW:=Z1 hW1;have hg1:=Z1 (hg.at_ hB0);have s1:w.heap.size<W1.heap.size:=oM;have Hb0:=Z1 hb0;have Hel:=Z1 hg.hel;have hmm:=@run_makeMap prog;clear hW1 hz hb0 hg;go_enter func87,ntmps87;go_upto_region 1 with(fail);rw [<- HW.out];go_wp2_with (refine wpList_load_row rfl 29 _ rfl _ rfl _ _ _ _ Hb0.out underlying29 rfl VJ ?_);refine(a5a W1 g hg1.out).mono ?_;rintro e W2 ⟨rfl,hB2⟩;have hB02:=hB0.trans (hB2.mono hB0.size);have Hb2:=gB Hb0 hB2 s1;have s2:w.heap.size<W2.heap.size:=Vq Hb2.out;have hg2:=Z1 (hg1.out.at_ hB2)
 by_cases h1:Gr.valid g=true
 case neg =>
  have h1':Gr.valid g=false:=by simpa using h1
  have HV:=Z1 h1';rw [h1'];clear h1 h1';go_wp2
  go_ret2
  exact⟨hB02,.inl ⟨HV.out,1,dC,rfl⟩⟩
 have HV:=Z1 h1
 have h1e:1<=g.en:=by
  have:=HV.out;unfold Gr.valid at this;simp only [Bool.and_eq_true,decide_eq_true_eq] at this;have:=Hel.out;omega
 rw [h1];clear h1;have hc:=Z1 (a9I W2 g hg2.out h1e);go_wp2_with (refine wpList_load_row rfl 29 _ rfl _ rfl _ _ _ _ Hb2.out underlying29 rfl VJ ?_);refine hc.out.mono ?_;rintro e W3 ⟨hB3,g',rfl,he,hg3⟩;have hB03:=hB02.trans (hB3.mono hB02.size);have He:=Z1 he;have Hg3:=Z1 hg3;have hl3:=hB03.size;clear he hg3;go_wp2
 go_ret2
 have a1:Below w w (W3.alloc (.map #[] 0)):=hB03.alloc hl3 _;have a2:=a1.alloc a1.size (.map #[] 0);have a3:=a2.alloc a2.size (.cells #[.string g'.cur,g'.Y,g'.M,g'.N,.slice g'.cA g'.cn g'.cc,g'.r0,g'.r1,g'.r2,g'.r3,g'.r4,g'.r5,g'.r6,g'.r7,g'.r8,g'.r9,g'.r10,g'.r11,g'.r12,g'.r13,g'.r14,.slice g'.eA g'.en g'.ec,.slice none 0 0,.map (some W3),.map (some (W3.heap.size+1))] 219);have hsz1:(W3.alloc (.map #[] 0)).heap.size=W3.heap.size+1:=sP;have hsz2:((W3.alloc (.map #[] 0)).alloc (.map #[] 0)).heap.size=W3.heap.size+2:=sP;have m2:=MapAt.made (W3.alloc (.map #[] 0)) prog 3;rw [hsz1] at m2;have m1:=(MapAt.made W3 prog 3).alloc (.map #[] 0);have r3:=heap_alloc_new ((W3.alloc (.map #[] 0)).alloc (.map #[] 0)) (.cells #[.string g'.cur,g'.Y,g'.M,g'.N,.slice g'.cA g'.cn g'.cc,g'.r0,g'.r1,g'.r2,g'.r3,g'.r4,g'.r5,g'.r6,g'.r7,g'.r8,g'.r9,g'.r10,g'.r11,g'.r12,g'.r13,g'.r14,.slice g'.eA g'.en g'.ec,.slice none 0 0,.map (some W3),.map (some (W3.heap.size+1))] 219);rw [hsz2] at r3
 have b3:Below W3 W3 (((W3.alloc (.map #[] 0)).alloc (.map #[] 0)).alloc (.cells #[.string g'.cur,g'.Y,g'.M,g'.N,.slice g'.cA g'.cn g'.cc,g'.r0,g'.r1,g'.r2,g'.r3,g'.r4,g'.r5,g'.r6,g'.r7,g'.r8,g'.r9,g'.r10,g'.r11,g'.r12,g'.r13,g'.r14,.slice g'.eA g'.en g'.ec,.slice none 0 0,.map (some W3),.map (some (W3.heap.size+1))] 219)) :=
  ((bR.alloc lR _).alloc sP _).alloc sO _
 have hJ:Jrns W3 (((W3.alloc (.map #[] 0)).alloc (.map #[] 0)).alloc (.cells #[.string g'.cur,g'.Y,g'.M,g'.N,.slice g'.cA g'.cn g'.cc,g'.r0,g'.r1,g'.r2,g'.r3,g'.r4,g'.r5,g'.r6,g'.r7,g'.r8,g'.r9,g'.r10,g'.r11,g'.r12,g'.r13,g'.r14,.slice g'.eA g'.en g'.ec,.slice none 0 0,.map (some W3),.map (some (W3.heap.size+1))] 219)) (W3.heap.size+2) g [] :=
  ⟨g',[],none,0,W3,W3.heap.size+1,_,_,{ hb:=r3,he:=He.out,hg:=Hg3.out.below b3 lR,hBb:=oM,hB1:=Nat.le_refl _,hB2:=oM,hne:=oM,hq:=rfl,ho:=World.ownsRow_nil _ _ _ _,hx:=fun x hx=>(nomatch hx),h1:=m1.alloc _,h2:=m2.alloc _,hf1:=fun x=>rfl,hf2:=fun x=>rfl,hw:=fun x hx=>(nomatch hx) }⟩
 exact⟨a3,.inr ⟨HV.out,W3,W3.heap.size+2,oM,b3.size,rfl,hJ⟩⟩
theorem a4u (g:Grp) (A:Option Addr) (n c:Nat) (l:List Etr) (hg:g.At w w) (hl:l.length=n) (hn:n<=61) (hA:RowsAt Etr.cells 7 w w A l) (hx:∀ x∈l,x.At w w) :
  Calls prog 47 #[g,.slice A n c] w (JPost (Jr.ok g (l.map (·.c))) w):=by
 obtain⟨W1,hW1,hB0,hb0,hz⟩:=nw1 w g 29;have HW:=Z1 hW1;have hg1:=Z1 (hg.at_ hB0);have s1:w.heap.size<W1.heap.size:=oM;obtain⟨Hb0,HA,HX,Hl⟩:=Z4 hb0 hA hx hl;clear hW1 hz hb0 hg hA hx hl;go_enter func47,ntmps47;go_upto_region 1 with(fail);rw [<- HW.out];go_wp2_with (refine wpList_load_row rfl 29 _ rfl _ rfl _ _ _ _ Hb0.out underlying29 rfl VJ ?_);refine(b1r W1 g hg1.out).mono ?_;rintro e W2 ⟨hB2,h⟩;have hB02:=hB0.trans (hB2.mono hB0.size)
 rcases h with⟨hv,m,hm,rfl⟩ | ⟨hv,B,b,hB1,hBs,rfl,hj⟩
 ·have k1:(m != 0)=true:=by simp [hm]
  have Hm:=Z1 hm;have HV:Hid (Jr.ok g (l.map (·.c))=false):=by show _=_;unfold Jr.ok;rw [hv];rfl
  clear hv hm;go_wp2
  go_ret2
  exact⟨⟨0,m,rfl,by simp [Hm.out,HV.out]⟩,hB02⟩
 have HV:Hid (Jr.ok g (l.map (·.c))=(List.range (l.map (·.c)).length).all (fun i=>Jr.postOk g ((l.map (·.c)).take i) ((l.map (·.c)).getD i EtC.zero))):=by show _=_;unfold Jr.ok;rw [hv];rfl
 have HJ:=Z1 hj;have HB02:=Z1 hB02;have hBw:w.heap.size<=B:=oM;clear hv hj;go_upto_region 4 with(fail);go_wp2
 go_loopw [21] (fun i wr=>∃ k:Nat,k<=n/\i=.int .i64 k/\Jrns B wr b g ((l.map (·.c)).take k)/\(List.range k).all (fun i=>Jr.postOk g ((l.map (·.c)).take i) ((l.map (·.c)).getD i EtC.zero))=true/\Below w w wr/\B<=wr.heap.size) (fun i _=>n-(intOf i).toNat)
 case atStart=>exact⟨0,Nat.zero_le _,rfl,HJ.out,rfl,HB02.out,hBs⟩
 case round =>
  obtain⟨k,hk,rfl,hj,hall,hb,hBr⟩:=hrel;have HJr:=Z1 hj;have Hall:=Z1 hall;clear hj hall hBs hB2 hB02
  by_cases hlt:k<n
  case neg =>
   obtain rfl:k=n:=oM;have hall:=Hall.out;rw [show k=(l.map (·.c)).length by rw [List.length_map];exact Hl.out.symm] at hall;have HF:Hid (Jr.ok g (l.map (·.c))=true):=by show _=_;rw [HV.out];exact hall
   clear hall;go_wp2
   go_ret2
   exact⟨⟨0,0,rfl,by simp [HF.out]⟩,hb⟩
  have hkl:k<l.length:=by have:=Hl.out;omega
  have hkm:k<(l.map (·.c)).length:=by rw [List.length_map];exact hkl
  obtain⟨bq,oq,rfl,hbq,hr⟩:=RowsAt.look (RowsAt.below HA.out hb lR) hkl;have hxk:=HX.out l[k] (List.getElem_mem hkl);obtain⟨x,hxe⟩:∃ x,x=l[k]:=⟨_,rfl⟩;have hxm:(l.map (·.c))[k]=x.c:=by rw [hxe];simp
  have Hbad:=Z1 (fun h=>Jr.ok_bad (g:=g) hkm h);have Hst:Hid ((l.map (·.c)).take (k+1)=(l.map (·.c)).take k++[x.c]):=by show _=_;rw [tse hkm,hxm]
  have Hnext:Hid (Jr.postOk g ((l.map (·.c)).take k) x.c=true->(List.range (k+1)).all (fun i=>Jr.postOk g ((l.map (·.c)).take i) ((l.map (·.c)).getD i EtC.zero))=true):=Z1 fun h =>
   Gr.range_all Hall.out (by rw [List.getD_eq_getElem?_getD,List.getElem?_eq_getElem hkm,hxm];exact h)
  rw [<- hxe] at hr hxk;rw [hxm] at Hbad;have Hr:=Z1 hr;have hbw:bq<wr.heap.size:=by have:=hb.size;omega
  have hpl:((l.map (·.c)).take k).length<=100:=by rw [List.length_take];omega
  obtain⟨xc,xA,xn,xk⟩:=x;obtain⟨Wa,hWa,hBa,hra,hza⟩:=nw1 wr (TE xc xA xn xk) 71;have HWa:=Z1 hWa;have hba:=hb.trans (hBa.mono hb.size);have hpost:=Z1 (b0R Wa B b g ((l.map (·.c)).take k) xc xA xn xk (HJr.out.below hBa hBr) (by have:=hBa.size;omega) ((hxk.below hba lR).more hBw) hpl);have Hra:=Z1 hra;have sa:wr.heap.size<Wa.heap.size:=Vq hra;have Hr':Hid (wr.rangeAt bq (oq+k*7) [xc.id,xc.ent,xc.date,xc.kind,xc.of_,.string xc.text,.slice xA xn xk]):=Hr;clear hr hxe hxm hxk hWa hra hza;go_upto_region 7 with(refine wpList_load_mid rfl 71 (.tmp 24) rfl bq (oq+k*7) rfl [xc.id,xc.ent,xc.date,xc.kind,xc.of_,.string xc.text,.slice xA xn xk] _ Hr'.out underlying71 rfl a0H ?_);rw [<- HWa.out];go_wp2_with (refine wpList_load_row rfl 71 _ rfl _ rfl _ _ _ _ Hra.out underlying71 rfl a0H ?_);refine hpost.out.mono ?_;rintro e W5 ⟨hB5,m,rfl,hm,hj5⟩;have hb5:=hba.trans (hB5.mono hBw);have hB5':B<=W5.heap.size:=by have:=hB5.size;have:=hBa.size;omega
  by_cases h0:m=0
  ·have k1:(m != 0)=false:=by simp [h0]
   have hj5':=hj5 h0;rw [<- Hst.out] at hj5';have HJ5:=Z1 hj5';have HN:=Z1 (Hnext.out (hm.1 h0));clear hj5 hj5' h0 hm;go_wp2;go_roundw
   case rel=>exact⟨k+1,oM,by go_num,HJ5.out,HN.out,hb5,hB5'⟩
   case measure=>simp [intOf];omega
  ·have k1:(m != 0)=true:=by simp [h0]
   have HF:=Z1 (Hbad.out (by cases hq:Jr.postOk g ((l.map (·.c)).take k) xc;rfl;exact absurd (hm.2 hq) h0));have Hm:=Z1 h0;clear hj5 h0 hm;go_wp2
   go_ret2
   exact⟨⟨k,m,rfl,by simp [Hm.out,HF.out]⟩,hb5⟩
end
end Go.Proofs.YtniaimjknmhapaaGreatDoor
