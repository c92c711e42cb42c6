/- My texts OfG. -/
import Derived.Test.YtniaimjknmhapaaGreatDoorG34
import Derived.Test.YtniaimjknmhapaaGreatDoorG36
set_option linter.unusedVariables false
set_option linter.unusedSimpArgs false
set_option maxRecDepth 100000
set_option maxHeartbeats 16000000
namespace Go.Proofs.YtniaimjknmhapaaGreatDoor
open Go.Proofs.Tryz Go.RowKit
def Cb.its (g:Grp) (now:Itv) (fi la:Int) (full:List Itv) (N D:Int) (its:List Itm):Option (List Itm) :=
 if now.meth=3 then some (its.map (Cb.acq g now.frm)) else if now.meth=2 then Cb.scaled N D (its.map (Cb.acq g now.frm)) else some (its.filter (Iv.gone g fi la full))
def Cb.full (b:Bks) (p:Int) (L:List Itv):List Itv:=L.filter (fun x=>!Iv.off (Cal.begin_ b.g.Y b.g.M p) (Cal.last b.g.Y b.g.M p) x)
def CtnOf (b:Bks) (e:Nat) (p:Int) (L:List Itv) (now:Itv) (N D:Int) (its sh:List Itm):Prop :=
 (now.meth=0/\(Cb.full b p L).length=0/\its=[]/\sh=[])∨(¬ (now.meth=0/\(Cb.full b p L).length=0)/\∃ l,Tr.items b e p=some l/\Cb.its b.g now (Cal.begin_ b.g.Y b.g.M p) (Cal.last b.g.Y b.g.M p) (Cb.full b p L) N D l=some its/\its.length<=3660/\sh=if now.meth=1 then l.map (Cb.acq b.g now.frm) else [])
def OfPost (b:Bks) (e:Nat) (p:Int) (L:List Itv) (now:Itv) (K:Nat) (w:World) (ev:Ending) (w':World):Prop :=
 Below w w w'/\(((Tr.items b e p=none∨now.meth=2)/\∃ n,n≠0/\ev=.returned (.tuple #[Ctn.zero.v,.int .i64 n])) ∨
  ∃(its sh:List Itm) (x:Ctn) (N D:Int),ev=.returned (.tuple #[x.v,()])/\x.ent=e/\x.meth=now.meth/\x.since=now.frm/\x.n=its.length/\x.m=sh.length /\
   RowsAt Itm.cells 7 w' w' x.A its/\RowsAt Itm.cells 7 w' w' x.B sh/\Fresh w x.A/\Fresh w x.B/\RI w' w' K K x.s.v N D/\CtnOf b e p L now N D its sh/\(e=0->N=1/\D=1))
theorem a3X {α:Type}:∀(l:List (Option α)) (s:List α),allSome l=some s->s.length=l.length
 | [],s,h=>by cases h;rfl
 | none::_,_,h=>by cases h
 | some y::l,s,h=>by
  unfold allSome at h
  cases ha:allSome l with
  | none=>rw [ha] at h;cases h
  | some r =>
   rw [ha] at h
   cases h
   rw [List.length_cons,List.length_cons,a3X l r ha]
theorem Cb.scaled_len {N D:Int} {l r:List Itm} (h:Cb.scaled N D l=some r):r.length=l.length:=by
 have:=a3X _ _ h
 rwa [List.length_map] at this
theorem RI.keepS {w w':World} {k j:Nat} {v:Value} {N D:Int} {S:Nat->Prop} (h:RI w w k j v N D) (hS:∀ b,S b->∃(cs:Array Value) (t:TypeId) (fr:Nat × Nat),w.heap[b]?=some (Obj.cells cs t fr)/\∀(j:Nat) (n:Int),cs[j]?≠some (.int .u32 n)) (hX:KeepX S w w'):RI w' w' k j v N D:=by
 obtain⟨g1,A1,n1,c1,g2,A2,n2,c2,e,h1,h2⟩:=h;exact RI.more ⟨g1,A1,n1,c1,g2,A2,n2,c2,e,h1.others hS hX.block,h2.others hS hX.block⟩ hX.size lR lR
theorem a1x (n:Nat):Fresh n none:=fun ad h=>by cases h
section
variable (w:World)
theorem b2S (b:Bks) (e:Nat) (p:Int) (L:List Itv) (now:Itv) (K:Nat) (hb:b.At w w) (he:e<b.g.ents.length) (hok:Cal.ok b.g.Y b.g.M b.g.N=true) (hp:0<=p/\p<b.g.N)
  (hL:L.length<=1000) (hm:now.meth=0∨now.meth=1∨now.meth=2∨now.meth=3) (hK:6*K+1000<=10000000000)
  (hC:∀ W:World,b.At W W.heap.size->Calls prog 52 #[b.g,.slice b.hA b.hn b.hc,e,(Cal.last b.g.Y b.g.M p)] W (CurPost now W))
  (hE:∀(W:World) (d:Int),(d=Cal.last b.g.Y b.g.M p∨d=now.frm)->b.At W W.heap.size->Calls prog 53 #[b,e,d] W (EffPost K (fun _ N D=>e=0->N=1/\D=1) d W))
  (hI:∀ W:World,b.At W W.heap.size->Calls prog 100 #[b.g,.slice b.hA b.hn b.hc,e] W (IvsPost L W)) :
  Calls prog 22 #[b,e,p] w (OfPost b e p L now K w):=by
 obtain⟨W1,hW1,hB0,hb0,hr0,hz⟩:=nw2 w b ZC 36 46;obtain⟨HW,HB1,HB0,Hb0,Hr0⟩:=Z5 hW1 (hb.at_ hB0) hB0 hb0 hr0;have x1:=cr9 1 hb0;have x2:=cr9 2 hb0;have x3:=cr9 3 hb0;simp at x1 x2 x3;have s0:=Vq hb0;have s1:=Vq hr0;have hlt:e<b.g.en:=by have:=hb.hg.hel;omega
 obtain⟨HC,HE,HI,Hm⟩:=Z4 hC hE hI hm;have h0:Cal.err b.g.Y b.g.M b.g.N p=0:=(Cal.err_zero _ _ _ _).2 ⟨hok,hp.1,hp.2⟩;have H0:=Z1 h0;obtain⟨la,hla⟩:∃ la,la=Cal.last b.g.Y b.g.M p:=⟨_,rfl⟩;have Hla:=Z1 hla;have HLa:Hid (∀ W,CL 50 #[.agg #[b.g.Y,b.g.M,b.g.N],p] W (.tuple #[la,()])):=Z1 (fun W=>by rw [hla];exact a2y b.g.Y b.g.M b.g.N p W h0);obtain⟨fi,hfi⟩:∃ fi,fi=Cal.begin_ b.g.Y b.g.M p:=⟨_,rfl⟩;have HFi:Hid (∀ W,CL 51 #[.agg #[b.g.Y,b.g.M,b.g.N],p] W (.tuple #[.int .i64 fi,()])):=Z1 (fun W=>by rw [hfi];exact a4F b.g.Y b.g.M b.g.N p W h0);rw [<- hla] at HC HE;have Hfi:=Z1 hfi;have n1:¬ (e:Int)<0:=oM;have n2:¬ (e:Int) ≥ (b.g.en:Int):=oM;clear hW1 hz hb0 hr0 hb hB0 hC hE hI hla hfi h0 hok hp he hm;go_enter func22,ntmps22;go_upto_region 1 with(fail);rw [<- HW.out];go_wp2_with (fail);refine(HLa.out _).mono ?_;rintro ev W2 ⟨rfl,hB2⟩;have Hb2:=gB Hb0 hB2 s0;have y1:=cr9 1 Hb2.out;have y2:=cr9 2 Hb2.out;have y3:=cr9 3 Hb2.out;have y20:=cr9 20 Hb2.out;simp at y1 y2 y3 y20;have s2:=Vq Hb2.out;have HB2:=Z1 hB2;clear x1 x2 x3 hB2;go_wp2_with (fail);refine(HFi.out _).mono ?_;rintro ev W3 ⟨rfl,hB3⟩;have hq2:=HB2.out.size;have hB13:=HB2.out.trans (hB3.mono hq2);have hq3:=hB13.size;obtain⟨W4,hW4,hB4,hs4,hz4⟩:=nw1 W3 #[fi,la] 113;have HW4:=Z1 hW4;have HB14:=Z1 (hB13.trans (hB4.mono hq3));obtain⟨HBk4,Hb4,Hs4⟩:=Z3 (HB1.out.at_ HB14.out) (gbox Hb0.out HB14.out s0) hs4;have hrg:Hid (∀ j v,(b.g:List Value)[j]?=some v->W4.cell? ⟨w,0+j,none⟩=some v):=fun j v hj=>by have:=cr9 j Hb4.out;rw [Nat.zero_add,this];exact a1C hj
 have x23:=cr9 23 Hb4.out;simp at x23;have s4:=Vq Hb4.out;have s3:W3.heap.size<W4.heap.size:=oM;have hq4:=HB14.out.size;clear y1 y2 y3 y20 hB3 hB13 hW4 hB4 hs4 hz4;go_upto_region 6 with(fail);rw [<- HW4.out];go_wp2_with (refine Vk (by rfl) 29 (.tmp 52) rfl w.heap.size 0 rfl _ _ hrg.out underlying29 rfl VJ ?_);refine(HC.out W4 HBk4.out).mono ?_;rintro ev W5 ⟨hB5,rfl⟩;obtain⟨W6,hW6,hB6,hn6,hz6⟩:=nw1 W5 #[now.frm,now.to,now.meth] 115;have HW6:=Z1 hW6;have hq5:=hB5.size;have hB46:=hB5.trans (hB6.mono hq5);have HB16:=Z1 (HB14.out.trans (hB46.mono hq4));have HBk6:=Z1 (HB1.out.at_ HB16.out);have Hb6:=Z1 (gbox Hb0.out HB16.out s0);have Hs6:=gB Hs4 hB46 s3;have Hn6:=Z1 hn6;have s6:=Vq Hb6.out;have s7:=Vq Hn6.out;have s8:=Vq Hs6.out;have hq6:=HB16.out.size;clear x23 hrg hB5 hW6 hB6 hn6 hz6 hB46;go_upto_region 7 with(fail);rw [<- HW6.out];go_upto_region 9 with(fail);have z0:=cr9 0 Hn6.out;have z2:=cr9 2 Hn6.out;simp at z0 z2;have hS:Below W6 W6 W6.drew:=Vw bR 1;refine wp_region_held (S:=Below W6 W6) kR ?_;change wpAnyH _ _ _ _ _ _ _ _ (World.drew W6);obtain⟨W_0,hWd⟩:∃ W0,W0=W6.drew:=⟨_,rfl⟩;rw [<- hWd] at hS ⊢;clear hWd;refine jT 0 hS ?_;refine jT 1 hS ?_;refine jT 2 hS ?_ (v:=.int .i64 now.meth) (hy:=(.inl ⟨by rfl,fun W' hS'=>by have c0:=(hS'.cell (p:=⟨W5,2,none⟩) oM).trans z2;have c9:=Vq (gbox Hn6.out hS' s7);go_simp⟩));refine jT 3 hS ?_;refine jT 4 hS ?_ (v:=.int .i64 now.frm) (hy:=(.inl ⟨by rfl,fun W' hS'=>by have c0:=(hS'.cell (p:=⟨W5,0,none⟩) oM).trans z0;have c9:=Vq (gbox Hn6.out hS' s7);go_simp⟩));refine jT 5 hS ?_ (v:=b) (hy:=(yieldsIf_load_mid (by rfl) 36 _ rfl w.heap.size 0 rfl b _ (fun W' hS'=>Xx (gbox Hb6.out hS' s6)) underlying36 rfl a0B));refine jT 6 hS ?_;refine jT 7 hS ?_;refine jT 9 hS ?_ (v:=b) (hy:=(yieldsIf_load_mid (by rfl) 36 _ rfl w.heap.size 0 rfl b _ (fun W' hS'=>Xx (gbox Hb6.out hS' s6)) underlying36 rfl a0B));refine jT 10 hS ?_;refine jT 11 hS ?_;refine jT 12 hS ?_ (v:=.int .i64 now.frm) (hy:=(.inl ⟨by rfl,fun W' hS'=>by have c0:=(hS'.cell (p:=⟨W5,0,none⟩) oM).trans z0;have c9:=Vq (gbox Hn6.out hS' s7);go_simp⟩));have hV0:=hS.size;refine a0E fun md' ops' Q' a' hlm hlo hlq hla=>?_;obtain⟨RG,hRG⟩:∃ R:World->Prop,R=Below W6 W6:=⟨_,rfl⟩;rw [<- hRG] at hS ⊢
 have n3:∀(m:Nat) (W:World) (x1:Rn) (N1 D1:Int) (x2:Rn) (N2 D2:Int) (bf:Bool) (vf:Value) (pf:Nat),1+cond bf 0 1<=m->RG W->W_0.heap.size<=W.heap.size->(RI W W K K x1.v N1 D1)->(Hid (e=0->N1=1/\D1=1))->(RI W W K K x2.v N2 D2)->Mk W_0 W bf vf pf ZC 46->wpAnyH prog md' ops' Q' RG m #[true,true,true,true,true,true,true,true,true,true,true,true,true,true,true,bf,false] ((((a'.put (some 73) (x1.v)).put (some 78) (x2.v)).put (some 79) ((.agg (CT e now x1 x2 none 0 0 none 0 0)))).put (some 14) vf) W:=by
  intro m
  induction m with
  | zero=>intros;omega
  | succ m ih =>
  intro W x1 N1 D1 x2 N2 D2 bf vf pf hm hS hz F1 F0 F2 Hf;subst hlm hlo hlq hla hRG
  try simp only [z]
  by_cases hb:bf=true
  rotate_left
  ·refine wpAnyH_ready (rs:=(cond bf [] [15]++[])) (by revert hb;cases bf <;> intro hb <;> first | exact absurd dC hb | kernel_rfl) (by revert hb;cases bf <;> decide) (ropt (fun hf=>.cons rfl (fun K hK=>?_) .nil) .nil)
   ·subst hf
    obtain⟨W',hWn,hB,hrow,_⟩:=nw1 W ZC 46;go_simp;rw [<- hWn];clear hWn;have hS':=hS.trans (hB.mono hS.size);refine jK hK hS' ?_;clear hK K;have hn:=ih W' x1 N1 D1 x2 N2 D2 true (.pointer (some ⟨W,0,none⟩)) W (by simp only [cond_true,cond_false] at hm ⊢;omega) hS' (Nat.le_trans hz hB.size) (F1.at_ hB) (F0) (F2.at_ hB) (fun _=>⟨rfl,hz,hrow⟩) 
    try simp only [z] at hn
    exact hn
  subst hb;obtain⟨rfl,gf,hf⟩:=Hf rfl;clear ih hm;have HF1:=Z1 F1;have HF2:=Z1 F2;clear F1 F2;unfold Rn.v;refine rZ 16 fun K hK=>?_;rw [if_pos (by rfl)];refine VX 46 _ _ none rfl rfl pf 46 _ (CT e now x1 x2 none 0 0 none 0 0) rfl rfl hf rfl a0u oC ?_;have hS2:=below_setRow hS (Nat.le_trans (show W6.heap.size<=W_0.heap.size from hV0) gf) (CT e now x1 x2 none 0 0 none 0 0);refine jK hK hS2 ?_;clear hK K;refine wpAnyH_done kR ?_ _
  try simp only [z]
  have hR7:=setRow_heap W pf _ (CT e now x1 x2 none 0 0 none 0 0) _ _ hf;have F1:=(HF1.out.other (w':=W.setRow pf (CT e now x1 x2 none 0 0 none 0 0)) hf (none13 _ rfl) (fun c hc=>setRow_other _ _ _ _ hc));obtain⟨W7,hW7⟩:∃ W7,W7=W.setRow pf (CT e now x1 x2 none 0 0 none 0 0):=⟨_,rfl⟩;have hz7:W7.heap.size=W.heap.size:=by rw [hW7];simp
  rw [<- hW7] at hS2 hR7 F1 ⊢;rw [<- hz7] at F1;have gp:W6.heap.size<=pf:=Nat.le_trans hV0 gf;obtain⟨HR7,HF7,HS7⟩:=Z3 hR7 F1 hS2;have hq7:=hS2.size;have sp7:=Vq hR7;have HB17:=Z1 (HB16.out.trans (hS2.mono hq6));have HBk7:=Z1 (HBk6.out.at_ hS2);have Hb7:=gB Hb6 hS2 s6;have Hs7:=gB Hs6 hS2 s8;have Hn7:=gB Hn6 hS2 s7;have Hr7:=Z1 (gbox Hr0.out HB17.out s1);clear hW7 hS2 hR7 F1 hS hf hz gf HF1 HF2 z0 z2;have hld1:=Hs7.out;have hld2:=Hb7.out;have Hfu:=Z1 (b1C W7 b e fi la L hL HBk7.out HI.out);go_wp2_with (first | (refine wpList_load_row rfl 113 _ rfl _ rfl _ _ _ _ hld1 underlying113 rfl a4P ?_) | (refine wpList_load_row rfl 36 _ rfl _ rfl _ _ _ _ hld2 underlying36 rfl a0B ?_));refine Hfu.out.mono ?_;rintro ev W8 ⟨hB8,A8,c8,rfl,hF8⟩;obtain⟨L8,hL8⟩:∃ L8,L8=L.filter (fun x=>!Iv.off fi la x):=⟨_,rfl⟩;rw [<- hL8] at hF8 ⊢;have HL8:Hid (Cb.full b p L=L8):=Z1 (by rw [hL8,Hfi.out,Hla.out];rfl);have hn8:L8.length<=1000:=Nat.le_trans (by rw [hL8];exact List.length_filter_le _ _) hL;have HF8:=Z1 hF8;have HB8:=Z1 hB8;have hq8:=hB8.size;have HBk8:=Z1 (HBk7.out.at_ hB8);have Hb8:=gS Hb7 hB8;have Hn8:=gS Hn7 hB8;have Hs8:=gS Hs7 hB8;have HR8:=gB HR7 hB8 sp7;have HX8:=Z1 (HF7.out.at_ hB8);have HB18:=Z1 (HB17.out.trans (hB8.mono (show W1.heap.size<=W7.heap.size from HB17.out.size)));have Hr8:=Z1 (gbox Hr0.out HB18.out s1);have z2:=cr9 2 Hn8.out;simp at z2;have sn8:=Vq Hn8.out;clear hB8 hld1 hld2 hL8 hF8;obtain⟨mt,hmt⟩:∃ mt,mt=now.meth:=⟨_,rfl⟩;have Hmt:=Z1 hmt;have hmv:mt=0∨mt=1∨mt=2∨mt=3:=by rw [hmt];exact Hm.out
  rw [<- hmt] at z2;clear hmt;have hway:(mt=0/\L8.length=0)∨(mt=0/\L8.length≠0)∨mt=1∨mt=2∨mt=3:=oM;clear hmv
  rcases hway with⟨rfl,h8⟩ | ⟨rfl,h8⟩ | rfl | rfl | rfl
  focus
   have k8:((L8.length:Int)==0)=true:=by rw [h8];rfl
   have hldc:=HR8.out;have Ho:Hid (((CT e now x1 x2 none 0 0 none 0 0):Array Value).all (·.oneCell')=true):=Z1 oC;have hRF:=setRow_heap W8 (w.heap.size+1) _ (CT e now x1 x2 none 0 0 none 0 0) _ _ Hr8.out;have hload:=Z1 (run_loadVar_row (P:=prog) _ _ _ 46 _ _ _ hRF underlying46 rfl a0u);have HBF:=Z1 (below_setRow (HB0.out.trans (HB18.out.mono oM)) (show w.heap.size<=w.heap.size+1 by omega) (CT e now x1 x2 none 0 0 none 0 0));have HFF:=Z1 (HX8.out.other (w':=W8.setRow (w.heap.size+1) (CT e now x1 x2 none 0 0 none 0 0)) Hr8.out (none13 _ rfl) (fun c hc=>setRow_other _ _ _ _ hc));have H8:=Z1 h8;clear hRF h8;go_wp2_with (first | (refine wpList_load_row rfl 46 _ rfl _ rfl _ _ _ _ hldc underlying46 rfl a0u ?_) | (refine Vx rfl 46 (.tmp 6) (.tmp 92) none rfl rfl (w.heap.size+1) 46 _ (CT e now x1 x2 none 0 0 none 0 0) rfl rfl Hr8.out rfl a0u Ho.out ?_));refine bodyPost_ret (v:=.tuple #[(.agg (CT e now x1 x2 none 0 0 none 0 0)),()]) (by simp [results,results22,asAddr,Act.put,hload.out]) rfl ?_;exact⟨HBF.out,.inr ⟨[],[],⟨e,now.meth,now.frm,x1,x2,none,0,0,none,0,0⟩,N1,D1,rfl,rfl,rfl,rfl,rfl,rfl,.inl rfl,.inl rfl,a1x _,a1x _,by have:=HFF.out;simpa using this,.inl ⟨Hmt.out.symm,by rw [HL8.out];exact H8.out,rfl,rfl⟩,F0.out⟩⟩
  focus
   have k8:((L8.length:Int)==0)=false:=beq_eq_false_iff_ne.2 oM;have HN:Hid (¬ (now.meth=0/\L8.length=0)):=Z1 (fun h=>h8 h.2);clear h8
  rotate_left
  focus
   have HN:Hid (¬ (now.meth=0/\L8.length=0)):=Z1 (fun h=>by have:=Hmt.out;omega)
  rotate_left
  focus
   have HN:Hid (¬ (now.meth=0/\L8.length=0)):=Z1 (fun h=>by have:=Hmt.out;omega)
  rotate_left
  focus
   have HN:Hid (¬ (now.meth=0/\L8.length=0)):=Z1 (fun h=>by have:=Hmt.out;omega)
  rotate_left
  all_goals
   have hld3:=Hb8.out;have Hit:=Z1 (a5N W8 b e p HBk8.out);go_wp2_with (refine wpList_load_row rfl 36 _ rfl _ rfl _ _ _ _ hld3 underlying36 rfl a0B ?_);refine Hit.out.mono ?_;rintro ev W9 ⟨hB9,hit⟩;have HB9:=Z1 hB9;have hq9:=hB9.size;have HB19:=bT HB18 hB9;have Hr9:=Z1 (gbox Hr0.out HB19.out s1);have HBw9:=Z1 (HB0.out.trans (HB19.out.mono oM));clear z2 hld3 hB9
   rcases hit with⟨hno,n,hn,rfl⟩ | ⟨its,A9,c9,hso,rfl,hlen,hA9,hfr⟩
   ·have k1:(n != 0)=true:=by simpa using hn
    have HV:=Z1 hno;have Hn:=Z1 hn;have Ho:Hid ((ZC:Array Value).all (·.oneCell')=true):=Z1 oC;have hR:=setRow_heap W9 (w.heap.size+1) _ ZC _ _ Hr9.out;have hload:=Z1 (run_loadVar_row (P:=prog) _ _ _ 46 _ _ _ hR underlying46 rfl a0u);have hBF:=Z1 (below_setRow HBw9.out (show w.heap.size<=w.heap.size+1 by omega) ZC);clear hno hn hR;go_wp2_with (refine Vx rfl 46 (.tmp 6) (.tmp 102) none rfl rfl (w.heap.size+1) 46 _ ZC rfl rfl Hr9.out rfl a0u Ho.out ?_);exact bodyPost_ret (v:=.tuple #[ZC,n]) (by simp [results,results22,asAddr,Act.put,hload.out]) rfl ⟨hBF.out,.inl ⟨.inl HV.out,n,Hn.out,rfl⟩⟩
   obtain⟨Hso,HA9,Hfr9,HBk9,Hb9,Hn9,Hs9⟩:=Z7 hso hA9 hfr (HBk8.out.at_ HB9.out) (gbox Hb8.out HB9.out (Vq Hb8.out)) (gbox Hn8.out HB9.out sn8) (gbox Hs8.out HB9.out (Vq Hs8.out));obtain⟨HR9,HX9,HF9⟩:=Z3 (gbox HR8.out HB9.out (Vq HR8.out)) (HX8.out.at_ HB9.out) (RowsAt.at_ HF8.out HB9.out);have z2:=cr9 2 Hn9.out;have p2:=cr9 2 HR9.out;simp at z2 p2;rw [<- Hmt.out] at z2;have sn9:=Vq Hn9.out;have sp9:=Vq HR9.out;have sb9:=Vq Hb9.out;have ss9:=Vq Hs9.out;have hlds:=Hs9.out;have hrg9:W9.rangeAt w.heap.size 0 b.g:=fun j v hj=>by have:=cr9 j Hb9.out;rw [Nat.zero_add,this];exact a1C hj
   clear hso hA9 hfr
  focus
   obtain⟨L10,hL10⟩:∃ L10,L10=its.filter (Iv.gone b.g fi la L8):=⟨_,rfl⟩;have hdi:=a2R W9 b.g A9 its.length c9 its fi la A8 L8.length c8 L8 HBk9.out.hg rfl oM HA9.out rfl hn8 HF9.out;rw [<- hL10] at hdi;have Hac:=Z1 hdi;have HO:Hid (Cb.its b.g now fi la L8 N1 D1 its=some L10/\L10.length<=3660):=Z1 ⟨by unfold Cb.its;rw [if_neg (by have:=Hmt.out;omega),if_neg (by have:=Hmt.out;omega),hL10],by rw [hL10];exact Nat.le_trans (List.length_filter_le _ _) hlen⟩;clear hL10 hdi;go_wp2_with (first | (refine wpList_load_row rfl 113 _ rfl _ rfl _ _ _ _ hlds underlying113 rfl a4P ?_) | (refine Vk (by rfl) 29 (.tmp 107) rfl w.heap.size 0 rfl _ _ hrg9 underlying29 rfl VJ ?_));refine Hac.out.mono ?_;rintro ev W10 ⟨hB10,A10,c10,rfl,hA10,hfr10⟩;have hq10:=hB10.size;have HR10:=gB HR9 hB10 sp9;have p5:=cr9 11 HR10.out;have pz:=fun j=>fr0 j HR10.out;simp at p5;have sp10:=Vq HR10.out;have hX10:KeepX (fun b=>b=pf) W9 (W10.setCells pf 11 [.slice A10 L10.length c10]):=((KeepX.refl (fun b=>b=pf) W9).below hB10).put (b:=pf) rfl _ _;have HA10:=Z1 hA10;have Hfr10:=Z1 hfr10;clear z2 p2 hrg9 hA10 hfr10 hB10 hlds Hac;go_upto_region 24 with(fail);obtain⟨W11,hW11⟩:∃ W11,W11=W10.setCell ⟨pf,11,none⟩ (.slice A10 L10.length c10):=⟨_,rfl⟩;have hR11:Row W11 pf 46 (CT e now x1 x2 A10 L10.length c10 none 0 0):=by rw [hW11];exact Row.set HR10.out 11 (.slice A10 L10.length c10)
   have hA11:RowsAt Itm.cells 7 W11 W11 A10 L10:=by
    rw [hW11];exact RowsAt.kept HA10.out (a1d W10 pf 11 _) (fun bq oq eq hq=>by have h1:W9.heap.size<=bq:=Hfr10.out _ eq;have h2:bq=pf:=Option.some.inj hq;omega)
   change KeepX _ W9 (W10.setCell ⟨pf,11,none⟩ (.slice A10 L10.length c10)) at hX10;rw [<- hW11] at hX10 ⊢;obtain⟨HX11,HR11,HA11⟩:=Z3 hX10 hR11 hA11;clear hW11 hX10 hR11 hA11 HR10 HA10 p5 pz
  rotate_left
  focus
   obtain⟨L10,hL10⟩:∃ L10,L10=its.filter (Iv.gone b.g fi la L8):=⟨_,rfl⟩;have hdi:=a2R W9 b.g A9 its.length c9 its fi la A8 L8.length c8 L8 HBk9.out.hg rfl oM HA9.out rfl hn8 HF9.out;rw [<- hL10] at hdi;have Hac:=Z1 hdi;have HO:Hid (Cb.its b.g now fi la L8 N1 D1 its=some L10/\L10.length<=3660):=Z1 ⟨by unfold Cb.its;rw [if_neg (by have:=Hmt.out;omega),if_neg (by have:=Hmt.out;omega),hL10],by rw [hL10];exact Nat.le_trans (List.length_filter_le _ _) hlen⟩;clear hL10 hdi;go_wp2_with (first | (refine wpList_load_row rfl 113 _ rfl _ rfl _ _ _ _ hlds underlying113 rfl a4P ?_) | (refine Vk (by rfl) 29 (.tmp 107) rfl w.heap.size 0 rfl _ _ hrg9 underlying29 rfl VJ ?_));refine Hac.out.mono ?_;rintro ev W10 ⟨hB10,A10,c10,rfl,hA10,hfr10⟩;have hq10:=hB10.size;have HR10:=gB HR9 hB10 sp9;have p5:=cr9 11 HR10.out;have pz:=fun j=>fr0 j HR10.out;simp at p5;have sp10:=Vq HR10.out;have hX10:KeepX (fun b=>b=pf) W9 (W10.setCells pf 11 [.slice A10 L10.length c10]):=((KeepX.refl (fun b=>b=pf) W9).below hB10).put (b:=pf) rfl _ _;have HA10:=Z1 hA10;have Hfr10:=Z1 hfr10;clear z2 p2 hrg9 hA10 hfr10 hB10 hlds Hac;go_upto_region 24 with(fail);obtain⟨W11,hW11⟩:∃ W11,W11=W10.setCell ⟨pf,11,none⟩ (.slice A10 L10.length c10):=⟨_,rfl⟩;have hR11:Row W11 pf 46 (CT e now x1 x2 A10 L10.length c10 none 0 0):=by rw [hW11];exact Row.set HR10.out 11 (.slice A10 L10.length c10)
   have hA11:RowsAt Itm.cells 7 W11 W11 A10 L10:=by
    rw [hW11];exact RowsAt.kept HA10.out (a1d W10 pf 11 _) (fun bq oq eq hq=>by have h1:W9.heap.size<=bq:=Hfr10.out _ eq;have h2:bq=pf:=Option.some.inj hq;omega)
   change KeepX _ W9 (W10.setCell ⟨pf,11,none⟩ (.slice A10 L10.length c10)) at hX10;rw [<- hW11] at hX10 ⊢;obtain⟨HX11,HR11,HA11⟩:=Z3 hX10 hR11 hA11;clear hW11 hX10 hR11 hA11 HR10 HA10 p5 pz
  rotate_left
  focus
   go_upto_region 21 with(fail);have hac:=a1V W9.drew b.g A9 its.length c9 its now.frm (HBk9.out.at_ (Vw bR 1)).hg rfl oM (RowsAt.at_ HA9.out (Vw bR 1));obtain⟨L9,hL9⟩:∃ L9,L9=its.map (Cb.acq b.g now.frm):=⟨_,rfl⟩;rw [<- hL9] at hac;have hl9:L9.length<=3660:=by rw [hL9,List.length_map];exact hlen
   have HL9:=Z1 hL9;clear hL9;have hS0:KeepX (fun b=>b=pf) W9 W9.drew/\∃ Aq nq cq,Row W9.drew pf 46 (CT e now x1 x2 Aq nq cq none 0 0):=⟨(KeepX.refl _ _).below (Vw bR 1),none,0,0,HR9.out⟩;have hBd:Below W9 W9 W9.drew:=Vw bR 1;refine wp_region_held (S:=fun W=>KeepX (fun b=>b=pf) W9 W/\∃ Aq nq cq,Row W pf 46 (CT e now x1 x2 Aq nq cq none 0 0)) kR ?_;change wpAnyH _ _ _ _ _ _ _ _ (World.drew W9);obtain⟨U0,hU0⟩:∃ U0,U0=W9.drew:=⟨_,rfl⟩;rw [<- hU0] at hS0 hBd hac ⊢;clear hU0;have hpw:¬ w.heap.size=pf:=oM;refine jT 0 hS0 ?_;refine jT 1 hS0 ?_ (v:=b.g) (hy:=(yieldsIf_load_mid (by rfl) 29 _ rfl w.heap.size 0 rfl b.g _ (fun W' hS'=>hS'.1.range hrg9 sb9 hpw) underlying29 rfl VJ));refine jT 2 hS0 ?_;refine jT 3 hS0 ?_;refine jT 4 hS0 ?_ (v:=.int .i64 now.frm) (hy:=(.inl ⟨by rfl,fun W' hS'=>by obtain⟨_,Aq,nq,cq,hr⟩:=hS';have c8:=cr9 2 hr;simp at c8;have c7:=Vq hr;go_simp⟩));refine jT 6 hS0 ?_;refine jT 7 hS0 ?_ (v:=x1) (hy:=(yieldsIf_load_mid (by rfl) 43 _ rfl pf 3 rfl x1 _ (fun W' hS'=>by obtain⟨_,Aq,nq,cq,hr⟩:=hS';intro j v hj;rw [cell_of_row _ _ (3+j) _ _ _ hr];match j,hj with | 0,hj=>exact hj | 1,hj=>exact hj | 2,hj=>exact hj | 3,hj=>exact hj) underlying43 rfl Vy));refine wpAnyH_ready (rs:=[5]) kR sP (AllReadyH.cons rfl (fun KK hK=>?_) AllReadyH.nil);go_simp;refine hac.mono ?_;rintro ev W3' ⟨hB3',A3,c3,rfl,hA3,hfr3⟩;have hB93:=hBd.trans (hB3'.mono hBd.size);have hS3:KeepX (fun b=>b=pf) W9 W3'/\∃ Aq nq cq,Row W3' pf 46 (CT e now x1 x2 Aq nq cq none 0 0):=⟨hS0.1.below hB3',none,0,0,gbox HR9.out hB93 sp9⟩;refine hK.out _ _ hS3 (fun _=>?_);clear hK KK
   try simp only [z]
   refine wpAnyH_ready (rs:=[8]) kR sP (AllReadyH.cons rfl (fun KK hK=>?_) AllReadyH.nil);have Hsc:=Z1 (a7I W3' K K x1.v N1 D1 A3 L9.length c3 L9 oM (HX9.out.at_ hB93) rfl oM hA3);unfold Rn.v at Hsc;go_simp;refine Hsc.out.mono ?_;rintro ev W4' ⟨hB4',h4⟩;have hB94:=hB93.trans (hB4'.mono hB93.size);have hS4:KeepX (fun b=>b=pf) W9 W4'/\∃ Aq nq cq,Row W4' pf 46 (CT e now x1 x2 Aq nq cq none 0 0):=⟨hS3.1.below hB4',none,0,0,gbox HR9.out hB94 sp9⟩;have HR4:=gB HR9 hB94 sp9;have p5:=cr9 11 HR4.out;have pz:=fun j=>fr0 j HR4.out;simp at p5;have sp4:=Vq HR4.out
   have hh:∃(A10:Option Addr) (n10 c10:Nat) (er:Int),ev=.returned (.tuple #[.slice A10 n10 c10,er])/\Hid ((er≠0/\A10=none/\n10=0/\c10=0)∨(er=0/\∃ l,Cb.scaled N1 D1 L9=some l/\n10=l.length/\RowsAt Itm.cells 7 W4' W4' A10 l/\Fresh W3' A10)):=by
    rcases h4 with⟨_,n,hn,rfl⟩ | ⟨l,A,c,ho,rfl,hA,hf⟩
    ·exact⟨none,0,0,n,rfl,Z1 (.inl ⟨hn,rfl,rfl,rfl⟩)⟩
    ·exact⟨A,l.length,c,0,rfl,Z1 (.inr ⟨rfl,l,ho,rfl,hA,hf⟩)⟩
   obtain⟨A10,n10,c10,er,rfl,HH⟩:=hh;clear h4;refine hK.out _ _ hS4 (fun _=>?_);clear hK KK
   try simp only [z]
   refine jT 9 hS4 ?_;refine jT 10 hS4 ?_;refine jT 11 hS4 ?_;refine jT 12 hS4 ?_;refine wpAnyH_ready (rs:=[13]) kR sP (AllReadyH.cons rfl (fun KK hK=>?_) AllReadyH.nil);have hS5:KeepX (fun b=>b=pf) W9 (W4'.setCells pf 11 [.slice A10 n10 c10])/\∃ Aq nq cq,Row (W4'.setCells pf 11 [.slice A10 n10 c10]) pf 46 (CT e now x1 x2 Aq nq cq none 0 0):=⟨hS4.1.put (b:=pf) rfl _ _,A10,n10,c10,Row.set HR4.out 11 (.slice A10 n10 c10)⟩;go_simp;refine hK.out _ _ hS5 (fun _=>?_);clear hK KK
   try simp only [z]
   refine wpAnyH_ready (rs:=[14]) kR sP (AllReadyH.cons rfl (fun KK hK=>?_) AllReadyH.nil);go_simp;refine hK.out _ _ hS5 (fun _=>?_);clear hK KK
   try simp only [z]
   refine wpAnyH_done kR ?_ _;obtain⟨W11,hW11⟩:∃ W11,W11=W4'.setCell ⟨pf,11,none⟩ (.slice A10 n10 c10):=⟨_,rfl⟩;have hR11:Row W11 pf 46 (CT e now x1 x2 A10 n10 c10 none 0 0):=by rw [hW11];exact Row.set HR4.out 11 (.slice A10 n10 c10)
   have hX11:=hS5.1;change KeepX _ W9 (W4'.setCell ⟨pf,11,none⟩ (.slice A10 n10 c10)) at hX11
   have hAq:∀ l,RowsAt Itm.cells 7 W4' W4' A10 l->Fresh W3' A10->RowsAt Itm.cells 7 W11 W11 A10 l:=fun l hA hf=>by
    rw [hW11];exact RowsAt.kept hA (a1d W4' pf 11 _) (fun bq oq eq hq=>by have h1:W3'.heap.size<=bq:=hf _ eq;have h2:bq=pf:=Option.some.inj hq;have:=hB93.size;omega)
   have HAq:=Z1 hAq;rw [<- hW11] at hX11 ⊢;have HX11:=Z1 hX11;have HR11:=Z1 hR11;have hq93:=hB93.size;clear hW11 hX11 hR11 HR4 p5 pz hS5 hS4 hS3 hS0 hB94 hB93 hBd hB3' hB4' hA3 hfr3 hac hAq hlds hrg9 z2 p2 Hsc
   by_cases her:er=0
   rotate_left
   focus
    have k9:(er != 0)=true:=by simpa using her
    have hr11:Row W11 (w.heap.size+1) 46 ZC:=(HX11.out.block _ (Vq Hr9.out) oM).trans Hr9.out;have Hr11:=Z1 hr11;have hBX:Below w w W11:=HBw9.out.trans (HX11.out.to_below oM (fun b hb ee=>oM));have Her:=Z1 her;have Ho:Hid ((ZC:Array Value).all (·.oneCell')=true):=Z1 oC;have hR:=setRow_heap W11 (w.heap.size+1) _ ZC _ _ hr11;have hload:=Z1 (run_loadVar_row (P:=prog) _ _ _ 46 _ _ _ hR underlying46 rfl a0u);have hBF:=Z1 (below_setRow hBX (show w.heap.size<=w.heap.size+1 by omega) ZC);clear her hR hr11 hBX;go_wp2_with (refine Vx rfl 46 (.tmp 6) (.tmp 139) none rfl rfl (w.heap.size+1) 46 _ ZC rfl rfl Hr11.out rfl a0u Ho.out ?_);exact bodyPost_ret (v:=.tuple #[ZC,er]) (by simp [results,results22,asAddr,Act.put,hload.out]) rfl ⟨hBF.out,.inl ⟨.inr Hmt.out.symm,er,Her.out,rfl⟩⟩
   subst her
   obtain⟨L10,HL10⟩:∃ L10,Hid (Cb.scaled N1 D1 L9=some L10/\n10=L10.length/\RowsAt Itm.cells 7 W11 W11 A10 L10/\Fresh W3' A10):=by
    rcases HH.out with⟨h,_⟩ | ⟨_,l,h1,h2,h3,h4⟩
    ·exact absurd rfl h
    ·exact⟨l,Z1 ⟨h1,h2,HAq.out l h3 h4,h4⟩⟩
   have HO:Hid (Cb.its b.g now fi la L8 N1 D1 its=some L10/\L10.length<=3660):=Z1 ⟨by unfold Cb.its;rw [if_neg (by have:=Hmt.out;omega),if_pos Hmt.out.symm,<- HL9.out];exact HL10.out.1,by have:=Cb.scaled_len HL10.out.1;omega⟩;have HA11:=Z1 HL10.out.2.2.1;have Hfr10:Hid (Fresh W9 A10):=Z1 (fun ad h=>Nat.le_trans hq93 (HL10.out.2.2.2 ad h));have hn10:=HL10.out.2.1;subst hn10;clear HL10 HH HAq HL9 hl9;go_upto_region 24 with(fail)
  rotate_left
  focus
   obtain⟨L10,hL10⟩:∃ L10,L10=its.map (Cb.acq b.g now.frm):=⟨_,rfl⟩;have hac:=a1V W9 b.g A9 its.length c9 its now.frm HBk9.out.hg rfl oM HA9.out;rw [<- hL10] at hac;have Hac:=Z1 hac;have HO:Hid (Cb.its b.g now fi la L8 N1 D1 its=some L10/\L10.length<=3660):=Z1 ⟨by unfold Cb.its;rw [if_pos Hmt.out.symm,hL10],by rw [hL10,List.length_map];exact hlen⟩;clear hL10 hac;go_wp2_with (refine Vk (by rfl) 29 (.tmp 115) rfl w.heap.size 0 rfl _ _ hrg9 underlying29 rfl VJ ?_);refine Hac.out.mono ?_;rintro ev W10 ⟨hB10,A10,c10,rfl,hA10,hfr10⟩;have hq10:=hB10.size;have HR10:=gB HR9 hB10 sp9;have p5:=cr9 11 HR10.out;have pz:=fun j=>fr0 j HR10.out;simp at p5;have sp10:=Vq HR10.out;have hX10:KeepX (fun b=>b=pf) W9 (W10.setCells pf 11 [.slice A10 L10.length c10]):=((KeepX.refl (fun b=>b=pf) W9).below hB10).put (b:=pf) rfl _ _;have HA10:=Z1 hA10;have Hfr10:=Z1 hfr10;clear z2 p2 hrg9 hA10 hfr10 hB10 hlds Hac;go_upto_region 24 with(fail);obtain⟨W11,hW11⟩:∃ W11,W11=W10.setCell ⟨pf,11,none⟩ (.slice A10 L10.length c10):=⟨_,rfl⟩;have hR11:Row W11 pf 46 (CT e now x1 x2 A10 L10.length c10 none 0 0):=by rw [hW11];exact Row.set HR10.out 11 (.slice A10 L10.length c10)
   have hA11:RowsAt Itm.cells 7 W11 W11 A10 L10:=by
    rw [hW11];exact RowsAt.kept HA10.out (a1d W10 pf 11 _) (fun bq oq eq hq=>by have h1:W9.heap.size<=bq:=Hfr10.out _ eq;have h2:bq=pf:=Option.some.inj hq;omega)
   change KeepX _ W9 (W10.setCell ⟨pf,11,none⟩ (.slice A10 L10.length c10)) at hX10;rw [<- hW11] at hX10 ⊢;obtain⟨HX11,HR11,HA11⟩:=Z3 hX10 hR11 hA11;clear hW11 hX10 hR11 hA11 HR10 HA10 p5 pz
  rotate_left
  all_goals
   have hlt9:W9.heap.size<=W11.heap.size:=HX11.out.size;have hn11:Row W11 W5.heap.size 115 #[now.frm,now.to,now.meth]:=(HX11.out.block _ sn9 oM).trans Hn9.out;have Hr11:Hid (Row W11 (w.heap.size+1) 46 ZC):=Z1 ((HX11.out.block _ (Vq Hr9.out) oM).trans Hr9.out);have Hb11:Hid (Row W11 w.heap.size 36 b):=Z1 ((HX11.out.block _ sb9 oM).trans Hb9.out);have HY11:Hid (RI W11 W11 K K x1.v N1 D1):=Z1 (HX9.out.keepS (fun bq hq=>by subst hq;exact⟨_,_,_,HR9.out,none13 _ rfl⟩) HX11.out);have hB9':Below W1 W9 W11:=HX11.out.to_below (by have:=HB19.out.size;omega) (fun b hb ee=>oM);have HB11:=Z1 (HBw9.out.trans (hB9'.mono oM));have HBk11:Hid (b.At W11 W11):=Z1 ((HB1.out.below (HB19.out.trans hB9') lR).more (HB19.out.trans hB9').size)
   have HI11:Hid (RowsAt Itm.cells 7 W11 W11 A9 its):=Z1 (by
    rcases HA9.out with h | ⟨bq,oq,e9,hl9,hc⟩
    ·exact .inl h
    ·have h1:=Hfr9.out _ e9
     exact .inr ⟨bq,oq,e9,oM,fun j hj i v hv=>(HX11.out.cell hl9 (fun e=>by have h2:W8.heap.size<=bq:=h1;omega) _).trans (hc j hj i v hv)⟩)
   have z2:=cr9 2 hn11;simp at z2;rw [<- Hmt.out] at z2;have sn11:=Vq hn11;clear hn11 hB9'
  rotate_left
  focus
   have hrg11:W11.rangeAt w.heap.size 0 b.g:=fun j v hj=>by have:=cr9 j Hb11.out;rw [Nat.zero_add,this];exact a1C hj
   have p2:=cr9 2 HR11.out;simp at p2;have sp11:=Vq HR11.out;have sb11:=Vq Hb11.out;obtain⟨L12,hL12⟩:∃ L12,L12=its.map (Cb.acq b.g now.frm):=⟨_,rfl⟩;have hac:=a1V W11 b.g A9 its.length c9 its now.frm HBk11.out.hg rfl oM HI11.out;rw [<- hL12] at hac;have Hac:=Z1 hac;have HL12:=Z1 hL12;clear hac hL12;go_wp2_with (refine Vk (by rfl) 29 (.tmp 144) rfl w.heap.size 0 rfl _ _ hrg11 underlying29 rfl VJ ?_);refine Hac.out.mono ?_;rintro ev W12 ⟨hB12,A12,c12,rfl,hA12,hfr12⟩;have hR12:=gbox HR11.out hB12 sp11;have p5:=cr9 12 hR12;have pz:=fun j=>fr0 j hR12;simp at p5;have sp12:=Vq hR12;obtain⟨HR12,HA12,Hfr12,HB12⟩:=Z4 hR12 hA12 hfr12 hB12;clear z2 p2 hrg11 hR12 hA12 hfr12 hB12 Hac;go_upto_region 26 with(fail);obtain⟨W13,hW13⟩:∃ W13,W13=W12.setCell ⟨pf,12,none⟩ (.slice A12 L12.length c12):=⟨_,rfl⟩;have hz13:W13.heap.size=W12.heap.size:=by rw [hW13];simp [World.setCell]
   have hs12:=HB12.out.size
   obtain⟨Bs,ds,sh,HSt⟩:∃ Bs ds sh,Hid (Row W13 pf 46 (CT e now x1 x2 A10 L10.length c10 Bs sh.length ds)/\Row W13 (w.heap.size+1) 46 ZC/\RI W13 W13 K K x1.v N1 D1/\RowsAt Itm.cells 7 W13 W13 A10 L10/\RowsAt Itm.cells 7 W13 W13 Bs sh/\Fresh W9 Bs/\Below w w W13/\sh=if now.meth=1 then its.map (Cb.acq b.g now.frm) else []):=by
    refine⟨A12,c12,L12,Z1 ⟨?_,?_,?_,?_,?_,fun ad h=>Nat.le_trans hlt9 (Hfr12.out ad h),?_,?_⟩⟩
    ·rw [hW13];exact Row.set HR12.out 12 (.slice A12 L12.length c12)
    ·rw [hW13];exact Row.other (gbox Hr11.out HB12.out (Vq Hr11.out)) ⟨pf,12,none⟩ (by show w.heap.size+1≠pf;omega) _
    ·rw [hz13];exact(HY11.out.at_ HB12.out).other HR12.out (none13 _ rfl) (fun c hc=>by rw [hW13];exact Below.heap_setCell _ _ _ _ (show c≠pf from hc))
    ·rw [hW13];exact RowsAt.kept (RowsAt.at_ HA11.out HB12.out) (a1d W12 pf 12 _) (fun bq oq eq hq=>by have h1:W9.heap.size<=bq:=Hfr10.out _ eq;have h2:bq=pf:=Option.some.inj hq;omega)
    ·rw [hW13];exact RowsAt.kept HA12.out (a1d W12 pf 12 _) (fun bq oq eq hq=>by have h1:W11.heap.size<=bq:=Hfr12.out _ eq;have h2:bq=pf:=Option.some.inj hq;omega)
    ·rw [hW13];exact(HB11.out.trans (HB12.out.mono HB11.out.size)).setCell (p:=⟨pf,12,none⟩) (by show w.heap.size<=pf;omega) _
    ·rw [if_pos Hmt.out.symm];exact HL12.out
   rw [<- hW13];clear hW13 hz13 p5 pz
  rotate_left
  focus
   go_upto_region 26 with(fail);obtain⟨W13,hW13⟩:∃ W13,W13=W11:=⟨_,rfl⟩
   obtain⟨Bs,ds,sh,HSt⟩:∃ Bs ds sh,Hid (Row W13 pf 46 (CT e now x1 x2 A10 L10.length c10 Bs sh.length ds)/\Row W13 (w.heap.size+1) 46 ZC/\RI W13 W13 K K x1.v N1 D1/\RowsAt Itm.cells 7 W13 W13 A10 L10/\RowsAt Itm.cells 7 W13 W13 Bs sh/\Fresh W9 Bs/\Below w w W13/\sh=if now.meth=1 then its.map (Cb.acq b.g now.frm) else []):=by
    rw [hW13];exact⟨none,0,[],Z1 ⟨HR11.out,Hr11.out,HY11.out,HA11.out,.inl rfl,a1x _,HB11.out,by rw [if_neg (by have:=Hmt.out;omega)]⟩⟩
   rw [<- hW13];clear hW13 z2
  rotate_left
  focus
   go_upto_region 26 with(fail);obtain⟨W13,hW13⟩:∃ W13,W13=W11:=⟨_,rfl⟩
   obtain⟨Bs,ds,sh,HSt⟩:∃ Bs ds sh,Hid (Row W13 pf 46 (CT e now x1 x2 A10 L10.length c10 Bs sh.length ds)/\Row W13 (w.heap.size+1) 46 ZC/\RI W13 W13 K K x1.v N1 D1/\RowsAt Itm.cells 7 W13 W13 A10 L10/\RowsAt Itm.cells 7 W13 W13 Bs sh/\Fresh W9 Bs/\Below w w W13/\sh=if now.meth=1 then its.map (Cb.acq b.g now.frm) else []):=by
    rw [hW13];exact⟨none,0,[],Z1 ⟨HR11.out,Hr11.out,HY11.out,HA11.out,.inl rfl,a1x _,HB11.out,by rw [if_neg (by have:=Hmt.out;omega)]⟩⟩
   rw [<- hW13];clear hW13 z2
  rotate_left
  focus
   go_upto_region 26 with(fail);obtain⟨W13,hW13⟩:∃ W13,W13=W11:=⟨_,rfl⟩
   obtain⟨Bs,ds,sh,HSt⟩:∃ Bs ds sh,Hid (Row W13 pf 46 (CT e now x1 x2 A10 L10.length c10 Bs sh.length ds)/\Row W13 (w.heap.size+1) 46 ZC/\RI W13 W13 K K x1.v N1 D1/\RowsAt Itm.cells 7 W13 W13 A10 L10/\RowsAt Itm.cells 7 W13 W13 Bs sh/\Fresh W9 Bs/\Below w w W13/\sh=if now.meth=1 then its.map (Cb.acq b.g now.frm) else []):=by
    rw [hW13];exact⟨none,0,[],Z1 ⟨HR11.out,Hr11.out,HY11.out,HA11.out,.inl rfl,a1x _,HB11.out,by rw [if_neg (by have:=Hmt.out;omega)]⟩⟩
   rw [<- hW13];clear hW13 z2
  rotate_left
  all_goals
   have hldc:=HSt.out.1;have hr13:=HSt.out.2.1;have Hr13:=Z1 hr13;have Ho:Hid (((CT e now x1 x2 A10 L10.length c10 Bs sh.length ds):Array Value).all (·.oneCell')=true):=Z1 oC;have hRF:=setRow_heap W13 (w.heap.size+1) _ (CT e now x1 x2 A10 L10.length c10 Bs sh.length ds) _ _ hr13;have hload:=Z1 (run_loadVar_row (P:=prog) _ _ _ 46 _ _ _ hRF underlying46 rfl a0u);have HBF:=Z1 (below_setRow HSt.out.2.2.2.2.2.2.1 (show w.heap.size<=w.heap.size+1 by omega) (CT e now x1 x2 A10 L10.length c10 Bs sh.length ds));obtain⟨HFF,HAF,HSF,HFB,HSh⟩:=Z5 (HSt.out.2.2.1.other (w':=W13.setRow (w.heap.size+1) (CT e now x1 x2 A10 L10.length c10 Bs sh.length ds)) hr13 (none13 _ rfl) (fun c hc=>setRow_other _ _ _ _ hc)) (RowsAt.other_row HSt.out.2.2.2.1 (n:=W9.heap.size) Hfr10.out (show w.heap.size+1<W9.heap.size from Vq Hr9.out) (CT e now x1 x2 A10 L10.length c10 Bs sh.length ds)) (RowsAt.other_row HSt.out.2.2.2.2.1 (n:=W9.heap.size) HSt.out.2.2.2.2.2.1 (show w.heap.size+1<W9.heap.size from Vq Hr9.out) (CT e now x1 x2 A10 L10.length c10 Bs sh.length ds)) HSt.out.2.2.2.2.2.1 HSt.out.2.2.2.2.2.2.2;have hq19:=HBw9.out.size;clear hr13 hRF HSt;go_wp2_with (first | (refine wpList_load_row rfl 46 _ rfl _ rfl _ _ _ _ hldc underlying46 rfl a0u ?_) | (refine Vx rfl 46 (.tmp 6) (.tmp 151) none rfl rfl (w.heap.size+1) 46 _ (CT e now x1 x2 A10 L10.length c10 Bs sh.length ds) rfl rfl Hr13.out rfl a0u Ho.out ?_));refine bodyPost_ret (v:=.tuple #[(.agg (CT e now x1 x2 A10 L10.length c10 Bs sh.length ds)),()]) (by simp [results,results22,asAddr,Act.put,hload.out]) rfl ?_;refine⟨HBF.out,.inr ⟨L10,sh,⟨e,now.meth,now.frm,x1,x2,A10,L10.length,c10,Bs,sh.length,ds⟩,N1,D1,rfl,rfl,rfl,rfl,rfl,rfl,by have:=HAF.out;simpa using this,by have:=HSF.out;simpa using this,fun ad h=>Nat.le_trans hq19 (Hfr10.out ad h),fun ad h=>Nat.le_trans hq19 (HFB.out ad h),by have:=HFF.out;simpa using this,.inr ⟨by rw [HL8.out];exact HN.out,its,Hso.out,by rw [HL8.out,<- Hfi.out,<- Hla.out];exact HO.out.1,HO.out.2,HSh.out⟩,F0.out⟩⟩
 have n2:∀(m:Nat) (W:World) (x1:Rn) (N1 D1:Int) (x2:Rn) (N2 D2:Int) (bf:Bool) (vf:Value) (pf:Nat),2+cond bf 0 1<=m->RG W->W_0.heap.size<=W.heap.size->(RI W W K K x1.v N1 D1)->(Hid (e=0->N1=1/\D1=1))->(RI W W K K x2.v N2 D2)->Mk W_0 W bf vf pf ZC 46->wpAnyH prog md' ops' Q' RG m #[true,true,true,true,true,true,true,true,true,true,true,true,true,true,false,bf,false] (((a'.put (some 73) (x1.v)).put (some 78) (x2.v)).put (some 14) vf) W:=by
  intro m
  induction m with
  | zero=>intros;omega
  | succ m ih =>
  intro W x1 N1 D1 x2 N2 D2 bf vf pf hm hS hz F1 F0 F2 Hf;subst hlm hlo hlq hla hRG
  try simp only [z]
  refine wpAnyH_ready (rs:=14::(cond bf [] [15]++[])) (by cases bf <;> kernel_rfl) sP (.cons rfl (fun K hK=>?_) (ropt (fun hf=>.cons rfl (fun K hK=>?_) .nil) .nil))
  ·clear ih
   unfold Rn.v;go_simp;obtain⟨W',hWW⟩:∃ W',W'=W:=⟨_,rfl⟩;rw [<- hWW];have hB:Below W W W':=by rw [hWW];exact bR
   clear hWW;have hS':=hS.trans (hB.mono hS.size);refine jK hK hS' ?_;clear hK K;have hn:=n3 m W' x1 N1 D1 x2 N2 D2 bf vf pf oM hS' (Nat.le_trans hz hB.size) (F1.at_ hB) (F0) (F2.at_ hB) (Hf.step hB)
   try simp only [z] at hn
   exact hn
  ·subst hf
   obtain⟨W',hWn,hB,hrow,_⟩:=nw1 W ZC 46;go_simp;rw [<- hWn];clear hWn;have hS':=hS.trans (hB.mono hS.size);refine jK hK hS' ?_;clear hK K;have hn:=ih W' x1 N1 D1 x2 N2 D2 true (.pointer (some ⟨W,0,none⟩)) W (by simp only [cond_true,cond_false] at hm ⊢;omega) hS' (Nat.le_trans hz hB.size) (F1.at_ hB) (F0) (F2.at_ hB) (fun _=>⟨rfl,hz,hrow⟩) 
   try simp only [z] at hn
   exact hn
 have n1:∀(m:Nat) (W:World) (x1:Rn) (N1 D1:Int) (bf:Bool) (vf:Value) (pf:Nat),3+cond bf 0 1<=m->RG W->W_0.heap.size<=W.heap.size->(RI W W K K x1.v N1 D1)->(Hid (e=0->N1=1/\D1=1))->Mk W_0 W bf vf pf ZC 46->wpAnyH prog md' ops' Q' RG m #[true,true,true,true,true,true,true,true,true,true,true,true,true,false,false,bf,false] ((a'.put (some 73) (x1.v)).put (some 14) vf) W:=by
  intro m
  induction m with
  | zero=>intros;omega
  | succ m ih =>
  intro W x1 N1 D1 bf vf pf hm hS hz F1 F0 Hf;subst hlm hlo hlq hla hRG
  try simp only [z]
  refine wpAnyH_ready (rs:=13::(cond bf [] [15]++[])) (by cases bf <;> kernel_rfl) sP (.cons rfl (fun K hK=>?_) (ropt (fun hf=>.cons rfl (fun K hK=>?_) .nil) .nil))
  ·clear ih
   have HQ:=Z1 (HE.out W now.frm (.inr rfl) (HBk6.out.at_ hS));go_simp;refine HQ.out.mono ?_;rintro r W' ⟨hB,x2,N2,D2,rfl,hr2,_⟩;have hS':=hS.trans (hB.mono hS.size);refine jK hK hS' ?_;clear hK K;have hn:=n2 m W' x1 N1 D1 x2 N2 D2 bf vf pf oM hS' (Nat.le_trans hz hB.size) (F1.at_ hB) (F0) (hr2) (Hf.step hB)
   try simp only [z] at hn
   exact hn
  ·subst hf
   obtain⟨W',hWn,hB,hrow,_⟩:=nw1 W ZC 46;go_simp;rw [<- hWn];clear hWn;have hS':=hS.trans (hB.mono hS.size);refine jK hK hS' ?_;clear hK K;have hn:=ih W' x1 N1 D1 true (.pointer (some ⟨W,0,none⟩)) W (by simp only [cond_true,cond_false] at hm ⊢;omega) hS' (Nat.le_trans hz hB.size) (F1.at_ hB) (F0) (fun _=>⟨rfl,hz,hrow⟩) 
   try simp only [z] at hn
   exact hn
 have n0:∀(m:Nat) (W:World) (bf:Bool) (vf:Value) (pf:Nat),4+cond bf 0 1<=m->RG W->W_0.heap.size<=W.heap.size->Mk W_0 W bf vf pf ZC 46->wpAnyH prog md' ops' Q' RG m #[true,true,true,true,true,true,true,true,false,true,true,true,true,false,false,bf,false] (a'.put (some 14) vf) W:=by
  intro m
  induction m with
  | zero=>intros;omega
  | succ m ih =>
  intro W bf vf pf hm hS hz Hf;subst hlm hlo hlq hla hRG
  try simp only [z]
  refine wpAnyH_ready (rs:=8::(cond bf [] [15]++[])) (by cases bf <;> kernel_rfl) sP (.cons rfl (fun K hK=>?_) (ropt (fun hf=>.cons rfl (fun K hK=>?_) .nil) .nil))
  ·clear ih
   have HQ:=Z1 (HE.out W la (.inl rfl) (HBk6.out.at_ hS));go_simp;refine HQ.out.mono ?_;rintro r W' ⟨hB,x1,N1,D1,rfl,hr1,hq1⟩;have hS':=hS.trans (hB.mono hS.size);refine jK hK hS' ?_;clear hK K;have hn:=n1 m W' x1 N1 D1 bf vf pf oM hS' (Nat.le_trans hz hB.size) (hr1) (Z1 hq1) (Hf.step hB)
   try simp only [z] at hn
   exact hn
  ·subst hf
   obtain⟨W',hWn,hB,hrow,_⟩:=nw1 W ZC 46;go_simp;rw [<- hWn];clear hWn;have hS':=hS.trans (hB.mono hS.size);refine jK hK hS' ?_;clear hK K;have hn:=ih W' true (.pointer (some ⟨W,0,none⟩)) W (by simp only [cond_true,cond_false] at hm ⊢;omega) hS' (Nat.le_trans hz hB.size) (fun _=>⟨rfl,hz,hrow⟩) 
   try simp only [z] at hn
   exact hn
 have hn:=n0 _ W_0 false undef 0 lR hS lR  (fun h=>nomatch h);subst hlm hlo hlq hla hRG;exact hn
end
end Go.Proofs.YtniaimjknmhapaaGreatDoor
