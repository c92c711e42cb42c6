/- My texts RefC. -/
import Derived.Test.YtniaimjknmhapaaGreatDoorG14
import Derived.Test.YtniaimjknmhapaaGreatDoorG28
set_option linter.unusedVariables false
set_option linter.unusedSimpArgs false
set_option maxRecDepth 100000
set_option maxHeartbeats 16000000
namespace Go.Proofs.YtniaimjknmhapaaGreatDoor
open Go.Proofs.Tryz Go.RowKit
section
variable (w:World)
theorem Jr.fine_hasl {g:Grp} {c:EtC} (h:Jr.charted g c=true) {k:Nat} (hk:k<c.lines.length):Ch.has (Jr.chartOf g c.ent) c.lines[k].acct=true:=by
 unfold Jr.charted at h
 exact List.all_eq_true.1 h _ (List.getElem_mem hk)
theorem rcheck11_any (g:Grp) (c:EtC) (A:Option Addr) (n kc ke:Nat) (hg:g.At w w.heap.size) (hx:(⟨c,A,n,kc⟩:Etr).At w w.heap.size) (hke:c.ent=ke) (hf:Jr.fine g c=true) :
  Calls prog 225 #[.agg #[.string g.cur,.int .i64 g.Y,.int .i64 g.M,.int .i64 g.N,.slice g.cA g.cn g.cc,.int .i64 g.r0,.int .i64 g.r1,.int .i64 g.r2,.int .i64 g.r3,.int .i64 g.r4,.int .i64 g.r5,.int .i64 g.r6,.int .i64 g.r7,.int .i64 g.r8,.int .i64 g.r9,.int .i64 g.r10,.int .i64 g.r11,.int .i64 g.r12,.int .i64 g.r13,.int .i64 g.r14,.slice g.eA g.en g.ec],.agg #[.int .i64 c.id,.int .i64 c.ent,.int .i64 c.date,.int .i64 c.kind,.int .i64 c.of_,.string c.text,.slice A n kc]] w fun ev w'=>ev=.returned (.int .i64 0)/\Below w.heap.size w w':=by
 unfold Jr.fine at hf
 simp only [Bool.and_eq_true,decide_eq_true_eq] at hf
 obtain⟨⟨⟨hfo,hch⟩,hda⟩,hto⟩:=hf
 have hgv:Gr.valid g=true:=by unfold Jr.formed at hfo;simp only [Bool.and_eq_true] at hfo;exact hfo.1.1.1.1
 have hok:Cal.ok g.Y g.M g.N=true:=by unfold Gr.valid Gr.books at hgv;simp only [Bool.and_eq_true] at hgv;exact hgv.1.1.1.1.1.2
 have hkl:ke<g.ents.length:=by
  unfold Jr.formed Jr.shape at hfo;simp only [Bool.and_eq_true,decide_eq_true_eq] at hfo
  have h1:=hfo.1.1.1.2.2.2.1
  rw [hke] at h1;omega
 obtain⟨W1,hW1,hB0,hb0,hb1,hz⟩:=nw2 w #[.string g.cur,.int .i64 g.Y,.int .i64 g.M,.int .i64 g.N,.slice g.cA g.cn g.cc,.int .i64 g.r0,.int .i64 g.r1,.int .i64 g.r2,.int .i64 g.r3,.int .i64 g.r4,.int .i64 g.r5,.int .i64 g.r6,.int .i64 g.r7,.int .i64 g.r8,.int .i64 g.r9,.int .i64 g.r10,.int .i64 g.r11,.int .i64 g.r12,.int .i64 g.r13,.int .i64 g.r14,.slice g.eA g.en g.ec] #[.int .i64 c.id,.int .i64 c.ent,.int .i64 c.date,.int .i64 c.kind,.int .i64 c.of_,.string c.text,.slice A n kc] 29 71
 have HW:=Z1 hW1
 have hg1:=Z1 (hg.at_ hB0)
 have hx1:=Z1 (hx.at_ hB0)
 have Hel:=Z1 hg.hel
 have hen:=hg.hen
 have Hll:Hid (c.lines.length=n):=hx.hl
 have hln:n<=60:=by have h1:c.lines.length<=60:=hx.hw.hln;have h2:c.lines.length=n:=hx.hl;omega
 have hA:Hid (LinsAt W1 W1.heap.size A c.lines):=RowsAt.at_ hx.hA hB0
 have s1:w.heap.size<W1.heap.size:=by omega
 have s1':w.heap.size+1<W1.heap.size:=by omega
 have Hb0:=Z1 hb0
 have Hb1:=Z1 hb1
 have Hke:=Z1 hke
 have HkL:=Z1 hkl
 have Hch:=Z1 hch
 have HWl:Hid (∀ l∈c.lines,l.wf):=hx.hw.hlw
 have Hshape:=Z1 (rshape_any W1 g c A n kc ke hg1.out hx1.out hke hfo)
 have Hcal:Hid (∀ W,Calls prog 272 #[.agg #[.int .i64 g.Y,.int .i64 g.M,.int .i64 g.N],.int .i64 c.date] W fun e w'=>e=.returned (.bool true)/\Below W.heap.size W w'):=Z1 (fun W=>rincal_any W g.Y g.M g.N c.date hok (by unfold Jr.dated at hda;simpa using hda))
 have Hto:=Z1 hto
 clear hW1 hz hb0 hb1 hg hx hke hch hda hto hfo hgv hok hkl
 go_enter func225,ntmps225
 go_upto_region 1 with(fail)
 rw [<- HW.out]
 have hload:W1.rangeAt w.heap.size 0 [.string g.cur,.int .i64 g.Y,.int .i64 g.M,.int .i64 g.N,.slice g.cA g.cn g.cc,.int .i64 g.r0,.int .i64 g.r1,.int .i64 g.r2,.int .i64 g.r3,.int .i64 g.r4,.int .i64 g.r5,.int .i64 g.r6,.int .i64 g.r7,.int .i64 g.r8,.int .i64 g.r9,.int .i64 g.r10,.int .i64 g.r11,.int .i64 g.r12,.int .i64 g.r13,.int .i64 g.r14,.slice g.eA g.en g.ec]:=range_of Hb0.out
 have hload2:=Hb1.out
 go_wp2_with (first | (refine wpList_load_want (by rfl) 29 (.tmp 2) rfl w.heap.size 0 rfl _ _ hload underlying29 rfl grpSize ?_) | (refine wpList_load_row rfl 71 _ rfl _ rfl _ _ _ _ hload2 underlying71 rfl etrSize ?_))
 refine Hshape.out.mono ?_
 rintro ev W2 ⟨rfl,hB2⟩
 clear hload hload2
 go_wp2
 go_loopw [5] (fun i wr=>∃ k:Nat,k<=n/\i=.int .i64 k/\Below W1.heap.size W1 wr) (fun i _=>n-(intOf i).toNat)
 case atStart=>exact⟨0,Nat.zero_le _,rfl,hB2⟩
 case round =>
  obtain⟨k,hk,rfl,hb⟩:=hrel
  have hB0r:=hB0.trans (hb.mono hB0.size)
  have hVr:=gbox Hb1.out hb s1'
  have hVg:=gbox Hb0.out hb s1
  have e1:=cr9 1 hVr
  have e2:=cr9 2 hVr
  have e6:=cr9 6 hVr
  have g4:=cr9 20 hVg
  have g1:=cr9 1 hVg
  have g2:=cr9 2 hVg
  have g3:=cr9 3 hVg
  simp at e1 e2 e6 g4 g1 g2 g3
  rw [Hke.out] at e1
  have s2:w.heap.size+1<wr.heap.size:=some_lt hVr
  have s3:w.heap.size<wr.heap.size:=some_lt hVg
  have hsz:=hb.size
  by_cases hlt:k<n
  case neg =>
   obtain rfl:k=n:=by omega
   have HVr:=Z1 hVr
   clear hVr hVg g4 e1
   go_wp2_with (fail)
   refine(Hcal.out _).mono ?_
   rintro ev W3 ⟨rfl,hB3⟩
   have hb3:=hb.trans (hB3.mono hsz)
   have hB03:=hB0.trans (hb3.mono hB0.size)
   have f6:=cr9 6 (gbox HVr.out hB3 s2)
   simp at f6
   have s4:=some_lt (gbox HVr.out hB3 s2)
   have Hs:=Z1 (rsum11_any W3 A k kc c.lines Hll.out hln HWl.out ((RowsAt.below hA.out hb3 (Nat.le_refl _)).more hb3.size))
   rw [Hto.out] at Hs
   clear e2 e6 g1 g2 g3
   go_wp2_with (fail)
   refine Hs.out.mono ?_
   rintro ev W4 ⟨rfl,rfl⟩
   go_wp2
   go_ret
   exact⟨rfl,hB03⟩
  have hkl':k<c.lines.length:=by have:=Hll.out;omega
  obtain⟨b,o,rfl,hbB,hr⟩:=LinsAt.three (RowsAt.below hA.out hb (Nat.le_refl _)) hkl'
  obtain⟨l,hl⟩:∃ l,l=c.lines[k]:=⟨_,rfl⟩
  have hhas:=Jr.fine_hasl Hch.out hkl'
  rw [<- hl] at hr hhas
  obtain⟨e,he⟩:∃ e,e=g.ents[ke]'HkL.out:=⟨_,rfl⟩
  have hCe:=Jr.chartOf_eq Hke.out HkL.out
  rw [<- he] at hCe
  rw [hCe] at hhas
  have Hhas:=Z1 hhas
  have l0:wr.cell? ⟨b,o+k*3,none⟩=some (.int .i64 l.acct):=range_cell hr 0 _ rfl
  have hbw:b<wr.heap.size:=by omega
  have hgV:=Z1 ((hg1.out.below hb (Nat.le_refl _)).more hsz)
  obtain⟨be,oe,hAe,hbe,hre⟩:=RowsAt.look hgV.out.he HkL.out
  rw [<- he] at hre
  have Hre:=Z1 hre
  have Heo:=Z1 (hgV.out.hea e (by rw [he];exact List.getElem_mem _))
  rw [hAe] at g4
  have q2:=range_cell Hre.out 2 _ rfl
  have hken:(ke:Int)<(g.en:Int):=by have:=HkL.out;have:=Hel.out;omega
  clear hr hl hhas hVr hVg he hCe hAe hre e2 g1 g2 g3
  go_upto_region 6 with(fail)
  have hS:Below wr.heap.size wr wr.drew:=below_drawn (Below.refl _ _) 1
  refine wp_region_held (S:=Below wr.heap.size wr) (by kernel_rfl) ?_
  change wpAnyH _ _ _ _ _ _ _ _ (World.drew wr)
  obtain⟨W_0,hWd⟩:∃ W0,W0=wr.drew:=⟨_,rfl⟩
  rw [<- hWd] at hS ⊢
  clear hWd
  refine tk (i:=0) (v:=.pointer (some ⟨w.heap.size,20,none⟩)) rfl (.inl ⟨by rfl,fun W' hS'=>by go_simp⟩) hS ?_
  try simp only [z]
  refine tk (i:=1) (v:=.slice (some ⟨be,oe,none⟩) g.en g.ec) rfl (.inl ⟨by rfl,fun W' hS'=>by have c0:=(hS'.cell (p:=⟨w.heap.size,20,none⟩) (by show _<_;omega)).trans g4;go_simp⟩) hS ?_
  try simp only [z]
  refine tk (i:=2) (v:=.pointer (some ⟨w.heap.size+1,1,none⟩)) rfl (.inl ⟨by rfl,fun W' hS'=>by go_simp⟩) hS ?_
  try simp only [z]
  refine tk (i:=3) (v:=.int .i64 ke) rfl (.inl ⟨by rfl,fun W' hS'=>by have c0:=(hS'.cell (p:=⟨w.heap.size+1,1,none⟩) (by show _<_;omega)).trans e1;go_simp⟩) hS ?_
  try simp only [z]
  refine tk (i:=4) (v:=.pointer (some ⟨be,oe+ke*5,none⟩)) rfl (.inl ⟨by rfl,fun W' hS'=>by go_simp⟩) hS ?_
  try simp only [z]
  refine tk (i:=5) (v:=.pointer (some ⟨be,oe+ke*5+2,none⟩)) rfl (.inl ⟨by rfl,fun W' hS'=>by go_simp⟩) hS ?_
  try simp only [z]
  refine tk (i:=6) (v:=.slice e.cA e.cn e.cc) rfl (.inl ⟨by rfl,fun W' hS'=>by have c0:=(hS'.cell (p:=⟨be,oe+ke*5+2,none⟩) (by show _<_;omega)).trans q2;go_simp⟩) hS ?_
  try simp only [z]
  refine tk (i:=7) (v:=.pointer (some ⟨w.heap.size+1,6,none⟩)) rfl (.inl ⟨by rfl,fun W' hS'=>by go_simp⟩) hS ?_
  try simp only [z]
  refine tk (i:=8) (v:=.slice (some ⟨b,o,none⟩) n kc) rfl (.inl ⟨by rfl,fun W' hS'=>by have c0:=(hS'.cell (p:=⟨w.heap.size+1,6,none⟩) (by show _<_;omega)).trans e6;go_simp⟩) hS ?_
  try simp only [z]
  refine tk (i:=9) (v:=.int .i64 k) rfl (.inl ⟨by rfl,fun W' hS'=>by go_simp⟩) hS ?_
  try simp only [z]
  refine tk (i:=10) (v:=.pointer (some ⟨b,o+k*3,none⟩)) rfl (.inl ⟨by rfl,fun W' hS'=>by go_simp⟩) hS ?_
  try simp only [z]
  refine tk (i:=11) (v:=.pointer (some ⟨b,o+k*3,none⟩)) rfl (.inl ⟨by rfl,fun W' hS'=>by go_simp⟩) hS ?_
  try simp only [z]
  refine tk (i:=12) (v:=.int .i64 l.acct) rfl (.inl ⟨by rfl,fun W' hS'=>by have c0:=(hS'.cell (p:=⟨b,o+k*3,none⟩) (by show _<_;omega)).trans l0;go_simp⟩) hS ?_
  try simp only [z]
  have hV0:=hS.size
  refine wpAnyH_letters fun md' ops' Q' a' hlm hlo hlq hla=>?_
  obtain⟨RG,hRG⟩:∃ R:World->Prop,R=Below wr.heap.size wr:=⟨_,rfl⟩
  rw [<- hRG] at hS ⊢
  have n1:∀(m:Nat) (W:World) (bf:Bool) (vf:Value) (pf:Nat),2+cond bf 0 1<=m->RG W->W_0.heap.size<=W.heap.size->Mk W_0 W bf vf pf #[.int .i64 0,.int .i64 0,.int .i64 0,.int .i64 0] 87->wpAnyH prog md' ops' Q' RG m #[true,true,true,true,true,true,true,true,true,true,true,true,true,true,true,true,true,bf,false,false] (((((a'.put (some 33) (.tuple #[.agg #[.int .i64 (Ch.found e.chart l.acct).code,.int .i64 (Ch.found e.chart l.acct).kind,.int .i64 (Ch.found e.chart l.acct).basis,.int .i64 (Ch.found e.chart l.acct).parent],.bool (Ch.has e.chart l.acct)])).put (some 19) (.tuple #[.agg #[.int .i64 (Ch.found e.chart l.acct).code,.int .i64 (Ch.found e.chart l.acct).kind,.int .i64 (Ch.found e.chart l.acct).basis,.int .i64 (Ch.found e.chart l.acct).parent],.bool (Ch.has e.chart l.acct)])).put (some 34) (.agg #[.int .i64 (Ch.found e.chart l.acct).code,.int .i64 (Ch.found e.chart l.acct).kind,.int .i64 (Ch.found e.chart l.acct).basis,.int .i64 (Ch.found e.chart l.acct).parent])).put (some 35) (.bool (Ch.has e.chart l.acct))).put (some 6) vf) W:=by
   intro m
   induction m with
   | zero=>intros;omega
   | succ m ih =>
   intro W bf vf pf hm hS hz Hf
   subst hlm hlo hlq hla hRG
   try simp only [z]
   by_cases hb:bf=true
   rotate_left
   ·refine wpAnyH_ready (rs:=(cond bf [] [17]++[])) (by revert hb;cases bf <;> intro hb <;> first | exact absurd (by decide) hb | kernel_rfl) (by revert hb;cases bf <;> decide) (ropt (fun hf=>.cons rfl (fun K hK=>?_) .nil) .nil)
    ·subst hf
     obtain⟨W',hWn,hB,hrow,_⟩:=nw1 W #[.int .i64 0,.int .i64 0,.int .i64 0,.int .i64 0] 87
     go_simp
     rw [<- hWn]
     clear hWn
     have hS':=hS.trans (hB.mono hS.size)
     refine hK.out _ _ hS' (fun _=>?_)
     clear hK K
     try simp only [z]
     have hn:=ih W' true (.pointer (some ⟨W.heap.size,0,none⟩)) W.heap.size (by simp only [cond_true,cond_false] at hm ⊢;omega) hS' (Nat.le_trans hz hB.size) (fun _=>⟨rfl,hz,hrow⟩) 
     try simp only [z] at hn
     exact hn
   subst hb
   obtain⟨rfl,gf,hf⟩:=Hf rfl
   obtain⟨m,rfl⟩:∃ k,m=k+1:=⟨m-1,by simp only [cond_true] at hm;omega⟩
   clear ih hm
   obtain⟨q,hq⟩:∃ q,q=Ch.found e.chart l.acct:=⟨_,rfl⟩
   rw [<- hq,Hhas.out]
   clear hq
   refine rd9 18 (by kernel_rfl) rfl (fun K hK=>?_)
   rw [if_pos (by rfl)]
   refine wp_store_row 87 _ _ none rfl rfl pf 87 _ #[.int .i64 (q).code,.int .i64 (q).kind,.int .i64 (q).basis,.int .i64 (q).parent] rfl rfl hf rfl accSize (by simp [Value.oneCell']) ?_
   have hS2:=below_setRow hS (Nat.le_trans (show wr.heap.size<=W_0.heap.size from hV0) gf) #[.int .i64 (q).code,.int .i64 (q).kind,.int .i64 (q).basis,.int .i64 (q).parent]
   refine hK.out _ _ hS2 (fun _=>?_)
   clear hK K
   try simp only [z]
   refine rd9 19 (by kernel_rfl) rfl (fun K hK=>?_)
   go_simp
   refine hK.out _ _ hS2 (fun _=>?_)
   clear hK K
   try simp only [z]
   refine wpAnyH_done (by kernel_rfl) ?_ _
   try simp only [z]
   obtain⟨V4,hWn⟩:∃ W6,W6=W.setRow pf #[.int .i64 (q).code,.int .i64 (q).kind,.int .i64 (q).basis,.int .i64 (q).parent]:=⟨_,rfl⟩
   rw [<- hWn] at hS2 ⊢
   clear hWn hS hf hz gf
   have hbF:=hb.trans (hS2.mono hb.size)
   clear e1 g4 l0 e6 q2 hb
   go_wp2
   go_roundw
   case rel=>exact⟨k+1,by omega,by go_num,hbF⟩
   case measure=>simp [intOf];omega
  have n0:∀(m:Nat) (W:World) (bf:Bool) (vf:Value) (pf:Nat),6+cond bf 0 1<=m->RG W->W_0.heap.size<=W.heap.size->Mk W_0 W bf vf pf #[.int .i64 0,.int .i64 0,.int .i64 0,.int .i64 0] 87->wpAnyH prog md' ops' Q' RG m #[true,true,true,true,true,true,true,true,true,true,true,true,true,false,false,false,false,bf,false,false] (a'.put (some 6) vf) W:=by
   intro m
   induction m with
   | zero=>intros;omega
   | succ m ih =>
   intro W bf vf pf hm hS hz Hf
   subst hlm hlo hlq hla hRG
   try simp only [z]
   refine wpAnyH_ready (rs:=13::(cond bf [] [17]++[])) (by cases bf <;> kernel_rfl) (by simp) (.cons rfl (fun K hK=>?_) (ropt (fun hf=>.cons rfl (fun K hK=>?_) .nil) .nil))
   ·clear ih
    have HFd:=Z1 (findr_any W e.cA e.cn e.cc e.chart l.acct Heo.out.hcl Heo.out.hcn (RowsAt.at_ Heo.out.hc hS))
    go_simp
    refine HFd.out.mono ?_
    rintro r W' ⟨rfl,hB⟩
    have hS':=hS.trans (hB.mono hS.size)
    refine hK.out _ _ hS' (fun _=>?_)
    clear hK K
    try simp only [z]
    obtain⟨m,rfl⟩:∃ k,m=k+3:=⟨m-3,by omega⟩
    refine wpAnyH_take (i:=14) (v:=.tuple #[.agg #[.int .i64 (Ch.found e.chart l.acct).code,.int .i64 (Ch.found e.chart l.acct).kind,.int .i64 (Ch.found e.chart l.acct).basis,.int .i64 (Ch.found e.chart l.acct).parent],.bool (Ch.has e.chart l.acct)]) rfl (by kernel_rfl) (by cases bf <;> kernel_rfl) (by cases bf <;> kernel_rfl) (fun _ _ _ h=>h) (.inl ⟨by rfl,fun W' hS'=>by go_simp⟩) hS' ?_
    try simp only [z]
    refine wpAnyH_take (i:=15) (v:=.agg #[.int .i64 (Ch.found e.chart l.acct).code,.int .i64 (Ch.found e.chart l.acct).kind,.int .i64 (Ch.found e.chart l.acct).basis,.int .i64 (Ch.found e.chart l.acct).parent]) rfl (by kernel_rfl) (by cases bf <;> kernel_rfl) (by cases bf <;> kernel_rfl) (fun _ _ _ h=>h) (.inl ⟨by rfl,fun W' hS'=>by go_simp⟩) hS' ?_
    try simp only [z]
    refine wpAnyH_take (i:=16) (v:=.bool (Ch.has e.chart l.acct)) rfl (by kernel_rfl) (by cases bf <;> kernel_rfl) (by cases bf <;> kernel_rfl) (fun _ _ _ h=>h) (.inl ⟨by rfl,fun W' hS'=>by go_simp⟩) hS' ?_
    try simp only [z]
    have hn:=n1 m W' bf vf pf (by omega) hS' (Nat.le_trans hz hB.size) (Hf.step hB)
    try simp only [z] at hn
    exact hn
   ·subst hf
    obtain⟨W',hWn,hB,hrow,_⟩:=nw1 W #[.int .i64 0,.int .i64 0,.int .i64 0,.int .i64 0] 87
    go_simp
    rw [<- hWn]
    clear hWn
    have hS':=hS.trans (hB.mono hS.size)
    refine hK.out _ _ hS' (fun _=>?_)
    clear hK K
    try simp only [z]
    have hn:=ih W' true (.pointer (some ⟨W.heap.size,0,none⟩)) W.heap.size (by simp only [cond_true,cond_false] at hm ⊢;omega) hS' (Nat.le_trans hz hB.size) (fun _=>⟨rfl,hz,hrow⟩) 
    try simp only [z] at hn
    exact hn
  have hn:=n0 _ W_0 false u6 0 (Nat.le_refl _) hS (Nat.le_refl _)  (fun h=>nomatch h)
  subst hlm hlo hlq hla hRG
  exact hn
end
end Go.Proofs.YtniaimjknmhapaaGreatDoor
