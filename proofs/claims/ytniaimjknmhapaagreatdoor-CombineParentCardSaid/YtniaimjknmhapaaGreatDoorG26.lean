/- My texts SmpG, SmpW, Awake37, LawPar. -/
import Derived.Test.YtniaimjknmhapaaGreatDoorG18
import Derived.Test.YtniaimjknmhapaaGreatDoorG25
import Derived.Test.YtniaimjknmhapaaGreatDoorG32
import Derived.Test.YtniaimjknmhapaaGreatDoorG38
import Derived.Test.YtniaimjknmhapaaGreatDoorG39
import Derived.Test.YtniaimjknmhapaaGreatDoorG23
import Derived.Test.YtniaimjknmhapaaGreatDoorG15
set_option linter.unusedVariables false
set_option linter.unusedSimpArgs false
set_option maxRecDepth 100000
set_option maxHeartbeats 16000000
namespace Go.Proofs.YtniaimjknmhapaaGreatDoor
open Go.Proofs.Tryz Go.RowKit
structure EntA where
 A:Option Addr
 c:Nat
 L:Option Addr
 d:Nat
namespace Smp
def ent (name cur:ByteArray) (x:EntA) (joint:Bool):Ent:=⟨name,cur,x.A,14,x.c,echart,x.L,14,x.d,elinks,joint⟩
def grp (A:Option Addr) (c:Nat) (eA:Option Addr) (ec:Nat) (x0 x1 x2 x3:EntA):Grp :=
 ⟨⟨#[69,85,82]⟩,2026,1,36,A,26,c,chart,1500,1600,1700,1200,3100,3200,3300,3400,3500,4500,4600,4700,5500,5600,5700,eA,4,ec,[ent ⟨#[112,97,114,101,110,116]⟩ ⟨#[69,85,82]⟩ x0 false,ent ⟨#[110,111,114,116,104]⟩ ⟨#[69,85,82]⟩ x1 false,ent ⟨#[119,101,115,116]⟩ ⟨#[85,83,68]⟩ x2 false,ent ⟨#[106,111,105,110,116]⟩ ⟨#[85,83,68]⟩ x3 true]⟩
theorem chart_wf:∀ a∈chart,a.wf:=by
 have:chart.all (fun a=>(Lit.int .i64 a.code).wf&&(Lit.int .i64 a.kind).wf&&(Lit.int .i64 a.basis).wf&&(Lit.int .i64 a.parent).wf)=true:=by kernel_rfl
 intro a ha
 have:=List.all_eq_true.1 this a ha
 simp only [Bool.and_eq_true] at this
 exact⟨this.1.1.1,this.1.1.2,this.1.2,this.2⟩
theorem echart_wf:∀ a∈echart,a.wf:=by
 have:echart.all (fun a=>(Lit.int .i64 a.code).wf&&(Lit.int .i64 a.kind).wf&&(Lit.int .i64 a.basis).wf&&(Lit.int .i64 a.parent).wf)=true:=by kernel_rfl
 intro a ha
 have:=List.all_eq_true.1 this a ha
 simp only [Bool.and_eq_true] at this
 exact⟨this.1.1.1,this.1.1.2,this.1.2,this.2⟩
theorem elinks_wf:∀ a∈elinks,a.wf:=by
 have:elinks.all (fun a=>(Lit.int .i64 a.frm).wf&&(Lit.int .i64 a.to).wf&&(Lit.int .i64 a.since).wf)=true:=by kernel_rfl
 intro a ha
 have:=List.all_eq_true.1 this a ha
 simp only [Bool.and_eq_true] at this
 exact⟨this.1.1,this.1.2,this.2⟩
theorem roles_wf {A:Option Addr} {c:Nat} {eA:Option Addr} {ec:Nat} {x0 x1 x2 x3:EntA}:∀ r∈Gr.roles (grp A c eA ec x0 x1 x2 x3),(Lit.int .i64 r.code).wf=true:=by
 have:(Gr.roles (grp A c eA ec x0 x1 x2 x3)).all (fun r=>(Lit.int .i64 r.code).wf)=true:=by kernel_rfl
 exact List.all_eq_true.1 this
def Is (g:Grp):Prop:=∃ A c eA ec x0 x1 x2 x3,g=grp A c eA ec x0 x1 x2 x3
end Smp
def SamplePost (w:World) (e:Ending) (w':World):Prop:=Below w.heap.size w w'/\∃ g:Grp,e=.returned (.agg #[.string g.cur,.int .i64 g.Y,.int .i64 g.M,.int .i64 g.N,.slice g.cA g.cn g.cc,.int .i64 g.r0,.int .i64 g.r1,.int .i64 g.r2,.int .i64 g.r3,.int .i64 g.r4,.int .i64 g.r5,.int .i64 g.r6,.int .i64 g.r7,.int .i64 g.r8,.int .i64 g.r9,.int .i64 g.r10,.int .i64 g.r11,.int .i64 g.r12,.int .i64 g.r13,.int .i64 g.r14,.slice g.eA g.en g.ec])/\g.At w' w'.heap.size/\Smp.Is g
theorem RowsAt.set_other {α:Type} {f:α->List Value} {sz:Nat} {w:World} {A:Option Addr} {l:List α} (h:RowsAt f sz w w.heap.size A l) {b j:Nat} {v:Value} (hne:∀ ad,A=some ad->ad.block≠b):RowsAt f sz (w.setCell ⟨b,j,none⟩ v) (w.setCell ⟨b,j,none⟩ v).heap.size A l:=by
 rcases h with h | ⟨b',o,e,hl,hc⟩
 ·exact .inl h
 ·have hn:b'≠b:=hne _ e
  exact .inr ⟨b',o,e,by simpa [World.setCell] using hl,fun k hk i u hu=>(World.cell?_of_block (w:=w) (heap_setCell_other w _ _ _ hn)).trans (hc k hk i u hu)⟩
theorem RowsAt.lt {α:Type} {f:α->List Value} {sz:Nat} {w:World} {B:Nat} {A:Option Addr} {l:List α} (h:RowsAt f sz w B A l) (hl:l≠[]):∀ ad,A=some ad->ad.block<B:=by
 intro ad e
 rcases h with h | ⟨b',o,e',hl',_⟩
 ·exact absurd h hl
 ·rw [e'] at e;cases e;exact hl'
section
variable (w:World)
theorem sroles_any:Calls prog 39 #[] w fun e w'=>e=.returned (.agg #[.int .i64 1500,.int .i64 1600,.int .i64 1700,.int .i64 1200,.int .i64 3100,.int .i64 3200,.int .i64 3300,.int .i64 3400,.int .i64 3500,.int .i64 4500,.int .i64 4600,.int .i64 4700,.int .i64 5500,.int .i64 5600,.int .i64 5700])/\Below w.heap.size w w':=by
 obtain⟨W1,hW1,hB0,hb0,hz⟩:=nw1 w #[.int .i64 0,.int .i64 0,.int .i64 0,.int .i64 0,.int .i64 0,.int .i64 0,.int .i64 0,.int .i64 0,.int .i64 0,.int .i64 0,.int .i64 0,.int .i64 0,.int .i64 0,.int .i64 0,.int .i64 0] 26
 have HW:=Z1 hW1
 have Hb0:=Z1 hb0
 have hR:=setRow_heap W1 w.heap.size _ #[.int .i64 1500,.int .i64 1600,.int .i64 1700,.int .i64 1200,.int .i64 3100,.int .i64 3200,.int .i64 3300,.int .i64 3400,.int .i64 3500,.int .i64 4500,.int .i64 4600,.int .i64 4700,.int .i64 5500,.int .i64 5600,.int .i64 5700] _ _ hb0
 have hload:=Z1 (run_loadVar_row (P:=prog) _ _ _ 26 _ _ _ hR underlying26 rfl rolesSize)
 have hBF:=Z1 (below_setRow hB0 (Nat.le_refl _) #[.int .i64 1500,.int .i64 1600,.int .i64 1700,.int .i64 1200,.int .i64 3100,.int .i64 3200,.int .i64 3300,.int .i64 3400,.int .i64 3500,.int .i64 4500,.int .i64 4600,.int .i64 4700,.int .i64 5500,.int .i64 5600,.int .i64 5700])
 have Ho:Hid ((#[.int .i64 1500,.int .i64 1600,.int .i64 1700,.int .i64 1200,.int .i64 3100,.int .i64 3200,.int .i64 3300,.int .i64 3400,.int .i64 3500,.int .i64 4500,.int .i64 4600,.int .i64 4700,.int .i64 5500,.int .i64 5600,.int .i64 5700]:Array Value).all (·.oneCell')=true):=by show _=true;simp [Value.oneCell']
 clear hW1 hz hb0 hR
 go_enter func39,ntmps39
 go_upto_region 1 with(fail)
 rw [<- HW.out]
 go_wp2_with (refine wpList_store_row rfl 26 (.tmp 0) (.tmp 1) none rfl rfl w.heap.size 26 _ #[.int .i64 1500,.int .i64 1600,.int .i64 1700,.int .i64 1200,.int .i64 3100,.int .i64 3200,.int .i64 3300,.int .i64 3400,.int .i64 3500,.int .i64 4500,.int .i64 4600,.int .i64 4700,.int .i64 5500,.int .i64 5600,.int .i64 5700] rfl rfl Hb0.out rfl rolesSize Ho.out ?_)
 exact bodyPost_ret (v:=.agg #[.int .i64 1500,.int .i64 1600,.int .i64 1700,.int .i64 1200,.int .i64 3100,.int .i64 3200,.int .i64 3300,.int .i64 3400,.int .i64 3500,.int .i64 4500,.int .i64 4600,.int .i64 4700,.int .i64 5500,.int .i64 5600,.int .i64 5700]) (by simp [results,results39,asAddr,Act.put,hload.out]) rfl ⟨rfl,hBF.out⟩
theorem sample_any:Calls prog 17 #[] w (SamplePost w):=by
 obtain⟨W1,hW1,hB0,hb0,hz⟩:=nw1 w #[.string ⟨#[]⟩,.int .i64 0,.int .i64 0,.int .i64 0,.slice none 0 0,.int .i64 0,.int .i64 0,.int .i64 0,.int .i64 0,.int .i64 0,.int .i64 0,.int .i64 0,.int .i64 0,.int .i64 0,.int .i64 0,.int .i64 0,.int .i64 0,.int .i64 0,.int .i64 0,.int .i64 0,.slice none 0 0] 29
 have HW:=Z1 hW1
 have Hb0:=Z1 hb0
 have s1:w.heap.size<W1.heap.size:=by omega
 clear hW1 hz hb0
 go_enter func17,ntmps17
 go_upto_region 1 with(fail)
 rw [<- HW.out]
 go_wp2_with (fail)
 refine(schart_any W1).mono ?_
 rintro e W2 ⟨hB2,A,c,rfl,hfA,hA⟩
 have HfA:=Z1 hfA
 have HA:=Z1 hA
 clear hfA hA
 go_wp2_with (fail)
 refine(sroles_any W2).mono ?_
 rintro e W3 ⟨rfl,hB3⟩
 have hB03:=(hB0.trans (hB2.mono hB0.size)).trans (hB3.mono (Nat.le_trans hB0.size hB2.size))
 have hb3:=gbox (gbox Hb0.out hB2 s1) hB3 (by have:=hB2.size;omega)
 have hA3:=RowsAt.at_ HA.out hB3
 have hAlt:=RowsAt.lt HA.out (by decide)
 have HAlt:Hid (∀ ad,A=some ad->ad.block<W3.heap.size):=Z1 (fun ad h=>Nat.lt_of_lt_of_le (hAlt ad h) hB3.size)
 have hs23:=hB2.size
 have hs33:=hB3.size
 obtain⟨W4,hW4,hB4,hb4,hz4⟩:=nw1 W3 #[.string ⟨#[69,85,82]⟩,.int .i64 2026,.int .i64 1,.int .i64 36,.slice A 26 c,.int .i64 1500,.int .i64 1600,.int .i64 1700,.int .i64 1200,.int .i64 3100,.int .i64 3200,.int .i64 3300,.int .i64 3400,.int .i64 3500,.int .i64 4500,.int .i64 4600,.int .i64 4700,.int .i64 5500,.int .i64 5600,.int .i64 5700,.slice none 0 0] 29
 have HW4:=Z1 hW4
 have Hb4:=Z1 hb4
 have hB04:=hB03.trans (hB4.mono hB03.size)
 have Hr4:=Z1 (gbox hb3 hB4 (some_lt hb3))
 have HA4:=Z1 (RowsAt.at_ hA3 hB4)
 have Hz4:=Z1 hz4
 have s4:W3.heap.size<W4.heap.size:=by omega
 have h1c:∀ v∈(#[.string ⟨#[69,85,82]⟩,.int .i64 2026,.int .i64 1,.int .i64 36,.slice A 26 c,.int .i64 1500,.int .i64 1600,.int .i64 1700,.int .i64 1200,.int .i64 3100,.int .i64 3200,.int .i64 3300,.int .i64 3400,.int .i64 3500,.int .i64 4500,.int .i64 4600,.int .i64 4700,.int .i64 5500,.int .i64 5600,.int .i64 5700,.slice none 0 0]:Array Value).toList,v.oneCell'=true:=by simp [Value.oneCell']
 clear hW4 hz4 hb4 hb3 hA3 hAlt
 go_upto_region 2 with(refine wpList_store_new rfl 29 _ _ rfl 29 _ #[.string ⟨#[69,85,82]⟩,.int .i64 2026,.int .i64 1,.int .i64 36,.slice A 26 c,.int .i64 1500,.int .i64 1600,.int .i64 1700,.int .i64 1200,.int .i64 3100,.int .i64 3200,.int .i64 3300,.int .i64 3400,.int .i64 3500,.int .i64 4500,.int .i64 4600,.int .i64 4700,.int .i64 5500,.int .i64 5600,.int .i64 5700,.slice none 0 0] rfl rfl rfl h1c grpSize ?_)
 clear h1c
 rw [<- HW4.out]

 go_wp2_with (fail)
 refine(sent_any W4 ⟨#[112,97,114,101,110,116]⟩ ⟨#[69,85,82]⟩).mono ?_
 rintro e W5 ⟨hB5,A0,c0,L0,d0,rfl,hfa,hfl,ha,hl⟩
 have Fa0:=Z1 (show ∀ ad,A0=some ad->W4.heap.size<=ad.block from fun ad h=>Nat.le_trans (by omega) (hfa ad h))
 have Fl0:=Z1 (show ∀ ad,L0=some ad->W4.heap.size<=ad.block from fun ad h=>Nat.le_trans (by omega) (hfl ad h))
 have a0_5:=Z1 ha
 have l0_5:=Z1 hl
 have ta0:=Z1 (RowsAt.lt ha (by decide))
 have tl0:=Z1 (RowsAt.lt hl (by decide))
 clear hfa hfl ha hl
 have HA5:=Z1 (RowsAt.at_ HA4.out hB5)
 have Hb5:=Z1 (gbox Hb4.out hB5 (some_lt Hb4.out))
 have Hr5:=Z1 (gbox Hr4.out hB5 (some_lt Hr4.out))
 have hB05:=hB04.trans (hB5.mono hB04.size)
 go_wp2_with (fail)
 refine(sent_any W5 ⟨#[110,111,114,116,104]⟩ ⟨#[69,85,82]⟩).mono ?_
 rintro e W6 ⟨hB6,A1,c1,L1,d1,rfl,hfa,hfl,ha,hl⟩
 have Fa1:=Z1 (show ∀ ad,A1=some ad->W4.heap.size<=ad.block from fun ad h=>Nat.le_trans (by have:=hB5.size;omega) (hfa ad h))
 have Fl1:=Z1 (show ∀ ad,L1=some ad->W4.heap.size<=ad.block from fun ad h=>Nat.le_trans (by have:=hB5.size;omega) (hfl ad h))
 have a1_6:=Z1 ha
 have l1_6:=Z1 hl
 have ta1:=Z1 (RowsAt.lt ha (by decide))
 have tl1:=Z1 (RowsAt.lt hl (by decide))
 clear hfa hfl ha hl
 have a0_6:=Z1 (RowsAt.at_ a0_5.out hB6)
 have l0_6:=Z1 (RowsAt.at_ l0_5.out hB6)
 have HA6:=Z1 (RowsAt.at_ HA5.out hB6)
 have Hb6:=Z1 (gbox Hb5.out hB6 (some_lt Hb5.out))
 have Hr6:=Z1 (gbox Hr5.out hB6 (some_lt Hr5.out))
 have hB06:=hB05.trans (hB6.mono hB05.size)
 go_wp2_with (fail)
 refine(sent_any W6 ⟨#[119,101,115,116]⟩ ⟨#[85,83,68]⟩).mono ?_
 rintro e W7 ⟨hB7,A2,c2,L2,d2,rfl,hfa,hfl,ha,hl⟩
 have Fa2:=Z1 (show ∀ ad,A2=some ad->W4.heap.size<=ad.block from fun ad h=>Nat.le_trans (by have:=hB5.size;have:=hB6.size;omega) (hfa ad h))
 have Fl2:=Z1 (show ∀ ad,L2=some ad->W4.heap.size<=ad.block from fun ad h=>Nat.le_trans (by have:=hB5.size;have:=hB6.size;omega) (hfl ad h))
 have a2_7:=Z1 ha
 have l2_7:=Z1 hl
 have ta2:=Z1 (RowsAt.lt ha (by decide))
 have tl2:=Z1 (RowsAt.lt hl (by decide))
 clear hfa hfl ha hl
 have a0_7:=Z1 (RowsAt.at_ a0_6.out hB7)
 have l0_7:=Z1 (RowsAt.at_ l0_6.out hB7)
 have a1_7:=Z1 (RowsAt.at_ a1_6.out hB7)
 have l1_7:=Z1 (RowsAt.at_ l1_6.out hB7)
 have HA7:=Z1 (RowsAt.at_ HA6.out hB7)
 have Hb7:=Z1 (gbox Hb6.out hB7 (some_lt Hb6.out))
 have Hr7:=Z1 (gbox Hr6.out hB7 (some_lt Hr6.out))
 have hB07:=hB06.trans (hB7.mono hB06.size)
 go_wp2_with (fail)
 refine(sent_any W7 ⟨#[106,111,105,110,116]⟩ ⟨#[85,83,68]⟩).mono ?_
 rintro e W8 ⟨hB8,A3,c3,L3,d3,rfl,hfa,hfl,ha,hl⟩
 have Fa3:=Z1 (show ∀ ad,A3=some ad->W4.heap.size<=ad.block from fun ad h=>Nat.le_trans (by have:=hB5.size;have:=hB6.size;have:=hB7.size;omega) (hfa ad h))
 have Fl3:=Z1 (show ∀ ad,L3=some ad->W4.heap.size<=ad.block from fun ad h=>Nat.le_trans (by have:=hB5.size;have:=hB6.size;have:=hB7.size;omega) (hfl ad h))
 have a3_8:=Z1 ha
 have l3_8:=Z1 hl
 have ta3:=Z1 (RowsAt.lt ha (by decide))
 have tl3:=Z1 (RowsAt.lt hl (by decide))
 clear hfa hfl ha hl
 have a0_8:=Z1 (RowsAt.at_ a0_7.out hB8)
 have l0_8:=Z1 (RowsAt.at_ l0_7.out hB8)
 have a1_8:=Z1 (RowsAt.at_ a1_7.out hB8)
 have l1_8:=Z1 (RowsAt.at_ l1_7.out hB8)
 have a2_8:=Z1 (RowsAt.at_ a2_7.out hB8)
 have l2_8:=Z1 (RowsAt.at_ l2_7.out hB8)
 have HA8:=Z1 (RowsAt.at_ HA7.out hB8)
 have Hb8:=Z1 (gbox Hb7.out hB8 (some_lt Hb7.out))
 have Hr8:=Z1 (gbox Hr7.out hB8 (some_lt Hr7.out))
 have hB08:=hB07.trans (hB8.mono hB07.size)
 have z5:=hB5.size
 have z6:=hB6.size
 have z7:=hB7.size
 have z8:=hB8.size
 have hpq:W3.heap.size<W8.heap.size:=by omega
 have hwp:w.heap.size<W3.heap.size:=by have:=hB0.size;omega
 have g20:=cr9 20 Hb8.out
 have gf:=fun j=>fr0 j Hb8.out
 simp at g20
 have hlt8:=some_lt Hb8.out
 have h9:=heap_setCell_same W8 W3.heap.size 20 _ _ (.slice (some ⟨W8.heap.size,0,none⟩) 4 4) Hb8.out
 simp at h9
 have h9r:=(heap_setCell_other W8 ⟨W3.heap.size,20,none⟩ w.heap.size (.slice (some ⟨W8.heap.size,0,none⟩) 4 4) (by show w.heap.size≠W3.heap.size;omega)).trans Hr8.out
 have hB09:=hB08.setCell (p:=⟨W3.heap.size,20,none⟩) (Nat.le_of_lt hwp) (.slice (some ⟨W8.heap.size,0,none⟩) 4 4)
 obtain⟨W9,hW9⟩:∃ W9,W9=W8.setCell ⟨W3.heap.size,20,none⟩ (.slice (some ⟨W8.heap.size,0,none⟩) 4 4):=⟨_,rfl⟩
 have hsz9:W9.heap.size=W8.heap.size:=by rw [hW9];simp [World.setCell]
 obtain⟨W10,hW10,hB10,h10q,hz10⟩:=nw1 W9 #[.string ⟨#[112,97,114,101,110,116]⟩,.string ⟨#[69,85,82]⟩,.slice A0 14 c0,.slice L0 14 d0,.bool false,.string ⟨#[110,111,114,116,104]⟩,.string ⟨#[69,85,82]⟩,.slice A1 14 c1,.slice L1 14 d1,.bool false,.string ⟨#[119,101,115,116]⟩,.string ⟨#[85,83,68]⟩,.slice A2 14 c2,.slice L2 14 d2,.bool false,.string ⟨#[106,111,105,110,116]⟩,.string ⟨#[85,83,68]⟩,.slice A3 14 c3,.slice L3 14 d3,.bool false] 102
 rw [hsz9] at h10q
 rw [<- hW9] at h9 h9r hB09
 have a0_10:AccsAt W10 W10.heap.size A0 Smp.echart:=RowsAt.at_ (by rw [hW9];exact RowsAt.set_other a0_8.out (fun ad h=>by have:=Fa0.out ad h;omega)) hB10
 have l0_10:LnksAt W10 W10.heap.size L0 Smp.elinks:=RowsAt.at_ (by rw [hW9];exact RowsAt.set_other l0_8.out (fun ad h=>by have:=Fl0.out ad h;omega)) hB10
 have a1_10:AccsAt W10 W10.heap.size A1 Smp.echart:=RowsAt.at_ (by rw [hW9];exact RowsAt.set_other a1_8.out (fun ad h=>by have:=Fa1.out ad h;omega)) hB10
 have l1_10:LnksAt W10 W10.heap.size L1 Smp.elinks:=RowsAt.at_ (by rw [hW9];exact RowsAt.set_other l1_8.out (fun ad h=>by have:=Fl1.out ad h;omega)) hB10
 have a2_10:AccsAt W10 W10.heap.size A2 Smp.echart:=RowsAt.at_ (by rw [hW9];exact RowsAt.set_other a2_8.out (fun ad h=>by have:=Fa2.out ad h;omega)) hB10
 have l2_10:LnksAt W10 W10.heap.size L2 Smp.elinks:=RowsAt.at_ (by rw [hW9];exact RowsAt.set_other l2_8.out (fun ad h=>by have:=Fl2.out ad h;omega)) hB10
 have a3_10:AccsAt W10 W10.heap.size A3 Smp.echart:=RowsAt.at_ (by rw [hW9];exact RowsAt.set_other a3_8.out (fun ad h=>by have:=Fa3.out ad h;omega)) hB10
 have l3_10:LnksAt W10 W10.heap.size L3 Smp.elinks:=RowsAt.at_ (by rw [hW9];exact RowsAt.set_other l3_8.out (fun ad h=>by have:=Fl3.out ad h;omega)) hB10
 have hA10:AccsAt W10 W10.heap.size A Smp.chart:=RowsAt.at_ (by rw [hW9];exact RowsAt.set_other HA8.out (fun ad h=>by have:=HAlt.out ad h;omega)) hB10
 have HW9:=Z1 hW9
 have HW10:=Z1 hW10
 have h10:=gbox h9 hB10 (some_lt h9)
 have h10r:=gbox h9r hB10 (some_lt h9r)
 have hB010:=hB09.trans (hB10.mono hB09.size)
 have h11:=heap_setCell_same W10 W8.heap.size 19 _ _ (.bool true) h10q
 simp at h11
 have h11p:=(heap_setCell_other W10 ⟨W8.heap.size,19,none⟩ W3.heap.size (.bool true) (by show W3.heap.size≠W8.heap.size;omega)).trans h10
 have h11r:=(heap_setCell_other W10 ⟨W8.heap.size,19,none⟩ w.heap.size (.bool true) (by show w.heap.size≠W8.heap.size;omega)).trans h10r
 have hB11:=hB010.setCell (p:=⟨W8.heap.size,19,none⟩) (by show w.heap.size<=W8.heap.size;omega) (.bool true)
 have k20:=cr9 20 h10
 have k19:=cr9 19 h10q
 have kf:=fun j=>fr0 j h10q
 simp at k20 k19
 have hlt10:=some_lt h10
 have hqlt10:=some_lt h10q
 obtain⟨W11,hW11⟩:∃ W11,W11=W10.setCell ⟨W8.heap.size,19,none⟩ (.bool true):=⟨_,rfl⟩
 have a0_11:AccsAt W11 W11.heap.size A0 Smp.echart:=by rw [hW11];exact RowsAt.set_other a0_10 (fun ad h=>by have:=ta0.out ad h;omega)
 have l0_11:LnksAt W11 W11.heap.size L0 Smp.elinks:=by rw [hW11];exact RowsAt.set_other l0_10 (fun ad h=>by have:=tl0.out ad h;omega)
 have a1_11:AccsAt W11 W11.heap.size A1 Smp.echart:=by rw [hW11];exact RowsAt.set_other a1_10 (fun ad h=>by have:=ta1.out ad h;omega)
 have l1_11:LnksAt W11 W11.heap.size L1 Smp.elinks:=by rw [hW11];exact RowsAt.set_other l1_10 (fun ad h=>by have:=tl1.out ad h;omega)
 have a2_11:AccsAt W11 W11.heap.size A2 Smp.echart:=by rw [hW11];exact RowsAt.set_other a2_10 (fun ad h=>by have:=ta2.out ad h;omega)
 have l2_11:LnksAt W11 W11.heap.size L2 Smp.elinks:=by rw [hW11];exact RowsAt.set_other l2_10 (fun ad h=>by have:=tl2.out ad h;omega)
 have a3_11:AccsAt W11 W11.heap.size A3 Smp.echart:=by rw [hW11];exact RowsAt.set_other a3_10 (fun ad h=>by have:=ta3.out ad h;omega)
 have l3_11:LnksAt W11 W11.heap.size L3 Smp.elinks:=by rw [hW11];exact RowsAt.set_other l3_10 (fun ad h=>by have:=tl3.out ad h;omega)
 have hA11:AccsAt W11 W11.heap.size A Smp.chart:=by rw [hW11];exact RowsAt.set_other hA10 (fun ad h=>by have:=HAlt.out ad h;omega)
 rw [<- hW11] at h11 h11p h11r hB11
 have HW11:=Z1 hW11
 have hE11:RowsAt Ent.cells 5 W11 W11.heap.size (some ⟨W8.heap.size,0,none⟩) (Smp.grp A c (some ⟨W8.heap.size,0,none⟩) 4 ⟨A0,c0,L0,d0⟩ ⟨A1,c1,L1,d1⟩ ⟨A2,c2,L2,d2⟩ ⟨A3,c3,L3,d3⟩).ents:=rows_flat (f:=Ent.cells) (l:=(Smp.grp A c (some ⟨W8.heap.size,0,none⟩) 4 ⟨A0,c0,L0,d0⟩ ⟨A1,c1,L1,d1⟩ ⟨A2,c2,L2,d2⟩ ⟨A3,c3,L3,d3⟩).ents) h11 (some_lt h11) (fun _ _=>rfl)
 have F0:∀ B:Option Addr,(∀ ad,B=some ad->W4.heap.size<=ad.block)->Fresh (w.heap.size+1) B:=fun B h ad e=>by have:=h ad e;omega
 have R:=fun {α:Type} {f:α->List Value} {sz:Nat} {B:Option Addr} {l:List α} (h:RowsAt f sz W11 W11.heap.size B l) (hf:Fresh (w.heap.size+1) B)=>RowsAt.other_row h hf (show w.heap.size<w.heap.size+1 by omega) #[.string ⟨#[69,85,82]⟩,.int .i64 2026,.int .i64 1,.int .i64 36,.slice A 26 c,.int .i64 1500,.int .i64 1600,.int .i64 1700,.int .i64 1200,.int .i64 3100,.int .i64 3200,.int .i64 3300,.int .i64 3400,.int .i64 3500,.int .i64 4500,.int .i64 4600,.int .i64 4700,.int .i64 5500,.int .i64 5600,.int .i64 5700,.slice (some ⟨W8.heap.size,0,none⟩) 4 4]
 have hgrp:(Smp.grp A c (some ⟨W8.heap.size,0,none⟩) 4 ⟨A0,c0,L0,d0⟩ ⟨A1,c1,L1,d1⟩ ⟨A2,c2,L2,d2⟩ ⟨A3,c3,L3,d3⟩).At (W11.setRow w.heap.size #[.string ⟨#[69,85,82]⟩,.int .i64 2026,.int .i64 1,.int .i64 36,.slice A 26 c,.int .i64 1500,.int .i64 1600,.int .i64 1700,.int .i64 1200,.int .i64 3100,.int .i64 3200,.int .i64 3300,.int .i64 3400,.int .i64 3500,.int .i64 4500,.int .i64 4600,.int .i64 4700,.int .i64 5500,.int .i64 5600,.int .i64 5700,.slice (some ⟨W8.heap.size,0,none⟩) 4 4]) (W11.setRow w.heap.size #[.string ⟨#[69,85,82]⟩,.int .i64 2026,.int .i64 1,.int .i64 36,.slice A 26 c,.int .i64 1500,.int .i64 1600,.int .i64 1700,.int .i64 1200,.int .i64 3100,.int .i64 3200,.int .i64 3300,.int .i64 3400,.int .i64 3500,.int .i64 4500,.int .i64 4600,.int .i64 4700,.int .i64 5500,.int .i64 5600,.int .i64 5700,.slice (some ⟨W8.heap.size,0,none⟩) 4 4]).heap.size:=by
  refine⟨rfl,show(26:Nat)<=100000 by decide,R hA11 (fun ad h=>Nat.le_trans (by omega) (HfA.out ad h)),Smp.chart_wf,rfl,show(4:Nat)<=100000 by decide,R hE11 (fun ad h=>by cases h;show w.heap.size+1<=W8.heap.size;omega),?_,show(3:Nat)<=maxLen by decide,fun r hr=>Smp.roles_wf r hr⟩
  intro e he
  simp only [Smp.grp,List.mem_cons,List.not_mem_nil,or_false] at he
  rcases he with rfl | rfl | rfl | rfl
  ·exact⟨rfl,show(14:Nat)<=100000 by decide,R a0_11 (F0 _ Fa0.out),Smp.echart_wf,rfl,show(14:Nat)<=100000 by decide,R l0_11 (F0 _ Fl0.out),Smp.elinks_wf,show(6:Nat)<=maxLen by decide,show(3:Nat)<=maxLen by decide⟩
  ·exact⟨rfl,show(14:Nat)<=100000 by decide,R a1_11 (F0 _ Fa1.out),Smp.echart_wf,rfl,show(14:Nat)<=100000 by decide,R l1_11 (F0 _ Fl1.out),Smp.elinks_wf,show(5:Nat)<=maxLen by decide,show(3:Nat)<=maxLen by decide⟩
  ·exact⟨rfl,show(14:Nat)<=100000 by decide,R a2_11 (F0 _ Fa2.out),Smp.echart_wf,rfl,show(14:Nat)<=100000 by decide,R l2_11 (F0 _ Fl2.out),Smp.elinks_wf,show(4:Nat)<=maxLen by decide,show(3:Nat)<=maxLen by decide⟩
  ·exact⟨rfl,show(14:Nat)<=100000 by decide,R a3_11 (F0 _ Fa3.out),Smp.echart_wf,rfl,show(14:Nat)<=100000 by decide,R l3_11 (F0 _ Fl3.out),Smp.elinks_wf,show(5:Nat)<=maxLen by decide,show(3:Nat)<=maxLen by decide⟩
 have Hgrp:=Z1 hgrp
 have hR:=setRow_heap W11 w.heap.size _ #[.string ⟨#[69,85,82]⟩,.int .i64 2026,.int .i64 1,.int .i64 36,.slice A 26 c,.int .i64 1500,.int .i64 1600,.int .i64 1700,.int .i64 1200,.int .i64 3100,.int .i64 3200,.int .i64 3300,.int .i64 3400,.int .i64 3500,.int .i64 4500,.int .i64 4600,.int .i64 4700,.int .i64 5500,.int .i64 5600,.int .i64 5700,.slice (some ⟨W8.heap.size,0,none⟩) 4 4] _ _ h11r
 have hload:=Z1 (run_loadVar_row (P:=prog) _ _ _ 29 _ _ _ hR underlying29 rfl grpSize)
 have hBF:=Z1 (below_setRow hB11 (Nat.le_refl _) #[.string ⟨#[69,85,82]⟩,.int .i64 2026,.int .i64 1,.int .i64 36,.slice A 26 c,.int .i64 1500,.int .i64 1600,.int .i64 1700,.int .i64 1200,.int .i64 3100,.int .i64 3200,.int .i64 3300,.int .i64 3400,.int .i64 3500,.int .i64 4500,.int .i64 4600,.int .i64 4700,.int .i64 5500,.int .i64 5600,.int .i64 5700,.slice (some ⟨W8.heap.size,0,none⟩) 4 4])
 have hrg:=Z1 (range_row (cs:=[.string ⟨#[69,85,82]⟩,.int .i64 2026,.int .i64 1,.int .i64 36,.slice A 26 c,.int .i64 1500,.int .i64 1600,.int .i64 1700,.int .i64 1200,.int .i64 3100,.int .i64 3200,.int .i64 3300,.int .i64 3400,.int .i64 3500,.int .i64 4500,.int .i64 4600,.int .i64 4700,.int .i64 5500,.int .i64 5600,.int .i64 5700,.slice (some ⟨W8.heap.size,0,none⟩) 4 4]) h11p)
 have Ho:Hid ((#[.string ⟨#[69,85,82]⟩,.int .i64 2026,.int .i64 1,.int .i64 36,.slice A 26 c,.int .i64 1500,.int .i64 1600,.int .i64 1700,.int .i64 1200,.int .i64 3100,.int .i64 3200,.int .i64 3300,.int .i64 3400,.int .i64 3500,.int .i64 4500,.int .i64 4600,.int .i64 4700,.int .i64 5500,.int .i64 5600,.int .i64 5700,.slice (some ⟨W8.heap.size,0,none⟩) 4 4]:Array Value).all (·.oneCell')=true):=by show _=true;simp [Value.oneCell']
 have H11r:=Z1 h11r
 clear a0_10 l0_10 a0_11 l0_11 a1_10 l1_10 a1_11 l1_11 a2_10 l2_10 a2_11 l2_11 a3_10 l3_10 a3_11 l3_11 hA10 hA11 hE11 hgrp hR R F0 h11 h11p h11r h10 h10q h10r h9 h9r hz10 hW9 hW10 hW11 hB11 hB10 hB010 hB09 hsz9
 have T19:=Z1 k19
 have T20:=Z1 k20
 have Tf:=Z1 kf
 have Tl:=Z1 (show W3.heap.size<W10.heap.size/\W8.heap.size<W10.heap.size from⟨hlt10,hqlt10⟩)
 clear k19 k20 kf hlt10 hqlt10 hpq z5 z6 z7 z8
 go_upto_region 3 with(fail)
 rw [<- HW9.out,<- HW10.out]
 clear g20 gf hlt8
 have k19:=T19.out
 have k20:=T20.out
 have kf:=Tf.out
 obtain⟨hlt10,hqlt10⟩:=Tl.out
 go_upto_region 4 with(fail)
 rw [<- HW11.out]
 clear k19 k20 kf hlt10 hqlt10
 go_wp2_with (first | (refine wpList_load_mid rfl 29 (.tmp 1) rfl W3.heap.size 0 rfl [.string ⟨#[69,85,82]⟩,.int .i64 2026,.int .i64 1,.int .i64 36,.slice A 26 c,.int .i64 1500,.int .i64 1600,.int .i64 1700,.int .i64 1200,.int .i64 3100,.int .i64 3200,.int .i64 3300,.int .i64 3400,.int .i64 3500,.int .i64 4500,.int .i64 4600,.int .i64 4700,.int .i64 5500,.int .i64 5600,.int .i64 5700,.slice (some ⟨W8.heap.size,0,none⟩) 4 4] _ hrg.out underlying29 rfl grpSize ?_) | (refine wpList_store_row rfl 29 (.tmp 0) (.tmp 16) none rfl rfl w.heap.size 29 _ #[.string ⟨#[69,85,82]⟩,.int .i64 2026,.int .i64 1,.int .i64 36,.slice A 26 c,.int .i64 1500,.int .i64 1600,.int .i64 1700,.int .i64 1200,.int .i64 3100,.int .i64 3200,.int .i64 3300,.int .i64 3400,.int .i64 3500,.int .i64 4500,.int .i64 4600,.int .i64 4700,.int .i64 5500,.int .i64 5600,.int .i64 5700,.slice (some ⟨W8.heap.size,0,none⟩) 4 4] rfl rfl H11r.out rfl grpSize Ho.out ?_))
 exact bodyPost_ret (v:=.agg #[.string ⟨#[69,85,82]⟩,.int .i64 2026,.int .i64 1,.int .i64 36,.slice A 26 c,.int .i64 1500,.int .i64 1600,.int .i64 1700,.int .i64 1200,.int .i64 3100,.int .i64 3200,.int .i64 3300,.int .i64 3400,.int .i64 3500,.int .i64 4500,.int .i64 4600,.int .i64 4700,.int .i64 5500,.int .i64 5600,.int .i64 5700,.slice (some ⟨W8.heap.size,0,none⟩) 4 4]) (by simp [results,results17,asAddr,Act.put,hload.out]) rfl ⟨hBF.out,Smp.grp A c (some ⟨W8.heap.size,0,none⟩) 4 ⟨A0,c0,L0,d0⟩ ⟨A1,c1,L1,d1⟩ ⟨A2,c2,L2,d2⟩ ⟨A3,c3,L3,d3⟩,rfl,Hgrp.out,⟨A,c,_,_,_,_,_,_,rfl⟩⟩
end
end Go.Proofs.YtniaimjknmhapaaGreatDoor
namespace Go.Proofs.YtniaimjknmhapaaGreatDoor
open Go.RowKit
namespace Smp
theorem valid (A:Option Addr) (c:Nat) (eA:Option Addr) (ec:Nat) (x0 x1 x2 x3:EntA):Gr.valid (grp A c eA ec x0 x1 x2 x3)=true:=by kernel_rfl
def ent37:EtC:=⟨1,0,20454,1,0,⟨#[]⟩,[⟨10,100,-1⟩,⟨100,-100,-1⟩]⟩
def bks (g:Grp) (lA:Option Addr) (bA:Option Addr):Bks:=⟨g,bA,1,1,[⟨ent37,lA,2,2⟩],none,0,0,[],none,0,0,[],.slice none 0 0,.slice none 0 0,.string ⟨#[]⟩⟩
theorem day0:Cal.first 2026 1 0=20454:=by decide
theorem jr37 (A:Option Addr) (c:Nat) (eA:Option Addr) (ec:Nat) (x0 x1 x2 x3:EntA):Jr.ok (grp A c eA ec x0 x1 x2 x3) [ent37]=true:=by kernel_rfl
theorem rt37 (A:Option Addr) (c:Nat) (eA:Option Addr) (ec:Nat) (x0 x1 x2 x3:EntA):Rates.valid (grp A c eA ec x0 x1 x2 x3).cur []=true:=by kernel_rfl
theorem hd37:Hd.valid 4 []=true:=by simp [Hd.valid,Hd.dates,Hd.keys]
theorem cb37 (A:Option Addr) (c:Nat) (eA:Option Addr) (ec:Nat) (x0 x1 x2 x3:EntA) (lA bA:Option Addr):Cb.valid (bks (grp A c eA ec x0 x1 x2 x3) lA bA)=true:=by
 show(Jr.ok (grp A c eA ec x0 x1 x2 x3) [ent37]&&Rates.valid (grp A c eA ec x0 x1 x2 x3).cur []&&Hd.valid 4 [])=true
 rw [jr37,rt37,hd37];rfl
def its37:List Itm:=[⟨1,0,0,1010,-1,20454,100⟩,⟨1,1,0,4000,-1,20454,-100⟩]
theorem ents37 (A:Option Addr) (c:Nat) (eA:Option Addr) (ec:Nat) (x0 x1 x2 x3:EntA) (lA bA:Option Addr):Tr.entries (bks (grp A c eA ec x0 x1 x2 x3) lA bA) 0 0=[ent37]:=by
 show([ent37].filter (fun x=>decide (x.ent=((0:Nat):Int))&&decide (x.date<=Cal.last 2026 1 0))).mergeSort Tr.before=[ent37]
 have h1:[ent37].filter (fun x=>decide (x.ent=((0:Nat):Int))&&decide (x.date<=Cal.last 2026 1 0))=[ent37]:=by kernel_rfl
 rw [h1,List.mergeSort_singleton]
theorem try37 (A:Option Addr) (c:Nat) (eA:Option Addr) (ec:Nat) (x0 x1 x2 x3:EntA) (lA bA:Option Addr):allSome ([ent37].flatMap (Tr.tries (bks (grp A c eA ec x0 x1 x2 x3) lA bA) 0 0))=some its37:=by kernel_rfl
theorem items37 (A:Option Addr) (c:Nat) (eA:Option Addr) (ec:Nat) (x0 x1 x2 x3:EntA) (lA bA:Option Addr):Tr.items (bks (grp A c eA ec x0 x1 x2 x3) lA bA) 0 0=some its37:=by
 unfold Tr.items
 rw [if_pos,ents37,try37]
 refine⟨?_,by show 0<4;omega,by omega,by show(0:Int)<36;omega⟩
 show(Jr.ok (grp A c eA ec x0 x1 x2 x3) [ent37]&&Rates.valid (grp A c eA ec x0 x1 x2 x3).cur [])=true
 rw [jr37,rt37];rfl
end Smp
end Go.Proofs.YtniaimjknmhapaaGreatDoor
namespace Go.Proofs.YtniaimjknmhapaaGreatDoor
open Go.Proofs.Tryz Go.RowKit
theorem text_one:Dec.frac 1 1=[49]:=by
 unfold Dec.frac
 rw [if_pos rfl,Dec.digits_small (by decide)]
 rfl
theorem RI.rn {w:World} {k j:Nat} {x:Rn} {N D:Int} (h:RI w w.heap.size k j x.v N D) (hk:k<=900) (hj:j<=900) (hN:0<=N) (hD:0<D) (hT:Tab w.heap.size w) :
  Calls prog 19 #[.agg #[.bool x.g1,.slice x.A1 x.n1 x.c1,.bool x.g2,.slice x.A2 x.n2 x.c2]] w fun e w'=>e=.returned (.string ⟨(Dec.frac N.toNat D.toNat).toArray⟩)/\Below w.heap.size w w':=textq_any w k j x.v N D hk hj hN hD h hT
section
variable (w:World)
theorem awake37_any (hT:Tab w.heap.size w):Calls prog 7 #[] w fun e w'=>e=.returned (.bool true)/\Below w.heap.size w w':=by
 have HT:=Z1 hT
 clear hT
 go_enter func7,ntmps7
 go_wp2_with (fail)
 refine(sample_any w).mono ?_
 rintro e W1 ⟨hB1,g,rfl,hg,hgs⟩
 obtain⟨zA,zc,zE,zd,x0,x1,x2,x3,hge⟩:=hgs
 have hY:g.Y=2026:=by rw [hge];rfl
 have hM:g.M=1:=by rw [hge];rfl
 have hN:g.N=36:=by rw [hge];rfl
 have herr:Cal.err g.Y g.M g.N 0=0:=by rw [hY,hM,hN];decide
 have hfi:Cal.first g.Y g.M 0=20454:=by rw [hY,hM];exact Smp.day0
 have Hfi:=Z1 (fun W=>rFirst_any g.Y g.M g.N 0 W herr)
 rw [hfi] at Hfi
 have Hge:=Z1 hge
 obtain⟨W2,hW2,hB2,hb2,hz2⟩:=nw1 W1 #[.string g.cur,.int .i64 g.Y,.int .i64 g.M,.int .i64 g.N,.slice g.cA g.cn g.cc,.int .i64 g.r0,.int .i64 g.r1,.int .i64 g.r2,.int .i64 g.r3,.int .i64 g.r4,.int .i64 g.r5,.int .i64 g.r6,.int .i64 g.r7,.int .i64 g.r8,.int .i64 g.r9,.int .i64 g.r10,.int .i64 g.r11,.int .i64 g.r12,.int .i64 g.r13,.int .i64 g.r14,.slice g.eA g.en g.ec] 29
 have HW2:=Z1 hW2
 have Hg2:=Z1 (hg.at_ hB2)
 have Hb2:=Z1 hb2
 have HB2:=Z1 (hB1.trans (hB2.mono hB1.size))
 have y1:=cr9 1 hb2
 have y2:=cr9 2 hb2
 have y3:=cr9 3 hb2
 simp at y1 y2 y3
 have s2:=some_lt hb2
 clear hg hge hY hM hN herr hfi hW2 hB2 hb2 hB1
 have h1c:∀ v∈(#[.string g.cur,.int .i64 g.Y,.int .i64 g.M,.int .i64 g.N,.slice g.cA g.cn g.cc,.int .i64 g.r0,.int .i64 g.r1,.int .i64 g.r2,.int .i64 g.r3,.int .i64 g.r4,.int .i64 g.r5,.int .i64 g.r6,.int .i64 g.r7,.int .i64 g.r8,.int .i64 g.r9,.int .i64 g.r10,.int .i64 g.r11,.int .i64 g.r12,.int .i64 g.r13,.int .i64 g.r14,.slice g.eA g.en g.ec]:Array Value).toList,v.oneCell'=true:=by simp [Value.oneCell']
 go_upto_region 2 with(refine wpList_store_new rfl 29 _ _ rfl 29 _ #[.string g.cur,.int .i64 g.Y,.int .i64 g.M,.int .i64 g.N,.slice g.cA g.cn g.cc,.int .i64 g.r0,.int .i64 g.r1,.int .i64 g.r2,.int .i64 g.r3,.int .i64 g.r4,.int .i64 g.r5,.int .i64 g.r6,.int .i64 g.r7,.int .i64 g.r8,.int .i64 g.r9,.int .i64 g.r10,.int .i64 g.r11,.int .i64 g.r12,.int .i64 g.r13,.int .i64 g.r14,.slice g.eA g.en g.ec] rfl rfl rfl h1c grpSize ?_)
 rw [<- HW2.out]
 clear h1c
 go_wp2_with (fail)
 refine(Hfi.out _).mono ?_
 rintro ev W3 ⟨rfl,hB3⟩
 have hq3:=hB3.size
 obtain⟨W5,hW5,hB5,hl5,he5,hz5⟩:=nw2 W3 #[.int .i64 10,.int .i64 100,.int .i64 (-1),.int .i64 100,.int .i64 (-100),.int .i64 (-1)] #[.int .i64 1,.int .i64 0,.int .i64 20454,.int .i64 1,.int .i64 0,.string ⟨#[]⟩,.slice (some ⟨W3.heap.size,0,none⟩) 2 2] 68 71
 have HW5:=Z1 hW5
 have hB25:=hB3.trans (hB5.mono hq3)
 have Hb5:=Z1 (gbox Hb2.out hB25 s2)
 obtain⟨W6,hW6,hB6,hr6,hz6⟩:=nw1 W5 #[.int .i64 1,.int .i64 0,.int .i64 20454,.int .i64 1,.int .i64 0,.string ⟨#[]⟩,.slice (some ⟨W3.heap.size,0,none⟩) 2 2] 71
 have HW6:=Z1 hW6
 have hB26:=hB25.trans (hB6.mono hB25.size)
 have HB6:=Z1 (HB2.out.trans (hB26.mono HB2.out.size))
 have hl6:=gbox hl5 hB6 (some_lt hl5)
 have hbk:(Smp.bks g (some ⟨W3.heap.size,0,none⟩) (some ⟨W5.heap.size,0,none⟩)).At W6 W6.heap.size:=by
  refine⟨Hg2.out.at_ hB26,rfl,by show 1<=61;omega,?_,?_,rfl,by show 0<=300;omega,.inl rfl,(by intro r h;cases h),rfl,by show 0<=30;omega,.inl rfl,(by intro x h;cases h)⟩
  ·exact rows_flat (f:=Etr.cells) (l:=[⟨Smp.ent37,some ⟨W3.heap.size,0,none⟩,2,2⟩]) hr6 (some_lt hr6) (fun _ _=>rfl)
  ·intro x hx
   have hx2:x=⟨Smp.ent37,some ⟨W3.heap.size,0,none⟩,2,2⟩:=List.mem_singleton.1 hx
   subst hx2
   refine⟨rfl,rows_flat (f:=Lin.cells) (l:=Smp.ent37.lines) hl6 (some_lt hl6) (fun _ _=>rfl),rfl,rfl,rfl,by show 0<=maxLen;omega,by show 2<=60;omega,?_⟩
   intro z hz
   have hz2:z=⟨10,100,-1⟩∨z=⟨100,-100,-1⟩:=by simpa [Smp.ent37] using hz
   rcases hz2 with rfl | rfl
   ·exact⟨rfl,by decide,rfl⟩
   ·exact⟨rfl,by decide,rfl⟩
 have Hof:Hid (Calls prog 9 #[.agg #[.string g.cur,.int .i64 g.Y,.int .i64 g.M,.int .i64 g.N,.slice g.cA g.cn g.cc,.int .i64 g.r0,.int .i64 g.r1,.int .i64 g.r2,.int .i64 g.r3,.int .i64 g.r4,.int .i64 g.r5,.int .i64 g.r6,.int .i64 g.r7,.int .i64 g.r8,.int .i64 g.r9,.int .i64 g.r10,.int .i64 g.r11,.int .i64 g.r12,.int .i64 g.r13,.int .i64 g.r14,.slice g.eA g.en g.ec,.slice (some ⟨W5.heap.size,0,none⟩) 1 1,.slice none 0 0,.slice none 0 0,.slice none 0 0,.slice none 0 0,.string ⟨#[]⟩],.int .i64 0,.int .i64 0] W6 (OfPar (Smp.bks g (some ⟨W3.heap.size,0,none⟩) (some ⟨W5.heap.size,0,none⟩)) 0 W6)):=Z1 (ofpar_any W6 _ 0 hbk)
 have hbld:∀ W:World,(Instr.build 36 #[(0,.agg #[.string g.cur,.int .i64 g.Y,.int .i64 g.M,.int .i64 g.N,.slice g.cA g.cn g.cc,.int .i64 g.r0,.int .i64 g.r1,.int .i64 g.r2,.int .i64 g.r3,.int .i64 g.r4,.int .i64 g.r5,.int .i64 g.r6,.int .i64 g.r7,.int .i64 g.r8,.int .i64 g.r9,.int .i64 g.r10,.int .i64 g.r11,.int .i64 g.r12,.int .i64 g.r13,.int .i64 g.r14,.slice g.eA g.en g.ec]),(1,.slice (some ⟨W5.heap.size,0,none⟩) 1 1)]).run prog W=.ok (.agg #[.string g.cur,.int .i64 g.Y,.int .i64 g.M,.int .i64 g.N,.slice g.cA g.cn g.cc,.int .i64 g.r0,.int .i64 g.r1,.int .i64 g.r2,.int .i64 g.r3,.int .i64 g.r4,.int .i64 g.r5,.int .i64 g.r6,.int .i64 g.r7,.int .i64 g.r8,.int .i64 g.r9,.int .i64 g.r10,.int .i64 g.r11,.int .i64 g.r12,.int .i64 g.r13,.int .i64 g.r14,.slice g.eA g.en g.ec,.slice (some ⟨W5.heap.size,0,none⟩) 1 1,.slice none 0 0,.slice none 0 0,.slice none 0 0,.slice none 0 0,.string ⟨#[]⟩]) W:=fun W=>by kernel_rfl
 have hld5:=he5
 have hrg5:W5.rangeAt W1.heap.size 0 [.string g.cur,.int .i64 g.Y,.int .i64 g.M,.int .i64 g.N,.slice g.cA g.cn g.cc,.int .i64 g.r0,.int .i64 g.r1,.int .i64 g.r2,.int .i64 g.r3,.int .i64 g.r4,.int .i64 g.r5,.int .i64 g.r6,.int .i64 g.r7,.int .i64 g.r8,.int .i64 g.r9,.int .i64 g.r10,.int .i64 g.r11,.int .i64 g.r12,.int .i64 g.r13,.int .i64 g.r14,.slice g.eA g.en g.ec]:=range_of Hb5.out
 clear hz5 hz6 hW5 hB5 hl5 he5 hW6 hB6 hr6 hl6 hbk hB3 hB25 hB26 y1 y2 y3
 go_upto_region 4 with(fail)
 rw [<- HW5.out]
 go_wp2_with (first | (refine wpList_load_want (by rfl) 29 (.tmp 1) rfl W1.heap.size 0 rfl _ _ hrg5 underlying29 rfl grpSize ?_) | (refine wpList_load_row rfl 71 _ rfl _ rfl _ _ _ _ hld5 underlying71 rfl etrSize ?_) | (refine wpList_build_is rfl 36 _ rfl _ rfl _ (hbld _) ?_))
 rw [<- HW6.out]
 refine Hof.out.mono ?_
 rintro ev W7 ⟨hB7,h⟩
 rcases h with⟨hbad,_⟩ | ⟨its,x,_,hits,rfl,hm,hxn,hlen,hA,hxB,hxm,hfr,hRI⟩
 ·exfalso
  rw [Hge.out] at hbad
  rcases hbad with h | h
  ·rw [Smp.cb37] at h;cases h
  ·rw [Smp.items37] at h;cases h
 rw [Hge.out,Smp.items37] at hits
 have hi:=Option.some.inj hits
 subst hi
 have hxn2:x.n=2:=hxn
 have HB7:=Z1 (HB6.out.trans (hB7.mono HB6.out.size))
 have HRI:=Z1 hRI
 have HA:=Z1 hA
 have Hxn:=Z1 hxn2
 have Hm:=Z1 hm
 obtain⟨W8,hW8,hB8,hb8,hz8⟩:=nw1 W7 #[.int .i64 x.ent,.int .i64 x.meth,.int .i64 x.since,.bool x.s.g1,.slice x.s.A1 x.s.n1 x.s.c1,.bool x.s.g2,.slice x.s.A2 x.s.n2 x.s.c2,.bool x.f.g1,.slice x.f.A1 x.f.n1 x.f.c1,.bool x.f.g2,.slice x.f.A2 x.f.n2 x.f.c2,.slice x.A x.n x.c,.slice x.B x.m x.d] 46
 have HW8:=Z1 hW8
 have HB8:=Z1 (HB7.out.trans (hB8.mono HB7.out.size))
 have HR8:=Z1 (hRI.at_ hB8)
 obtain⟨b,o,hAe,hbB,hr⟩:=RowsAt.look (RowsAt.at_ hA hB8) (k:=1) (by show 1<2;omega)
 have p3:=hr 3 _ rfl
 have z1:=cr9 1 hb8
 have z11:=cr9 11 hb8
 simp at z1 z11
 rw [Hm.out] at z1
 rw [Hxn.out,hAe] at z11
 have s8:=some_lt hb8
 have hrs:W8.rangeAt W7.heap.size 3 [.bool x.s.g1,.slice x.s.A1 x.s.n1 x.s.c1,.bool x.s.g2,.slice x.s.A2 x.s.n2 x.s.c2]:=fun j v hj=>by
  have hlj:j<4:=by have:=(List.getElem?_eq_some_iff.1 hj).1;simpa using this
  have:=cell_of_row _ _ (3+j) _ _ _ hb8
  rw [this,<- hj]
  have hjc:j=0∨j=1∨j=2∨j=3:=by omega
  rcases hjc with rfl | rfl | rfl | rfl <;> rfl
 have Htx:=Z1 (RI.rn HR8.out (by omega) (by omega) (by omega) (by omega) (fun W9 hb=>HT.out W9 (HB8.out.trans (hb.mono HB8.out.size))))
 have e1:(⟨(Dec.frac (1:Int).toNat (1:Int).toNat).toArray⟩:ByteArray)=⟨#[49]⟩:=by show(⟨(Dec.frac 1 1).toArray⟩:ByteArray)=_;rw [text_one]
 rw [e1] at Htx
 clear hfr hxB hxm hlen hxn hxn2 hm hA hRI hits hB7 hW8 hB8 hb8 hz8 hr hAe e1 hrg5 hld5
 unfold Ctn.v
 have h1d:∀ v∈(#[.int .i64 x.ent,.int .i64 x.meth,.int .i64 x.since,.bool x.s.g1,.slice x.s.A1 x.s.n1 x.s.c1,.bool x.s.g2,.slice x.s.A2 x.s.n2 x.s.c2,.bool x.f.g1,.slice x.f.A1 x.f.n1 x.f.c1,.bool x.f.g2,.slice x.f.A2 x.f.n2 x.f.c2,.slice x.A x.n x.c,.slice x.B x.m x.d]:Array Value).toList,v.oneCell'=true:=by simp [Value.oneCell']
 go_upto_region 5 with(refine wpList_store_new rfl 46 _ _ rfl 46 _ #[.int .i64 x.ent,.int .i64 x.meth,.int .i64 x.since,.bool x.s.g1,.slice x.s.A1 x.s.n1 x.s.c1,.bool x.s.g2,.slice x.s.A2 x.s.n2 x.s.c2,.bool x.f.g1,.slice x.f.A1 x.f.n1 x.f.c1,.bool x.f.g2,.slice x.f.A2 x.f.n2 x.f.c2,.slice x.A x.n x.c,.slice x.B x.m x.d] rfl rfl rfl h1d ctnSize ?_)
 clear h1d
 rw [<- HW8.out]
 go_wp2_with (refine wpList_load_want (by rfl) 43 (.tmp 49) rfl W7.heap.size 3 rfl [.bool x.s.g1,.slice x.s.A1 x.s.n1 x.s.c1,.bool x.s.g2,.slice x.s.A2 x.s.n2 x.s.c2] _ hrs underlying43 rfl ratSize ?_)
 refine Htx.out.mono ?_
 rintro ev W9 ⟨rfl,hB9⟩
 have HB9:=Z1 (HB8.out.trans (hB9.mono HB8.out.size))
 go_wp2
 go_ret
 exact⟨by first | rfl | simp,HB9.out⟩
end
end Go.Proofs.YtniaimjknmhapaaGreatDoor
namespace Go.Proofs.YtniaimjknmhapaaGreatDoor
open Go.Proofs.Tryz Go.RowKit
theorem Tr.items_valid {b:Bks} {e:Nat} {p:Int} {l:List Itm} (h:Tr.items b e p=some l):Tr.valid b=true:=by
 unfold Tr.items at h
 by_cases hv:Tr.valid b=true/\e<b.g.ents.length/\0<=p/\p<b.g.N
 ·exact hv.1
 ·rw [if_neg hv] at h;cases h
section
variable (w:World)
theorem law_par (b:Bks) (p:Int) (hb:b.Out w w.heap.size) (hT:Tab w.heap.size w):Calls prog 3 #[.agg #[.string b.g.cur,.int .i64 b.g.Y,.int .i64 b.g.M,.int .i64 b.g.N,.slice b.g.cA b.g.cn b.g.cc,.int .i64 b.g.r0,.int .i64 b.g.r1,.int .i64 b.g.r2,.int .i64 b.g.r3,.int .i64 b.g.r4,.int .i64 b.g.r5,.int .i64 b.g.r6,.int .i64 b.g.r7,.int .i64 b.g.r8,.int .i64 b.g.r9,.int .i64 b.g.r10,.int .i64 b.g.r11,.int .i64 b.g.r12,.int .i64 b.g.r13,.int .i64 b.g.r14,.slice b.g.eA b.g.en b.g.ec,.slice b.eA b.en b.ec,.slice b.rA b.rn b.rc,.slice b.hA b.hn b.hc,b.m0,b.m1,b.m2],.int .i64 p] w fun e w'=>e=.returned (.bool true)/\Below w.heap.size w w':=by
 obtain⟨W1,hW1,hB0,hb0,hz⟩:=nw1 w #[.string b.g.cur,.int .i64 b.g.Y,.int .i64 b.g.M,.int .i64 b.g.N,.slice b.g.cA b.g.cn b.g.cc,.int .i64 b.g.r0,.int .i64 b.g.r1,.int .i64 b.g.r2,.int .i64 b.g.r3,.int .i64 b.g.r4,.int .i64 b.g.r5,.int .i64 b.g.r6,.int .i64 b.g.r7,.int .i64 b.g.r8,.int .i64 b.g.r9,.int .i64 b.g.r10,.int .i64 b.g.r11,.int .i64 b.g.r12,.int .i64 b.g.r13,.int .i64 b.g.r14,.slice b.g.eA b.g.en b.g.ec,.slice b.eA b.en b.ec,.slice b.rA b.rn b.rc,.slice b.hA b.hn b.hc,b.m0,b.m1,b.m2] 36
 have HW:=Z1 hW1
 have HO1:=Z1 (hb.at_ hB0)
 have HB0:=Z1 hB0
 have Hb0:=Z1 hb0
 have s0:=some_lt hb0
 have Haw:=Z1 (awake37_any W1 (fun W h=>hT W (hB0.trans (h.mono hB0.size))))
 clear hW1 hz hb0 hb hB0 hT
 go_enter func3,ntmps3
 go_upto_region 1 with(fail)
 rw [<- HW.out]
 go_wp2_with (fail)
 refine Haw.out.mono ?_
 rintro ev W2 ⟨rfl,hB2⟩
 have HB2:=Z1 (HB0.out.trans (hB2.mono HB0.out.size))
 have Hb2:=Z1 (gbox Hb0.out hB2 s0)
 have s2:=some_lt Hb2.out
 have HO2:=Z1 (HO1.out.at_ hB2)
 have Hfew:=Z1 (few37_any W2 b HO2.out)
 have hld:=Hb2.out
 clear hB2
 go_wp2_with (refine wpList_load_row rfl 36 _ rfl _ rfl _ _ _ _ hld underlying36 rfl bksSize ?_)
 refine Hfew.out.mono ?_
 rintro ev W3 ⟨⟨r,rfl,hr⟩,hB3⟩
 have HB3:=Z1 (HB2.out.trans (hB3.mono HB2.out.size))
 have Hb3:=Z1 (gbox Hb2.out hB3 s2)
 have s3:=some_lt Hb3.out
 have HO3:=Z1 (HO2.out.at_ hB3)
 have Hr:=Z1 hr
 clear hB3 hr hld
 cases r with
 | false =>
  go_wp2
  go_ret
  exact⟨rfl,HB3.out⟩
 | true =>
 have hat:=HO3.out.at_few (Hr.out rfl)
 have hec:=HO3.out.hec
 have HA3:=Z1 hat
 have hld:=Hb3.out
 have Hof:=Z1 (ofpar_any W3 b p HA3.out)
 clear hat
 go_wp2_with (refine wpList_load_row rfl 36 _ rfl _ rfl _ _ _ _ hld underlying36 rfl bksSize ?_)
 refine Hof.out.mono ?_
 rintro ev W4 ⟨hB4,hof⟩
 have HB4:=Z1 (HB3.out.trans (hB4.mono HB3.out.size))
 have Hb4:=Z1 (gbox Hb3.out hB4 s3)
 have HA4:=Z1 (HA3.out.at_ hB4)
 clear hB4 hld
 rcases hof with⟨hbad,n,hn,rfl⟩ | ⟨its,x,hcv,hits,rfl,hm,hxn,hlen,hA,hxB,hxm,hfr,hRI⟩
 ·have k1:(n != 0)=true:=by simpa using hn
  have HBad:=Z1 hbad
  obtain⟨W5,hW5,hB5,hc5,hz5⟩:=nw1 W4 #[.int .i64 0,.int .i64 0,.int .i64 0,.bool false,.slice none 0 0,.bool false,.slice none 0 0,.bool false,.slice none 0 0,.bool false,.slice none 0 0,.slice none 0 0,.slice none 0 0] 46
  have HW5:=Z1 hW5
  have HB5:=Z1 (HB4.out.trans (hB5.mono HB4.out.size))
  have Hb5:=Z1 (gbox Hb4.out hB5 (some_lt Hb4.out))
  have HA5:=Z1 (HA4.out.at_ hB5)
  have s5:=some_lt Hb5.out
  have Hit:=Z1 (items_any W5 b 0 p HA5.out)
  have hld:=Hb5.out
  have h1d:∀ v∈(#[.int .i64 0,.int .i64 0,.int .i64 0,.bool false,.slice none 0 0,.bool false,.slice none 0 0,.bool false,.slice none 0 0,.bool false,.slice none 0 0,.slice none 0 0,.slice none 0 0]:Array Value).toList,v.oneCell'=true:=by simp [Value.oneCell']
  unfold Ctn.zero Ctn.v Rn.zero
  clear hbad hn hW5 hB5 hc5 hz5
  go_upto_region 6 with(refine wpList_store_new rfl 46 _ _ rfl 46 _ #[.int .i64 0,.int .i64 0,.int .i64 0,.bool false,.slice none 0 0,.bool false,.slice none 0 0,.bool false,.slice none 0 0,.bool false,.slice none 0 0,.slice none 0 0,.slice none 0 0] rfl rfl rfl h1d ctnSize ?_)
  rw [<- HW5.out]
  clear h1d
  go_wp2_with (refine wpList_load_row rfl 36 _ rfl _ rfl _ _ _ _ hld underlying36 rfl bksSize ?_)
  refine Hit.out.mono ?_
  rintro ev W6 ⟨hB6,hit⟩
  have HB6:=Z1 (HB5.out.trans (hB6.mono HB5.out.size))
  have Hb6:=Z1 (gbox Hb5.out hB6 s5)
  have HA6:=Z1 (HA5.out.at_ hB6)
  have s6:=some_lt Hb6.out
  clear hB6 hld
  rcases hit with⟨_,n2,hn2,rfl⟩ | ⟨its,A6,c6,hso,rfl,_,_,_⟩
  ·have k2:(n2 != 0)=true:=by simpa using hn2
   clear hn2
   go_wp2
   go_ret
   exact⟨by first | rfl | simp,HB6.out⟩
  ·have htv:=Tr.items_valid hso
   have hhv:Hd.valid b.g.ents.length b.holds=false:=by
    rcases HBad.out with h | h
    ·unfold Cb.valid at h;rw [htv] at h;simpa using h
    ·rw [hso] at h;cases h
   have hrv:=rvalid37_any W6 b HA6.out hec htv
   rw [hhv] at hrv
   have Hrv:=Z1 hrv
   have hrg:W6.rangeAt w.heap.size 0 [.string b.g.cur,.int .i64 b.g.Y,.int .i64 b.g.M,.int .i64 b.g.N,.slice b.g.cA b.g.cn b.g.cc,.int .i64 b.g.r0,.int .i64 b.g.r1,.int .i64 b.g.r2,.int .i64 b.g.r3,.int .i64 b.g.r4,.int .i64 b.g.r5,.int .i64 b.g.r6,.int .i64 b.g.r7,.int .i64 b.g.r8,.int .i64 b.g.r9,.int .i64 b.g.r10,.int .i64 b.g.r11,.int .i64 b.g.r12,.int .i64 b.g.r13,.int .i64 b.g.r14,.slice b.g.eA b.g.en b.g.ec,.slice b.eA b.en b.ec,.slice b.rA b.rn b.rc,.slice b.hA b.hn b.hc,b.m0,b.m1,b.m2]:=range_of Hb6.out
   clear htv hhv hrv hso
   go_wp2_with (refine wpList_load_want (by rfl) 36 (.tmp 2) rfl w.heap.size 0 rfl _ _ hrg underlying36 rfl bksSize ?_)
   refine Hrv.out.mono ?_
   rintro ev W7 ⟨rfl,hB7⟩
   have HB7:=Z1 (HB6.out.trans (hB7.mono HB6.out.size))
   go_wp2
   go_ret
   exact⟨by first | rfl | simp,HB7.out⟩
 ·have Hits:=Z1 hits
  have HIA:=Z1 hA
  have Hxn:=Z1 hxn
  obtain⟨W5,hW5,hB5,hc5,hz5⟩:=nw1 W4 #[.int .i64 x.ent,.int .i64 x.meth,.int .i64 x.since,.bool x.s.g1,.slice x.s.A1 x.s.n1 x.s.c1,.bool x.s.g2,.slice x.s.A2 x.s.n2 x.s.c2,.bool x.f.g1,.slice x.f.A1 x.f.n1 x.f.c1,.bool x.f.g2,.slice x.f.A2 x.f.n2 x.f.c2,.slice x.A x.n x.c,.slice x.B x.m x.d] 46
  have HW5:=Z1 hW5
  have HB5:=Z1 (HB4.out.trans (hB5.mono HB4.out.size))
  have Hb5:=Z1 (gbox Hb4.out hB5 (some_lt Hb4.out))
  have HA5:=Z1 (HA4.out.at_ hB5)
  have HI5:=Z1 (RowsAt.at_ HIA.out hB5)
  have s5:=some_lt Hb5.out
  have Hc5:=Z1 hc5
  have sc5:=some_lt hc5
  have Hit:=Z1 (items_any W5 b 0 p HA5.out)
  have hld:=Hb5.out
  have h1d:∀ v∈(#[.int .i64 x.ent,.int .i64 x.meth,.int .i64 x.since,.bool x.s.g1,.slice x.s.A1 x.s.n1 x.s.c1,.bool x.s.g2,.slice x.s.A2 x.s.n2 x.s.c2,.bool x.f.g1,.slice x.f.A1 x.f.n1 x.f.c1,.bool x.f.g2,.slice x.f.A2 x.f.n2 x.f.c2,.slice x.A x.n x.c,.slice x.B x.m x.d]:Array Value).toList,v.oneCell'=true:=by simp [Value.oneCell']
  have Hxm:=Z1 hxm
  unfold Ctn.v
  clear hcv hits hm hxn hA hxB hxm hfr hRI hW5 hB5 hc5 hz5
  go_upto_region 6 with(refine wpList_store_new rfl 46 _ _ rfl 46 _ #[.int .i64 x.ent,.int .i64 x.meth,.int .i64 x.since,.bool x.s.g1,.slice x.s.A1 x.s.n1 x.s.c1,.bool x.s.g2,.slice x.s.A2 x.s.n2 x.s.c2,.bool x.f.g1,.slice x.f.A1 x.f.n1 x.f.c1,.bool x.f.g2,.slice x.f.A2 x.f.n2 x.f.c2,.slice x.A x.n x.c,.slice x.B x.m x.d] rfl rfl rfl h1d ctnSize ?_)
  rw [<- HW5.out]
  clear h1d
  go_wp2_with (refine wpList_load_row rfl 36 _ rfl _ rfl _ _ _ _ hld underlying36 rfl bksSize ?_)
  refine Hit.out.mono ?_
  rintro ev W6 ⟨hB6,hit⟩
  rcases hit with⟨hno,_⟩ | ⟨its2,A6,c6,hso,rfl,_,hA6,_⟩
  ·rw [Hits.out] at hno;cases hno
  rw [Hits.out] at hso
  have he:=Option.some.inj hso
  subst he
  have HB6:=Z1 (HB5.out.trans (hB6.mono HB5.out.size))
  have Hc6:=Z1 (gbox Hc5.out hB6 sc5)
  have HI6:=Z1 (RowsAt.at_ HI5.out hB6)
  have HJ6:=Z1 hA6
  have z11:=cr9 11 Hc6.out
  have z12:=cr9 12 Hc6.out
  simp at z11 z12
  rw [Hxn.out] at z11
  rw [Hxm.out] at z12
  have sc6:=some_lt Hc6.out
  have Hsm:=Z1 (same18_any W6 x.A A6 its.length x.c c6 its rfl (by omega) HI6.out HJ6.out)
  clear hB6 hld hso hA6
  go_wp2_with (fail)
  refine Hsm.out.mono ?_
  rintro ev W7 ⟨rfl,hB7⟩
  have HB7:=Z1 (HB6.out.trans (hB7.mono HB6.out.size))
  have Hc7:=Z1 (gbox Hc6.out hB7 sc6)
  have y12:=cr9 12 Hc7.out
  simp at y12
  rw [Hxm.out] at y12
  have sc7:=some_lt Hc7.out
  clear z11 z12 hB7
  go_wp2
  go_ret
  exact⟨by first | rfl | simp,HB7.out⟩
end
end Go.Proofs.YtniaimjknmhapaaGreatDoor
