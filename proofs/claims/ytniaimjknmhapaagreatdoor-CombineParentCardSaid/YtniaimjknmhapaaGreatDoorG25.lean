/- My texts BooksR, FindR, GrpR. -/
import Derived.Test.YtniaimjknmhapaaGreatDoorG14
import Derived.Test.YtniaimjknmhapaaGreatDoorG22
import Derived.Test.YtniaimjknmhapaaGreatDoorG20
set_option linter.unusedVariables false
set_option linter.unusedSimpArgs false
set_option maxRecDepth 100000
set_option maxHeartbeats 16000000
namespace Go.Proofs.YtniaimjknmhapaaGreatDoor
open Go.Proofs.Tryz Go.RowKit
section
variable (w:World)
theorem booksr_any (g:Grp) (hg:g.At w w.heap.size) :
  Calls prog 222 #[.agg #[.string g.cur,.int .i64 g.Y,.int .i64 g.M,.int .i64 g.N,.slice g.cA g.cn g.cc,.int .i64 g.r0,.int .i64 g.r1,.int .i64 g.r2,.int .i64 g.r3,.int .i64 g.r4,.int .i64 g.r5,.int .i64 g.r6,.int .i64 g.r7,.int .i64 g.r8,.int .i64 g.r9,.int .i64 g.r10,.int .i64 g.r11,.int .i64 g.r12,.int .i64 g.r13,.int .i64 g.r14,.slice g.eA g.en g.ec]] w fun e w'=>e=.returned (.bool (Gr.books g))/\Below w.heap.size w w':=by
 obtain⟨W1,hW1,hB0,hb0,hz⟩:=nw1 w #[.string g.cur,.int .i64 g.Y,.int .i64 g.M,.int .i64 g.N,.slice g.cA g.cn g.cc,.int .i64 g.r0,.int .i64 g.r1,.int .i64 g.r2,.int .i64 g.r3,.int .i64 g.r4,.int .i64 g.r5,.int .i64 g.r6,.int .i64 g.r7,.int .i64 g.r8,.int .i64 g.r9,.int .i64 g.r10,.int .i64 g.r11,.int .i64 g.r12,.int .i64 g.r13,.int .i64 g.r14,.slice g.eA g.en g.ec] 29
 have HW:=Z1 hW1
 have hg1:=hg.at_ hB0
 have x0:=cr9 0 hb0
 have x1:=cr9 1 hb0
 have x2:=cr9 2 hb0
 have x3:=cr9 3 hb0
 simp at x0 x1 x2 x3
 have s1:w.heap.size<W1.heap.size:=by omega
 have Hb0:=Z1 hb0
 have Hnm:=Z1 hg.hn
 have Hcl:=Z1 hg.hcl
 have hcn:=hg.hcn
 clear hW1 hz hb0 hg
 go_enter func222,ntmps222
 go_upto_region 1 with(fail)
 rw [<- HW.out]
 go_wp2_with (fail)
 refine(curr_any W1 g.cur Hnm.out).mono ?_
 rintro e W2 ⟨rfl,rfl⟩
 by_cases h1:Gr.isCur g.cur=true
 case neg =>
  have h1':Gr.isCur g.cur=false:=by simpa using h1
  have HV:Hid (Gr.books g=false):=by show _=_;rw [Gr.books,h1'];rfl
  rw [h1']
  clear h1 h1' hg1
  go_wp2
  go_ret
  exact⟨by rw [HV.out];rfl,hB0⟩
 have H1:=Z1 h1
 rw [h1]
 clear h1
 go_wp2_with (fail)
 refine(rcvalid_any g.Y g.M g.N W1).mono ?_
 rintro e W2 ⟨rfl,hB2⟩
 have hB02:=hB0.trans (hB2.mono hB0.size)
 have hb2:=gbox Hb0.out hB2 s1
 have hg2:=hg1.at_ hB2
 clear x0 x1 x2 x3 hg1
 by_cases h2:Cal.ok g.Y g.M g.N=true
 case neg =>
  have h2':Cal.ok g.Y g.M g.N=false:=by simpa using h2
  have HV:Hid (Gr.books g=false):=by show _=_;rw [Gr.books,h2'];simp
  rw [h2']
  clear h2 h2' hg2 hb2
  go_wp2
  go_ret
  exact⟨by rw [HV.out];rfl,hB02⟩
 have H2:=Z1 h2
 rw [h2]
 have Hb2:=Z1 hb2
 have x4:=cr9 4 hb2
 simp at x4
 have s2:w.heap.size<W2.heap.size:=some_lt hb2
 have hc2:=hg2.hc
 have Hg2:=Z1 hg2
 clear h2 hb2 hg2
 go_wp2_with (fail)
 refine(validr_any W2 g.cA g.cn g.cc g.chart true Hcl.out hcn hc2).mono ?_
 rintro e W3 ⟨rfl,hB3⟩
 have hB03:=hB02.trans (hB3.mono hB02.size)
 have hb3:=gbox Hb2.out hB3 s2
 have hg3:=Hg2.out.at_ hB3
 clear x4 hc2
 by_cases h3:Ch.valid true g.chart=true
 case neg =>
  have h3':Ch.valid true g.chart=false:=by simpa using h3
  have HV:Hid (Gr.books g=false):=by show _=_;rw [Gr.books,Gr.accounts,h3'];simp
  rw [h3']
  clear h3 h3' hg3 hb3
  go_wp2
  go_ret
  exact⟨by rw [HV.out];rfl,hB03⟩
 have H3:=Z1 h3
 rw [h3]
 have Hb3:=Z1 hb3
 have Hg3:=Z1 hg3
 have s3:w.heap.size<W3.heap.size:=some_lt hb3
 clear h3 hb3 hg3
 go_wp2
 go_loopw [3] (fun i wr=>∃ k:Nat,k<=g.cn/\i=.int .i64 k/\(g.chart.take k).all Gr.based=true/\Below W3.heap.size W3 wr) (fun i _=>g.cn-(intOf i).toNat)
 case atStart=>exact⟨0,Nat.zero_le _,rfl,rfl,Below.refl _ _⟩
 case round =>
  obtain⟨k,hk,rfl,ha,hbr⟩:=hrel
  have Ha:=Z1 ha
  have hq:=hbr.size
  have hbx:=gbox Hb3.out hbr s3
  have x4:=cr9 4 hbx
  simp at x4
  have sw:w.heap.size<wr.heap.size:=some_lt hbx
  have hbF:=hB03.trans (hbr.mono hB03.size)
  have Hbx:=Z1 hbx
  clear ha hbx
  by_cases hlt:k<g.cn
  ·have hkl:k<g.chart.length:=by have:=Hcl.out;omega
   obtain⟨b,o,hAe,hbB,c0,c1,c2,c3⟩:=AccsAt.four (RowsAt.below Hg3.out.hc hbr (Nat.le_refl _)) hkl
   have hbw:b<wr.heap.size:=by omega
   rw [hAe] at x4
   clear hAe
   by_cases h4:Gr.based g.chart[k]=true
   ·have hf:=Z1 (all_take hkl Ha.out h4)
    go_wp2_with (fail)
    refine(basis_any wr g.chart[k]).mono ?_
    rw [h4]
    rintro e w4 ⟨rfl,hB4⟩
    clear h4 x4 c0 c1 c2 c3
    go_wp2
    go_roundw
    case rel=>exact⟨k+1,by omega,by go_num,hf.out,hbr.trans (hB4.mono hq)⟩
    case measure=>simp [intOf];omega
   ·have h4':Gr.based g.chart[k]=false:=by simpa using h4
    have hf:=all_miss (P:=Gr.based) hkl h4'
    have HV:Hid (Gr.books g=false):=by show _=_;rw [Gr.books,Gr.accounts,hf];simp
    go_wp2_with (fail)
    refine(basis_any wr g.chart[k]).mono ?_
    rw [h4']
    rintro e w4 ⟨rfl,hB4⟩
    clear h4 h4' hf x4 c0 c1 c2 c3
    go_wp2
    go_ret
    exact⟨by rw [HV.out];rfl,hbF.trans (hB4.mono hbF.size)⟩
  ·obtain rfl:k=g.cn:=by omega
   have hball:g.chart.all Gr.based=true:=by have:=Ha.out;rwa [<- Hcl.out,List.take_length] at this
   have HV:Hid (Gr.books g=(List.range (Gr.roles g).length).all (Gr.roleAt g.chart (Gr.roles g))):=by
    show _=_;rw [Gr.books,Gr.accounts,H1.out,H2.out,H3.out,hball];rfl
   have hrr:=Z1 (roles_range Hbx.out)
   have hgr:=(Hg3.out.below hbr (Nat.le_refl _)).more hq
   clear hball
   obtain⟨W4,rfl⟩:∃ W4:World,W4=wr:=⟨_,rfl⟩
   go_wp2_with (refine wpList_load_mid rfl 26 (.tmp 39) rfl w.heap.size 5 rfl [.int .i64 g.r0,.int .i64 g.r1,.int .i64 g.r2,.int .i64 g.r3,.int .i64 g.r4,.int .i64 g.r5,.int .i64 g.r6,.int .i64 g.r7,.int .i64 g.r8,.int .i64 g.r9,.int .i64 g.r10,.int .i64 g.r11,.int .i64 g.r12,.int .i64 g.r13,.int .i64 g.r14] _ hrr.out underlying26 rfl rolesSize ?_)
   refine(rolesr_any W4 g).mono ?_
   rintro e W5 ⟨hB5,rb,rfl,hrb,hrows⟩
   have hB05:=hbF.trans (hB5.mono hbF.size)
   have hq5:=hB5.size
   have hb5:=gbox Hbx.out hB5 sw
   have Hb5:=Z1 hb5
   have Hg5:=Z1 (hgr.at_ hB5)
   have hrl:=roles_len g
   have HR:=Z1 hrows
   have s5:w.heap.size<W5.heap.size:=by omega
   obtain⟨L,hL⟩:∃ L,L=Gr.roles g:=⟨_,rfl⟩
   rw [<- hL] at hrl HR HV
   have HL:=Z1 hL
   have Hrl:=Z1 hrl
   clear hrows hb5 hgr hrr hrl hL
   go_wp2
   go_loopw [5] (fun i wr=>∃ k:Nat,k<=15/\i=.int .i64 k/\(List.range k).all (Gr.roleAt g.chart L)=true/\Below W5.heap.size W5 wr) (fun i _=>15-(intOf i).toNat)
   case atStart=>exact⟨0,Nat.zero_le _,rfl,rfl,Below.refl _ _⟩
   case round =>
    obtain⟨k,hk,rfl,hall,hbr⟩:=hrel
    have Hall:=Z1 hall
    have hq:=hbr.size
    have hbF:=hB05.trans (hbr.mono hB05.size)
    clear hall
    by_cases hlt:k<15
    ·have hkl:k<L.length:=by have:=Hrl.out;omega
     obtain⟨b,o,hAe,hbB,c0,c1,c2,c3,c4⟩:=RolesAt.five (RowsAt.below HR.out hbr (Nat.le_refl _)) hkl
     cases hAe
     simp only [Nat.zero_add] at c0 c1 c2 c3 c4
     have hrbw:rb<wr.heap.size:=by omega
     have hbx:=gbox Hb5.out hbr s5
     have hgx:=Z1 (grp_range hbx)
     have swx:w.heap.size<wr.heap.size:=some_lt hbx
     have hk0:(0:Int)<=(k:Int):=by omega
     have hk15:(k:Int)<15:=by omega
     have hS:Below wr.heap.size wr wr.drew:=below_drawn (Below.refl _ _) 1
     have hgr:=(Hg5.out.below hbr (Nat.le_refl _)).more hq
     have Hrt:=Z1 (rat_lt hkl)
     obtain⟨q,hqq⟩:∃ q,q=Ch.found g.chart L[k].code:=⟨_,rfl⟩
     obtain⟨hh,hhh⟩:∃ hh,hh=Ch.has g.chart L[k].code:=⟨_,rfl⟩
     have Hq:=Z1 hqq
     have Hh:=Z1 hhh
     clear hbx c0 c2 c3 c4 hqq hhh
     go_upto_region 12 with(fail)
     refine wp_region_held (S:=Below wr.heap.size wr) (by kernel_rfl) ?_
     change wpAnyH _ _ _ _ _ _ _ _ (World.drew _)
     obtain⟨W0,hWd⟩:∃ W0,W0=wr.drew:=⟨_,rfl⟩
     rw [<- hWd] at hS ⊢
     clear hWd
     refine tk (i:=0) (v:=.agg #[.string g.cur,.int .i64 g.Y,.int .i64 g.M,.int .i64 g.N,.slice g.cA g.cn g.cc,.int .i64 g.r0,.int .i64 g.r1,.int .i64 g.r2,.int .i64 g.r3,.int .i64 g.r4,.int .i64 g.r5,.int .i64 g.r6,.int .i64 g.r7,.int .i64 g.r8,.int .i64 g.r9,.int .i64 g.r10,.int .i64 g.r11,.int .i64 g.r12,.int .i64 g.r13,.int .i64 g.r14,.slice g.eA g.en g.ec]) rfl (yieldsIf_load_mid (by rfl) 29 _ rfl w.heap.size 0 rfl [.string g.cur,.int .i64 g.Y,.int .i64 g.M,.int .i64 g.N,.slice g.cA g.cn g.cc,.int .i64 g.r0,.int .i64 g.r1,.int .i64 g.r2,.int .i64 g.r3,.int .i64 g.r4,.int .i64 g.r5,.int .i64 g.r6,.int .i64 g.r7,.int .i64 g.r8,.int .i64 g.r9,.int .i64 g.r10,.int .i64 g.r11,.int .i64 g.r12,.int .i64 g.r13,.int .i64 g.r14,.slice g.eA g.en g.ec] _ (fun W' hS'=>range_below hgx.out hS' swx) underlying29 rfl grpSize) hS ?_
     try simp only [z]
     refine tk (i:=1) (v:=.slice (some ⟨rb,0,none⟩) 15 15) rfl (.inl ⟨by rfl,fun W' hS'=>by go_simp⟩) hS ?_
     try simp only [z]
     refine tk (i:=2) (v:=.int .i64 k) rfl (.inl ⟨by rfl,fun W' hS'=>by go_simp⟩) hS ?_
     try simp only [z]
     refine tk (i:=3) (v:=.pointer (some ⟨rb,k*5,none⟩)) rfl (.inl ⟨by rfl,fun W' hS'=>by go_simp⟩) hS ?_
     try simp only [z]
     refine tk (i:=4) (v:=.pointer (some ⟨rb,k*5+1,none⟩)) rfl (.inl ⟨by rfl,fun W' hS'=>by go_simp⟩) hS ?_
     try simp only [z]
     refine tk (i:=5) (v:=.int .i64 L[k].code) rfl (.inl ⟨by rfl,fun W' hS'=>by have hc:=(hS'.cell (p:=⟨rb,k*5+1,none⟩) hrbw).trans c1;go_simp⟩) hS ?_
     try simp only [z]
     refine wpAnyH_letters fun md' ops' Q' a' hlm hlo hlq hla=>?_
     have fin:∀(W':World) (p:Nat),Below wr.heap.size wr W'->W'.heap[p]?=some (.cells #[.int .i64 (q).code,.int .i64 (q).kind,.int .i64 (q).basis,.int .i64 (q).parent] 87 (0,0))->wr.heap.size<=p->Q' .normal ((((((a'.put (some 55) (.tuple #[.agg #[.int .i64 (q).code,.int .i64 (q).kind,.int .i64 (q).basis,.int .i64 (q).parent],.bool hh])).put (some 48) (.tuple #[.agg #[.int .i64 (q).code,.int .i64 (q).kind,.int .i64 (q).basis,.int .i64 (q).parent],.bool hh])).put (some 56) (.agg #[.int .i64 (q).code,.int .i64 (q).kind,.int .i64 (q).basis,.int .i64 (q).parent])).put (some 57) (.bool hh)).put (some 6) (.pointer (some ⟨p,0,none⟩))).put (some 7) (.bool hh)) W':=by
      intro W' p hbW hrow hp
      subst hlm hlo hlq hla
      simp only [z]
      simp only [Exit.then]
      have q1:=cr9 1 hrow
      have q2:=cr9 2 hrow
      simp at q1 q2
      have hbF':=hbF.trans (hbW.mono hbF.size)
      have hbr':=hbr.trans (hbW.mono hq)
      obtain⟨b,o,hAe,hbB,c0,c1',c2,c3,c4⟩:=RolesAt.five (RowsAt.below HR.out hbr' (Nat.le_refl _)) hkl
      cases hAe
      simp only [Nat.zero_add] at c0 c1' c2 c3 c4
      have hrbw':rb<W'.heap.size:=Nat.lt_of_lt_of_le hrbw hbW.size
      have hpw:p<W'.heap.size:=some_lt hrow
      have hq':=hbr'.size
      have hbad:Gr.roleAt g.chart L k=false->Hid (Gr.books g=false):=fun h=>Z1 (by rw [HV.out];exact Ch.all_not hkl h)
      clear hrow c1
      cases hh
      case false =>
       have HV2:=hbad (by rw [Gr.roleAt,Hrt.out,<- Hh.out];rfl)
       clear hbad
       go_wp2_with (go_quiet (fail))
       go_ret
       exact⟨by rw [HV2.out];rfl,below_drawn hbF' _⟩
      by_cases g3:q.kind=L[k].kind
      case neg =>
       have g3b:(q.kind != L[k].kind)=true:=by simp [g3]
       have HV2:=hbad (by rw [Gr.roleAt,Hrt.out,<- Hq.out,decide_eq_false g3];simp)
       clear g3 hbad
       go_wp2_with (go_quiet (fail))
       go_ret
       exact⟨by rw [HV2.out];rfl,below_drawn hbF' _⟩
      have g3b:(q.kind != L[k].kind)=false:=by simp [g3]
      by_cases g4:q.basis=L[k].basis
      case neg =>
       have g4b:(q.basis != L[k].basis)=true:=by simp [g4]
       have HV2:=hbad (by rw [Gr.roleAt,Hrt.out,<- Hq.out,decide_eq_false g4];simp)
       clear g3 g4 hbad
       go_wp2_with (go_quiet (fail))
       go_ret
       exact⟨by rw [HV2.out];rfl,below_drawn hbF' _⟩
      have g4b:(q.basis != L[k].basis)=false:=by simp [g4]
      have Hpre:Hid ((List.take k L).any (fun y=>decide (y.code=L[k].code))=false->Gr.roleAt g.chart L k=true):=by
       show _->_
       intro hh
       rw [Gr.roleAt,Hrt.out,<- Hh.out,<- Hq.out,decide_eq_true g3,decide_eq_true g4,hh];rfl
      clear g3 g4
      go_wp2_with (fail)
      go_quiet (fail)
      go_wp2
      clear q1 q2
      have hbF2:=below_drawn hbF' nq
      have hbr2:=below_drawn hbr' nq
      obtain⟨wo,hwo⟩:∃ wo:World,wo=W'.drewN nq:=⟨_,rfl⟩
      rw [<- hwo] at hbF2 hbr2 ⊢
      clear hwo c0 c1' c2 c3 c4
      go_loopw [8] (fun j wr=>∃ m:Nat,m<=k/\j=.int .i64 m/\(L.take m).any (fun y=>decide (y.code=L[k].code))=false/\Below W5.heap.size W5 wr) (fun j _=>k-(intOf j).toNat)
      case atStart=>exact⟨0,Nat.zero_le _,rfl,rfl,hbr2⟩
      case round =>
       obtain⟨m,hm,rfl,hno,hbi⟩:=hrel
       have Hno:=Z1 hno
       have hqi:=hbi.size
       have hbFi:=hB05.trans (hbi.mono hB05.size)
       clear hno
       by_cases hmk:m<k
       ·have hml:m<L.length:=by omega
        obtain⟨b,o,hAe,hbB,c0,c1,c2,c3,c4⟩:=RolesAt.five (RowsAt.below HR.out hbi (Nat.le_refl _)) hkl
        cases hAe
        obtain⟨b,o,hAe,hbB',d0,d1,d2,d3,d4⟩:=RolesAt.five (RowsAt.below HR.out hbi (Nat.le_refl _)) hml
        cases hAe
        simp only [Nat.zero_add] at c1 d1
        have hrbi:rb<wr.heap.size:=by omega
        have i0:(0:Int)<=(m:Int):=by omega
        have i1:(m:Int)<15:=by omega
        clear c0 c2 c3 c4 d0 d2 d3 d4
        obtain⟨f1,hf1⟩:∃ f1,f1=L[m].code:=⟨_,rfl⟩
        rw [<- hf1] at d1
        have Hf1:=Z1 hf1
        clear hf1
        by_cases g1:f1=L[k].code
        ·have g1b:(f1==L[k].code)=true:=by simp [g1]
         have HV2:=hbad (by
          rw [Gr.roleAt,Hrt.out]
          have:(L.take k).any (fun y=>decide (y.code=L[k].code))=true:=by
           rw [List.any_eq_true]
           exact⟨L[m],List.mem_take_iff_getElem.2 ⟨m,by omega,rfl⟩,by rw [<- Hf1.out,g1];simp⟩
          rw [this];simp)
         clear g1 hbad
         go_wp2_with (go_quiet (fail))
         go_ret
         exact⟨by rw [HV2.out];rfl,below_drawn hbFi _⟩
        ·have g1b:(f1==L[k].code)=false:=by simp [g1]
         have Hno2:Hid ((L.take (m+1)).any (fun y=>decide (y.code=L[k].code))=false):=by
          show _=_
          rw [List.take_succ_eq_append_getElem hml,List.any_append,Hno.out]
          simp [<- Hf1.out,g1]
         clear g1 hbad
         go_wp2_with (go_quiet (fail))
         go_roundw
         case rel=>exact⟨m+1,by omega,by go_num,Hno2.out,below_drawn hbi _⟩
         case measure=>simp [intOf];omega
       ·obtain rfl:m=k:=by omega
        have Hall2:=Z1 (Gr.range_all Hall.out (Hpre.out Hno.out))
        clear hbad
        go_wp2
        go_roundw
        case rel=>exact⟨m+1,by omega,by go_num,Hall2.out,hbi⟩
        case measure=>simp [intOf];omega
     subst hlm hlo hlq hla
     refine wpAnyH_ready (rs:=[6,10]) (by kernel_rfl) (by simp) (AllReadyH.cons rfl (fun K hK=>?_) (AllReadyH.cons rfl (fun K hK=>?_) AllReadyH.nil))
     ·skip
      go_simp
      refine(acctr_any W0 g L[k].code (hgr.at_ hS)).mono ?_
      rw [<- Hq.out,<- Hh.out]
      rintro e W6 ⟨rfl,hB6⟩
      have hS6:Below wr.heap.size wr W6:=hS.trans (hB6.mono hS.size)
      have hq6:=hS6.size
      refine hK.out _ _ hS6 (fun _=>?_)
      clear hK K
      try simp only [z]
      refine tk (i:=7) (v:=.tuple #[.agg #[.int .i64 (q).code,.int .i64 (q).kind,.int .i64 (q).basis,.int .i64 (q).parent],.bool hh]) rfl (.inl ⟨by rfl,fun W' hS'=>by go_simp⟩) hS6 ?_
      try simp only [z]
      refine tk (i:=8) (v:=.agg #[.int .i64 (q).code,.int .i64 (q).kind,.int .i64 (q).basis,.int .i64 (q).parent]) rfl (.inl ⟨by rfl,fun W' hS'=>by go_simp⟩) hS6 ?_
      try simp only [z]
      refine tk (i:=9) (v:=.bool hh) rfl (.inl ⟨by rfl,fun W' hS'=>by go_simp⟩) hS6 ?_
      try simp only [z]
      refine rd9 10 (by kernel_rfl) rfl (fun K hK=>?_)
      obtain⟨hB7,hrow,_⟩:=row_new W6 #[.int .i64 0,.int .i64 0,.int .i64 0,.int .i64 0] 87
      go_simp
      obtain⟨W7,hW7⟩:∃ W7,W7=W6.alloc (.cells #[.int .i64 0,.int .i64 0,.int .i64 0,.int .i64 0] 87):=⟨_,rfl⟩
      rw [<- hW7] at hB7 hrow ⊢
      clear hW7
      have hS7:Below wr.heap.size wr W7:=hS6.trans (hB7.mono hq6)
      refine hK.out _ _ hS7 (fun _=>?_)
      clear hK K
      try simp only [z]
      refine rd9 11 (by kernel_rfl) rfl (fun K hK=>?_)
      rw [if_pos (by rfl)]
      refine wp_store_row 87 _ _ none rfl rfl W6.heap.size 87 _ #[.int .i64 (q).code,.int .i64 (q).kind,.int .i64 (q).basis,.int .i64 (q).parent] rfl rfl hrow rfl accSize (accOne _ _ _ _) ?_
      have hR:=setRow_heap W7 W6.heap.size _ #[.int .i64 (q).code,.int .i64 (q).kind,.int .i64 (q).basis,.int .i64 (q).parent] _ _ hrow
      have hSs:=below_setRow hS7 (show wr.heap.size<=W6.heap.size by omega) #[.int .i64 (q).code,.int .i64 (q).kind,.int .i64 (q).basis,.int .i64 (q).parent]
      refine hK.out _ _ hSs (fun _=>?_)
      clear hK K
      try simp only [z]
      refine rd9 12 (by kernel_rfl) rfl (fun K hK=>?_)
      go_simp
      refine hK.out _ _ hSs (fun _=>?_)
      clear hK K
      try simp only [z]
      refine wpAnyH_done (by kernel_rfl) ?_ _
      have hn:=fin _ W6.heap.size hSs hR (by omega)
      simp only [z] at hn
      exact hn
     ·skip
      obtain⟨hB6,hrow,_⟩:=row_new W0 #[.int .i64 0,.int .i64 0,.int .i64 0,.int .i64 0] 87
      go_simp
      obtain⟨W6,hW6⟩:∃ W6,W6=W0.alloc (.cells #[.int .i64 0,.int .i64 0,.int .i64 0,.int .i64 0] 87):=⟨_,rfl⟩
      rw [<- hW6] at hB6 hrow ⊢
      clear hW6
      have hS6:Below wr.heap.size wr W6:=hS.trans (hB6.mono hS.size)
      have hq6:=hS6.size
      have hlt6:=some_lt hrow
      have hq0:=hS.size
      refine hK.out _ _ hS6 (fun _=>?_)
      clear hK K
      try simp only [z]
      refine rd9 6 (by kernel_rfl) rfl (fun K hK=>?_)
      go_simp
      refine(acctr_any W6 g L[k].code ((hgr.below hS6 (Nat.le_refl _)).more hq6)).mono ?_
      rw [<- Hq.out,<- Hh.out]
      rintro e W7 ⟨rfl,hB7⟩
      have hS7:Below wr.heap.size wr W7:=hS6.trans (hB7.mono hq6)
      have hrow7:=gbox hrow hB7 hlt6
      refine hK.out _ _ hS7 (fun _=>?_)
      clear hK K
      try simp only [z]
      refine tk (i:=7) (v:=.tuple #[.agg #[.int .i64 (q).code,.int .i64 (q).kind,.int .i64 (q).basis,.int .i64 (q).parent],.bool hh]) rfl (.inl ⟨by rfl,fun W' hS'=>by go_simp⟩) hS7 ?_
      try simp only [z]
      refine tk (i:=8) (v:=.agg #[.int .i64 (q).code,.int .i64 (q).kind,.int .i64 (q).basis,.int .i64 (q).parent]) rfl (.inl ⟨by rfl,fun W' hS'=>by go_simp⟩) hS7 ?_
      try simp only [z]
      refine tk (i:=9) (v:=.bool hh) rfl (.inl ⟨by rfl,fun W' hS'=>by go_simp⟩) hS7 ?_
      try simp only [z]
      refine rd9 11 (by kernel_rfl) rfl (fun K hK=>?_)
      rw [if_pos (by rfl)]
      refine wp_store_row 87 _ _ none rfl rfl W0.heap.size 87 _ #[.int .i64 (q).code,.int .i64 (q).kind,.int .i64 (q).basis,.int .i64 (q).parent] rfl rfl hrow7 rfl accSize (accOne _ _ _ _) ?_
      have hR:=setRow_heap W7 W0.heap.size _ #[.int .i64 (q).code,.int .i64 (q).kind,.int .i64 (q).basis,.int .i64 (q).parent] _ _ hrow7
      have hSs:=below_setRow hS7 (show wr.heap.size<=W0.heap.size by omega) #[.int .i64 (q).code,.int .i64 (q).kind,.int .i64 (q).basis,.int .i64 (q).parent]
      refine hK.out _ _ hSs (fun _=>?_)
      clear hK K
      try simp only [z]
      refine rd9 12 (by kernel_rfl) rfl (fun K hK=>?_)
      go_simp
      refine hK.out _ _ hSs (fun _=>?_)
      clear hK K
      try simp only [z]
      refine wpAnyH_done (by kernel_rfl) ?_ _
      have hn:=fin _ W0.heap.size hSs hR (by omega)
      simp only [z] at hn
      exact hn
    ·obtain rfl:k=15:=by omega
     have HV2:Hid (Gr.books g=true):=by show _=_;rw [HV.out,Hrl.out];exact Hall.out
     go_wp2
     go_ret
     exact⟨by rw [HV2.out];rfl,hbF⟩
end
end Go.Proofs.YtniaimjknmhapaaGreatDoor
namespace Go.Proofs.YtniaimjknmhapaaGreatDoor
open Go.Proofs.Tryz Go.RowKit

def NamePost (l:List Ent) (s:ByteArray) (w:World) (e:Ending) (w':World):Prop :=
 Below w.heap.size w w'/\((e=.returned (.tuple #[.int .i64 0,.bool false])/\l.any (fun y=>decide (y.name=s))=false) ∨
  ∃(k:Nat) (h:k<l.length),e=.returned (.tuple #[.int .i64 k,.bool true])/\l[k].name=s/\(l.take k).any (fun y=>decide (y.name=s))=false)
section
variable (w:World)
theorem fname_any (g:Grp) (s:ByteArray) (hg:g.At w w.heap.size) :
  Calls prog 223 #[.agg #[.string g.cur,.int .i64 g.Y,.int .i64 g.M,.int .i64 g.N,.slice g.cA g.cn g.cc,.int .i64 g.r0,.int .i64 g.r1,.int .i64 g.r2,.int .i64 g.r3,.int .i64 g.r4,.int .i64 g.r5,.int .i64 g.r6,.int .i64 g.r7,.int .i64 g.r8,.int .i64 g.r9,.int .i64 g.r10,.int .i64 g.r11,.int .i64 g.r12,.int .i64 g.r13,.int .i64 g.r14,.slice g.eA g.en g.ec],.string s] w (NamePost g.ents s w):=by
 obtain⟨W1,hW1,hB0,hb0,hz⟩:=nw1 w #[.string g.cur,.int .i64 g.Y,.int .i64 g.M,.int .i64 g.N,.slice g.cA g.cn g.cc,.int .i64 g.r0,.int .i64 g.r1,.int .i64 g.r2,.int .i64 g.r3,.int .i64 g.r4,.int .i64 g.r5,.int .i64 g.r6,.int .i64 g.r7,.int .i64 g.r8,.int .i64 g.r9,.int .i64 g.r10,.int .i64 g.r11,.int .i64 g.r12,.int .i64 g.r13,.int .i64 g.r14,.slice g.eA g.en g.ec] 29
 have HW:=Z1 hW1
 have Hg1:=Z1 (hg.at_ hB0)
 have s1:w.heap.size<W1.heap.size:=by omega
 have Hb0:=Z1 hb0
 have Hel:=Z1 hg.hel
 have hen:=hg.hen
 have x20:=cr9 20 hb0
 simp at x20
 clear hW1 hz hb0 hg
 go_enter func223,ntmps223
 go_upto_region 1 with(fail)
 rw [<- HW.out]
 go_wp2
 go_loop [6] (fun i=>∃ k:Nat,k<=g.en/\i=.int .i64 k/\(g.ents.take k).any (fun y=>decide (y.name=s))=false) (fun i=>g.en-(intOf i).toNat)
 case atStart=>exact⟨0,Nat.zero_le _,rfl,rfl⟩
 case round =>
  obtain⟨k,hk,rfl,ha⟩:=hrel
  have Ha:=Z1 ha
  clear ha
  by_cases hlt:k<g.en
  ·have hkl:k<g.ents.length:=by have:=Hel.out;omega
   obtain⟨b,o,hAe,hbB,c0,c1,c2,c3,c4⟩:=EntsAt.five Hg1.out.he hkl
   rw [hAe] at x20
   clear hAe c1 c2 c3 c4
   by_cases h1:g.ents[k].name=s
   ·have hbe:(g.ents[k].name.toList==s.toList)=true:=by rw [h1];simp
    have H1:=Z1 h1
    clear h1
    go_wp2
    go_ret2
    exact⟨hB0,.inr ⟨k,hkl,rfl,H1.out,Ha.out⟩⟩
   ·have hbe:(g.ents[k].name.toList==s.toList)=false:=by
     rw [beq_eq_false_iff_ne]
     intro e
     rw [ByteArray.toList_eq,ByteArray.toList_eq] at e
     exact h1 (ByteArray.ext (Array.toList_inj.mp e))
    have Ha2:Hid ((g.ents.take (k+1)).any (fun y=>decide (y.name=s))=false):=by
     show _=_
     rw [List.take_succ_eq_append_getElem hkl,List.any_append,Ha.out]
     simp [h1]
    clear h1
    go_wp2
    go_round
    case rel=>exact⟨k+1,by omega,by go_num,Ha2.out⟩
    case measure=>simp [intOf];omega
  ·obtain rfl:k=g.en:=by omega
   have Ha2:Hid (g.ents.any (fun y=>decide (y.name=s))=false):=by show _=_;have:=Ha.out;rwa [<- Hel.out,List.take_length] at this
   go_wp2
   go_ret2
   exact⟨hB0,.inl ⟨rfl,Ha2.out⟩⟩
theorem entr_any (g:Grp) (x:Ent) (hg:g.At w w.heap.size) (hx:x.At w w.heap.size) :
  Calls prog 224 #[.agg #[.string g.cur,.int .i64 g.Y,.int .i64 g.M,.int .i64 g.N,.slice g.cA g.cn g.cc,.int .i64 g.r0,.int .i64 g.r1,.int .i64 g.r2,.int .i64 g.r3,.int .i64 g.r4,.int .i64 g.r5,.int .i64 g.r6,.int .i64 g.r7,.int .i64 g.r8,.int .i64 g.r9,.int .i64 g.r10,.int .i64 g.r11,.int .i64 g.r12,.int .i64 g.r13,.int .i64 g.r14,.slice g.eA g.en g.ec],.agg #[.string x.name,.string x.cur,.slice x.cA x.cn x.cc,.slice x.lA x.ln x.lc,.bool x.joint]] w fun e w'=>e=.returned (.bool (Gr.entity g x))/\Below w.heap.size w w':=by
 obtain⟨W1,hW1,hB0,hb0,hb1,hz⟩:=nw2 w #[.string g.cur,.int .i64 g.Y,.int .i64 g.M,.int .i64 g.N,.slice g.cA g.cn g.cc,.int .i64 g.r0,.int .i64 g.r1,.int .i64 g.r2,.int .i64 g.r3,.int .i64 g.r4,.int .i64 g.r5,.int .i64 g.r6,.int .i64 g.r7,.int .i64 g.r8,.int .i64 g.r9,.int .i64 g.r10,.int .i64 g.r11,.int .i64 g.r12,.int .i64 g.r13,.int .i64 g.r14,.slice g.eA g.en g.ec] #[.string x.name,.string x.cur,.slice x.cA x.cn x.cc,.slice x.lA x.ln x.lc,.bool x.joint] 29 102
 have HW:=Z1 hW1
 have hA1:=RowsAt.at_ hg.hc hB0
 have hx1:=hx.at_ hB0
 have x4:=cr9 4 hb0
 have y0:=cr9 0 hb1
 have y1:=cr9 1 hb1
 have y2:=cr9 2 hb1
 have y3:=cr9 3 hb1
 have y4:=cr9 4 hb1
 simp at x4 y0 y1 y2 y3 y4
 have s1:w.heap.size<W1.heap.size:=by omega
 have s1':w.heap.size+1<W1.heap.size:=by omega
 have Hb0:=Z1 hb0
 have Hb1:=Z1 hb1
 have Hcl:=Z1 hg.hcl
 have hcn:=hg.hcn
 have Hcw:=Z1 hg.hcw
 have Hnm:=Z1 hx.hn
 have Hcu:=Z1 hx.hu
 have Hll:=Z1 hx.hll
 have hln:=hx.hln
 clear hW1 hz hb0 hb1 hg hx
 go_enter func224,ntmps224
 go_upto_region 1 with(fail)
 rw [<- HW.out]
 go_wp2_with (fail)
 refine(namer_any W1 x.name Hnm.out).mono ?_
 rintro e W2 ⟨rfl,rfl⟩
 by_cases h1:Gr.isName x.name=true
 case neg =>
  have h1':Gr.isName x.name=false:=by simpa using h1
  have HV:Hid (Gr.entity g x=false):=by show _=_;rw [Gr.entity,h1'];rfl
  rw [h1']
  clear h1 h1' hA1 hx1
  go_wp2
  go_ret
  exact⟨by rw [HV.out];rfl,hB0⟩
 have H1:=Z1 h1
 rw [h1]
 clear h1
 go_wp2_with (fail)
 refine(curr_any W1 x.cur Hcu.out).mono ?_
 rintro e W2 ⟨rfl,rfl⟩
 by_cases h2:Gr.isCur x.cur=true
 case neg =>
  have h2':Gr.isCur x.cur=false:=by simpa using h2
  have HV:Hid (Gr.entity g x=false):=by show _=_;rw [Gr.entity,h2'];simp
  rw [h2']
  clear h2 h2' hA1 hx1
  go_wp2
  go_ret
  exact⟨by rw [HV.out];rfl,hB0⟩
 have H2:=Z1 h2
 rw [h2]
 clear h2
 go_wp2_with (fail)
 refine(mapr_any W1 x g.cA g.cn g.cc g.chart Hcl.out hcn Hcw.out hx1 hA1).mono ?_
 rintro e W3 ⟨rfl,hB3⟩
 have hB03:=hB0.trans (hB3.mono hB0.size)
 have hb3:=gbox Hb0.out hB3 s1
 have he3:=gbox Hb1.out hB3 s1'
 have hx3:=hx1.at_ hB3
 by_cases h3:Gr.mapping x.chart g.chart x.links=true
 case neg =>
  have h3':Gr.mapping x.chart g.chart x.links=false:=by simpa using h3
  have HV:Hid (Gr.entity g x=false):=by show _=_;rw [Gr.entity,h3'];simp
  rw [h3']
  clear h3 h3' hA1 hx1 x4 y0 y1 y2 y3 y4 hx3 hb3 he3
  go_wp2
  go_ret
  exact⟨by rw [HV.out];rfl,hB03⟩
 have HV:Hid (Gr.entity g x=x.links.all (Gr.openTo (Gr.roles g))):=by show _=_;rw [Gr.entity,H1.out,H2.out,h3];rfl
 rw [h3]
 have s3:w.heap.size<W3.heap.size:=some_lt hb3
 have hrr:=Z1 (roles_range hb3)
 have He3:=Z1 he3
 have Hl3:=Z1 hx3.hl
 clear h3 x4 y0 y1 y2 y3 y4 hb3 he3 hA1 hx1 hx3
 go_wp2_with (refine wpList_load_mid rfl 26 (.tmp 25) rfl w.heap.size 5 rfl [.int .i64 g.r0,.int .i64 g.r1,.int .i64 g.r2,.int .i64 g.r3,.int .i64 g.r4,.int .i64 g.r5,.int .i64 g.r6,.int .i64 g.r7,.int .i64 g.r8,.int .i64 g.r9,.int .i64 g.r10,.int .i64 g.r11,.int .i64 g.r12,.int .i64 g.r13,.int .i64 g.r14] _ hrr.out underlying26 rfl rolesSize ?_)
 refine(rolesr_any W3 g).mono ?_
 rintro e W5 ⟨hB5,rb,rfl,hrb,hrows⟩
 have hq5:=hB5.size
 have hB05:=hB03.trans (hB5.mono hB03.size)
 have hrl:=roles_len g
 obtain⟨L,hL⟩:∃ L,L=Gr.roles g:=⟨_,rfl⟩
 rw [<- hL] at hrl hrows HV
 have HR:=Z1 hrows
 have Hrl:=Z1 hrl
 have He5:=Z1 (gbox He3.out hB5 (some_lt He3.out))
 have Hl5:=Z1 ((RowsAt.below Hl3.out hB5 (Nat.le_refl _)).more hq5)
 clear hL hrows hrl hrr
 go_wp2
 go_loopw [6] (fun i wr=>∃ k:Nat,k<=x.ln/\i=.int .i64 k/\(x.links.take k).all (Gr.openTo L)=true/\Below W5.heap.size W5 wr) (fun i _=>x.ln-(intOf i).toNat)
 case atStart=>exact⟨0,Nat.zero_le _,rfl,rfl,Below.refl _ _⟩
 case round =>
  obtain⟨k,hk,rfl,hall,hbr⟩:=hrel
  have Hall:=Z1 hall
  have hq:=hbr.size
  have hbF:=hB05.trans (hbr.mono hB05.size)
  have he:=gbox He5.out hbr (some_lt He5.out)
  have y3:=cr9 3 he
  simp at y3
  have t1:w.heap.size+1<wr.heap.size:=some_lt he
  clear hall he
  by_cases hlt:k<x.ln
  ·have hkl:k<x.links.length:=by have:=Hll.out;omega
   go_wp2
   obtain⟨wo,rfl⟩:∃ wo:World,wo=wr:=⟨_,rfl⟩
   clear y3
   go_loopw [7] (fun j wr=>∃ m:Nat,m<=15/\j=.int .i64 m/\(L.take m).any (fun y=>decide (y.code=x.links[k].to)&&!y.mapped)=false/\Below W5.heap.size W5 wr) (fun j _=>15-(intOf j).toNat)
   case atStart=>exact⟨0,Nat.zero_le _,rfl,rfl,hbr⟩
   case round =>
    obtain⟨m,hm,rfl,hno,hbi⟩:=hrel
    have Hno:=Z1 hno
    have hqi:=hbi.size
    have hbFi:=hB05.trans (hbi.mono hB05.size)
    clear hno
    by_cases hmk:m<15
    ·have hml:m<L.length:=by have:=Hrl.out;omega
     have he:=gbox He5.out hbi (some_lt He5.out)
     have y3:=cr9 3 he
     simp at y3
     have t2:w.heap.size+1<wr.heap.size:=some_lt he
     obtain⟨b,o,hAe,hbB,c0,c1,c2⟩:=LnksAt.three (RowsAt.below Hl5.out hbi (Nat.le_refl _)) hkl
     rw [hAe] at y3
     obtain⟨b',o',hAe',hbB',d0,d1,d2,d3,d4⟩:=RolesAt.five (RowsAt.below HR.out hbi (Nat.le_refl _)) hml
     cases hAe'
     simp only [Nat.zero_add] at d1 d4
     have hbi':b<wr.heap.size:=by omega
     have hrbi:rb<wr.heap.size:=by omega
     have i0:(0:Int)<=(m:Int):=by omega
     have i1:(m:Int)<15:=by omega
     have i2:(0:Int)<=(k:Int):=by omega
     have i3:(k:Int)<(x.ln:Int):=by omega
     obtain⟨f1,hf1⟩:∃ f1,f1=L[m].code:=⟨_,rfl⟩
     obtain⟨f2,hf2⟩:∃ f2,f2=L[m].mapped:=⟨_,rfl⟩
     rw [<- hf1] at d1
     rw [<- hf2] at d4
     have Hf1:=Z1 hf1
     have Hf2:=Z1 hf2
     have Hstep:Hid (∀ q,(decide (f1=x.links[k].to)&&!f2)=q->(L.take (m+1)).any (fun y=>decide (y.code=x.links[k].to)&&!y.mapped)=q):=by
      show ∀ q,_
      intro q hq
      rw [List.take_succ_eq_append_getElem hml,List.any_append,Hno.out,<- hq]
      simp [<- Hf1.out,<- Hf2.out]
     clear hAe he c0 c2 d0 d2 d3 hf1 hf2
     by_cases g1:f1=x.links[k].to
     ·have g1b:(x.links[k].to==f1)=true:=by simp [g1]
      cases f2
      case false =>
       have HV2:Hid (Gr.entity g x=false):=by
        show _=_
        rw [HV.out]
        refine all_miss hkl ?_
        have h1:=Hstep.out true (by simp [g1])
        rw [Gr.openTo]
        have:L.any (fun y=>decide (y.code=x.links[k].to)&&!y.mapped)=true:=by
         rw [List.any_eq_true] at h1 ⊢
         obtain⟨y,hy,hy2⟩:=h1
         exact⟨y,List.mem_of_mem_take hy,hy2⟩
        rw [this];rfl
       clear g1
       go_wp2_with (go_quiet (fail))
       go_ret
       exact⟨by rw [HV2.out];rfl,below_drawn hbFi _⟩
      case true =>
       have Hno2:=Z1 (Hstep.out false (by simp))
       clear g1
       go_wp2_with (go_quiet (fail))
       go_roundw
       case rel=>exact⟨m+1,by omega,by go_num,Hno2.out,below_drawn hbi _⟩
       case measure=>simp [intOf];omega
     ·have g1b:(x.links[k].to==f1)=false:=by simp;exact fun e=>g1 e.symm
      have Hno2:=Z1 (Hstep.out false (by simp [g1]))
      clear g1
      go_wp2_with (go_quiet (fail))
      go_roundw
      case rel=>exact⟨m+1,by omega,by go_num,Hno2.out,below_drawn hbi _⟩
      case measure=>simp [intOf];omega
    ·obtain rfl:m=15:=by omega
     have Hall2:=Z1 (all_take (P:=Gr.openTo L) hkl Hall.out (by
      have:=Hno.out
      rw [<- Hrl.out,List.take_length] at this
      rw [Gr.openTo,this];rfl))
     go_wp2
     go_roundw
     case rel=>exact⟨k+1,by omega,by go_num,Hall2.out,hbi⟩
     case measure=>simp [intOf];omega
  ·obtain rfl:k=x.ln:=by omega
   have HV2:Hid (Gr.entity g x=true):=by show _=_;rw [HV.out];have:=Hall.out;rwa [<- Hll.out,List.take_length] at this
   go_wp2
   go_ret
   exact⟨by rw [HV2.out];rfl,hbF⟩
end
end Go.Proofs.YtniaimjknmhapaaGreatDoor
namespace Go.Proofs.YtniaimjknmhapaaGreatDoor
open Go.Proofs.Tryz Go.RowKit
section
variable (w:World)
theorem grpr_any (g:Grp) (hg:g.At w w.heap.size) :
  Calls prog 184 #[.agg #[.string g.cur,.int .i64 g.Y,.int .i64 g.M,.int .i64 g.N,.slice g.cA g.cn g.cc,.int .i64 g.r0,.int .i64 g.r1,.int .i64 g.r2,.int .i64 g.r3,.int .i64 g.r4,.int .i64 g.r5,.int .i64 g.r6,.int .i64 g.r7,.int .i64 g.r8,.int .i64 g.r9,.int .i64 g.r10,.int .i64 g.r11,.int .i64 g.r12,.int .i64 g.r13,.int .i64 g.r14,.slice g.eA g.en g.ec]] w fun e w'=>e=.returned (.bool (Gr.valid g))/\Below w.heap.size w w':=by
 obtain⟨W1,hW1,hB0,hb0,hz⟩:=nw1 w #[.string g.cur,.int .i64 g.Y,.int .i64 g.M,.int .i64 g.N,.slice g.cA g.cn g.cc,.int .i64 g.r0,.int .i64 g.r1,.int .i64 g.r2,.int .i64 g.r3,.int .i64 g.r4,.int .i64 g.r5,.int .i64 g.r6,.int .i64 g.r7,.int .i64 g.r8,.int .i64 g.r9,.int .i64 g.r10,.int .i64 g.r11,.int .i64 g.r12,.int .i64 g.r13,.int .i64 g.r14,.slice g.eA g.en g.ec] 29
 have HW:=Z1 hW1
 have hg1:=hg.at_ hB0
 have s1:w.heap.size<W1.heap.size:=by omega
 have Hb0:=Z1 hb0
 have Hel:=Z1 hg.hel
 have hen:=hg.hen
 have hrg:=Z1 (grp_range hb0)
 clear hW1 hz hb0 hg
 go_enter func184,ntmps184
 go_upto_region 1 with(fail)
 rw [<- HW.out]
 go_wp2_with (refine wpList_load_mid rfl 29 (.tmp 1) rfl w.heap.size 0 rfl _ _ hrg.out underlying29 rfl grpSize ?_)
 refine(booksr_any W1 g hg1).mono ?_
 rintro e W3 ⟨rfl,hB3⟩
 have hB03:=hB0.trans (hB3.mono hB0.size)
 have hb3:=gbox Hb0.out hB3 s1
 have hg3:=hg1.at_ hB3
 clear hrg hg1
 by_cases h1:Gr.books g=true
 case neg =>
  have h1':Gr.books g=false:=by simpa using h1
  have HV:Hid (Gr.valid g=false):=by show _=_;rw [Gr.valid,h1'];rfl
  rw [h1']
  clear h1 h1' hg3 hb3
  go_wp2
  go_ret
  exact⟨by rw [HV.out];rfl,hB03⟩
 have H1:=Z1 h1
 rw [h1]
 have x20:=cr9 20 hb3
 simp at x20
 have s3:w.heap.size<W3.heap.size:=some_lt hb3
 have Hb3:=Z1 hb3
 have Hg3:=Z1 hg3
 clear h1 hb3 hg3
 by_cases h4:g.en<1
 ·have h4':(g.en:Int)<1:=by omega
  have HV:Hid (Gr.valid g=false):=by show _=_;rw [Gr.valid,decide_eq_false (show ¬ 1<=g.ents.length by have:=Hel.out;omega)];simp
  clear h4
  go_wp2
  go_ret
  exact⟨by rw [HV.out];rfl,hB03⟩
 have h4':¬ (g.en:Int)<1:=by omega
 by_cases h5:12<g.en
 ·have h5':(12:Int)<(g.en:Int):=by omega
  have HV:Hid (Gr.valid g=false):=by show _=_;rw [Gr.valid,decide_eq_false (show ¬ g.ents.length<=12 by have:=Hel.out;omega)];simp
  clear h5
  go_wp2
  go_ret
  exact⟨by rw [HV.out];rfl,hB03⟩
 have h5':¬ (12:Int)<(g.en:Int):=by omega
 have h0l:0<g.ents.length:=by have:=Hel.out;omega
 obtain⟨b,o,hAe,hbB,c0,c1,c2,c3,c4⟩:=EntsAt.five Hg3.out.he h0l
 simp only [Nat.zero_mul,Nat.add_zero] at c4
 have hen0:(0:Int)<(g.en:Int):=by omega
 have HAe:=Z1 hAe
 have Hj:=Z1 (eat_lt h0l)
 obtain⟨j,hj⟩:∃ j,j=(Gr.eat g.ents 0).joint:=⟨_,rfl⟩
 have hc4:W3.cell? ⟨b,o+4,none⟩=some (.bool j):=by rw [hj,Hj.out];exact c4
 have HJ:=Z1 hj
 rw [hAe] at x20
 clear c0 c1 c2 c3 c4 hj hAe
 cases j
 case true =>
  have HV:Hid (Gr.valid g=false):=by show _=_;rw [Gr.valid,<- HJ.out];simp
  go_wp2
  go_ret
  exact⟨by rw [HV.out];rfl,hB03⟩
 have HV:Hid (Gr.valid g=(List.range g.ents.length).all (Gr.entAt g)):=by
  show _=_
  rw [Gr.valid,H1.out,<- HJ.out,decide_eq_true (show 1<=g.ents.length by omega),decide_eq_true (show g.ents.length<=12 by have:=Hel.out;omega)];rfl
 clear h4 h5
 go_wp2
 go_loopw [3] (fun i wr=>∃ k:Nat,k<=g.en/\i=.int .i64 k/\(List.range k).all (Gr.entAt g)=true/\Below W3.heap.size W3 wr) (fun i _=>g.en-(intOf i).toNat)
 case atStart=>exact⟨0,Nat.zero_le _,rfl,rfl,Below.refl _ _⟩
 case round =>
  obtain⟨k,hk,rfl,hall,hbr⟩:=hrel
  have Hall:=Z1 hall
  have hq3:=hbr.size
  have hbw:=hB03.trans (hbr.mono hB03.size)
  have hbx:=gbox Hb3.out hbr s3
  clear hall x20 hc4
  have x20:=cr9 20 hbx
  simp at x20
  rw [HAe.out] at x20
  have sw:w.heap.size<wr.heap.size:=some_lt hbx
  have hgx:=Z1 (grp_range hbx)
  have Hbx:=Z1 hbx
  clear hbx
  by_cases hlt:k<g.en
  ·have hkl:k<g.ents.length:=by have:=Hel.out;omega
   have hea:=RowsAt.below Hg3.out.he hbr (Nat.le_refl _)
   obtain⟨b',o',hA',hbB',c0,c1,c2,c3,c4⟩:=EntsAt.five hea hkl
   rw [HAe.out] at hA'
   cases hA'
   have hbwr:b<wr.heap.size:=by omega
   have hS:Below wr.heap.size wr wr.drew:=below_drawn (Below.refl _ _) 1
   have hgr:=(Hg3.out.below hbr (Nat.le_refl _)).more hq3
   have Heat:=Z1 (eat_lt hkl)
   have hk0:(0:Int)<=(k:Int):=by omega
   have hkn:(k:Int)<(g.en:Int):=by omega
   have hbad:Gr.entAt g k=false->Hid (Gr.valid g=false):=fun h=>Z1 (by rw [HV.out];exact Ch.all_not hkl h)
   have Hea:=Z1 hea
   clear c1 c2 c3 c4 hea
   go_upto_region 6 with(fail)
   refine wp_region_held (S:=Below wr.heap.size wr) (by kernel_rfl) ?_
   change wpAnyH _ _ _ _ _ _ _ _ (World.drew _)
   obtain⟨W0,hWd⟩:∃ W0,W0=wr.drew:=⟨_,rfl⟩
   rw [<- hWd] at hS ⊢
   clear hWd
   refine tk (i:=0) (v:=.agg #[.string g.cur,.int .i64 g.Y,.int .i64 g.M,.int .i64 g.N,.slice g.cA g.cn g.cc,.int .i64 g.r0,.int .i64 g.r1,.int .i64 g.r2,.int .i64 g.r3,.int .i64 g.r4,.int .i64 g.r5,.int .i64 g.r6,.int .i64 g.r7,.int .i64 g.r8,.int .i64 g.r9,.int .i64 g.r10,.int .i64 g.r11,.int .i64 g.r12,.int .i64 g.r13,.int .i64 g.r14,.slice g.eA g.en g.ec]) rfl (yieldsIf_load_mid (by rfl) 29 _ rfl w.heap.size 0 rfl [.string g.cur,.int .i64 g.Y,.int .i64 g.M,.int .i64 g.N,.slice g.cA g.cn g.cc,.int .i64 g.r0,.int .i64 g.r1,.int .i64 g.r2,.int .i64 g.r3,.int .i64 g.r4,.int .i64 g.r5,.int .i64 g.r6,.int .i64 g.r7,.int .i64 g.r8,.int .i64 g.r9,.int .i64 g.r10,.int .i64 g.r11,.int .i64 g.r12,.int .i64 g.r13,.int .i64 g.r14,.slice g.eA g.en g.ec] _ (fun W' hS'=>range_below hgx.out hS' sw) underlying29 rfl grpSize) hS ?_
   try simp only [z]
   refine tk (i:=1) (v:=.pointer (some ⟨w.heap.size,20,none⟩)) rfl (.inl ⟨by rfl,fun W' hS'=>by go_simp⟩) hS ?_
   try simp only [z]
   refine tk (i:=2) (v:=.slice (some ⟨b,o,none⟩) g.en g.ec) rfl (.inl ⟨by rfl,fun W' hS'=>by have hc:=(hS'.cell (p:=⟨w.heap.size,20,none⟩) sw).trans x20;go_simp⟩) hS ?_
   try simp only [z]
   refine tk (i:=3) (v:=.int .i64 k) rfl (.inl ⟨by rfl,fun W' hS'=>by go_simp⟩) hS ?_
   try simp only [z]
   refine tk (i:=4) (v:=.pointer (some ⟨b,o+k*5,none⟩)) rfl (.inl ⟨by rfl,fun W' hS'=>by go_simp⟩) hS ?_
   try simp only [z]
   refine tk (i:=5) (v:=.pointer (some ⟨b,o+k*5,none⟩)) rfl (.inl ⟨by rfl,fun W' hS'=>by go_simp⟩) hS ?_
   try simp only [z]
   refine tk (i:=6) (v:=.string g.ents[k].name) rfl (.inl ⟨by rfl,fun W' hS'=>by have hc:=(hS'.cell (p:=⟨b,o+k*5,none⟩) hbwr).trans c0;go_simp⟩) hS ?_
   try simp only [z]
   refine rd9 7 (by kernel_rfl) rfl (fun K hK=>?_)
   go_simp
   refine(fname_any W0 g g.ents[k].name (hgr.at_ hS)).mono ?_
   rintro e W4 ⟨hB4,hcase⟩
   have hS4:Below wr.heap.size wr W4:=hS.trans (hB4.mono hS.size)
   have hfound:∃(m:Nat) (_:m<g.ents.length),e=.returned (.tuple #[.int .i64 m,.bool true])/\g.ents[m].name=g.ents[k].name/\(g.ents.take m).any (fun y=>decide (y.name=g.ents[k].name))=false:=by
    rcases hcase with⟨_,hno⟩ | h
    ·exfalso
     have:g.ents.any (fun y=>decide (y.name=g.ents[k].name))=true:=by
      rw [List.any_eq_true];exact⟨g.ents[k],List.getElem_mem hkl,by simp⟩
     rw [this] at hno;cases hno
    ·exact h
   obtain⟨m,hml,rfl,hmn,hmf⟩:=hfound
   have hmk:m<=k:=by
    rcases Nat.lt_or_ge k m with h | h
    ·exfalso
     have:(g.ents.take m).any (fun y=>decide (y.name=g.ents[k].name))=true:=by
      rw [List.any_eq_true];exact⟨g.ents[k],List.mem_take_iff_getElem.2 ⟨k,by omega,rfl⟩,by simp⟩
     rw [this] at hmf;cases hmf
    ·exact h
   have Hmn:=Z1 hmn
   have Hmf:=Z1 hmf
   clear hcase hmn hmf
   refine hK.out _ _ hS4 (fun _=>?_)
   clear hK K
   try simp only [z]
   refine tk (i:=8) (v:=.tuple #[.int .i64 m,.bool true]) rfl (.inl ⟨by rfl,fun W' hS'=>by go_simp⟩) hS4 ?_
   try simp only [z]
   refine tk (i:=9) (v:=.int .i64 m) rfl (.inl ⟨by rfl,fun W' hS'=>by go_simp⟩) hS4 ?_
   try simp only [z]
   refine tk (i:=10) (v:=.bool true) rfl (.inl ⟨by rfl,fun W' hS'=>by go_simp⟩) hS4 ?_
   try simp only [z]
   refine rd9 11 (by kernel_rfl) rfl (fun K hK=>?_)
   go_simp
   refine hK.out _ _ hS4 (fun _=>?_)
   clear hK K
   try simp only [z]
   refine rd9 12 (by kernel_rfl) rfl (fun K hK=>?_)
   go_simp
   refine hK.out _ _ hS4 (fun _=>?_)
   clear hK K
   try simp only [z]
   refine wpAnyH_done (by kernel_rfl) ?_ _
   have hbF4:=hbw.trans (hS4.mono hbw.size)
   have hbr4:=hbr.trans (hS4.mono hq3)
   have hq4:=hS4.size
   have hgx4:=Z1 (range_below hgx.out hS4 sw)
   have Hent:=Z1 (RowsAt.look (RowsAt.below Hea.out hS4 (by omega)) hkl)
   have hgr4:=(hgr.below hS4 (Nat.le_refl _)).more hq4
   have x204:=(hS4.cell (p:=⟨w.heap.size,20,none⟩) sw).trans x20
   have hS5:Below W4.heap.size W4 W4.drew:=below_drawn (Below.refl _ _) 1
   have sw4:w.heap.size<W4.heap.size:=by omega
   have hbw4:b<W4.heap.size:=by omega
   obtain⟨b2,o2,hA2,hb2,hx2⟩:=Hent.out
   rw [HAe.out] at hA2
   cases hA2
   clear x20 c0
   go_wp2_with (fail)
   by_cases hmk2:m=k
   ·have hnk:((m:Int) != (k:Int))=false:=by simp;omega
    have Hm:=Z1 hmk2
    clear hmk2 hmk
    refine wp_region_held (S:=Below W4.heap.size W4) (by kernel_rfl) ?_
    change wpAnyH _ _ _ _ _ _ _ _ (World.drew _)
    obtain⟨W0',hWd⟩:∃ W0,W0=W4.drew:=⟨_,rfl⟩
    rw [<- hWd] at hS5 ⊢
    clear hWd
    refine tk (i:=0) (v:=.int .i64 m) rfl (.inl ⟨by rfl,fun W' hS'=>by go_simp⟩) hS5 ?_
    try simp only [z]
    refine tk (i:=1) (v:=.int .i64 k) rfl (.inl ⟨by rfl,fun W' hS'=>by go_simp⟩) hS5 ?_
    try simp only [z]
    refine tk (i:=2) (v:=.bool false) rfl (.inl ⟨by rfl,fun W' hS'=>by go_simp⟩) hS5 ?_
    try simp only [z]
    refine tk (i:=3) (v:=.bool false) rfl (.inl ⟨by rfl,fun W' hS'=>by go_simp⟩) hS5 ?_
    try simp only [z]
    refine tk (i:=4) (v:=.agg #[.string g.cur,.int .i64 g.Y,.int .i64 g.M,.int .i64 g.N,.slice g.cA g.cn g.cc,.int .i64 g.r0,.int .i64 g.r1,.int .i64 g.r2,.int .i64 g.r3,.int .i64 g.r4,.int .i64 g.r5,.int .i64 g.r6,.int .i64 g.r7,.int .i64 g.r8,.int .i64 g.r9,.int .i64 g.r10,.int .i64 g.r11,.int .i64 g.r12,.int .i64 g.r13,.int .i64 g.r14,.slice g.eA g.en g.ec]) rfl (yieldsIf_load_mid (by rfl) 29 _ rfl w.heap.size 0 rfl [.string g.cur,.int .i64 g.Y,.int .i64 g.M,.int .i64 g.N,.slice g.cA g.cn g.cc,.int .i64 g.r0,.int .i64 g.r1,.int .i64 g.r2,.int .i64 g.r3,.int .i64 g.r4,.int .i64 g.r5,.int .i64 g.r6,.int .i64 g.r7,.int .i64 g.r8,.int .i64 g.r9,.int .i64 g.r10,.int .i64 g.r11,.int .i64 g.r12,.int .i64 g.r13,.int .i64 g.r14,.slice g.eA g.en g.ec] _ (fun W' hS'=>range_below hgx4.out hS' sw4) underlying29 rfl grpSize) hS5 ?_
    try simp only [z]
    refine tk (i:=5) (v:=.pointer (some ⟨w.heap.size,20,none⟩)) rfl (.inl ⟨by rfl,fun W' hS'=>by go_simp⟩) hS5 ?_
    try simp only [z]
    refine tk (i:=6) (v:=.slice (some ⟨b,o,none⟩) g.en g.ec) rfl (.inl ⟨by rfl,fun W' hS'=>by have hc:=(hS'.cell (p:=⟨w.heap.size,20,none⟩) sw4).trans x204;go_simp⟩) hS5 ?_
    try simp only [z]
    refine tk (i:=7) (v:=.int .i64 k) rfl (.inl ⟨by rfl,fun W' hS'=>by go_simp⟩) hS5 ?_
    try simp only [z]
    refine tk (i:=8) (v:=.pointer (some ⟨b,o+k*5,none⟩)) rfl (.inl ⟨by rfl,fun W' hS'=>by go_simp⟩) hS5 ?_
    try simp only [z]
    refine tk (i:=9) (v:=.agg #[.string (g.ents[k]).name,.string (g.ents[k]).cur,.slice (g.ents[k]).cA (g.ents[k]).cn (g.ents[k]).cc,.slice (g.ents[k]).lA (g.ents[k]).ln (g.ents[k]).lc,.bool (g.ents[k]).joint]) rfl (yieldsIf_load_mid (by rfl) 102 _ rfl b (o+k*5) rfl [.string (g.ents[k]).name,.string (g.ents[k]).cur,.slice (g.ents[k]).cA (g.ents[k]).cn (g.ents[k]).cc,.slice (g.ents[k]).lA (g.ents[k]).ln (g.ents[k]).lc,.bool (g.ents[k]).joint] _ (fun W' hS'=>range_below hx2 hS' hbw4) underlying102 rfl entSize) hS5 ?_
    try simp only [z]
    refine rd9 10 (by kernel_rfl) rfl (fun K hK=>?_)
    go_simp
    refine(entr_any W0' g g.ents[k] (hgr4.at_ hS5) ((hgr4.hea _ (List.getElem_mem hkl)).at_ hS5)).mono ?_
    rintro e W6 ⟨rfl,hB6⟩
    have hS6:Below W4.heap.size W4 W6:=hS5.trans (hB6.mono hS5.size)
    refine hK.out _ _ hS6 (fun _=>?_)
    clear hK K
    try simp only [z]
    by_cases ho:Gr.entity g g.ents[k]=true
    ·skip
     have Hall2:=Z1 (Gr.range_all Hall.out (show Gr.entAt g k=true by have h1:=Hmf.out;rw [Hm.out] at h1;rw [Gr.entAt,Heat.out,h1,ho];rfl))
     rw [ho]
     clear ho hbad
     refine tk (i:=11) (v:=.bool false) rfl (.inl ⟨by rfl,fun W' hS'=>by go_simp⟩) hS6 ?_
     try simp only [z]
     refine tk (i:=12) (v:=.bool false) rfl (.inl ⟨by rfl,fun W' hS'=>by go_simp⟩) hS6 ?_
     try simp only [z]
     refine wpAnyH_done (by kernel_rfl) ?_ _
     have hbr6:=hbr4.trans (hS6.mono hbr4.size)
     clear x204
     go_wp2
     go_roundw
     case rel=>exact⟨k+1,by omega,by go_num,Hall2.out,hbr6⟩
     case measure=>simp [intOf];omega
    ·skip
     have ho':Gr.entity g g.ents[k]=false:=by simpa using ho
     have HV2:=hbad (by rw [Gr.entAt,Heat.out,ho'];rfl)
     rw [ho']
     clear ho ho' hbad
     refine tk (i:=11) (v:=.bool true) rfl (.inl ⟨by rfl,fun W' hS'=>by go_simp⟩) hS6 ?_
     try simp only [z]
     refine tk (i:=12) (v:=.bool true) rfl (.inl ⟨by rfl,fun W' hS'=>by go_simp⟩) hS6 ?_
     try simp only [z]
     refine wpAnyH_done (by kernel_rfl) ?_ _
     clear x204
     go_wp2
     go_ret
     exact⟨by rw [HV2.out];rfl,hbF4.trans (hS6.mono hbF4.size)⟩
   ·have hnk:((m:Int) != (k:Int))=true:=by simp;omega
    have HV2:=hbad (by
     rw [Gr.entAt,Heat.out]
     have:(g.ents.take k).any (fun y=>decide (y.name=g.ents[k].name))=true:=by
      rw [List.any_eq_true];exact⟨g.ents[m],List.mem_take_iff_getElem.2 ⟨m,by omega,rfl⟩,by rw [Hmn.out];simp⟩
     rw [this];simp)
    have Hm:=Z1 hmk2
    clear hmk2 hmk hbad
    refine wp_region_held (S:=Below W4.heap.size W4) (by kernel_rfl) ?_
    change wpAnyH _ _ _ _ _ _ _ _ (World.drew _)
    obtain⟨W0',hWd⟩:∃ W0,W0=W4.drew:=⟨_,rfl⟩
    rw [<- hWd] at hS5 ⊢
    clear hWd
    refine tk (i:=0) (v:=.int .i64 m) rfl (.inl ⟨by rfl,fun W' hS'=>by go_simp⟩) hS5 ?_
    try simp only [z]
    refine tk (i:=1) (v:=.int .i64 k) rfl (.inl ⟨by rfl,fun W' hS'=>by go_simp⟩) hS5 ?_
    try simp only [z]
    refine tk (i:=2) (v:=.bool true) rfl (.inl ⟨by rfl,fun W' hS'=>by go_simp⟩) hS5 ?_
    try simp only [z]
    refine tk (i:=3) (v:=.bool true) rfl (.inl ⟨by rfl,fun W' hS'=>by go_simp⟩) hS5 ?_
    try simp only [z]
    refine tk (i:=4) (v:=undef) rfl (.inr ⟨by rfl,rfl⟩) hS5 ?_
    try simp only [z]
    refine tk (i:=5) (v:=undef) rfl (.inr ⟨by rfl,rfl⟩) hS5 ?_
    try simp only [z]
    refine tk (i:=6) (v:=undef) rfl (.inr ⟨by rfl,rfl⟩) hS5 ?_
    try simp only [z]
    refine tk (i:=7) (v:=undef) rfl (.inr ⟨by rfl,rfl⟩) hS5 ?_
    try simp only [z]
    refine tk (i:=8) (v:=undef) rfl (.inr ⟨by rfl,rfl⟩) hS5 ?_
    try simp only [z]
    refine tk (i:=9) (v:=undef) rfl (.inr ⟨by rfl,rfl⟩) hS5 ?_
    try simp only [z]
    refine tk (i:=10) (v:=undef) rfl (.inr ⟨by rfl,rfl⟩) hS5 ?_
    try simp only [z]
    refine tk (i:=11) (v:=undef) rfl (.inr ⟨by rfl,rfl⟩) hS5 ?_
    try simp only [z]
    refine tk (i:=12) (v:=.bool true) rfl (.inl ⟨by rfl,fun W' hS'=>by go_simp⟩) hS5 ?_
    try simp only [z]
    refine wpAnyH_done (by kernel_rfl) ?_ _
    clear x204
    go_wp2
    go_ret
    exact⟨by rw [HV2.out];rfl,hbF4.trans (hS5.mono hbF4.size)⟩
  ·obtain rfl:k=g.en:=by omega
   have HV2:Hid (Gr.valid g=true):=by show _=_;rw [HV.out,Hel.out];exact Hall.out
   go_wp2
   go_ret
   exact⟨by rw [HV2.out];rfl,hbw⟩
end
end Go.Proofs.YtniaimjknmhapaaGreatDoor
