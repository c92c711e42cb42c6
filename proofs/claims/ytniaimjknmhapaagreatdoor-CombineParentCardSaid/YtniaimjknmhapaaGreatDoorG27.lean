/- My texts LinkAt, LinkF. -/
import Derived.Test.YtniaimjknmhapaaGreatDoorG19
import Derived.Test.YtniaimjknmhapaaGreatDoorG24
set_option linter.unusedVariables false
set_option linter.unusedSimpArgs false
set_option maxRecDepth 100000
set_option maxHeartbeats 16000000
namespace Go.Proofs.YtniaimjknmhapaaGreatDoor
open Go.Proofs.Tryz Go.RowKit
namespace Tr
theorem best_take {l:List Lnk} {k:Nat} {m:Lnk} (hk:k<l.length) (h:best (l.take k)=some m):best (l.take (k+1))=some (if m.since<l[k].since then l[k] else m):=by
 rw [List.take_succ_eq_append_getElem hk]
 cases hl:l.take k with
 | nil=>rw [hl] at h;cases h
 | cons a q =>
  rw [hl] at h
  simp only [best,Option.some.injEq] at h
  simp only [List.cons_append,best,List.foldl_append,List.foldl_cons,List.foldl_nil,h]
end Tr
theorem lnkSize:(prog.info? 150).map (·.size)=some 3:=by kernel_rfl
section
variable (w:World)
theorem latcmp_any (x y:Lnk):Calls prog 177 #[.agg #[.int .i64 x.frm,.int .i64 x.to,.int .i64 x.since],.agg #[.int .i64 y.frm,.int .i64 y.to,.int .i64 y.since]] w fun e w'=>(∃ v,e=.returned (.int .i64 v)/\(0<v ↔ y.since<x.since))/\Below w.heap.size w w':=by
 obtain⟨hB0,_,_,_⟩:=row_new2 w #[.int .i64 x.frm,.int .i64 x.to,.int .i64 x.since] #[.int .i64 y.frm,.int .i64 y.to,.int .i64 y.since] 150 150
 have HB:=Z1 hB0
 clear hB0
 rcases(show x.since<y.since∨(¬ x.since<y.since/\y.since<x.since)∨(¬ x.since<y.since/\¬ y.since<x.since) by omega) with h | ⟨h,h2⟩ | ⟨h,h2⟩
 all_goals
  go_enter func177,ntmps177
  go_wp2
  go_ret
 ·exact⟨⟨-1,rfl,by omega⟩,HB.out⟩
 ·exact⟨⟨1,rfl,by omega⟩,HB.out⟩
 ·exact⟨⟨0,rfl,by omega⟩,HB.out⟩
theorem maxf_any (A:Option Addr) (n c:Nat) (l:List Lnk) (hl:l.length=n) (hn:n<=100000) (h1:1<=n) (h:LnksAt w w.heap.size A l) :
  Calls prog 176 #[.slice A n c,.func (.func 177) #[] #[]] w fun e w'=>(∃ m,Tr.best l=some m/\e=.returned (.agg #[.int .i64 m.frm,.int .i64 m.to,.int .i64 m.since]))/\Below w.heap.size w w':=by
 have h0l:0<l.length:=by omega
 obtain⟨b,o,rfl,hb,hr0⟩:=RowsAt.look h h0l
 obtain⟨x0,hx0⟩:∃ x0,x0=l[0]:=⟨_,rfl⟩
 have H0:Hid (Tr.best (l.take 1)=some x0):=by
  show _=_;rw [hx0];cases l with
  | nil=>simp at h0l
  | cons a q=>rfl
 rw [<- hx0,Nat.zero_mul,Nat.add_zero] at hr0
 obtain⟨W1,hW1,hB0,hb0,hb1,hz⟩:=nw2 w #[.int .i64 0,.int .i64 0,.int .i64 0] #[.int .i64 x0.frm,.int .i64 x0.to,.int .i64 x0.since] 150 150
 have HW:=Z1 hW1
 have Hr0:Hid ((w.alloc (.cells #[.int .i64 0,.int .i64 0,.int .i64 0] 150)).rangeAt b o [.int .i64 x0.frm,.int .i64 x0.to,.int .i64 x0.since]):=Z1 fun j v hv=>(((Below.refl w.heap.size w).alloc (Nat.le_refl _) (.cells #[.int .i64 0,.int .i64 0,.int .i64 0] 150)).cell (p:=⟨b,o+j,none⟩) hb).trans (hr0 j v hv)
 have H:=Z1 h
 have Hl:=Z1 hl
 have Hb0:=Z1 hb0
 have Hb1:=Z1 hb1
 have s1:w.heap.size<W1.heap.size:=by omega
 have s1':w.heap.size+1<W1.heap.size:=by omega
 have hbW:b<W1.heap.size:=by omega
 have hn0:¬ (n:Int)<1:=by omega
 have hn1:(0:Int)<n:=by omega
 clear hx0 hr0 hW1 hz hb0 hb1 h hl
 go_enter func176,ntmps176
 go_upto_region 4 with(refine wpList_load_mid rfl 150 (.tmp 12) rfl b o rfl [.int .i64 x0.frm,.int .i64 x0.to,.int .i64 x0.since] _ Hr0.out underlying150 rfl lnkSize ?_)
 rw [<- HW.out]
 go_wp2
 go_loopw [6] (fun i wr=>∃(k:Nat) (m:Lnk),1<=k/\k<=n/\i=.int .i64 k/\Tr.best (l.take k)=some m/\Below w.heap.size w wr/\wr.heap[w.heap.size]?=some (.cells #[.int .i64 0,.int .i64 0,.int .i64 0] 150 (0,0))/\wr.heap[w.heap.size+1]?=some (.cells #[.int .i64 m.frm,.int .i64 m.to,.int .i64 m.since] 150 (0,0))) (fun i _=>n-(intOf i).toNat)
 case atStart=>exact⟨1,x0,Nat.le_refl _,h1,rfl,H0.out,hB0,Hb0.out,Hb1.out⟩
 case round =>
  obtain⟨k,m,hk1,hk,rfl,hm,hbr,hz0,hz1⟩:=hrel
  have Hm:=Z1 hm
  have Hz0:=Z1 hz0
  have Hz1:=Z1 hz1
  have t0:=some_lt hz0
  have t1:=some_lt hz1
  clear hm hz0 hz1
  by_cases hlt:k<n
  case neg =>
   obtain rfl:k=n:=by omega
   have hm:=Hm.out
   rw [List.take_of_length_le (by have:=Hl.out;omega)] at hm
   have HM:=Z1 hm
   have Ho:Hid ((#[.int .i64 m.frm,.int .i64 m.to,.int .i64 m.since]:Array Value).all (·.oneCell')=true):=by show _=_;simp [Value.oneCell']
   have hR:=setRow_heap wr w.heap.size _ #[.int .i64 m.frm,.int .i64 m.to,.int .i64 m.since] _ _ Hz0.out
   have hload:=Z1 (run_loadVar_row (P:=prog) _ _ _ 150 _ _ _ hR underlying150 rfl lnkSize)
   have hBF:=Z1 (below_setRow hbr (Nat.le_refl _) #[.int .i64 m.frm,.int .i64 m.to,.int .i64 m.since])
   clear hm hR
   go_wp2_with (first | (refine wpList_load_row rfl 150 _ rfl _ rfl _ _ _ _ Hz1.out underlying150 rfl lnkSize ?_) | (refine wpList_store_row rfl 150 (.tmp 4) (.tmp 32) none rfl rfl w.heap.size 150 _ #[.int .i64 m.frm,.int .i64 m.to,.int .i64 m.since] rfl rfl Hz0.out rfl lnkSize Ho.out ?_))
   exact bodyPost_ret (v:=.agg #[.int .i64 m.frm,.int .i64 m.to,.int .i64 m.since]) (by simp [results,results176,asAddr,Act.put,hload.out]) rfl ⟨⟨m,HM.out,rfl⟩,hBF.out⟩
  have hkl:k<l.length:=by have:=Hl.out;omega
  obtain⟨b',o',e,hb',hr⟩:=RowsAt.look (RowsAt.below H.out hbr (Nat.le_refl _)) hkl
  cases e
  obtain⟨x,hx⟩:∃ x,x=l[k]:=⟨_,rfl⟩
  have Hst:=Z1 (Tr.best_take hkl Hm.out)
  rw [<- hx] at hr Hst
  have Hr:=Z1 hr
  have hk0:(0:Int)<=(k:Int):=by omega
  have hkn:(k:Int)<(n:Int):=by omega
  have hbw:b<wr.heap.size:=by omega
  clear hr hx
  go_upto_region 7 with(fail)
  have hS:Below wr.heap.size wr wr.drew:=below_drawn (Below.refl _ _) 1
  refine wp_region_held (S:=Below wr.heap.size wr) (by kernel_rfl) ?_
  change wpAnyH _ _ _ _ _ _ _ _ (World.drew wr)
  obtain⟨W_0,hWd⟩:∃ W0,W0=wr.drew:=⟨_,rfl⟩
  rw [<- hWd] at hS ⊢
  clear hWd
  refine tk (i:=0) (v:=.func (.func 177) #[] #[]) rfl (.inl ⟨by rfl,fun W' hS'=>by go_simp⟩) hS ?_
  try simp only [z]
  refine tk (i:=1) (v:=.slice (some ⟨b,o,none⟩) n c) rfl (.inl ⟨by rfl,fun W' hS'=>by go_simp⟩) hS ?_
  try simp only [z]
  refine tk (i:=2) (v:=.int .i64 k) rfl (.inl ⟨by rfl,fun W' hS'=>by go_simp⟩) hS ?_
  try simp only [z]
  refine tk (i:=3) (v:=.pointer (some ⟨b,o+k*3,none⟩)) rfl (.inl ⟨by rfl,fun W' hS'=>by go_simp⟩) hS ?_
  try simp only [z]
  refine tk (i:=4) (v:=.agg #[.int .i64 x.frm,.int .i64 x.to,.int .i64 x.since]) rfl (yieldsIf_load_mid (by rfl) 150 _ rfl b (o+k*3) rfl [.int .i64 x.frm,.int .i64 x.to,.int .i64 x.since] _ (fun W' hS'=>range_below Hr.out hS' hbw) underlying150 rfl lnkSize) hS ?_
  try simp only [z]
  refine tk (i:=5) (v:=.agg #[.int .i64 m.frm,.int .i64 m.to,.int .i64 m.since]) rfl (yieldsIf_load_mid (by rfl) 150 _ rfl (w.heap.size+1) 0 rfl [.int .i64 m.frm,.int .i64 m.to,.int .i64 m.since] _ (fun W' hS'=>range_of (gbox Hz1.out hS' t1)) underlying150 rfl lnkSize) hS ?_
  try simp only [z]
  refine rd9 6 (by kernel_rfl) rfl (fun K hK=>?_)
  have HC:=Z1 (latcmp_any W_0 x m)
  go_simp
  refine HC.out.mono ?_
  rintro e W2 ⟨⟨v,rfl,hv⟩,hB2⟩
  have hS2:=hS.trans (hB2.mono hS.size)
  refine hK.out _ _ hS2 (fun _=>?_)
  clear hK K
  try simp only [z]
  refine rd9 7 (by kernel_rfl) rfl (fun K hK=>?_)
  go_simp
  refine hK.out _ _ hS2 (fun _=>?_)
  clear hK K
  try simp only [z]
  refine wpAnyH_done (by kernel_rfl) ?_ _
  try simp only [z]
  have hB2w:=hbr.trans (hS2.mono hbr.size)
  have Hz0':=Z1 (gbox Hz0.out hS2 t0)
  have hz1':=gbox Hz1.out hS2 t1
  have t0':=some_lt Hz0'.out
  have t1':=some_lt hz1'
  have Hr2:=Z1 (range_below Hr.out hS2 hbw)
  have hbw2:b<W2.heap.size:=by have:=hS2.size;omega
  by_cases hlt2:m.since<x.since
  ·have hv':0<v:=hv.2 hlt2
   have HN:Hid (Tr.best (l.take (k+1))=some x):=by show _=_;rw [Hst.out,if_pos hlt2]
   have Ho:Hid ((#[.int .i64 x.frm,.int .i64 x.to,.int .i64 x.since]:Array Value).all (·.oneCell')=true):=by show _=_;simp [Value.oneCell']
   have hR:=setRow_heap W2 (w.heap.size+1) _ #[.int .i64 x.frm,.int .i64 x.to,.int .i64 x.since] _ _ hz1'
   have hz0'':=(setRow_other W2 (w.heap.size+1) w.heap.size #[.int .i64 x.frm,.int .i64 x.to,.int .i64 x.since] (by omega)).trans Hz0'.out
   have hBF:=below_setRow hB2w (show w.heap.size<=w.heap.size+1 by omega) #[.int .i64 x.frm,.int .i64 x.to,.int .i64 x.since]
   have Hz1':=Z1 hz1'
   have HR:=Z1 hR
   have HZ:=Z1 hz0''
   have HBF:=Z1 hBF
   clear hv hR hz0'' hBF hz1' hS hS2
   go_wp2_with (first | (refine wpList_load_mid rfl 150 (.tmp 30) rfl b (o+k*3) rfl [.int .i64 x.frm,.int .i64 x.to,.int .i64 x.since] _ Hr2.out underlying150 rfl lnkSize ?_) | (refine wpList_store_row rfl 150 (.tmp 5) (.tmp 31) none rfl rfl (w.heap.size+1) 150 _ #[.int .i64 x.frm,.int .i64 x.to,.int .i64 x.since] rfl rfl Hz1'.out rfl lnkSize Ho.out ?_))
   go_roundw
   case rel=>exact⟨k+1,x,by omega,by omega,by go_num,HN.out,HBF.out,HZ.out,HR.out⟩
   case measure=>simp [intOf];omega
  ·have hv':¬ 0<v:=fun h=>hlt2 (hv.1 h)
   have HN:Hid (Tr.best (l.take (k+1))=some m):=by show _=_;rw [Hst.out,if_neg hlt2]
   have Hz1':=Z1 hz1'
   clear hv hz1' hS
   go_wp2
   go_roundw
   case rel=>exact⟨k+1,m,by omega,by omega,by go_num,HN.out,hB2w,Hz0'.out,Hz1'.out⟩
   case measure=>simp [intOf];omega
end
end Go.Proofs.YtniaimjknmhapaaGreatDoor
namespace Go.Proofs.YtniaimjknmhapaaGreatDoor
open Go.Proofs.Tryz Go.RowKit
theorem filter_take {α:Type} {P:α->Bool} {l:List α} {k:Nat} (hk:k<l.length):(l.take (k+1)).filter P=(l.take k).filter P++(if P l[k]=true then [l[k]] else []):=by
 rw [List.take_succ_eq_append_getElem hk,List.filter_append];simp [List.filter_cons]
section
variable (w:World)
theorem mapat_any (e:Ent) (code day:Int) (he:e.At w w.heap.size) (hd:Gr.date day=true) :
  Calls prog 120 #[.agg #[.string e.name,.string e.cur,.slice e.cA e.cn e.cc,.slice e.lA e.ln e.lc,.bool e.joint],.int .i64 code,.int .i64 day] w (OptPost (Tr.mapAt e code day) w):=by
 obtain⟨W1,hW1,hB0,hb0,hz⟩:=nw1 w #[.string e.name,.string e.cur,.slice e.cA e.cn e.cc,.slice e.lA e.ln e.lc,.bool e.joint] 102
 have HW:=Z1 hW1
 have he1:=Z1 (he.at_ hB0)
 have s1:w.heap.size<W1.heap.size:=by omega
 have hd':decide (-25567<=day/\day<=84005)=true:=hd
 have x2:=cr9 2 hb0
 simp at x2
 have Hb0:=Z1 hb0
 obtain⟨i0,hi,hz0,hz1,hz2⟩:=info_parts lnkInfo
 clear hW1 hz hb0 he hd
 go_enter func120,ntmps120
 go_upto_region 1 with(fail)
 rw [<- HW.out]
 go_wp2_with (fail)
 refine(dvalid_any day W1).mono ?_
 rintro r W1' ⟨rfl,rfl⟩
 rw [hd']
 clear hd'
 go_upto_region 3 with(fail)
 go_wp2_with (fail)
 refine(findd_any W1 e.cA e.cn e.cc e.chart code he1.out.hcl he1.out.hcn he1.out.hc).mono ?_
 rintro r W2 ⟨rfl,hB2⟩
 obtain⟨q,hq⟩:∃ q,q=Ch.found e.chart code:=⟨_,rfl⟩
 rw [<- hq]
 obtain⟨W3,hW3,hBa,hra,hza⟩:=nw1 W2 #[.int .i64 (q).code,.int .i64 (q).kind,.int .i64 (q).basis,.int .i64 (q).parent] 87
 have HW3:=Z1 hW3
 have hB13:Below W1.heap.size W1 W3:=hB2.trans (hBa.mono hB2.size)
 have hB03:=hB0.trans (hB13.mono hB0.size)
 have Hb3:=Z1 (gbox Hb0.out hB13 s1)
 have s3:w.heap.size<W3.heap.size:=some_lt Hb3.out
 have he3:=Z1 (he1.out.at_ hB13)
 clear hW3 hq hra hza hB2 hBa x2 hB13
 go_upto_region 4 with(fail)
 rw [<- HW3.out]
 cases hh:Ch.has e.chart code with
 | false =>
  have HV:Hid (Tr.mapAt e code day=none):=by show _=_;unfold Tr.mapAt;rw [hh];rfl
  clear hh
  go_wp2
  go_ret2
  exact OptPost.none HV.out (by decide) hB03
 | true =>
  have HV:Hid (Tr.mapAt e code day=(Tr.best (Tr.linksOf e code day)).map (·.to)):=by show _=_;unfold Tr.mapAt;rw [hh];rfl
  have x3:=cr9 3 Hb3.out
  simp at x3
  clear hh
  obtain⟨P,hP⟩:∃ P:Lnk->Bool,P=(fun x=>decide (x.frm=code)&&decide (x.since<=day)):=⟨_,rfl⟩
  have hLO:Hid (Tr.linksOf e code day=e.links.filter P):=by show _=_;unfold Tr.linksOf;rw [hP]
  have Hll:=Z1 he3.out.hll
  have hln:=he3.out.hln
  have HP:=Z1 hP
  clear hP
  obtain⟨lA,hlA⟩:∃ lA,lA=e.lA:=⟨_,rfl⟩
  have HlA:=Z1 hlA
  rw [<- hlA] at x3
  clear hlA
  go_wp2
  go_loopw [10,28] (fun v i wr=>∃ k:Nat,k<=e.ln/\i=.int .i64 k/\wr.ownsRow W3.heap.size 150 3 v ((e.links.take k).filter P).length (((e.links.take k).filter P).flatMap Lnk.cells)/\Below w.heap.size w wr/\Below W3.heap.size W3 wr) (fun _ i _=>e.ln-(intOf i).toNat)
  case atStart=>exact⟨0,Nat.zero_le _,rfl,World.ownsRow_nil _ _ _ _,hB03,Below.refl _ _⟩
  case round =>
   obtain⟨k,hk,rfl,hown,hb,hb3⟩:=hrel
   have Hown:=Z1 hown
   have hfl:=List.length_filter_le P (e.links.take k)
   simp only [List.length_take] at hfl
   clear hown x3
   by_cases hlt:k<e.ln
   case neg =>
    obtain rfl:k=e.ln:=by omega
    have hown:=Hown.out
    rw [List.take_of_length_le (by have:=Hll.out;omega),<- hLO.out] at hown
    obtain⟨A',c',rfl,hA⟩:=own_flat (f:=Lnk.cells) (sz:=3) (by decide) (fun _=>rfl) hown rfl
    obtain⟨ls,hls⟩:∃ ls,ls=Tr.linksOf e code day:=⟨_,rfl⟩
    have hlen:ls.length<=100000:=by rw [hls,hLO.out];exact Nat.le_trans (List.length_filter_le _ _) (by have:=Hll.out;omega)
    rw [<- hls] at hA ⊢
    have HV2:Hid (Tr.mapAt e code day=(Tr.best ls).map (·.to)):=by show _=_;rw [HV.out,hls]
    clear hown hls hfl
    by_cases h0:ls.length=0
    ·have HV3:Hid (Tr.mapAt e code day=none):=by show _=_;rw [HV2.out,List.length_eq_zero_iff.1 h0];rfl
     have k0:((ls.length:Int)==0)=true:=by simp [h0]
     clear h0 HV2 hA
     go_wp2
     go_ret2
     exact OptPost.none HV3.out (by decide) hb
    ·have k0:((ls.length:Int)==0)=false:=by simp;intro q;subst q;simp at h0
     have hm:=Z1 (maxf_any wr A' ls.length c' ls rfl hlen (by omega) hA)
     clear h0 hA
     go_wp2_with (fail)
     refine hm.out.mono ?_
     rintro r W5 ⟨⟨m,hm,rfl⟩,hB5⟩
     have HV3:Hid (Tr.mapAt e code day=some m.to):=by show _=_;rw [HV2.out,hm];rfl
     have hBF:=hb.trans (hB5.mono hb.size)
     clear hm
     have hfd:∀ W,(Instr.field 150 (.agg #[.int .i64 m.frm,.int .i64 m.to,.int .i64 m.since]) 1).run prog W=.ok (.int .i64 m.to) W:=fun W=>by kernel_rfl
     go_wp2
     go_ret2
     exact OptPost.some HV3.out hBF
   have hkl:k<e.links.length:=by have:=Hll.out;omega
   obtain⟨bl,ol,hle,hbl,hr⟩:=RowsAt.look (RowsAt.below he3.out.hl hb3 (Nat.le_refl _)) hkl
   rw [<- HlA.out] at hle
   subst hle
   obtain⟨x,hx⟩:∃ x,x=e.links[k]:=⟨_,rfl⟩
   have Hst:=Z1 (filter_take (P:=P) hkl)
   rw [<- hx] at hr Hst
   have Hr:=Z1 hr
   have hbw:bl<wr.heap.size:=by have:=hb3.size;omega
   have hbN:=hb.alloc hb.size (.cells #[.int .i64 x.frm,.int .i64 x.to,.int .i64 x.since] 150)
   have hb3N:=hb3.alloc hb3.size (.cells #[.int .i64 x.frm,.int .i64 x.to,.int .i64 x.since] 150)
   have hownN:=Hown.out.alloc (.cells #[.int .i64 x.frm,.int .i64 x.to,.int .i64 x.since] 150)
   clear hr hx
   by_cases hpx:x.frm=code/\x.since<=day
   case neg =>
    have hst2:=Hst.out
    rw [HP.out] at hst2
    have HS2:Hid ((e.links.take (k+1)).filter P=(e.links.take k).filter P):=by show _=_;rw [Hst.out,if_neg (by rw [HP.out];simp;intro q1;have:=fun q2=>hpx ⟨q1,q2⟩;omega),List.append_nil]
    have HownN:=Z1 hownN
    clear hst2 hownN
    by_cases hq:x.frm=code
    ·have k1:(x.frm==code)=true:=by simp [hq]
     have k2:¬ x.since<=day:=fun h=>hpx ⟨hq,h⟩
     clear hpx hq
     go_wp2_with (refine wpList_load_mid rfl 150 (.tmp 30) rfl bl (ol+k*3) rfl [.int .i64 x.frm,.int .i64 x.to,.int .i64 x.since] _ Hr.out underlying150 rfl lnkSize ?_)
     go_roundw
     case rel=>exact⟨k+1,by omega,by go_num,by rw [HS2.out];exact HownN.out,hbN,hb3N⟩
     case measure=>simp [intOf];omega
    ·have k1:(x.frm==code)=false:=by simp [hq]
     clear hpx hq
     go_wp2_with (refine wpList_load_mid rfl 150 (.tmp 30) rfl bl (ol+k*3) rfl [.int .i64 x.frm,.int .i64 x.to,.int .i64 x.since] _ Hr.out underlying150 rfl lnkSize ?_)
     go_roundw
     case rel=>exact⟨k+1,by omega,by go_num,by rw [HS2.out];exact HownN.out,hbN,hb3N⟩
     case measure=>simp [intOf];omega
   obtain⟨hp1,hp2⟩:=hpx
   have k1:(x.frm==code)=true:=by simp [hp1]
   have HS2:Hid ((e.links.take (k+1)).filter P=(e.links.take k).filter P++[x]):=by show _=_;rw [Hst.out,if_pos (by rw [HP.out];simp [hp1,hp2])]
   obtain⟨Wa,hWa,hBa,hra,hza⟩:=nw1 wr #[.int .i64 x.frm,.int .i64 x.to,.int .i64 x.since] 150
   rw [<- hWa] at hbN hb3N hownN
   have HWa:=Z1 hWa
   have Hra:=Z1 hra
   have sa:wr.heap.size<Wa.heap.size:=some_lt hra
   have hownN2:=hownN.alloc (.cells #[.int .i64 x.frm,.int .i64 x.to,.int .i64 x.since] 150)
   have hnew:=cells_new Wa [.int .i64 x.frm,.int .i64 x.to,.int .i64 x.since] 150
   have hone:∀ u∈([.int .i64 x.frm,.int .i64 x.to,.int .i64 x.since]:List Value),u.oneCell'=true:=by simp [Value.oneCell']
   have h63:((e.links.take k).filter P).length+1<=maxLen:=by unfold maxLen;omega
   have h64:(((e.links.take k).filter P).length+1)*24<=140737488355328:=by omega
   have h65:W3.heap.size<=(Wa.alloc (.cells #[.int .i64 x.frm,.int .i64 x.to,.int .i64 x.since] 150)).heap.size:=by have:=hb3N.size;simp;omega
   have hbN2:=hbN.alloc hbN.size (.cells #[.int .i64 x.frm,.int .i64 x.to,.int .i64 x.since] 150)
   have hb3N2:=hb3N.alloc hb3N.size (.cells #[.int .i64 x.frm,.int .i64 x.to,.int .i64 x.since] 150)
   have y0:=cr9 0 hra
   have y2:=cr9 2 hra
   simp at y0 y2
   clear hWa hra hza hp1
   go_upto_region 10 with(refine wpList_load_mid rfl 150 (.tmp 30) rfl bl (ol+k*3) rfl [.int .i64 x.frm,.int .i64 x.to,.int .i64 x.since] _ Hr.out underlying150 rfl lnkSize ?_)
   rw [<- HWa.out]
   go_wp2_with (first | (refine wpList_load_row rfl 150 _ rfl _ rfl _ _ _ _ Hra.out underlying150 rfl lnkSize ?_) | (at_builtin;refine Hid.out ?_))
   show wpList _ _ _ _ _ _
   refine wpList_append_own _ rfl _ _ 100 rfl W3.heap.size 150 i0 (.agg #[.int .i64 0,.int .i64 0,.int .i64 0]) 3 24 underlying100 hi hz0 hz1 hz2 rfl (by decide) _ _ _ rfl hownN2 ⟨Wa.heap.size,0,none⟩ 1 1 [.int .i64 x.frm,.int .i64 x.to,.int .i64 x.since] rfl rfl hnew hone h63 h64 h65 ?_
   intro v' w1 hown' hgrow _
   have hb1:=hbN2.grown hgrow (Nat.le_trans hB03.size h65) (fun j hj=>Nat.le_trans hB03.size (hownN2.lt j hj).1)
   have hb31:=hb3N2.grown hgrow h65 (fun j hj=>(hownN2.lt j hj).1)
   go_wp2
   go_roundw
   case rel=>exact⟨k+1,by omega,by go_num,by rw [HS2.out,List.length_append,List.flatMap_append];simpa [Lnk.cells] using hown',hb1,hb31⟩
   case measure=>simp [intOf];omega
end
end Go.Proofs.YtniaimjknmhapaaGreatDoor
