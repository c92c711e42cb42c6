/- My texts RefH2, HVal, OfA, OfB, CurW, RefS. -/
import Derived.Test.YtniaimjknmhapaaGreatDoorG02
import Derived.Test.YtniaimjknmhapaaGreatDoorG31
import Derived.Test.YtniaimjknmhapaaGreatDoorG33
import Derived.Test.YtniaimjknmhapaaGreatDoorG35
import Derived.Test.YtniaimjknmhapaaGreatDoorG37
import Derived.Test.YtniaimjknmhapaaGreatDoorG21
set_option linter.unusedVariables false
set_option linter.unusedSimpArgs false
set_option maxRecDepth 100000
set_option maxHeartbeats 16000000
namespace Go.Proofs.YtniaimjknmhapaaGreatDoor
open Go.Proofs.Tryz Go.RowKit
theorem Hd.proper_cases (n:Int) (x:Hld) :
  (decide (x.hdr ≥ 0)=false/\Hd.proper n x=false) ∨
  (decide (x.hdr ≥ 0)=true/\decide (x.hdr<n)=false/\Hd.proper n x=false) ∨
  (decide (x.hdr ≥ 0)=true/\decide (x.hdr<n)=true/\decide (x.ent ≥ 0)=false/\Hd.proper n x=false) ∨
  (decide (x.hdr ≥ 0)=true/\decide (x.hdr<n)=true/\decide (x.ent ≥ 0)=true/\decide (x.ent<n)=false/\Hd.proper n x=false) ∨
  (decide (x.hdr ≥ 0)=true/\decide (x.hdr<n)=true/\decide (x.ent ≥ 0)=true/\decide (x.ent<n)=true/\(x.hdr != x.ent)=false/\Hd.proper n x=false) ∨
  (decide (x.hdr ≥ 0)=true/\decide (x.hdr<n)=true/\decide (x.ent ≥ 0)=true/\decide (x.ent<n)=true/\(x.hdr != x.ent)=true/\decide (-25567<=x.date/\x.date<=84005)=false/\Hd.proper n x=false) ∨
  (decide (x.hdr ≥ 0)=true/\decide (x.hdr<n)=true/\decide (x.ent ≥ 0)=true/\decide (x.ent<n)=true/\(x.hdr != x.ent)=true/\decide (-25567<=x.date/\x.date<=84005)=true/\decide (x.shr ≥ 0)=false/\Hd.proper n x=false) ∨
  (decide (x.hdr ≥ 0)=true/\decide (x.hdr<n)=true/\decide (x.ent ≥ 0)=true/\decide (x.ent<n)=true/\(x.hdr != x.ent)=true/\decide (-25567<=x.date/\x.date<=84005)=true/\decide (x.shr ≥ 0)=true/\Hd.proper n x=decide (x.shr<=10000)):=by
 have hV:Hd.proper n x=(decide (x.hdr ≥ 0)&&decide (x.hdr<n)&&decide (x.ent ≥ 0)&&decide (x.ent<n)&&(x.hdr != x.ent)&&decide (-25567<=x.date/\x.date<=84005)&&decide (x.shr ≥ 0)&&decide (x.shr<=10000)):=by
  unfold Hd.proper Gr.date;rw [Bool.eq_iff_iff];simp;omega
 rw [hV]
 generalize decide (x.hdr ≥ 0)=b1
 generalize decide (x.hdr<n)=b2
 generalize decide (x.ent ≥ 0)=b3
 generalize decide (x.ent<n)=b4
 generalize (x.hdr != x.ent)=b5
 generalize decide (-25567<=x.date/\x.date<=84005)=b6
 generalize decide (x.shr ≥ 0)=b7
 cases b1 <;> cases b2 <;> cases b3 <;> cases b4 <;> cases b5 <;> cases b6 <;> cases b7 <;> simp
section
variable (w:World)
theorem rhproper_any (n:Int) (x:Hld):Calls prog 67 #[.int .i64 n,.agg #[.int .i64 x.hdr,.int .i64 x.ent,.int .i64 x.date,.int .i64 x.shr]] w fun e w'=>e=.returned (.bool (Hd.proper n x))/\Below w.heap.size w w':=by
 obtain⟨W1,hW1,hB0,hb0,hz⟩:=nw1 w #[.int .i64 x.hdr,.int .i64 x.ent,.int .i64 x.date,.int .i64 x.shr] 61
 have HW:=Z1 hW1
 have z0:=cr9 0 hb0
 have z1:=cr9 1 hb0
 have z2:=cr9 2 hb0
 have z3:=cr9 3 hb0
 simp at z0 z1 z2 z3
 have s2:=some_lt hb0
 have Hd1:=Z1 (rvalid_any x.date W1)
 have hcs:=Hd.proper_cases n x
 obtain⟨v,hv⟩:∃ v,v=Hd.proper n x:=⟨_,rfl⟩
 rw [<- hv] at hcs ⊢
 obtain⟨b6,hb6⟩:∃ b6,b6=decide (-25567<=x.date/\x.date<=84005):=⟨_,rfl⟩
 rw [<- hb6] at Hd1 hcs
 clear hW1 hz hb0 hv hb6
 rcases hcs with⟨k1,kv⟩ | ⟨k1,k2,kv⟩ | ⟨k1,k2,k3,kv⟩ | ⟨k1,k2,k3,k4,kv⟩ | ⟨k1,k2,k3,k4,k5,kv⟩ | ⟨k1,k2,k3,k4,k5,k6,kv⟩ | ⟨k1,k2,k3,k4,k5,k6,k7,kv⟩ | ⟨k1,k2,k3,k4,k5,k6,k7,kv⟩
 all_goals
  have HV:=Z1 kv
  clear kv
  try rw [k6] at Hd1
  go_enter func67,ntmps67
  go_upto_region 1 with(fail)
  rw [<- HW.out]
  go_wp2_with (go_at_call 132;refine Hd1.out.mono ?_;rintro e W2 ⟨rfl,rfl⟩)
  go_ret
  exact⟨by first | (rw [HV.out];rfl) | rw [HV.out],hB0⟩
theorem rhsame_any (x y:Hld):Calls prog 68 #[.agg #[.int .i64 x.hdr,.int .i64 x.ent,.int .i64 x.date,.int .i64 x.shr],.agg #[.int .i64 y.hdr,.int .i64 y.ent,.int .i64 y.date,.int .i64 y.shr]] w fun e w'=>e=.returned (.bool (Hd.same x y))/\Below w.heap.size w w':=by
 obtain⟨W1,hW1,hB0,hb0,hb1,hz⟩:=nw2 w #[.int .i64 x.hdr,.int .i64 x.ent,.int .i64 x.date,.int .i64 x.shr] #[.int .i64 y.hdr,.int .i64 y.ent,.int .i64 y.date,.int .i64 y.shr] 61 61
 have HW:=Z1 hW1
 have z0:=cr9 0 hb0
 have z1:=cr9 1 hb0
 have z2:=cr9 2 hb0
 have y0:=cr9 0 hb1
 have y1:=cr9 1 hb1
 have y2:=cr9 2 hb1
 simp at z0 z1 z2 y0 y1 y2
 have s1:=some_lt hb0
 have s2:=some_lt hb1
 have hV:Hd.same x y=((x.hdr==y.hdr)&&(x.ent==y.ent)&&(x.date==y.date)):=by unfold Hd.same;rw [Bool.eq_iff_iff];simp
 obtain⟨v,hv⟩:∃ v,v=Hd.same x y:=⟨_,rfl⟩
 rw [<- hv] at hV ⊢
 have HV:=Z1 hV
 clear hW1 hz hb0 hb1 hv hV
 cases k1:(x.hdr==y.hdr) with
 | false =>
  have HV2:Hid (v=false):=by show _=_;rw [HV.out,k1];rfl
  go_enter func68,ntmps68
  go_upto_region 1 with(fail)
  rw [<- HW.out]
  go_wp2
  go_ret
  exact⟨by rw [HV2.out];rfl,hB0⟩
 | true =>
 cases k2:(x.ent==y.ent) with
 | false =>
  have HV2:Hid (v=false):=by show _=_;rw [HV.out,k1,k2];rfl
  go_enter func68,ntmps68
  go_upto_region 1 with(fail)
  rw [<- HW.out]
  go_wp2
  go_ret
  exact⟨by rw [HV2.out];rfl,hB0⟩
 | true =>
  have HV2:Hid (v=(x.date==y.date)):=by show _=_;rw [HV.out,k1,k2];rfl
  go_enter func68,ntmps68
  go_upto_region 1 with(fail)
  rw [<- HW.out]
  go_wp2
  go_ret
  exact⟨by rw [HV2.out];rfl,hB0⟩
theorem Hd.validR_key {n:Nat} {l:List Hld} {i:Nat} (hi:i<l.length) (h:Hd.keyAt n l i=false):Hd.validR n l=false:=by
 unfold Hd.validR Hd.okAll
 have:(List.range l.length).all (Hd.keyAt n l)=false:=List.all_eq_false.2 ⟨i,List.mem_range.2 hi,by simp [h]⟩
 rw [this];simp
theorem Hd.validR_low {n:Nat} {l:List Hld} {i:Nat} (hi:i<l.length) (h:Hd.lowAt l i=false):Hd.validR n l=false:=by
 unfold Hd.validR
 have:(List.range l.length).all (Hd.lowAt l)=false:=List.all_eq_false.2 ⟨i,List.mem_range.2 hi,by simp [h]⟩
 rw [this];simp
theorem Hd.okAll_shr {n:Nat} {l:List Hld} (h:Hd.okAll n l=true):∀ x∈l,0<=x.shr/\x.shr<=10000:=by
 intro x hx
 obtain⟨i,hi,rfl⟩:=List.getElem_of_mem hx
 unfold Hd.okAll at h
 rw [List.all_eq_true] at h
 have h1:=h i (List.mem_range.2 hi)
 unfold Hd.keyAt at h1
 rw [Hd.hat_lt hi] at h1
 simp only [Bool.and_eq_true] at h1
 exact Hd.proper_shr h1.1
theorem Hd.range_all_succ {f:Nat->Bool} {k:Nat} (h:(List.range k).all f=true) (hk:f k=true):(List.range (k+1)).all f=true:=by
 rw [List.range_succ,List.all_append,h];simp [hk]
theorem rhvalid_any (m:Nat) (A:Option Addr) (n c:Nat) (l:List Hld) (hm:m<=100000) (hl:l.length=n) (hn:n<=200) (hA:RowsAt Hld.cells 4 w w.heap.size A l) :
  Calls prog 30 #[.int .i64 m,.slice A n c] w fun e w'=>e=.returned (.bool (Hd.valid m l))/\Below w.heap.size w w':=by
 rw [Hd.valid_eq]
 have HA:=Z1 hA
 have Hl:=Z1 hl
 obtain⟨v,hv⟩:∃ v,v=Hd.validR m l:=⟨_,rfl⟩
 rw [<- hv]
 have HV:=Z1 hv
 clear hA hl hv
 have n9:¬ (n:Int) > 200:=by omega
 by_cases h1:1<=m
 case neg =>
  have k1:(m:Int)<1:=by omega
  have HV2:Hid (v=false):=by show _=_;rw [HV.out];unfold Hd.validR;rw [decide_eq_false (by omega)];simp
  go_enter func30,ntmps30
  go_wp2
  go_ret
  exact⟨by rw [HV2.out];rfl,Below.refl _ _⟩
 have k1:¬ (m:Int)<1:=by omega
 by_cases h2:m<=12
 case neg =>
  have k2:(m:Int) > 12:=by omega
  have HV2:Hid (v=false):=by show _=_;rw [HV.out];unfold Hd.validR;rw [decide_eq_false (by omega)];simp
  go_enter func30,ntmps30
  go_wp2
  go_ret
  exact⟨by rw [HV2.out];rfl,Below.refl _ _⟩
 have k2:¬ (m:Int) > 12:=by omega
 have HV3:Hid (v=(Hd.okAll m l&&(List.range l.length).all (Hd.lowAt l))):=by
  show _=_;rw [HV.out];unfold Hd.validR;rw [decide_eq_true (by omega),decide_eq_true (by have:=Hl.out;omega)];simp
 go_enter func30,ntmps30
 go_wp2
 go_loopw [5] (fun i wr=>∃ q:Nat,q<=n/\i=.int .i64 q/\Hid ((List.range q).all (Hd.keyAt m l)=true)/\Below w.heap.size w wr) (fun i _=>n-(intOf i).toNat)
 case atStart=>exact⟨0,Nat.zero_le _,rfl,Z1 rfl,Below.refl _ _⟩
 case round =>
  obtain⟨q,hq,rfl,HK,hb⟩:=hrel
  have hsz:=hb.size
  have hAr:=Z1 (RowsAt.below HA.out hb (Nat.le_refl _))
  by_cases hlt:q<n
  case neg =>
   obtain rfl:q=n:=by omega
   have hok:Hd.okAll m l=true:=by unfold Hd.okAll;rw [Hl.out];exact HK.out
   have HSh:=Z1 (Hd.okAll_shr hok)
   have HV4:Hid (v=(List.range l.length).all (Hd.lowAt l)):=by show _=_;rw [HV3.out,hok];rfl
   clear hok
   go_wp2
   go_loopw [7] (fun i wr=>∃ q2:Nat,q2<=q/\i=.int .i64 q2/\Hid ((List.range q2).all (Hd.lowAt l)=true)/\Below w.heap.size w wr) (fun i _=>q-(intOf i).toNat)
   case atStart=>exact⟨0,Nat.zero_le _,rfl,Z1 rfl,hb⟩
   case round =>
    obtain⟨q2,hq2,rfl,HL,hb2⟩:=hrel
    by_cases hlt2:q2<q
    case neg =>
     obtain rfl:q2=q:=by omega
     have HV5:Hid (v=true):=by show _=_;rw [HV4.out,Hl.out];exact HL.out
     go_wp2
     go_ret
     exact⟨by rw [HV5.out];rfl,hb2⟩
    have hql:q2<l.length:=by have:=Hl.out;omega
    have hA2:=Z1 (RowsAt.below HA.out hb2 (Nat.le_refl _))
    obtain⟨bb,o,hAe,hbB,c0,c1,c2,c3⟩:=HldsAt.four hA2.out hql
    have hhat:=Hd.hat_lt hql
    obtain⟨x,hx⟩:∃ x,x=l[q2]:=⟨_,rfl⟩
    rw [<- hx] at c1 c2 hhat
    have hlow:Hd.lowAt l q2=decide (Hd.totalR l x.ent x.date q<=10000):=by unfold Hd.lowAt;rw [hhat,Hl.out]
    have Hlow:=Z1 hlow
    have Ht:=Z1 (fun(W:World) (hW:RowsAt Hld.cells 4 W W.heap.size A l)=>rtotal_any W A q c l x.ent x.date Hl.out (by omega) HSh.out hW)
    have HA2:Hid (RowsAt Hld.cells 4 wr wr.heap.size A l):=Z1 (RowsAt.more hA2.out hb2.size)
    have Hbad:=Z1 (Hd.validR_low (n:=m) hql)
    obtain⟨t,ht⟩:∃ t,t=Hd.totalR l x.ent x.date q:=⟨_,rfl⟩
    rw [<- ht] at Hlow Ht
    have hbw:bb<wr.heap.size:=Nat.lt_of_lt_of_le hbB hb2.size
    clear hx hhat hlow ht c0 c3
    subst hAe
    by_cases ht:t<=10000
    ·have q9:¬ t > 10000:=by omega
     have HL2:Hid ((List.range (q2+1)).all (Hd.lowAt l)=true):=Z1 (Hd.range_all_succ HL.out (by rw [Hlow.out];simpa using ht))
     clear ht
     go_wp2
     go_still_tail 11,(by kernel_rfl)
     go_wp2_with (fail)
     refine(Ht.out _ (RowsAt.at_ HA2.out (below_drawn (Below.refl _ _) 1))).mono ?_
     rintro e W2 ⟨rfl,hB2⟩
     go_wp2
     go_roundw
     case rel=>exact⟨q2+1,by omega,by go_num,HL2,hb2.drew.trans (hB2.mono hb2.size)⟩
     case measure=>simp [intOf];omega
    ·have q9:t > 10000:=by omega
     have HV5:Hid (v=false):=by show _=_;rw [HV.out];exact Hbad.out (by rw [Hlow.out];simpa using ht)
     clear ht
     go_wp2
     go_still_tail 11,(by kernel_rfl)
     go_wp2_with (fail)
     refine(Ht.out _ (RowsAt.at_ HA2.out (below_drawn (Below.refl _ _) 1))).mono ?_
     rintro e W2 ⟨rfl,hB2⟩
     go_wp2
     go_ret
     exact⟨by rw [HV5.out];rfl,hb2.drew.trans (hB2.mono hb2.size)⟩
  have hql:q<l.length:=by have:=Hl.out;omega
  obtain⟨bb,o,hAe,hbB,hr⟩:=RowsAt.look hAr.out hql
  obtain⟨x,hx⟩:∃ x,x=l[q]:=⟨_,rfl⟩
  rw [<- hx] at hr
  have Hx:=Z1 hx
  have hkey:Hd.keyAt m l q=(Hd.proper m x&&!(l.take q).any (fun r=>Hd.same r x)):=by unfold Hd.keyAt;rw [Hd.hat_lt hql,<- hx]
  have Hkey:=Z1 hkey
  have Hbad:Hid (Hd.keyAt m l q=false->v=false):=Z1 (fun h=>by rw [HV.out];exact Hd.validR_key hql h)
  have Hr:=Z1 hr
  have hbw:bb<wr.heap.size:=Nat.lt_of_lt_of_le hbB hsz
  have Hpr:=Z1 (rhproper_any wr m x)
  obtain⟨pr,hpr⟩:∃ pr,pr=Hd.proper m x:=⟨_,rfl⟩
  rw [<- hpr] at Hkey Hpr
  have HAe:=Z1 hAe
  clear hr hx hkey hpr
  rw [hAe]
  clear hAe
  cases pr with
  | false =>
   have HV5:Hid (v=false):=by show _=_;exact Hbad.out (by rw [Hkey.out];rfl)
   go_wp2_with (refine wpList_load_want (by rfl) 61 (.tmp 28) rfl bb (o+q*4) rfl [.int .i64 x.hdr,.int .i64 x.ent,.int .i64 x.date,.int .i64 x.shr] _ Hr.out underlying61 rfl hldSize ?_)
   refine Hpr.out.mono ?_
   rintro e W2 ⟨rfl,hB2⟩
   go_wp2
   go_ret
   exact⟨by rw [HV5.out];rfl,hb.trans (hB2.mono hsz)⟩
  | true =>
  go_wp2_with (refine wpList_load_want (by rfl) 61 (.tmp 28) rfl bb (o+q*4) rfl [.int .i64 x.hdr,.int .i64 x.ent,.int .i64 x.date,.int .i64 x.shr] _ Hr.out underlying61 rfl hldSize ?_)
  refine Hpr.out.mono ?_
  rintro e W2 ⟨rfl,hB2⟩
  have hb2:=hb.trans (hB2.mono hsz)
  clear Hr hAr
  go_wp2
  go_loopw [6] (fun k ws=>∃ u:Nat,u<=q/\k=.int .i64 u/\Hid ((l.take u).any (fun r=>Hd.same r x)=false)/\Below w.heap.size w ws) (fun k _=>q-(intOf k).toNat)
  case atStart=>exact⟨0,Nat.zero_le _,rfl,Z1 rfl,hb2⟩
  case round =>
   obtain⟨ws,rfl⟩:∃ ws,ws=wr:=⟨_,rfl⟩
   obtain⟨u,hu,rfl,HU,hbs⟩:=hrel
   have hss:=hbs.size
   by_cases hlt2:u<q
   case neg =>
    obtain rfl:u=q:=by omega
    have HK2:Hid ((List.range (u+1)).all (Hd.keyAt m l)=true):=Z1 (Hd.range_all_succ HK.out (by rw [Hkey.out,HU.out];rfl))
    go_wp2
    go_roundw
    case rel=>exact⟨u+1,by omega,by go_num,HK2,hbs⟩
    case measure=>simp [intOf];omega
   have hul:u<l.length:=by omega
   have hAs:=Z1 (RowsAt.below HA.out hbs (Nat.le_refl _))
   obtain⟨b1,o1,he1,hb1,c0,c1,c2,c3⟩:=HldsAt.four hAs.out hul
   obtain⟨b2,o2,he2,hb2',d0,d1,d2,d3⟩:=HldsAt.four hAs.out hql
   rw [HAe.out] at he1 he2
   cases he1
   cases he2
   obtain⟨y,hy⟩:∃ y,y=l[u]:=⟨_,rfl⟩
   rw [<- Hx.out] at d0 d1 d2 d3
   rw [<- hy] at c0 c1 c2 c3
   have hun:(u:Int)<(n:Int):=by omega
   have hqn:(q:Int)<(n:Int):=by omega
   have hbw2:bb<ws.heap.size:=Nat.lt_of_lt_of_le hbB hss
   have HUn:Hid ((l.take (u+1)).any (fun r=>Hd.same r x)=Hd.same y x):=by show _=_;rw [List.take_succ_eq_append_getElem hul,List.any_append,HU.out,<- hy];simp
   have HBd:Hid (Hd.same y x=true->v=false):=Z1 (fun h=>Hbad.out (by
    have:(l.take q).any (fun r=>Hd.same r x)=true:=List.any_eq_true.2 ⟨y,by rw [hy];exact List.mem_take_iff_getElem.2 ⟨u,by omega,rfl⟩,h⟩
    rw [Hkey.out,this];rfl))
   have Hsm:=Z1 (fun W=>rhsame_any W y x)
   obtain⟨sm,hsm⟩:∃ sm,sm=Hd.same y x:=⟨_,rfl⟩
   rw [<- hsm] at HUn HBd Hsm
   clear hy hsm
   go_wp2
   go_still_tail 8,(by kernel_rfl)
   cases sm with
   | true =>
    have HV5:=Z1 (HBd.out rfl)
    go_wp2_with (fail)
    refine(Hsm.out _).mono ?_
    rintro e W3 ⟨rfl,hB3⟩
    go_wp2
    go_ret
    exact⟨by rw [HV5.out];rfl,hbs.drew.trans (hB3.mono hss)⟩
   | false =>
    go_wp2_with (fail)
    refine(Hsm.out _).mono ?_
    rintro e W3 ⟨rfl,hB3⟩
    go_wp2
    go_roundw
    case rel=>exact⟨u+1,by omega,by go_num,HUn,hbs.drew.trans (hB3.mono hss)⟩
    case measure=>simp [intOf];omega
end
end Go.Proofs.YtniaimjknmhapaaGreatDoor
namespace Go.Proofs.YtniaimjknmhapaaGreatDoor
open Go.Proofs.Tryz Go.RowKit
theorem hldLaw:Maps.Keyed prog 61:=Maps.Keyed.of_law (deep_law_laid laidOut (m:=2) (by omega) (of_decide_eq_true (by kernel_rfl)) (by kernel_rfl) (by kernel_rfl))
theorem hldKey (a b c d:Int) (ha:(Lit.int .i64 a).wf=true) (hb:(Lit.int .i64 b).wf=true) (hc:(Lit.int .i64 c).wf=true) (hd:(Lit.int .i64 d).wf=true):∃ kl,keyOf prog 61 (.agg #[.int .i64 a,.int .i64 b,.int .i64 c,.int .i64 d])=some kl:=by
 unfold keyOf
 rw [underlying61]
 have h1:prog.keyType 61=true:=by kernel_rfl
 have c3:prog.cellsOf 61=4:=by kernel_rfl
 have h2:(Value.agg #[.int .i64 a,.int .i64 b,.int .i64 c,.int .i64 d]).formed prog 61=true:=by
  simp [Value.formed,underlying61,c3]
 simp only [h1,h2,Bool.and_self,if_true]
 have h3:∃ n,prog.types.size=n+1:=⟨prog.types.size-1,by have:0<prog.types.size:=of_decide_eq_true (by kernel_rfl);omega⟩
 obtain⟨n,hn⟩:=h3
 rw [hn]
 have c1:prog.cellsOf 3=1:=by kernel_rfl
 simp [Program.keyLits,underlying61,underlying3,Value.cells,c1,c3,ha,hb,hc,hd]
def SeenH (w:World) (b:Nat) (l:List Hld) (k:Nat):Prop :=
 ∃ f,MapAt w prog 61 b k f/\∀ y:Hld,f (.agg #[.int .i64 y.hdr,.int .i64 y.ent,.int .i64 y.date,.int .i64 0])=if (l.take k).any (fun r=>Hd.same r y)=true then some (.bool true) else none
theorem SeenH.lt {w:World} {b k:Nat} {l:List Hld} (h:SeenH w b l k):b<w.heap.size:=by obtain⟨f,h,_⟩:=h;exact h.lt
theorem SeenH.below {w w':World} {b B k:Nat} {l:List Hld} (h:SeenH w b l k) (hb:Below B w w') (hB:b<B):SeenH w' b l k:=by obtain⟨f,h,r⟩:=h;exact⟨f,h.below hb hB,r⟩
theorem SeenH.made (w:World) (l:List Hld):SeenH (w.alloc (.map #[] 0)) w.heap.size l 0:=⟨_,MapAt.made w _ _,fun y=>by simp⟩
theorem SeenH.look {w:World} {b k:Nat} {l:List Hld} (h:SeenH w b l k) (y:Hld) (hx:(Lit.int .i64 y.hdr).wf=true) (hy:(Lit.int .i64 y.ent).wf=true) (hz:(Lit.int .i64 y.date).wf=true) :
  (Instr.lookup 178 (.map (some b)) (.agg #[.int .i64 y.hdr,.int .i64 y.ent,.int .i64 y.date,.int .i64 0]) false).run prog w=.ok (.bool ((l.take k).any (fun r=>Hd.same r y))) w:=by
 obtain⟨f,hm,hf⟩:=h
 obtain⟨kl,hk⟩:=hldKey y.hdr y.ent y.date 0 hx hy hz rfl
 have hzz:(zeroValue 4).run prog w=.ok (.bool false) w:=by kernel_rfl
 rw [hm.lookup hldLaw underlying178 hzz hk,hf]
 cases (l.take k).any (fun r=>Hd.same r y) <;> rfl
open Classical in
theorem seenH_step {l:List Hld} {k:Nat} (hk:k<l.length) (f:Value->Option Value) (hf:∀ y:Hld,f (.agg #[.int .i64 y.hdr,.int .i64 y.ent,.int .i64 y.date,.int .i64 0])=if (l.take k).any (fun r=>Hd.same r y)=true then some (.bool true) else none) (x:Hld) (hx:x=l[k]) :
  ∀ y:Hld,(fun v=>if v=.agg #[.int .i64 x.hdr,.int .i64 x.ent,.int .i64 x.date,.int .i64 0] then some (Value.bool true) else f v) (.agg #[.int .i64 y.hdr,.int .i64 y.ent,.int .i64 y.date,.int .i64 0])=if (l.take (k+1)).any (fun r=>Hd.same r y)=true then some (.bool true) else none:=by
 intro y
 show(if _ then _ else f _)=_
 rw [List.take_succ_eq_append_getElem hk,List.any_append,<- hx]
 by_cases h:x.hdr=y.hdr/\x.ent=y.ent/\x.date=y.date
 ·obtain⟨h1,h2,h3⟩:=h
  have hs:Hd.same x y=true:=by unfold Hd.same;simp [h1,h2,h3]
  rw [if_pos (by rw [h1,h2,h3]),if_pos (by simp [hs])]
 ·rw [if_neg (by
   intro e
   simp only [Value.agg.injEq,Array.mk.injEq,List.cons.injEq,Value.int.injEq,true_and,and_true] at e
   exact h ⟨e.1.symm,e.2.1.symm,e.2.2.symm⟩),hf]
  have h':Hd.same x y=false:=by
   cases hs:Hd.same x y with
   | false=>rfl
   | true=>exfalso;apply h;unfold Hd.same at hs;simp at hs;exact⟨hs.1.1,hs.1.2,hs.2⟩
  simp [h']
theorem Hd.valid_key {n:Nat} {l:List Hld} {i:Nat} (hi:i<l.length) (h:Hd.keyAt n l i=false):Hd.valid n l=false:=by
 rw [Hd.valid_eq];exact Hd.validR_key hi h
theorem Hd.keyAt_eq {n:Nat} {l:List Hld} {i:Nat} (hi:i<l.length) (x:Hld) (hx:x=l[i]):Hd.keyAt n l i=(Hd.proper n x&&!(l.take i).any (fun r=>Hd.same r x)):=by
 unfold Hd.keyAt;rw [Hd.hat_lt hi,<- hx]
section
variable (w:World)
theorem hvalid_any (m:Nat) (A:Option Addr) (n c:Nat) (l:List Hld) (hm:m<=100000) (hl:l.length=n) (hn:n<=200) (hw:∀ x∈l,x.wf) (hA:RowsAt Hld.cells 4 w w.heap.size A l) :
  Calls prog 49 #[.int .i64 m,.slice A n c] w fun e w'=>e=.returned (.bool (Hd.valid m l))/\Below w.heap.size w w':=by
 have HA:=Z1 hA
 have Hl:=Z1 hl
 have HWf:=Z1 hw
 have HM0:=Z1 (SeenH.made w l)
 have HB0:=Z1 ((Below.refl w.heap.size w).alloc (Nat.le_refl _) (.map #[] 0))
 have hmm:=@run_makeMap prog
 obtain⟨v,hv⟩:∃ v,v=Hd.valid m l:=⟨_,rfl⟩
 rw [<- hv]
 have HV:=Z1 hv
 clear hA hl hv hw
 have n9:¬ (n:Int) > 200:=by omega
 by_cases h1:1<=m
 case neg =>
  have k1:(m:Int)<1:=by omega
  have HV2:Hid (v=false):=by show _=_;rw [HV.out];unfold Hd.valid;rw [decide_eq_false (by omega)];simp
  go_enter func49,ntmps49
  go_wp2
  go_ret
  exact⟨by rw [HV2.out];rfl,Below.refl _ _⟩
 have k1:¬ (m:Int)<1:=by omega
 by_cases h2:m<=12
 case neg =>
  have k2:(m:Int) > 12:=by omega
  have HV2:Hid (v=false):=by show _=_;rw [HV.out];unfold Hd.valid;rw [decide_eq_false (by omega)];simp
  go_enter func49,ntmps49
  go_wp2
  go_ret
  exact⟨by rw [HV2.out];rfl,Below.refl _ _⟩
 have k2:¬ (m:Int) > 12:=by omega
 have HV3:Hid (v=((List.range l.length).all (Hd.keyAt m l)&&(Hd.dates l).all (Hd.most l m))):=by
  show _=_;rw [HV.out];unfold Hd.valid;rw [decide_eq_true (by omega),decide_eq_true (by have:=Hl.out;omega)];simp
 go_enter func49,ntmps49
 go_wp2
 go_loopw [26] (fun i wr=>∃ k:Nat,k<=n/\i=.int .i64 k/\Hid ((List.range k).all (Hd.keyAt m l)=true)/\SeenH wr w.heap.size l k/\Below w.heap.size w wr) (fun i _=>n-(intOf i).toNat)
 case atStart=>exact⟨0,Nat.zero_le _,rfl,Z1 rfl,HM0.out,HB0.out⟩
 case round =>
  obtain⟨k,hk,rfl,HK,hm0,hb⟩:=hrel
  have Hm:=Z1 hm0
  have hgr:=hm0.lt
  have hq:=hb.size
  clear hm0 hmm
  by_cases hlt:k<n
  case neg =>
   obtain rfl:k=n:=by omega
   have hok:Hd.okAll m l=true:=by unfold Hd.okAll;rw [Hl.out];exact HK.out
   have HSh:=Z1 (Hd.okAll_shr hok)
   have HV4:Hid (v=(Hd.dates l).all (Hd.most l m)):=by
    show _=_;rw [HV3.out];unfold Hd.okAll at hok;rw [hok];rfl
   have HAr:=Z1 (RowsAt.more (RowsAt.below HA.out hb (Nat.le_refl _)) hq)
   have Hdt:=Z1 (dates_any wr A k c l Hl.out (by omega) (fun x hx=>(HWf.out x hx).2.2.1) HAr.out)
   have hdn:(Hd.dates l).length<=200:=by
    unfold Hd.dates;rw [List.length_mergeSort]
    have:=Hd.keys_len (l.map (·.date));rw [List.length_map,Hl.out] at this;omega
   obtain⟨ds,hds⟩:∃ ds,ds=Hd.dates l:=⟨_,rfl⟩
   rw [<- hds] at HV4 Hdt hdn
   clear hok hds HM0 HB0 Hm
   go_wp2_with (fail)
   refine Hdt.out.mono ?_
   rintro e W2 ⟨hB2,A2,c2,_,rfl,hA2⟩
   have HA2:=Z1 hA2
   have hb2:=hb.trans (hB2.mono hq)
   have hq2:=hb2.size
   clear hA2
   go_wp2
   go_loopw [47] (fun i ws=>∃ q:Nat,q<=ds.length/\i=.int .i64 q/\Hid ((ds.take q).all (Hd.most l m)=true)/\Below W2.heap.size W2 ws) (fun i _=>ds.length-(intOf i).toNat)
   case atStart=>exact⟨0,Nat.zero_le _,rfl,Z1 rfl,Below.refl _ _⟩
   case round =>
    obtain⟨ws,rfl⟩:∃ ws,ws=wr:=⟨_,rfl⟩
    obtain⟨q,hq3,rfl,HQ,hbs⟩:=hrel
    have hbF:=hb2.trans (hbs.mono hq2)
    have hsz:=hbs.size
    by_cases hlt2:q<ds.length
    case neg =>
     obtain rfl:q=ds.length:=by omega
     have HV5:Hid (v=true):=by show _=_;rw [HV4.out];have:=HQ.out;rw [List.take_length] at this;exact this
     go_wp2
     go_ret
     exact⟨by rw [HV5.out];rfl,hbF⟩
    obtain⟨bb,o,rfl,hbB,hr⟩:=RowsAt.look (RowsAt.below HA2.out hbs (Nat.le_refl _)) hlt2
    obtain⟨d,hd⟩:∃ d,d=ds[q]:=⟨_,rfl⟩
    have d0:=hr 0 _ rfl
    rw [<- hd] at d0
    simp at d0
    have hbw:bb<ws.heap.size:=by omega
    have Hst:Hid ((ds.take (q+1)).all (Hd.most l m)=Hd.most l m d):=by show _=_;rw [List.take_succ_eq_append_getElem hlt2,List.all_append,HQ.out,<- hd];simp
    have Hbd:Hid (Hd.most l m d=false->v=false):=Z1 (fun h=>by rw [HV4.out,List.all_eq_false];exact⟨d,by rw [hd];exact List.getElem_mem hlt2,by simp [h]⟩)
    clear hr hd
    go_wp2
    go_loopw [52] (fun j wt=>∃ u:Nat,u<=m/\j=.int .i64 u/\Hid ((List.range u).all (fun(e:Nat)=>decide (Hd.total l e d<=10000))=true)/\Below ws.heap.size ws wt) (fun j _=>m-(intOf j).toNat)
    case atStart=>exact⟨0,Nat.zero_le _,rfl,Z1 rfl,Below.refl _ _⟩
    case round =>
     obtain⟨wt,rfl⟩:∃ wt,wt=wr:=⟨_,rfl⟩
     obtain⟨u,hu,rfl,HU,hbt⟩:=hrel
     have hbT:=hbs.trans (hbt.mono hsz)
     have hbG:=hbF.trans (hbt.mono hbF.size)
     by_cases hlt3:u<m
     case neg =>
      obtain rfl:u=m:=by omega
      have HQ2:Hid ((ds.take (q+1)).all (Hd.most l u)=true):=by show _=_;rw [Hst.out];exact HU.out
      go_wp2
      go_roundw
      case rel=>exact⟨q+1,by omega,by go_num,HQ2,hbT⟩
      case measure=>simp [intOf];omega
     have HAt:=Z1 (RowsAt.more (RowsAt.below HA.out hbG (Nat.le_refl _)) hbG.size)
     have Ht:=Z1 (total_any wt A k c l u d Hl.out (by omega) (fun x hx=>(HWf.out x hx).1) HSh.out HAt.out)
     have HU2:Hid (Hd.total l u d<=10000->(List.range (u+1)).all (fun(e:Nat)=>decide (Hd.total l e d<=10000))=true):=Z1 (fun h=>Hd.range_all_succ HU.out (by simpa using h))
     have HU3:Hid (¬ Hd.total l u d<=10000->v=false):=Z1 (fun h=>Hbd.out (by unfold Hd.most;rw [List.all_eq_false];exact⟨u,List.mem_range.2 hlt3,by simpa using h⟩))
     obtain⟨t,ht⟩:∃ t,t=Hd.total l u d:=⟨_,rfl⟩
     rw [<- ht] at Ht HU2 HU3
     have hq4:=hbG.size
     clear ht
     by_cases ht:t<=10000
     ·have q9:¬ t > 10000:=by omega
      have HU4:=Z1 (HU2.out ht)
      clear ht
      go_wp2_with (fail)
      refine Ht.out.mono ?_
      rintro e W5 ⟨rfl,hB5⟩
      go_wp2
      go_roundw
      case rel=>exact⟨u+1,by omega,by go_num,HU4,hbt.trans (hB5.mono hbt.size)⟩
      case measure=>simp [intOf];omega
     ·have q9:t > 10000:=by omega
      have HV5:=Z1 (HU3.out ht)
      clear ht
      go_wp2_with (fail)
      refine Ht.out.mono ?_
      rintro e W5 ⟨rfl,hB5⟩
      go_wp2
      go_ret
      exact⟨by rw [HV5.out];rfl,hbG.trans (hB5.mono hq4)⟩
  have hkl:k<l.length:=by have:=Hl.out;omega
  obtain⟨b,o,rfl,hbB,hr⟩:=RowsAt.look (RowsAt.below HA.out hb (Nat.le_refl _)) hkl
  obtain⟨x,hx⟩:∃ x,x=l[k]:=⟨_,rfl⟩
  rw [<- hx] at hr
  have hwx:=HWf.out x (by rw [hx];exact List.getElem_mem _)
  have hbw:b<wr.heap.size:=by omega
  have Hr:=Z1 hr
  have Hkey:=Z1 (Hd.keyAt_eq (n:=m) hkl x hx)
  have Hbad:=Z1 (Hd.valid_key (n:=m) hkl)
  have Hstep:=Z1 (fun f hf=>seenH_step hkl f hf x hx)
  obtain⟨Wa,hWa,hBs,hrs,hrk,hza⟩:=nw2 wr #[.int .i64 x.hdr,.int .i64 x.ent,.int .i64 x.date,.int .i64 x.shr] #[.int .i64 x.hdr,.int .i64 x.ent,.int .i64 x.date,.int .i64 0] 61 61
  have HWa:=Z1 hWa
  have hbA:=hb.trans (hBs.mono hq)
  have hsA:=hbA.size
  have t1:wr.heap.size<Wa.heap.size:=some_lt hrs
  have t2:wr.heap.size+1<Wa.heap.size:=some_lt hrk
  have HmA:=Z1 (Hm.out.below hBs hgr)
  have Hpr:=Z1 (proper_any Wa m x)
  have Hrs:=Z1 hrs
  have Hrk:=Z1 hrk
  clear hr hx hWa hza hrs hrk HM0 HB0
  go_upto_region 9 with(refine wpList_load_mid rfl 61 (.tmp 28) rfl b (o+k*4) rfl [.int .i64 x.hdr,.int .i64 x.ent,.int .i64 x.date,.int .i64 x.shr] _ Hr.out underlying61 rfl hldSize ?_)
  rw [<- HWa.out]
  have hload:=Hrs.out
  go_wp2_with (refine wpList_load_row rfl 61 _ rfl _ rfl _ _ _ _ hload underlying61 rfl hldSize ?_)
  refine Hpr.out.mono ?_
  rintro e W3 ⟨rfl,hB3⟩
  have hb3:=hbA.trans (hB3.mono hsA)
  have hk3:=gbox Hrk.out hB3 t2
  have hm3:=HmA.out.below hB3 (by omega)
  have hlk:=hm3.look x hwx.1 hwx.2.1 hwx.2.2.1
  have Hm3:=Z1 hm3
  have t3:=some_lt hk3
  have hq3:=hb3.size
  have hk3r:W3.rangeAt (wr.heap.size+1) 0 [.int .i64 x.hdr,.int .i64 x.ent,.int .i64 x.date,.int .i64 0]:=range_of hk3
  clear hload hm3
  obtain⟨pr,hpr⟩:∃ pr,pr=Hd.proper m x:=⟨_,rfl⟩
  obtain⟨sm,hsm⟩:∃ sm,sm=(l.take k).any (fun r=>Hd.same r x):=⟨_,rfl⟩
  rw [<- hpr,<- hsm] at Hkey
  rw [<- hsm] at hlk
  rw [<- hpr]
  clear hpr hsm
  have Hlk:=Z1 hlk
  cases pr with
  | false =>
   have HV5:Hid (v=false):=by show _=_;rw [HV.out];exact Hbad.out (by rw [Hkey.out];rfl)
   clear hlk hk3
   go_wp2
   go_ret
   exact⟨by rw [HV5.out];rfl,hb3⟩
  | true =>
  cases sm with
  | true =>
   have HV5:Hid (v=false):=by show _=_;rw [HV.out];exact Hbad.out (by rw [Hkey.out];rfl)
   go_wp2_with (refine wpList_load_want (by rfl) 61 (.tmp 8) rfl (wr.heap.size+1) 0 rfl [.int .i64 x.hdr,.int .i64 x.ent,.int .i64 x.date,.int .i64 0] _ hk3r underlying61 rfl hldSize ?_)
   go_ret
   exact⟨by rw [HV5.out];rfl,hb3⟩
  | false =>
   have HK2:Hid ((List.range (k+1)).all (Hd.keyAt m l)=true):=Z1 (Hd.range_all_succ HK.out (by rw [Hkey.out];rfl))
   obtain⟨f,hm,hf⟩:=Hm3.out
   have Hstep2:=Z1 (Hstep.out f hf)
   obtain⟨kl,hkl5⟩:=hldKey x.hdr x.ent x.date 0 hwx.1 hwx.2.1 hwx.2.2.1 rfl
   clear hf
   go_wp2_with (first | (refine wpList_load_want (by rfl) 61 (.tmp 8) rfl (wr.heap.size+1) 0 rfl [.int .i64 x.hdr,.int .i64 x.ent,.int .i64 x.date,.int .i64 0] _ hk3r underlying61 rfl hldSize ?_) | (at_mapUpdate;refine wpList_mapUpdate_at rfl _ _ _ rfl hm hldLaw underlying178 rfl (by unfold maxLen;omega) _ _ _ rfl rfl hkl5 ?_;intro w7 hm7 hg7))
   have hb7:=hb3.grown hg7 hq3 (fun j e=>by cases e;exact Nat.le_refl _)
   go_wp2
   go_roundw
   case rel=>exact⟨k+1,by omega,by go_num,HK2,⟨_,hm7,Hstep2.out⟩,hb7⟩
   case measure=>simp [intOf];omega
end
end Go.Proofs.YtniaimjknmhapaaGreatDoor
namespace Go.Proofs.YtniaimjknmhapaaGreatDoor
open Go.Proofs.Tryz Go.RowKit
def IvsPost (l:List Itv) (w:World) (e:Ending) (w':World):Prop :=
 Below w.heap.size w w'/\∃ A c,e=.returned (.tuple #[.slice A l.length c,.int .i64 0])/\ItvsAt w' w'.heap.size A l
theorem lv_ivs {w:World} {a:Addr} {v:Value} (h:w.cell? a=some v):(loadVar 119 a).run prog w=.ok v w:=by
 unfold loadVar
 simp [Sem.run_bind,Tryz.isAgg119,h,Result.andThen]
theorem lv_err {w:World} {a:Addr} {v:Value} (h:w.cell? a=some v):(loadVar 47 a).run prog w=.ok v w:=by
 unfold loadVar
 simp [Sem.run_bind,Tryz.isAgg47,h,Result.andThen]
section
variable (w:World)
theorem ivs0_any (g:Grp) (A:Option Addr) (n c:Nat) (l:List Hld) (hg:g.At w w.heap.size) (hl:l.length=n) (hn:n<=200) (hw:∀ x∈l,x.wf) (hA:HldsAt w w.heap.size A l) (hv:Hd.valid g.ents.length l=true) :
  Calls prog 100 #[.agg #[.string g.cur,.int .i64 g.Y,.int .i64 g.M,.int .i64 g.N,.slice g.cA g.cn g.cc,.int .i64 g.r0,.int .i64 g.r1,.int .i64 g.r2,.int .i64 g.r3,.int .i64 g.r4,.int .i64 g.r5,.int .i64 g.r6,.int .i64 g.r7,.int .i64 g.r8,.int .i64 g.r9,.int .i64 g.r10,.int .i64 g.r11,.int .i64 g.r12,.int .i64 g.r13,.int .i64 g.r14,.slice g.eA g.en g.ec],.slice A n c,.int .i64 0] w (IvsPost [⟨-25568,84006,3⟩] w):=by
 obtain⟨W0,hW0,hB0,hb0,hb1,hz0⟩:=nw2 w #[.string g.cur,.int .i64 g.Y,.int .i64 g.M,.int .i64 g.N,.slice g.cA g.cn g.cc,.int .i64 g.r0,.int .i64 g.r1,.int .i64 g.r2,.int .i64 g.r3,.int .i64 g.r4,.int .i64 g.r5,.int .i64 g.r6,.int .i64 g.r7,.int .i64 g.r8,.int .i64 g.r9,.int .i64 g.r10,.int .i64 g.r11,.int .i64 g.r12,.int .i64 g.r13,.int .i64 g.r14,.slice g.eA g.en g.ec] #[.slice A n c] 29 32
 obtain⟨W1,hW1,hB1,hb2,hb3,hz1⟩:=nw2 W0 #[.int .i64 0] #[.slice none 0 0] 3 119
 obtain⟨W2,hW2,hB2,hb4,hz2⟩:=nw1 W1 #[.int .i64 0] 47
 have hWW:W2=((((w.alloc (.cells #[.string g.cur,.int .i64 g.Y,.int .i64 g.M,.int .i64 g.N,.slice g.cA g.cn g.cc,.int .i64 g.r0,.int .i64 g.r1,.int .i64 g.r2,.int .i64 g.r3,.int .i64 g.r4,.int .i64 g.r5,.int .i64 g.r6,.int .i64 g.r7,.int .i64 g.r8,.int .i64 g.r9,.int .i64 g.r10,.int .i64 g.r11,.int .i64 g.r12,.int .i64 g.r13,.int .i64 g.r14,.slice g.eA g.en g.ec] 29)).alloc (.cells #[.slice A n c] 32)).alloc (.cells #[.int .i64 0] 3)).alloc (.cells #[.slice none 0 0] 119)).alloc (.cells #[.int .i64 0] 47):=by rw [hW2,hW1,hW0]
 have HW:=Z1 hWW
 have hB02:Below w.heap.size w W2:=(hB0.trans (hB1.mono hB0.size)).trans (hB2.mono (by omega))
 have g0:W2.heap[w.heap.size]?=some (.cells #[.string g.cur,.int .i64 g.Y,.int .i64 g.M,.int .i64 g.N,.slice g.cA g.cn g.cc,.int .i64 g.r0,.int .i64 g.r1,.int .i64 g.r2,.int .i64 g.r3,.int .i64 g.r4,.int .i64 g.r5,.int .i64 g.r6,.int .i64 g.r7,.int .i64 g.r8,.int .i64 g.r9,.int .i64 g.r10,.int .i64 g.r11,.int .i64 g.r12,.int .i64 g.r13,.int .i64 g.r14,.slice g.eA g.en g.ec] 29 (0,0)):=gbox (gbox hb0 hB1 (by omega)) hB2 (by omega)
 have g1:W2.heap[w.heap.size+1]?=some (.cells #[.slice A n c] 32 (0,0)):=gbox (gbox hb1 hB1 (by omega)) hB2 (by omega)
 have g2:W2.heap[w.heap.size+2]?=some (.cells #[.int .i64 0] 3 (0,0)):=by have:=gbox hb2 hB2 (by omega);rw [hz0] at this;exact this
 have g3:W2.heap[w.heap.size+3]?=some (.cells #[.slice none 0 0] 119 (0,0)):=by have:=gbox hb3 hB2 (by omega);rw [hz0] at this;exact this
 have g4:W2.heap[w.heap.size+4]?=some (.cells #[.int .i64 0] 47 (0,0)):=by have:=hb4;rw [hz1,hz0] at this;exact this
 have x20:=cr9 20 g0
 have y0:=cr9 0 g1
 simp at x20 y0
 have s0:=some_lt g0
 have s1:=some_lt g1
 have hA2:=Z1 (RowsAt.at_ hA hB02)
 have Hel:=Z1 hg.hel
 have hen:=hg.hen
 have Hv:=Z1 hv
 have Hcall:Hid (∀ W,RowsAt Hld.cells 4 W W.heap.size A l->Calls prog 49 #[.int .i64 g.en,.slice A n c] W fun e w'=>e=.returned (.bool true)/\Below W.heap.size W w'):=Z1 (fun W h=>by
  have:=hvalid_any W g.ents.length A n c l (by have:=hg.hel;omega) hl hn hw h
  rw [hv,hg.hel] at this
  exact this)
 have hel1:1<=g.en:=by have:=hg.hel;unfold Hd.valid at hv;simp at hv;omega
 have G2:=Z1 g2
 have G3:=Z1 g3
 have G4:=Z1 g4
 clear hW0 hW1 hW2 hWW hb0 hb1 hb2 hb3 hb4 hz0 hz1 hz2 hB0 hB1 hB2 g0 g1 g2 g3 g4 hg hA hv hw hl
 go_enter func100,ntmps100
 go_upto_region 1 with(fail)
 rw [<- HW.out]
 go_wp2_with (fail)
 refine(Hcall.out _ hA2.out).mono ?_
 rintro e W3 ⟨rfl,hB3⟩
 have hB03:=hB02.trans (hB3.mono hB02.size)
 have q2:=gbox G2.out hB3 (some_lt G2.out)
 have q3:=gbox G3.out hB3 (some_lt G3.out)
 have q4:=gbox G4.out hB3 (some_lt G4.out)
 have z2:=cr9 0 q2
 have z3:=cr9 0 q3
 have z4:=cr9 0 q4
 simp at z2 z3 z4
 have t2:=some_lt q2
 have t3:=some_lt q3
 have t4:=some_lt q4
 have f3:=fun j=>fr0 j q3
 have f4:=fun j=>fr0 j q4
 have hne:¬ (0:Int) ≥ (g.en:Int):=by omega
 clear x20 y0
 have H3:=Z1 q3
 have H4:=Z1 q4
 have Hq:=Z1 hB3.size
 have HB03:=Z1 hB03
 clear q2 q3 q4
 go_wp2
 obtain⟨V1,hV1⟩:∃ V1,V1=(W3.setCell ⟨w.heap.size+1+1+1,0,none⟩ (.slice (some ⟨W3.heap.size,0,none⟩) 1 1)).setCell ⟨w.heap.size+1+1+1+1,0,none⟩ (.int .i64 0):=⟨_,rfl⟩
 have v3:V1.heap[w.heap.size+3]?=some (.cells #[.slice (some ⟨W3.heap.size,0,none⟩) 1 1] 119 (0,0)):=by
  rw [hV1];exact Row.other (Row.set H3.out 0 _) ⟨w.heap.size+1+1+1+1,0,none⟩ (by show w.heap.size+3≠w.heap.size+1+1+1+1;omega) _
 have v4:V1.heap[w.heap.size+4]?=some (.cells #[.int .i64 0] 47 (0,0)):=by
  rw [hV1];exact Row.set (Row.other H4.out ⟨w.heap.size+1+1+1,0,none⟩ (by show w.heap.size+4≠w.heap.size+1+1+1;omega) _) 0 _
 have hz1:V1.heap.size=W3.heap.size:=by rw [hV1];simp [World.setCell]
 have hBV:Below w.heap.size w V1:=by rw [hV1];exact(HB03.out.setCell (p:=⟨w.heap.size+1+1+1,0,none⟩) (by show w.heap.size<=w.heap.size+1+1+1;omega) _).setCell (p:=⟨w.heap.size+1+1+1+1,0,none⟩) (by show w.heap.size<=w.heap.size+1+1+1+1;omega) _
 rw [<- hV1]
 obtain⟨V2,hV2,hB2,hr2,hz2⟩:=nw1 V1 #[.int .i64 (-25568),.int .i64 84006,.int .i64 3] 115
 rw [<- hV2]
 have u3:=gbox v3 hB2 (some_lt v3)
 have u4:=gbox v4 hB2 (some_lt v4)
 have c3:=cr9 0 u3
 have c4:=cr9 0 u4
 simp at c3 c4
 have l3:=some_lt u3
 have l4:=some_lt u4
 have HP:Hid (Below w.heap.size w V2/\ItvsAt V2 V2.heap.size (some ⟨W3.heap.size,0,none⟩) [⟨-25568,84006,3⟩]):=by
  refine⟨hBV.trans (hB2.mono hBV.size),?_⟩
  rw [<- hz1]
  exact rows_flat (f:=Itv.cells) (l:=[⟨-25568,84006,3⟩]) hr2 (some_lt hr2) (fun _ _=>rfl)
 clear hV1 v3 v4 hBV hV2 hB2 hr2 u3 u4
 have r3:=lv_ivs c3
 have r4:=lv_err c4
 exact bodyPost_ret (v:=.tuple #[.slice (some ⟨W3.heap.size,0,none⟩) 1 1,.int .i64 0]) (by simp [results,results100,asAddr,r3,r4]) rfl ⟨HP.out.1,_,_,rfl,HP.out.2⟩
end
end Go.Proofs.YtniaimjknmhapaaGreatDoor
namespace Go.Proofs.YtniaimjknmhapaaGreatDoor
open Go.Proofs.Tryz Go.RowKit
section
variable (w:World)
theorem full_any (b:Bks) (e:Nat) (f lst:Int) (L:List Itv) (hL:L.length<=1000) (hb:b.At w w.heap.size)
  (hI:∀ W:World,b.At W W.heap.size->Calls prog 100 #[.agg #[.string (b.g).cur,.int .i64 (b.g).Y,.int .i64 (b.g).M,.int .i64 (b.g).N,.slice (b.g).cA (b.g).cn (b.g).cc,.int .i64 (b.g).r0,.int .i64 (b.g).r1,.int .i64 (b.g).r2,.int .i64 (b.g).r3,.int .i64 (b.g).r4,.int .i64 (b.g).r5,.int .i64 (b.g).r6,.int .i64 (b.g).r7,.int .i64 (b.g).r8,.int .i64 (b.g).r9,.int .i64 (b.g).r10,.int .i64 (b.g).r11,.int .i64 (b.g).r12,.int .i64 (b.g).r13,.int .i64 (b.g).r14,.slice (b.g).eA (b.g).en (b.g).ec],.slice b.hA b.hn b.hc,.int .i64 e] W (IvsPost L W)) :
  Calls prog 54 #[.agg #[.int .i64 f,.int .i64 lst],.agg #[.string b.g.cur,.int .i64 b.g.Y,.int .i64 b.g.M,.int .i64 b.g.N,.slice b.g.cA b.g.cn b.g.cc,.int .i64 b.g.r0,.int .i64 b.g.r1,.int .i64 b.g.r2,.int .i64 b.g.r3,.int .i64 b.g.r4,.int .i64 b.g.r5,.int .i64 b.g.r6,.int .i64 b.g.r7,.int .i64 b.g.r8,.int .i64 b.g.r9,.int .i64 b.g.r10,.int .i64 b.g.r11,.int .i64 b.g.r12,.int .i64 b.g.r13,.int .i64 b.g.r14,.slice b.g.eA b.g.en b.g.ec,.slice b.eA b.en b.ec,.slice b.rA b.rn b.rc,.slice b.hA b.hn b.hc,b.m0,b.m1,b.m2],.int .i64 e] w (DelPost w.heap.size (L.filter (fun x=>!Iv.off f lst x)) w):=by
 obtain⟨W1,hW1,hB0,hs0,hb0,hz⟩:=nw2 w #[.int .i64 f,.int .i64 lst] #[.string b.g.cur,.int .i64 b.g.Y,.int .i64 b.g.M,.int .i64 b.g.N,.slice b.g.cA b.g.cn b.g.cc,.int .i64 b.g.r0,.int .i64 b.g.r1,.int .i64 b.g.r2,.int .i64 b.g.r3,.int .i64 b.g.r4,.int .i64 b.g.r5,.int .i64 b.g.r6,.int .i64 b.g.r7,.int .i64 b.g.r8,.int .i64 b.g.r9,.int .i64 b.g.r10,.int .i64 b.g.r11,.int .i64 b.g.r12,.int .i64 b.g.r13,.int .i64 b.g.r14,.slice b.g.eA b.g.en b.g.ec,.slice b.eA b.en b.ec,.slice b.rA b.rn b.rc,.slice b.hA b.hn b.hc,b.m0,b.m1,b.m2] 113 36
 have HW:=Z1 hW1
 have HB1:=Z1 (hb.at_ hB0)
 have HB0:=Z1 hB0
 have Hs0:=Z1 hs0
 have hrg:Hid (∀ j v,([.string (b.g).cur,.int .i64 (b.g).Y,.int .i64 (b.g).M,.int .i64 (b.g).N,.slice (b.g).cA (b.g).cn (b.g).cc,.int .i64 (b.g).r0,.int .i64 (b.g).r1,.int .i64 (b.g).r2,.int .i64 (b.g).r3,.int .i64 (b.g).r4,.int .i64 (b.g).r5,.int .i64 (b.g).r6,.int .i64 (b.g).r7,.int .i64 (b.g).r8,.int .i64 (b.g).r9,.int .i64 (b.g).r10,.int .i64 (b.g).r11,.int .i64 (b.g).r12,.int .i64 (b.g).r13,.int .i64 (b.g).r14,.slice (b.g).eA (b.g).en (b.g).ec]:List Value)[j]?=some v->W1.cell? ⟨w.heap.size+1,0+j,none⟩=some v):=fun j v hj=>by have:=cr9 j hb0;rw [Nat.zero_add,this];exact bks_get hj
 have x23:=cr9 23 hb0
 simp at x23
 have s1:=some_lt hb0
 have s0:=some_lt hs0
 have Hi:=Z1 (hI W1 HB1.out)
 clear hW1 hz hb0 hs0 hb hB0 hI
 go_enter func54,ntmps54
 go_upto_region 1 with(fail)
 rw [<- HW.out]
 go_wp2_with (refine wpList_load_want (by rfl) 29 (.tmp 10) rfl (w.heap.size+1) 0 rfl _ _ hrg.out underlying29 rfl grpSize ?_)
 refine Hi.out.mono ?_
 rintro ev W2 ⟨hB2,A,c,rfl,hA⟩
 have HB2:=Z1 hB2
 have hq2:=hB2.size
 have Hcl:=Z1 (clone_itv W2 A L.length c L rfl (by omega) hA)
 clear x23 hA hB2
 go_wp2_with (fail)
 refine Hcl.out.mono ?_
 rintro ev W3 ⟨hB3,A3,c3,rfl,hown⟩
 have hq3:=hB3.size
 have hs3:=gbox (gbox Hs0.out HB2.out s0) hB3 (by omega)
 have Hdl:=Z1 (delfull_any W3 W2.heap.size A3 L.length c3 L f lst w.heap.size hs3 (by omega) hq3 rfl hL hown)
 have HBF:=Z1 ((HB0.out.trans (HB2.out.mono (by omega))).trans (hB3.mono (by omega)))
 clear hs3 hown hB3
 go_wp2_with (fail)
 refine Hdl.out.mono ?_
 rintro ev W4 ⟨hB4,A4,c4,rfl,hA4⟩
 have HA4:=Z1 hA4
 have HBZ:=Z1 (HBF.out.trans (hB4.mono (by omega)))
 clear hA4 hB4
 go_wp2
 go_ret
 exact⟨HBZ.out,A4,c4,rfl,HA4.out⟩
end
end Go.Proofs.YtniaimjknmhapaaGreatDoor
namespace Go.Proofs.YtniaimjknmhapaaGreatDoor
open Go.Proofs.Tryz Go.RowKit
def CurPost (x:Itv) (w:World) (ev:Ending) (w':World):Prop :=
 Below w.heap.size w w'/\ev=.returned (.tuple #[.agg #[.int .i64 x.frm,.int .i64 x.to,.int .i64 x.meth],.int .i64 0])
theorem find_take_hit {α:Type} {p:α->Bool} {l:List α} {k:Nat} (hk:k<l.length) (hn:(l.take k).find? p=none) (hp:p l[k]=true):l.find? p=some l[k]:=by
 have e:l=l.take k++l[k]::l.drop (k+1):=by rw [List.getElem_cons_drop,List.take_append_drop]
 generalize hx:l[k]=x at *
 rw [e,List.find?_append,hn]
 simp [hp]
theorem find_take_miss {α:Type} {p:α->Bool} {l:List α} {k:Nat} (hk:k<l.length) (hn:(l.take k).find? p=none) (hp:p l[k]=false):(l.take (k+1)).find? p=none:=by
 rw [List.take_succ_eq_append_getElem hk,List.find?_append,hn]
 simp [hp]
section
variable (w:World)
theorem current_any (b:Bks) (E d:Int) (L:List Itv) (now:Itv) (hd:-25567<=d/\d<=84005) (hf:L.find? (fun x=>decide (x.frm<=d/\d<x.to))=some now) (hL:L.length<=1000) (hb:b.At w w.heap.size)
  (hI:∀ W:World,b.At W W.heap.size->Calls prog 100 #[.agg #[.string (b.g).cur,.int .i64 (b.g).Y,.int .i64 (b.g).M,.int .i64 (b.g).N,.slice (b.g).cA (b.g).cn (b.g).cc,.int .i64 (b.g).r0,.int .i64 (b.g).r1,.int .i64 (b.g).r2,.int .i64 (b.g).r3,.int .i64 (b.g).r4,.int .i64 (b.g).r5,.int .i64 (b.g).r6,.int .i64 (b.g).r7,.int .i64 (b.g).r8,.int .i64 (b.g).r9,.int .i64 (b.g).r10,.int .i64 (b.g).r11,.int .i64 (b.g).r12,.int .i64 (b.g).r13,.int .i64 (b.g).r14,.slice (b.g).eA (b.g).en (b.g).ec],.slice b.hA b.hn b.hc,.int .i64 E] W (IvsPost L W)) :
  Calls prog 52 #[.agg #[.string (b.g).cur,.int .i64 (b.g).Y,.int .i64 (b.g).M,.int .i64 (b.g).N,.slice (b.g).cA (b.g).cn (b.g).cc,.int .i64 (b.g).r0,.int .i64 (b.g).r1,.int .i64 (b.g).r2,.int .i64 (b.g).r3,.int .i64 (b.g).r4,.int .i64 (b.g).r5,.int .i64 (b.g).r6,.int .i64 (b.g).r7,.int .i64 (b.g).r8,.int .i64 (b.g).r9,.int .i64 (b.g).r10,.int .i64 (b.g).r11,.int .i64 (b.g).r12,.int .i64 (b.g).r13,.int .i64 (b.g).r14,.slice (b.g).eA (b.g).en (b.g).ec],.slice b.hA b.hn b.hc,.int .i64 E,.int .i64 d] w (CurPost now w):=by
 obtain⟨W1,hW1,hB0,hb0,hr0,hz⟩:=nw2 w #[.string (b.g).cur,.int .i64 (b.g).Y,.int .i64 (b.g).M,.int .i64 (b.g).N,.slice (b.g).cA (b.g).cn (b.g).cc,.int .i64 (b.g).r0,.int .i64 (b.g).r1,.int .i64 (b.g).r2,.int .i64 (b.g).r3,.int .i64 (b.g).r4,.int .i64 (b.g).r5,.int .i64 (b.g).r6,.int .i64 (b.g).r7,.int .i64 (b.g).r8,.int .i64 (b.g).r9,.int .i64 (b.g).r10,.int .i64 (b.g).r11,.int .i64 (b.g).r12,.int .i64 (b.g).r13,.int .i64 (b.g).r14,.slice (b.g).eA (b.g).en (b.g).ec] #[.int .i64 0,.int .i64 0,.int .i64 0] 29 115
 have HW:=Z1 hW1
 have HB1:=Z1 (hb.at_ hB0)
 have HB0:=Z1 hB0
 have Hr0:=Z1 hr0
 have hload:W1.rangeAt w.heap.size 0 [.string (b.g).cur,.int .i64 (b.g).Y,.int .i64 (b.g).M,.int .i64 (b.g).N,.slice (b.g).cA (b.g).cn (b.g).cc,.int .i64 (b.g).r0,.int .i64 (b.g).r1,.int .i64 (b.g).r2,.int .i64 (b.g).r3,.int .i64 (b.g).r4,.int .i64 (b.g).r5,.int .i64 (b.g).r6,.int .i64 (b.g).r7,.int .i64 (b.g).r8,.int .i64 (b.g).r9,.int .i64 (b.g).r10,.int .i64 (b.g).r11,.int .i64 (b.g).r12,.int .i64 (b.g).r13,.int .i64 (b.g).r14,.slice (b.g).eA (b.g).en (b.g).ec]:=range_of hb0
 have s0:=some_lt hb0
 have s1:=some_lt hr0
 have Hi:=Z1 (hI W1 HB1.out)
 have HF:=Z1 hf
 have Hdv:Hid (∀ W:World,Calls prog 101 #[.int .i64 d] W fun e w'=>e=.returned (.bool true)/\W=w'):=Z1 (fun W=>by
  have:=dvalid_any d W
  rw [decide_eq_true hd] at this
  exact this)
 clear hW1 hz hb0 hr0 hb hB0 hI hf hd
 go_enter func52,ntmps52
 go_upto_region 1 with(fail)
 rw [<- HW.out]
 go_wp2_with (refine wpList_load_want (by rfl) 29 (.tmp 4) rfl w.heap.size 0 rfl _ _ hload underlying29 rfl grpSize ?_)
 refine Hi.out.mono ?_
 rintro ev W2 ⟨hB2,A,c,rfl,hA⟩
 have HB2:=Z1 (HB0.out.trans (hB2.mono (by omega)))
 have hq2:=hB2.size
 have HA:=Z1 hA
 have Hr2:=Z1 (gbox Hr0.out hB2 s1)
 have s2:w.heap.size+1<W2.heap.size:=by omega
 clear hA hB2 hload
 go_wp2
 go_loopw [27] (fun i wr=>∃ k:Nat,k<=L.length/\i=.int .i64 k/\Hid ((L.take k).find? (fun x=>decide (x.frm<=d/\d<x.to))=none)/\Below W2.heap.size W2 wr) (fun i _=>L.length-(intOf i).toNat)
 case atStart=>exact⟨0,Nat.zero_le _,rfl,Z1 rfl,Below.refl _ _⟩
 case round =>
  obtain⟨k,hk,rfl,HN,hbr⟩:=hrel
  have hsz:=hbr.size
  have hbF:=HB2.out.trans (hbr.mono (by omega))
  by_cases hlt:k<L.length
  case neg =>
   obtain rfl:k=L.length:=by omega
   have h1:=HN.out
   rw [List.take_length,HF.out] at h1
   cases h1
  obtain⟨bb,o,rfl,hbB,hr⟩:=RowsAt.look (RowsAt.below HA.out hbr (Nat.le_refl _)) hlt
  obtain⟨x,hx⟩:∃ x,x=L[k]:=⟨_,rfl⟩
  rw [<- hx] at hr
  have Hr:=Z1 hr
  have hbw:bb<wr.heap.size:=by omega
  have Hhit:Hid (decide (x.frm<=d/\d<x.to)=true->x=now):=Z1 (fun hp=>by
   have:=find_take_hit (p:=fun x:Itv=>decide (x.frm<=d/\d<x.to)) hlt HN.out (by rw [<- hx];exact hp)
   rw [HF.out,<- hx] at this
   exact(Option.some.inj this).symm)
  have Hmiss:Hid (decide (x.frm<=d/\d<x.to)=false->(L.take (k+1)).find? (fun x=>decide (x.frm<=d/\d<x.to))=none):=Z1 (fun hp=>find_take_miss hlt HN.out (by rw [<- hx];exact hp))
  obtain⟨V,hV,hBV,hrV,hzV⟩:=nw1 wr #[.int .i64 x.frm,.int .i64 x.to,.int .i64 x.meth] 115
  have HV:=Z1 hV
  have z0:=cr9 0 hrV
  have z1:=cr9 1 hrV
  simp at z0 z1
  have sV:=some_lt hrV
  have hbV:=hbr.trans (hBV.mono hsz)
  have Hz:=Z1 (gbox Hr2.out hbV s2)
  have HrV:=Z1 hrV
  have hB0V:=HB2.out.trans (hbV.mono (by omega))
  clear hr hx hV hrV hzV hBV
  go_upto_region 7 with(refine wpList_load_mid rfl 115 (.tmp 29) rfl bb (o+k*3) rfl [.int .i64 x.frm,.int .i64 x.to,.int .i64 x.meth] _ Hr.out underlying115 rfl itvSize ?_)
  rw [<- HV.out]
  by_cases h1:x.frm<=d
  case neg =>
   have Hn:=Z1 (Hmiss.out (by simp [h1]))
   clear Hhit Hmiss HN
   go_wp2_with (fail)
   refine(Hdv.out _).mono ?_
   rintro ev W5 ⟨rfl,rfl⟩
   go_wp2
   go_roundw
   case rel=>exact⟨k+1,by omega,by go_num,Hn,hbV⟩
   case measure=>simp [intOf];omega
  by_cases h2:d<x.to
  case neg =>
   have Hn:=Z1 (Hmiss.out (by simp [h2]))
   clear Hhit Hmiss HN
   go_wp2_with (fail)
   refine(Hdv.out _).mono ?_
   rintro ev W5 ⟨rfl,rfl⟩
   go_wp2
   go_roundw
   case rel=>exact⟨k+1,by omega,by go_num,Hn,hbV⟩
   case measure=>simp [intOf];omega
  have hxn:=Hhit.out (by simp [h1,h2])
  have Ho:Hid ((#[.int .i64 x.frm,.int .i64 x.to,.int .i64 x.meth]:Array Value).all (·.oneCell')=true):=Z1 (by simp [Value.oneCell'])
  have hR:=setRow_heap V (w.heap.size+1) _ #[.int .i64 x.frm,.int .i64 x.to,.int .i64 x.meth] _ _ Hz.out
  have hload:=Z1 (run_loadVar_row (P:=prog) _ _ _ 115 _ _ _ hR underlying115 rfl itvSize)
  have hBF:=Z1 (below_setRow hB0V (show w.heap.size<=w.heap.size+1 by omega) #[.int .i64 x.frm,.int .i64 x.to,.int .i64 x.meth])
  have Hxn:=Z1 hxn
  have hld:=HrV.out
  clear hR hxn Hhit Hmiss HN
  go_wp2_with (fail)
  refine(Hdv.out _).mono ?_
  rintro ev W5 ⟨rfl,rfl⟩
  go_wp2_with (first | (refine wpList_load_row rfl 115 _ rfl _ rfl _ _ _ _ hld underlying115 rfl itvSize ?_) | (refine wpList_store_row rfl 115 (.tmp 8) (.tmp 45) none rfl rfl (w.heap.size+1) 115 _ #[.int .i64 x.frm,.int .i64 x.to,.int .i64 x.meth] rfl rfl Hz.out rfl itvSize Ho.out ?_))
  exact bodyPost_ret (v:=.tuple #[.agg #[.int .i64 x.frm,.int .i64 x.to,.int .i64 x.meth],.int .i64 0]) (by simp [results,results52,asAddr,Act.put,hload.out]) rfl ⟨hBF.out,by rw [Hxn.out]⟩
end
end Go.Proofs.YtniaimjknmhapaaGreatDoor
namespace Go.Proofs.YtniaimjknmhapaaGreatDoor
open Go.Proofs.Tryz Go.RowKit
theorem Jr.ok_at {g:Grp} {l:List EtC} (h:Jr.ok g l=true) {k:Nat} (hk:k<l.length):Jr.postOk g (l.take k) l[k]=true:=by
 unfold Jr.ok at h
 simp only [Bool.and_eq_true,List.all_eq_true,List.mem_range] at h
 have h1:=h.2 k hk
 have e1:l.getD k EtC.zero=l[k]:=by simp [hk]
 rw [e1] at h1
 exact h1
theorem rows_take {α:Type} {f:α->List Value} {sz:Nat} {w:World} {B:Nat} {A:Option Addr} {l:List α} (h:RowsAt f sz w B A l) (k:Nat):RowsAt f sz w B A (l.take k):=by
 rcases h with h | ⟨b,o,e,hl,hc⟩
 ·exact .inl (by rw [h];simp)
 ·refine .inr ⟨b,o,e,hl,fun j hj=>?_⟩
  have hj2:j<l.length:=by rw [List.length_take] at hj;omega
  have:=hc j hj2
  rw [List.getElem_take]
  exact this
section
variable (w:World)
theorem rcheck12_any (g:Grp) (B:Option Addr) (m d:Nat) (l:List Etr) (hg:g.At w w.heap.size) (hlm:l.length=m) (hm:m<=100) (hmd:m<=d) (hB:RowsAt Etr.cells 7 w w.heap.size B l) (hBx:∀ y∈l,y.At w w.heap.size) (hj:Jr.ok g (l.map (·.c))=true) :
  Calls prog 128 #[.agg #[.string g.cur,.int .i64 g.Y,.int .i64 g.M,.int .i64 g.N,.slice g.cA g.cn g.cc,.int .i64 g.r0,.int .i64 g.r1,.int .i64 g.r2,.int .i64 g.r3,.int .i64 g.r4,.int .i64 g.r5,.int .i64 g.r6,.int .i64 g.r7,.int .i64 g.r8,.int .i64 g.r9,.int .i64 g.r10,.int .i64 g.r11,.int .i64 g.r12,.int .i64 g.r13,.int .i64 g.r14,.slice g.eA g.en g.ec],.slice B m d] w fun ev w'=>ev=.returned (.tuple #[.int .i64 0,.int .i64 0])/\Below w.heap.size w w':=by
 obtain⟨W1,hW1,hB0,hb0,hz⟩:=nw1 w #[.string g.cur,.int .i64 g.Y,.int .i64 g.M,.int .i64 g.N,.slice g.cA g.cn g.cc,.int .i64 g.r0,.int .i64 g.r1,.int .i64 g.r2,.int .i64 g.r3,.int .i64 g.r4,.int .i64 g.r5,.int .i64 g.r6,.int .i64 g.r7,.int .i64 g.r8,.int .i64 g.r9,.int .i64 g.r10,.int .i64 g.r11,.int .i64 g.r12,.int .i64 g.r13,.int .i64 g.r14,.slice g.eA g.en g.ec] 29
 have HW:=Z1 hW1
 have hg1:=Z1 (hg.at_ hB0)
 have HBr:=Z1 (RowsAt.at_ hB hB0)
 have HBx:=Z1 (fun y hy=>(hBx y hy).at_ hB0)
 have Hlm:=Z1 hlm
 have Hj:=Z1 hj
 have Hb0:=Z1 hb0
 have HB0:=Z1 hB0
 have s1:w.heap.size<W1.heap.size:=by omega
 have hload:W1.rangeAt w.heap.size 0 [.string g.cur,.int .i64 g.Y,.int .i64 g.M,.int .i64 g.N,.slice g.cA g.cn g.cc,.int .i64 g.r0,.int .i64 g.r1,.int .i64 g.r2,.int .i64 g.r3,.int .i64 g.r4,.int .i64 g.r5,.int .i64 g.r6,.int .i64 g.r7,.int .i64 g.r8,.int .i64 g.r9,.int .i64 g.r10,.int .i64 g.r11,.int .i64 g.r12,.int .i64 g.r13,.int .i64 g.r14,.slice g.eA g.en g.ec]:=range_of hb0
 have Hgr:=Z1 (grpr_any W1 g hg1.out)
 have hgv:Gr.valid g=true:=by unfold Jr.ok at hj;simp only [Bool.and_eq_true] at hj;exact hj.1
 rw [hgv] at Hgr
 clear hW1 hz hb0 hg hlm hB hBx hj hgv hB0
 go_enter func128,ntmps128
 go_upto_region 1 with(fail)
 rw [<- HW.out]
 go_wp2_with (refine wpList_load_want (by rfl) 29 (.tmp 2) rfl w.heap.size 0 rfl _ _ hload underlying29 rfl grpSize ?_)
 refine Hgr.out.mono ?_
 rintro ev W2 ⟨rfl,hB2⟩
 clear hload
 go_wp2
 go_loopw [6] (fun i wr=>∃ k:Nat,k<=m/\i=.int .i64 k/\Below W1.heap.size W1 wr) (fun i _=>m-(intOf i).toNat)
 case atStart=>exact⟨0,Nat.zero_le _,rfl,hB2⟩
 case round =>
  obtain⟨k,hk,rfl,hb⟩:=hrel
  have hbF:=HB0.out.trans (hb.mono HB0.out.size)
  have hsz:=hb.size
  by_cases hlt:k<m
  case neg =>
   obtain rfl:k=m:=by omega
   go_wp2
   go_ret2
   exact⟨rfl,hbF⟩
  have hkl:k<l.length:=by have:=Hlm.out;omega
  obtain⟨b,o,rfl,hbB,c0⟩:=EtrsAt.seven (RowsAt.below HBr.out hb (Nat.le_refl _)) hkl
  have hrest:RowsAt Etr.cells 7 wr wr.heap.size (some ⟨b,o,none⟩) (l.take k):=rows_take (RowsAt.more (RowsAt.below HBr.out hb (Nat.le_refl _)) hsz) k
  obtain⟨x,hx⟩:∃ x,x=l[k]:=⟨_,rfl⟩
  rw [<- hx] at c0
  have hpo:Jr.postOk g ((l.take k).map (·.c)) x.c=true:=by
   have:=Jr.ok_at Hj.out (k:=k) (by rw [List.length_map];exact hkl)
   rw [<- List.map_take] at this
   rw [hx]
   simpa using this
  have hxa:x.At wr wr.heap.size:=((HBx.out x (by rw [hx];exact List.getElem_mem _)).below hb (Nat.le_refl _)).more hsz
  have hta:∀ y∈l.take k,y.At wr wr.heap.size:=fun y hy=>((HBx.out y (List.mem_of_mem_take hy)).below hb (Nat.le_refl _)).more hsz
  obtain⟨⟨id,ent,dt,kd,of_,tx,ls⟩,lA,ln,lc⟩:=x
  have Hpost:=Z1 (fun(W:World) (hS:Below wr.heap.size wr W)=>rpost_any W g (some ⟨b,o,none⟩) k d (l.take k) ⟨id,ent,dt,kd,of_,tx,ls⟩ lA ln lc (((hg1.out.below hb (Nat.le_refl _)).more hsz).at_ hS) (hxa.at_ hS) (by rw [List.length_take];omega) (by omega) (RowsAt.at_ hrest hS) (fun y hy=>(hta y hy).at_ hS) hpo)
  have Hc0:=Z1 c0
  have Hb0r:=Z1 (gbox Hb0.out hb s1)
  have s2:=some_lt Hb0r.out
  have hbw:b<wr.heap.size:=by omega
  have hkd:(k:Int)<=(d:Int):=by omega
  clear hrest hx hpo hxa hta c0
  go_upto_region 6 with(fail)
  have hS:Below wr.heap.size wr wr.drew:=below_drawn (Below.refl _ _) 1
  refine wp_region_held (S:=Below wr.heap.size wr) (by kernel_rfl) ?_
  change wpAnyH _ _ _ _ _ _ _ _ (World.drew wr)
  obtain⟨W_0,hWd⟩:∃ W0,W0=wr.drew:=⟨_,rfl⟩
  rw [<- hWd] at hS ⊢
  clear hWd
  refine tk (i:=0) (v:=.agg #[.string g.cur,.int .i64 g.Y,.int .i64 g.M,.int .i64 g.N,.slice g.cA g.cn g.cc,.int .i64 g.r0,.int .i64 g.r1,.int .i64 g.r2,.int .i64 g.r3,.int .i64 g.r4,.int .i64 g.r5,.int .i64 g.r6,.int .i64 g.r7,.int .i64 g.r8,.int .i64 g.r9,.int .i64 g.r10,.int .i64 g.r11,.int .i64 g.r12,.int .i64 g.r13,.int .i64 g.r14,.slice g.eA g.en g.ec]) rfl (yieldsIf_load_mid (by rfl) 29 _ rfl w.heap.size 0 rfl [.string g.cur,.int .i64 g.Y,.int .i64 g.M,.int .i64 g.N,.slice g.cA g.cn g.cc,.int .i64 g.r0,.int .i64 g.r1,.int .i64 g.r2,.int .i64 g.r3,.int .i64 g.r4,.int .i64 g.r5,.int .i64 g.r6,.int .i64 g.r7,.int .i64 g.r8,.int .i64 g.r9,.int .i64 g.r10,.int .i64 g.r11,.int .i64 g.r12,.int .i64 g.r13,.int .i64 g.r14,.slice g.eA g.en g.ec] _ (fun W' hS'=>range_of (gbox Hb0r.out hS' s2)) underlying29 rfl grpSize) hS ?_
  try simp only [z]
  refine tk (i:=1) (v:=.slice (some ⟨b,o,none⟩) m d) rfl (.inl ⟨by rfl,fun W' hS'=>by go_simp⟩) hS ?_
  try simp only [z]
  refine tk (i:=2) (v:=.int .i64 k) rfl (.inl ⟨by rfl,fun W' hS'=>by go_simp⟩) hS ?_
  try simp only [z]
  refine tk (i:=3) (v:=.slice (some ⟨b,o,none⟩) k d) rfl (.inl ⟨by rfl,fun W' hS'=>by go_simp⟩) hS ?_
  try simp only [z]
  refine tk (i:=4) (v:=.slice (some ⟨b,o,none⟩) m d) rfl (.inl ⟨by rfl,fun W' hS'=>by go_simp⟩) hS ?_
  try simp only [z]
  refine tk (i:=5) (v:=.int .i64 k) rfl (.inl ⟨by rfl,fun W' hS'=>by go_simp⟩) hS ?_
  try simp only [z]
  refine tk (i:=6) (v:=.pointer (some ⟨b,o+k*7,none⟩)) rfl (.inl ⟨by rfl,fun W' hS'=>by go_simp⟩) hS ?_
  try simp only [z]
  refine tk (i:=7) (v:=.agg #[.int .i64 id,.int .i64 ent,.int .i64 dt,.int .i64 kd,.int .i64 of_,.string tx,.slice lA ln lc]) rfl (yieldsIf_load_mid (by rfl) 71 _ rfl b (o+k*7) rfl [.int .i64 id,.int .i64 ent,.int .i64 dt,.int .i64 kd,.int .i64 of_,.string tx,.slice lA ln lc] _ (fun W' hS'=>fun j v hj=>(hS'.cell (p:=⟨b,o+k*7+j,none⟩) (by show _<_;omega)).trans (Hc0.out j v hj)) underlying71 rfl etrSize) hS ?_
  try simp only [z]
  refine rd9 8 (by kernel_rfl) rfl (fun K hK=>?_)
  have HC:=Z1 (Hpost.out W_0 hS)
  go_simp
  refine HC.out.mono ?_
  rintro ev W4 ⟨rfl,hB4⟩
  have hS2:=hS.trans (hB4.mono hS.size)
  refine hK.out _ _ hS2 (fun _=>?_)
  clear hK K
  try simp only [z]
  refine rd9 9 (by kernel_rfl) rfl (fun K hK=>?_)
  go_simp
  refine hK.out _ _ hS2 (fun _=>?_)
  clear hK K
  try simp only [z]
  refine wpAnyH_done (by kernel_rfl) ?_ _
  try simp only [z]
  have hbn:=hb.trans (hS2.mono hsz)
  clear hS hS2
  go_wp2
  go_roundw
  case rel=>exact⟨k+1,by omega,by go_num,hbn⟩
  case measure=>simp [intOf];omega
theorem rvalid12_any (g:Grp) (B:Option Addr) (m d:Nat) (l:List Etr) (hg:g.At w w.heap.size) (hlm:l.length=m) (hm:m<=100) (hmd:m<=d) (hB:RowsAt Etr.cells 7 w w.heap.size B l) (hBx:∀ y∈l,y.At w w.heap.size) (hj:Jr.ok g (l.map (·.c))=true) :
  Calls prog 65 #[.agg #[.string g.cur,.int .i64 g.Y,.int .i64 g.M,.int .i64 g.N,.slice g.cA g.cn g.cc,.int .i64 g.r0,.int .i64 g.r1,.int .i64 g.r2,.int .i64 g.r3,.int .i64 g.r4,.int .i64 g.r5,.int .i64 g.r6,.int .i64 g.r7,.int .i64 g.r8,.int .i64 g.r9,.int .i64 g.r10,.int .i64 g.r11,.int .i64 g.r12,.int .i64 g.r13,.int .i64 g.r14,.slice g.eA g.en g.ec],.slice B m d] w fun ev w'=>ev=.returned (.bool true)/\Below w.heap.size w w':=by
 obtain⟨W1,hW1,hB0,hb0,hz⟩:=nw1 w #[.string g.cur,.int .i64 g.Y,.int .i64 g.M,.int .i64 g.N,.slice g.cA g.cn g.cc,.int .i64 g.r0,.int .i64 g.r1,.int .i64 g.r2,.int .i64 g.r3,.int .i64 g.r4,.int .i64 g.r5,.int .i64 g.r6,.int .i64 g.r7,.int .i64 g.r8,.int .i64 g.r9,.int .i64 g.r10,.int .i64 g.r11,.int .i64 g.r12,.int .i64 g.r13,.int .i64 g.r14,.slice g.eA g.en g.ec] 29
 have HW:=Z1 hW1
 have HB0:=Z1 hB0
 have hload:W1.rangeAt w.heap.size 0 [.string g.cur,.int .i64 g.Y,.int .i64 g.M,.int .i64 g.N,.slice g.cA g.cn g.cc,.int .i64 g.r0,.int .i64 g.r1,.int .i64 g.r2,.int .i64 g.r3,.int .i64 g.r4,.int .i64 g.r5,.int .i64 g.r6,.int .i64 g.r7,.int .i64 g.r8,.int .i64 g.r9,.int .i64 g.r10,.int .i64 g.r11,.int .i64 g.r12,.int .i64 g.r13,.int .i64 g.r14,.slice g.eA g.en g.ec]:=range_of hb0
 have s1:w.heap.size<W1.heap.size:=by omega
 have Hc:=Z1 (rcheck12_any W1 g B m d l (hg.at_ hB0) hlm hm hmd (RowsAt.at_ hB hB0) (fun y hy=>(hBx y hy).at_ hB0) hj)
 clear hW1 hz hb0 hg hlm hB hBx hj hB0
 go_enter func65,ntmps65
 go_upto_region 1 with(fail)
 rw [<- HW.out]
 go_wp2_with (refine wpList_load_want (by rfl) 29 (.tmp 2) rfl w.heap.size 0 rfl _ _ hload underlying29 rfl grpSize ?_)
 refine Hc.out.mono ?_
 rintro ev W2 ⟨rfl,hB2⟩
 clear hload
 go_wp2
 go_ret
 exact⟨rfl,HB0.out.trans (hB2.mono (by omega))⟩
theorem rvalid18_any (b:Bks) (hb:b.At w w.heap.size) (hec:b.en<=b.ec) (hv:Tr.valid b=true) :
  Calls prog 29 #[.agg #[.string b.g.cur,.int .i64 b.g.Y,.int .i64 b.g.M,.int .i64 b.g.N,.slice b.g.cA b.g.cn b.g.cc,.int .i64 b.g.r0,.int .i64 b.g.r1,.int .i64 b.g.r2,.int .i64 b.g.r3,.int .i64 b.g.r4,.int .i64 b.g.r5,.int .i64 b.g.r6,.int .i64 b.g.r7,.int .i64 b.g.r8,.int .i64 b.g.r9,.int .i64 b.g.r10,.int .i64 b.g.r11,.int .i64 b.g.r12,.int .i64 b.g.r13,.int .i64 b.g.r14,.slice b.g.eA b.g.en b.g.ec,.slice b.eA b.en b.ec,.slice b.rA b.rn b.rc,.slice b.hA b.hn b.hc,b.m0,b.m1,b.m2]] w fun ev w'=>ev=.returned (.bool true)/\Below w.heap.size w w':=by
 unfold Tr.valid at hv
 simp only [Bool.and_eq_true] at hv
 obtain⟨hj,hr⟩:=hv
 obtain⟨W1,hW1,hB0,hb0,hz⟩:=nw1 w #[.string b.g.cur,.int .i64 b.g.Y,.int .i64 b.g.M,.int .i64 b.g.N,.slice b.g.cA b.g.cn b.g.cc,.int .i64 b.g.r0,.int .i64 b.g.r1,.int .i64 b.g.r2,.int .i64 b.g.r3,.int .i64 b.g.r4,.int .i64 b.g.r5,.int .i64 b.g.r6,.int .i64 b.g.r7,.int .i64 b.g.r8,.int .i64 b.g.r9,.int .i64 b.g.r10,.int .i64 b.g.r11,.int .i64 b.g.r12,.int .i64 b.g.r13,.int .i64 b.g.r14,.slice b.g.eA b.g.en b.g.ec,.slice b.eA b.en b.ec,.slice b.rA b.rn b.rc,.slice b.hA b.hn b.hc,b.m0,b.m1,b.m2] 36
 have HW:=Z1 hW1
 have HB1:=Z1 (hb.at_ hB0)
 have HB0:=Z1 hB0
 have Hb0:=Z1 hb0
 have hrg:W1.rangeAt w.heap.size 0 [.string (b.g).cur,.int .i64 (b.g).Y,.int .i64 (b.g).M,.int .i64 (b.g).N,.slice (b.g).cA (b.g).cn (b.g).cc,.int .i64 (b.g).r0,.int .i64 (b.g).r1,.int .i64 (b.g).r2,.int .i64 (b.g).r3,.int .i64 (b.g).r4,.int .i64 (b.g).r5,.int .i64 (b.g).r6,.int .i64 (b.g).r7,.int .i64 (b.g).r8,.int .i64 (b.g).r9,.int .i64 (b.g).r10,.int .i64 (b.g).r11,.int .i64 (b.g).r12,.int .i64 (b.g).r13,.int .i64 (b.g).r14,.slice (b.g).eA (b.g).en (b.g).ec]:=fun j v hj=>by have:=cr9 j hb0;rw [Nat.zero_add,this];exact bks_get hj
 have x21:=cr9 21 hb0
 simp at x21
 have s0:=some_lt hb0
 have Hc:=Z1 (rvalid12_any W1 b.g b.eA b.en b.ec b.ents HB1.out.hg HB1.out.hel (by have:=HB1.out.hen;omega) hec HB1.out.hE HB1.out.hEx hj)
 have Hr:=Z1 (fun(W:World) (hW:b.At W W.heap.size)=>rvalidr_any W b.rA b.rn b.rc b.rates b.g.cur hW.hrl (by have:=hW.hrn;omega) hW.hg.hn hW.hRw hW.hR)
 rw [hr] at Hr
 clear hW1 hz hb0 hb hB0 hj hr
 go_enter func29,ntmps29
 go_upto_region 1 with(fail)
 rw [<- HW.out]
 go_wp2_with (refine wpList_load_want (by rfl) 29 (.tmp 3) rfl w.heap.size 0 rfl _ _ hrg underlying29 rfl grpSize ?_)
 refine Hc.out.mono ?_
 rintro ev W2 ⟨rfl,hB2⟩
 have hb2:=gbox Hb0.out hB2 s0
 have HBk2:=Z1 (HB1.out.at_ hB2)
 have y0:=cr9 0 hb2
 have y22:=cr9 22 hb2
 simp at y0 y22
 have s2:=some_lt hb2
 have HBF:=Z1 (HB0.out.trans (hB2.mono (by omega)))
 clear hrg x21 hB2 hb2
 go_wp2_with (fail)
 refine(Hr.out _ HBk2.out).mono ?_
 rintro ev W3 ⟨rfl,hB3⟩
 have HBG:=Z1 (HBF.out.trans (hB3.mono HBF.out.size))
 go_wp2
 go_ret
 exact⟨rfl,HBG.out⟩
theorem rvalid37_any (b:Bks) (hb:b.At w w.heap.size) (hec:b.en<=b.ec) (hv:Tr.valid b=true) :
  Calls prog 11 #[.agg #[.string b.g.cur,.int .i64 b.g.Y,.int .i64 b.g.M,.int .i64 b.g.N,.slice b.g.cA b.g.cn b.g.cc,.int .i64 b.g.r0,.int .i64 b.g.r1,.int .i64 b.g.r2,.int .i64 b.g.r3,.int .i64 b.g.r4,.int .i64 b.g.r5,.int .i64 b.g.r6,.int .i64 b.g.r7,.int .i64 b.g.r8,.int .i64 b.g.r9,.int .i64 b.g.r10,.int .i64 b.g.r11,.int .i64 b.g.r12,.int .i64 b.g.r13,.int .i64 b.g.r14,.slice b.g.eA b.g.en b.g.ec,.slice b.eA b.en b.ec,.slice b.rA b.rn b.rc,.slice b.hA b.hn b.hc,b.m0,b.m1,b.m2]] w fun ev w'=>ev=.returned (.bool (Hd.valid b.g.ents.length b.holds))/\Below w.heap.size w w':=by
 obtain⟨W1,hW1,hB0,hb0,hz⟩:=nw1 w #[.string b.g.cur,.int .i64 b.g.Y,.int .i64 b.g.M,.int .i64 b.g.N,.slice b.g.cA b.g.cn b.g.cc,.int .i64 b.g.r0,.int .i64 b.g.r1,.int .i64 b.g.r2,.int .i64 b.g.r3,.int .i64 b.g.r4,.int .i64 b.g.r5,.int .i64 b.g.r6,.int .i64 b.g.r7,.int .i64 b.g.r8,.int .i64 b.g.r9,.int .i64 b.g.r10,.int .i64 b.g.r11,.int .i64 b.g.r12,.int .i64 b.g.r13,.int .i64 b.g.r14,.slice b.g.eA b.g.en b.g.ec,.slice b.eA b.en b.ec,.slice b.rA b.rn b.rc,.slice b.hA b.hn b.hc,b.m0,b.m1,b.m2] 36
 have HW:=Z1 hW1
 have HB1:=Z1 (hb.at_ hB0)
 have HB0:=Z1 hB0
 have Hb0:=Z1 hb0
 have hld:=hb0
 have s0:=some_lt hb0
 have Hc:=Z1 (rvalid18_any W1 b HB1.out hec hv)
 have Hh:Hid (∀ W:World,b.At W W.heap.size->Calls prog 30 #[.int .i64 b.g.en,.slice b.hA b.hn b.hc] W fun e w'=>e=.returned (.bool (Hd.valid b.g.ents.length b.holds))/\Below W.heap.size W w'):=Z1 (fun W hW=>by
  have h1:=rhvalid_any W b.g.ents.length b.hA b.hn b.hc b.holds (by have:=hW.hg.hel;have:=hW.hg.hen;omega) hW.hhl (by have:=hW.hhn;omega) hW.hH
  rw [hW.hg.hel] at h1
  rw [hW.hg.hel]
  exact h1)
 obtain⟨h,hh⟩:∃ h,h=Hd.valid b.g.ents.length b.holds:=⟨_,rfl⟩
 rw [<- hh] at Hh ⊢
 clear hW1 hz hb0 hb hB0 hv hh
 go_enter func11,ntmps11
 go_upto_region 1 with(fail)
 rw [<- HW.out]
 go_wp2_with (refine wpList_load_row rfl 36 _ rfl _ rfl _ _ _ _ hld underlying36 rfl bksSize ?_)
 refine Hc.out.mono ?_
 rintro ev W2 ⟨rfl,hB2⟩
 have hb2:=gbox Hb0.out hB2 s0
 have HBk2:=Z1 (HB1.out.at_ hB2)
 have y20:=cr9 20 hb2
 have y23:=cr9 23 hb2
 simp at y20 y23
 have s2:=some_lt hb2
 have HBF:=Z1 (HB0.out.trans (hB2.mono (by omega)))
 clear hld hB2 hb2
 go_wp2_with (fail)
 refine(Hh.out _ HBk2.out).mono ?_
 rintro ev W3 ⟨rfl,hB3⟩
 have HBG:=Z1 (HBF.out.trans (hB3.mono HBF.out.size))
 go_wp2
 go_ret
 exact⟨rfl,HBG.out⟩
end
end Go.Proofs.YtniaimjknmhapaaGreatDoor
