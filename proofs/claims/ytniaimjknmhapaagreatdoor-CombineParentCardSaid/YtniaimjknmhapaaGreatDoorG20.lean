/- My texts ChartR, MapR. -/
import Derived.Test.YtniaimjknmhapaaGreatDoorG16
import Derived.Test.YtniaimjknmhapaaGreatDoorG19
set_option linter.unusedVariables false
set_option linter.unusedSimpArgs false
set_option maxRecDepth 100000
set_option maxHeartbeats 16000000
namespace Go.Proofs.YtniaimjknmhapaaGreatDoor
open Go.Proofs.Tryz Go.RowKit
theorem okAt_all {gr:Bool} {l:List Acc} {k:Nat} (h:(List.range k).all (Ch.okAt gr l)=true) (hk:Ch.okAt gr l k=true):(List.range (k+1)).all (Ch.okAt gr l)=true:=by
 rw [List.range_succ,List.all_append,h];simp [hk]
theorem ok_bad {gr:Bool} {l:List Acc} {i:Nat} (hi:i<l.length) (h:Ch.okAt gr l i=false):Ch.valid gr l=false:=by
 unfold Ch.valid;rw [Ch.all_not hi h,Bool.and_false]
theorem range_mid {w:World} {B:Nat} {A:Option Addr} {l:List Acc} (h:AccsAt w B A l) {k:Nat} (hk:k<l.length) {b o:Nat} (hA:A=some ⟨b,o,none⟩):w.rangeAt b (o+k*4) [.int .i64 (l[k]).code,.int .i64 (l[k]).kind,.int .i64 (l[k]).basis,.int .i64 (l[k]).parent]:=by
 obtain⟨b',o',e,_,hr⟩:=RowsAt.look h hk
 rw [hA] at e;cases e
 exact hr
section
variable (w:World)
theorem validr_any (A:Option Addr) (n c:Nat) (l:List Acc) (gr:Bool) (hl:l.length=n) (hn:n<=100000) (h:AccsAt w w.heap.size A l) :
  Calls prog 265 #[.slice A n c,.bool gr] w fun e w'=>e=.returned (.bool (Ch.valid gr l))/\Below w.heap.size w w':=by
 subst hl
 by_cases h200:200<l.length
 ·have hgt:(200:Int)<(l.length:Int):=by omega
  have Hf:Hid (Ch.valid gr l=false):=by show _=_;unfold Ch.valid;rw [decide_eq_false (by omega),Bool.false_and]
  clear h
  go_enter func265,ntmps265
  go_wp2
  go_ret
  exact⟨by rw [Hf.out];rfl,Below.refl _ _⟩
 have hle:¬ (200:Int)<(l.length:Int):=by omega
 have Hle:=Z1 h200
 clear h200
 go_enter func265,ntmps265
 go_wp2
 go_loopw [5] (fun i wr=>∃ k:Nat,k<=l.length/\i=.int .i64 k/\(List.range k).all (Ch.okAt gr l)=true/\Below w.heap.size w wr) (fun i _=>l.length-(intOf i).toNat)
 case atStart=>exact⟨0,Nat.zero_le _,rfl,rfl,Below.refl _ _⟩
 case round =>
  obtain⟨k,hk,rfl,hg,hb⟩:=hrel
  have Hg:=Z1 hg
  clear hg
  by_cases hlt:k<l.length
  ·obtain⟨b,o,hAe,hbB,c0,c1,c2,c3⟩:=AccsAt.four (RowsAt.below h hb (Nat.le_refl _)) hlt
   have hx:=range_mid (RowsAt.below h hb (Nat.le_refl _)) hlt hAe
   subst hAe
   have hbw:b<wr.heap.size:=Nat.lt_of_lt_of_le hbB hb.size
   have hA1:=RowsAt.below h hb (Nat.le_refl _)
   have hS:Below wr.heap.size wr wr.drew:=below_drawn (Below.refl _ _) 1
   have Hat:=Z1 (Ch.at_lt hlt)
   have hk0:(0:Int)<=(k:Int):=by omega
   have hkl:(k:Int)<(l.length:Int):=by omega
   obtain⟨m,hm⟩:∃ m,m=k-1:=⟨_,rfl⟩
   have Hm:=Z1 hm
   clear c1 c2 c3 hm
   go_upto_region 6 with(fail)
   refine wp_region_held (S:=Below wr.heap.size wr) (by kernel_rfl) ?_
   change wpAnyH _ _ _ _ _ _ _ _ (World.drew _)
   refine tk (i:=0) (v:=.slice (some ⟨b,o,none⟩) l.length c) rfl (.inl ⟨by rfl,fun W' hS'=>by go_simp⟩) hS ?_
   try simp only [z]
   refine tk (i:=1) (v:=.slice (some ⟨b,o,none⟩) l.length c) rfl (.inl ⟨by rfl,fun W' hS'=>by go_simp⟩) hS ?_
   try simp only [z]
   refine tk (i:=2) (v:=.int .i64 k) rfl (.inl ⟨by rfl,fun W' hS'=>by go_simp⟩) hS ?_
   try simp only [z]
   refine tk (i:=3) (v:=.pointer (some ⟨b,o+k*4,none⟩)) rfl (.inl ⟨by rfl,fun W' hS'=>by go_simp⟩) hS ?_
   try simp only [z]
   refine tk (i:=4) (v:=.agg #[.int .i64 (l[k]).code,.int .i64 (l[k]).kind,.int .i64 (l[k]).basis,.int .i64 (l[k]).parent]) rfl (yieldsIf_load_mid (by rfl) 87 _ rfl b (o+k*4) rfl [.int .i64 (l[k]).code,.int .i64 (l[k]).kind,.int .i64 (l[k]).basis,.int .i64 (l[k]).parent] _ (fun W' hS'=>range_below hx hS' hbw) underlying87 rfl accSize) hS ?_
   try simp only [z]
   refine tk (i:=5) (v:=.bool gr) rfl (.inl ⟨by rfl,fun W' hS'=>by go_simp⟩) hS ?_
   try simp only [z]
   refine rd9 6 (by kernel_rfl) rfl (fun K hK=>?_)
   go_simp
   refine(properr_any wr.drew (some ⟨b,o,none⟩) l.length c l l[k] gr rfl hn ((RowsAt.below hA1 hS (by have:=hb.size;omega)).more (by have:=hb.size;show _<=wr.heap.size;omega))).mono ?_
   rintro e W2 ⟨rfl,hB2⟩
   have hS2:Below wr.heap.size wr W2:=hS.trans (hB2.mono (Nat.le_refl _))
   refine hK.out _ _ hS2 (fun _=>?_)
   clear hK K
   try simp only [z]
   by_cases hbas:Ch.basic gr l l[k]=true
   ·skip
    have Hbas:=Z1 hbas
    rw [hbas]
    clear hbas
    refine tk (i:=7) (v:=.bool false) rfl (.inl ⟨by rfl,fun W' hS'=>by go_simp⟩) hS2 ?_
    try simp only [z]
    refine tk (i:=8) (v:=.bool false) rfl (.inl ⟨by rfl,fun W' hS'=>by go_simp⟩) hS2 ?_
    try simp only [z]
    refine tk (i:=9) (v:=.int .i64 k) rfl (.inl ⟨by rfl,fun W' hS'=>by go_simp⟩) hS2 ?_
    try simp only [z]
    by_cases hz:k=0
    ·have Hz:=Z1 hz
     have Hord:Hid ((decide (k=0)||decide ((Ch.at_ l (k-1)).code<l[k].code))=true):=by show _=_;simp [hz]
     have hgt:¬ (0:Int)<(k:Int):=by omega
     clear hz
     refine tk (i:=10) (v:=.bool false) rfl (.inl ⟨by rfl,fun W' hS'=>by go_simp;exact Hz.out⟩) hS2 ?_
     try simp only [z]
     refine tk (i:=11) (v:=.bool false) rfl (.inl ⟨by rfl,fun W' hS'=>by go_simp⟩) hS2 ?_
     try simp only [z]
     refine tk (i:=12) (v:=undef) rfl (.inr ⟨by rfl,rfl⟩) hS2 ?_
     try simp only [z]
     refine tk (i:=13) (v:=undef) rfl (.inr ⟨by rfl,rfl⟩) hS2 ?_
     try simp only [z]
     refine tk (i:=14) (v:=undef) rfl (.inr ⟨by rfl,rfl⟩) hS2 ?_
     try simp only [z]
     refine tk (i:=15) (v:=undef) rfl (.inr ⟨by rfl,rfl⟩) hS2 ?_
     try simp only [z]
     refine tk (i:=16) (v:=undef) rfl (.inr ⟨by rfl,rfl⟩) hS2 ?_
     try simp only [z]
     refine tk (i:=17) (v:=undef) rfl (.inr ⟨by rfl,rfl⟩) hS2 ?_
     try simp only [z]
     refine tk (i:=18) (v:=undef) rfl (.inr ⟨by rfl,rfl⟩) hS2 ?_
     try simp only [z]
     refine tk (i:=19) (v:=undef) rfl (.inr ⟨by rfl,rfl⟩) hS2 ?_
     try simp only [z]
     refine tk (i:=20) (v:=undef) rfl (.inr ⟨by rfl,rfl⟩) hS2 ?_
     try simp only [z]
     refine tk (i:=21) (v:=undef) rfl (.inr ⟨by rfl,rfl⟩) hS2 ?_
     try simp only [z]
     refine tk (i:=22) (v:=undef) rfl (.inr ⟨by rfl,rfl⟩) hS2 ?_
     try simp only [z]
     refine tk (i:=23) (v:=undef) rfl (.inr ⟨by rfl,rfl⟩) hS2 ?_
     try simp only [z]
     refine tk (i:=24) (v:=.bool false) rfl (.inl ⟨by rfl,fun W' hS'=>by go_simp⟩) hS2 ?_
     try simp only [z]
     refine tk (i:=25) (v:=.bool false) rfl (.inl ⟨by rfl,fun W' hS'=>by go_simp⟩) hS2 ?_
     try simp only [z]
     refine tk (i:=26) (v:=.bool false) rfl (.inl ⟨by rfl,fun W' hS'=>by go_simp⟩) hS2 ?_
     try simp only [z]
     refine tk (i:=27) (v:=.slice (some ⟨b,o,none⟩) l.length c) rfl (.inl ⟨by rfl,fun W' hS'=>by go_simp⟩) hS2 ?_
     try simp only [z]
     refine tk (i:=28) (v:=.slice (some ⟨b,o,none⟩) l.length c) rfl (.inl ⟨by rfl,fun W' hS'=>by go_simp⟩) hS2 ?_
     try simp only [z]
     refine tk (i:=29) (v:=.int .i64 k) rfl (.inl ⟨by rfl,fun W' hS'=>by go_simp⟩) hS2 ?_
     try simp only [z]
     refine tk (i:=30) (v:=.pointer (some ⟨b,o+k*4,none⟩)) rfl (.inl ⟨by rfl,fun W' hS'=>by go_simp⟩) hS2 ?_
     try simp only [z]
     refine tk (i:=31) (v:=.pointer (some ⟨b,o+k*4,none⟩)) rfl (.inl ⟨by rfl,fun W' hS'=>by go_simp⟩) hS2 ?_
     try simp only [z]
     refine tk (i:=32) (v:=.int .i64 l[k].code) rfl (.inl ⟨by rfl,fun W' hS'=>by have hc:=(hS'.cell (p:=⟨b,o+k*4,none⟩) hbw).trans c0;go_simp⟩) hS2 ?_
     try simp only [z]
     refine tk (i:=35) (v:=.slice (some ⟨b,o,none⟩) l.length c) rfl (.inl ⟨by rfl,fun W' hS'=>by go_simp⟩) hS2 ?_
     try simp only [z]
     refine tk (i:=36) (v:=.int .i64 l.length) rfl (.inl ⟨by rfl,fun W' hS'=>by go_simp⟩) hS2 ?_
     try simp only [z]
     refine rd9 33 (by kernel_rfl) rfl (fun K hK=>?_)
     go_simp
     refine(climbr_any W2 (some ⟨b,o,none⟩) l.length c l l[k].code rfl hn ((RowsAt.below hA1 hS2 (by have:=hb.size;omega)).more (by have:=hb.size;have:=hS2.size;omega))).mono ?_
     rintro e W3 ⟨⟨A3,c3,rfl⟩,hB3⟩
     have hS3:Below wr.heap.size wr W3:=hS2.trans (hB3.mono hS2.size)
     refine hK.out _ _ hS3 (fun _=>?_)
     clear hK K
     try simp only [z]
     obtain⟨h9,hh9⟩:∃ h9,h9=Ch.climb l (l.length+1) l[k].code:=⟨_,rfl⟩
     rw [<- hh9]
     have Hh9:=Z1 hh9
     clear hh9
     refine tk (i:=34) (v:=.int .i64 h9) rfl (.inl ⟨by rfl,fun W' hS'=>by go_simp⟩) hS3 ?_
     try simp only [z]
     by_cases hcl:(l.length:Int)<(h9:Int)
     ·skip
      refine tk (i:=37) (v:=.bool true) rfl (.inl ⟨by rfl,fun W' hS'=>by go_simp⟩) hS3 ?_
      try simp only [z]
      refine tk (i:=38) (v:=.bool true) rfl (.inl ⟨by rfl,fun W' hS'=>by go_simp⟩) hS3 ?_
      try simp only [z]
      refine wpAnyH_done (by kernel_rfl) ?_ _
      have Hf:=Z1 (ok_bad (gr:=gr) hlt (by rw [Ch.okAt,Hat.out,<- Hh9.out,decide_eq_false (show ¬ h9<=l.length by omega),Bool.and_false]))
      clear hcl
      go_wp2
      go_ret
      exact⟨by rw [Hf.out];rfl,hb.trans (hS3.mono hb.size)⟩
     ·skip
      refine tk (i:=37) (v:=.bool false) rfl (.inl ⟨by rfl,fun W' hS'=>by go_simp⟩) hS3 ?_
      try simp only [z]
      refine tk (i:=38) (v:=.bool false) rfl (.inl ⟨by rfl,fun W' hS'=>by go_simp⟩) hS3 ?_
      try simp only [z]
      refine wpAnyH_done (by kernel_rfl) ?_ _
      have Hg2:=Z1 (okAt_all Hg.out (k:=k) (by rw [Ch.okAt,Hat.out,<- Hh9.out,decide_eq_true (show h9<=l.length by omega),Bool.and_true,Hbas.out,Bool.true_and];exact Hord.out))
      clear hcl
      go_wp2
      go_roundw
      case rel=>exact⟨k+1,by omega,by go_num,Hg2.out,hb.trans (hS3.mono hb.size)⟩
      case measure=>simp [intOf];omega
    ·have hgt:(0:Int)<(k:Int):=by omega
     have hkp:0<k:=by omega
     have hmk:(k:Int)-1=(m:Int):=by have:=Hm.out;omega
     have hml:m<l.length:=by have:=Hm.out;omega
     have hmi:(m:Int)<(l.length:Int):=by omega
     have hm0:(0:Int)<=(m:Int):=by omega
     have hwr:IntKind.i64.wrap ((k:Int)-1)=(m:Int):=by rw [hmk];exact IntWalk.i64_in _ (by omega)
     obtain⟨b',o',hA',_,hpc,_⟩:=AccsAt.four hA1 hml
     cases hA'
     have Hpa:Hid (Ch.at_ l (k-1)=l[m]):=by show _=_;rw [<- Hm.out];exact Ch.at_lt hml
     obtain⟨pc,hpce⟩:∃ pc,pc=l[m].code:=⟨_,rfl⟩
     rw [<- hpce] at hpc
     have Hpce:=Z1 hpce
     have Hkz:Hid (decide (k=0)=false):=by show _=_;exact decide_eq_false hz
     clear hmk hz hpce
     refine tk (i:=10) (v:=.bool true) rfl (.inl ⟨by rfl,fun W' hS'=>by go_simp⟩) hS2 ?_
     try simp only [z]
     refine tk (i:=11) (v:=.bool true) rfl (.inl ⟨by rfl,fun W' hS'=>by go_simp⟩) hS2 ?_
     try simp only [z]
     refine tk (i:=12) (v:=.slice (some ⟨b,o,none⟩) l.length c) rfl (.inl ⟨by rfl,fun W' hS'=>by go_simp⟩) hS2 ?_
     try simp only [z]
     refine tk (i:=13) (v:=.int .i64 k) rfl (.inl ⟨by rfl,fun W' hS'=>by go_simp⟩) hS2 ?_
     try simp only [z]
     refine tk (i:=14) (v:=.pointer (some ⟨b,o+k*4,none⟩)) rfl (.inl ⟨by rfl,fun W' hS'=>by go_simp⟩) hS2 ?_
     try simp only [z]
     refine tk (i:=15) (v:=.pointer (some ⟨b,o+k*4,none⟩)) rfl (.inl ⟨by rfl,fun W' hS'=>by go_simp⟩) hS2 ?_
     try simp only [z]
     refine tk (i:=16) (v:=.int .i64 l[k].code) rfl (.inl ⟨by rfl,fun W' hS'=>by have hc:=(hS'.cell (p:=⟨b,o+k*4,none⟩) hbw).trans c0;go_simp⟩) hS2 ?_
     try simp only [z]
     refine tk (i:=17) (v:=.slice (some ⟨b,o,none⟩) l.length c) rfl (.inl ⟨by rfl,fun W' hS'=>by go_simp⟩) hS2 ?_
     try simp only [z]
     refine tk (i:=18) (v:=.int .i64 k) rfl (.inl ⟨by rfl,fun W' hS'=>by go_simp⟩) hS2 ?_
     try simp only [z]
     refine tk (i:=19) (v:=.int .i64 m) rfl (.inl ⟨by rfl,fun W' hS'=>by go_simp⟩) hS2 ?_
     try simp only [z]
     refine tk (i:=20) (v:=.pointer (some ⟨b,o+m*4,none⟩)) rfl (.inl ⟨by rfl,fun W' hS'=>by go_simp⟩) hS2 ?_
     try simp only [z]
     refine tk (i:=21) (v:=.pointer (some ⟨b,o+m*4,none⟩)) rfl (.inl ⟨by rfl,fun W' hS'=>by go_simp⟩) hS2 ?_
     try simp only [z]
     refine tk (i:=22) (v:=.int .i64 pc) rfl (.inl ⟨by rfl,fun W' hS'=>by have hc:=(hS'.cell (p:=⟨b,o+m*4,none⟩) hbw).trans hpc;go_simp⟩) hS2 ?_
     try simp only [z]
     by_cases hord:pc<l[k].code
     ·have hnge:¬ l[k].code<=pc:=by omega
      have Hord:Hid ((decide (k=0)||decide ((Ch.at_ l (k-1)).code<l[k].code))=true):=by show _=_;rw [Hpa.out,<- Hpce.out,decide_eq_true hord,Bool.or_true]
      refine tk (i:=23) (v:=.bool false) rfl (.inl ⟨by rfl,fun W' hS'=>by go_simp⟩) hS2 ?_
      try simp only [z]
      refine tk (i:=24) (v:=.bool false) rfl (.inl ⟨by rfl,fun W' hS'=>by go_simp⟩) hS2 ?_
      try simp only [z]
      refine tk (i:=25) (v:=.bool false) rfl (.inl ⟨by rfl,fun W' hS'=>by go_simp⟩) hS2 ?_
      try simp only [z]
      refine tk (i:=26) (v:=.bool false) rfl (.inl ⟨by rfl,fun W' hS'=>by go_simp⟩) hS2 ?_
      try simp only [z]
      refine tk (i:=27) (v:=.slice (some ⟨b,o,none⟩) l.length c) rfl (.inl ⟨by rfl,fun W' hS'=>by go_simp⟩) hS2 ?_
      try simp only [z]
      refine tk (i:=28) (v:=.slice (some ⟨b,o,none⟩) l.length c) rfl (.inl ⟨by rfl,fun W' hS'=>by go_simp⟩) hS2 ?_
      try simp only [z]
      refine tk (i:=29) (v:=.int .i64 k) rfl (.inl ⟨by rfl,fun W' hS'=>by go_simp⟩) hS2 ?_
      try simp only [z]
      refine tk (i:=30) (v:=.pointer (some ⟨b,o+k*4,none⟩)) rfl (.inl ⟨by rfl,fun W' hS'=>by go_simp⟩) hS2 ?_
      try simp only [z]
      refine tk (i:=31) (v:=.pointer (some ⟨b,o+k*4,none⟩)) rfl (.inl ⟨by rfl,fun W' hS'=>by go_simp⟩) hS2 ?_
      try simp only [z]
      refine tk (i:=32) (v:=.int .i64 l[k].code) rfl (.inl ⟨by rfl,fun W' hS'=>by have hc:=(hS'.cell (p:=⟨b,o+k*4,none⟩) hbw).trans c0;go_simp⟩) hS2 ?_
      try simp only [z]
      refine tk (i:=35) (v:=.slice (some ⟨b,o,none⟩) l.length c) rfl (.inl ⟨by rfl,fun W' hS'=>by go_simp⟩) hS2 ?_
      try simp only [z]
      refine tk (i:=36) (v:=.int .i64 l.length) rfl (.inl ⟨by rfl,fun W' hS'=>by go_simp⟩) hS2 ?_
      try simp only [z]
      refine rd9 33 (by kernel_rfl) rfl (fun K hK=>?_)
      go_simp
      refine(climbr_any W2 (some ⟨b,o,none⟩) l.length c l l[k].code rfl hn ((RowsAt.below hA1 hS2 (by have:=hb.size;omega)).more (by have:=hb.size;have:=hS2.size;omega))).mono ?_
      rintro e W3 ⟨⟨A3,c3,rfl⟩,hB3⟩
      have hS3:Below wr.heap.size wr W3:=hS2.trans (hB3.mono hS2.size)
      refine hK.out _ _ hS3 (fun _=>?_)
      clear hK K
      try simp only [z]
      obtain⟨h9,hh9⟩:∃ h9,h9=Ch.climb l (l.length+1) l[k].code:=⟨_,rfl⟩
      rw [<- hh9]
      have Hh9:=Z1 hh9
      clear hh9
      refine tk (i:=34) (v:=.int .i64 h9) rfl (.inl ⟨by rfl,fun W' hS'=>by go_simp⟩) hS3 ?_
      try simp only [z]
      by_cases hcl:(l.length:Int)<(h9:Int)
      ·skip
       refine tk (i:=37) (v:=.bool true) rfl (.inl ⟨by rfl,fun W' hS'=>by go_simp⟩) hS3 ?_
       try simp only [z]
       refine tk (i:=38) (v:=.bool true) rfl (.inl ⟨by rfl,fun W' hS'=>by go_simp⟩) hS3 ?_
       try simp only [z]
       refine wpAnyH_done (by kernel_rfl) ?_ _
       have Hf:=Z1 (ok_bad (gr:=gr) hlt (by rw [Ch.okAt,Hat.out,<- Hh9.out,decide_eq_false (show ¬ h9<=l.length by omega),Bool.and_false]))
       clear hcl
       go_wp2
       go_ret
       exact⟨by rw [Hf.out];rfl,hb.trans (hS3.mono hb.size)⟩
      ·skip
       refine tk (i:=37) (v:=.bool false) rfl (.inl ⟨by rfl,fun W' hS'=>by go_simp⟩) hS3 ?_
       try simp only [z]
       refine tk (i:=38) (v:=.bool false) rfl (.inl ⟨by rfl,fun W' hS'=>by go_simp⟩) hS3 ?_
       try simp only [z]
       refine wpAnyH_done (by kernel_rfl) ?_ _
       have Hg2:=Z1 (okAt_all Hg.out (k:=k) (by rw [Ch.okAt,Hat.out,<- Hh9.out,decide_eq_true (show h9<=l.length by omega),Bool.and_true,Hbas.out,Bool.true_and];exact Hord.out))
       clear hcl
       go_wp2
       go_roundw
       case rel=>exact⟨k+1,by omega,by go_num,Hg2.out,hb.trans (hS3.mono hb.size)⟩
       case measure=>simp [intOf];omega
     ·have hge:l[k].code<=pc:=by omega
      have Hf:=Z1 (ok_bad (gr:=gr) hlt (by rw [Ch.okAt,Hat.out,Hpa.out,<- Hpce.out,Hkz.out,decide_eq_false hord];simp))
      refine tk (i:=23) (v:=.bool true) rfl (.inl ⟨by rfl,fun W' hS'=>by go_simp⟩) hS2 ?_
      try simp only [z]
      refine tk (i:=24) (v:=.bool true) rfl (.inl ⟨by rfl,fun W' hS'=>by go_simp⟩) hS2 ?_
      try simp only [z]
      refine tk (i:=25) (v:=.bool true) rfl (.inl ⟨by rfl,fun W' hS'=>by go_simp⟩) hS2 ?_
      try simp only [z]
      refine tk (i:=26) (v:=.bool true) rfl (.inl ⟨by rfl,fun W' hS'=>by go_simp⟩) hS2 ?_
      try simp only [z]
      refine tk (i:=27) (v:=undef) rfl (.inr ⟨by rfl,rfl⟩) hS2 ?_
      try simp only [z]
      refine tk (i:=28) (v:=undef) rfl (.inr ⟨by rfl,rfl⟩) hS2 ?_
      try simp only [z]
      refine tk (i:=29) (v:=undef) rfl (.inr ⟨by rfl,rfl⟩) hS2 ?_
      try simp only [z]
      refine tk (i:=30) (v:=undef) rfl (.inr ⟨by rfl,rfl⟩) hS2 ?_
      try simp only [z]
      refine tk (i:=31) (v:=undef) rfl (.inr ⟨by rfl,rfl⟩) hS2 ?_
      try simp only [z]
      refine tk (i:=32) (v:=undef) rfl (.inr ⟨by rfl,rfl⟩) hS2 ?_
      try simp only [z]
      refine tk (i:=33) (v:=undef) rfl (.inr ⟨by rfl,rfl⟩) hS2 ?_
      try simp only [z]
      refine tk (i:=34) (v:=undef) rfl (.inr ⟨by rfl,rfl⟩) hS2 ?_
      try simp only [z]
      refine tk (i:=35) (v:=undef) rfl (.inr ⟨by rfl,rfl⟩) hS2 ?_
      try simp only [z]
      refine tk (i:=36) (v:=undef) rfl (.inr ⟨by rfl,rfl⟩) hS2 ?_
      try simp only [z]
      refine tk (i:=37) (v:=undef) rfl (.inr ⟨by rfl,rfl⟩) hS2 ?_
      try simp only [z]
      refine tk (i:=38) (v:=.bool true) rfl (.inl ⟨by rfl,fun W' hS'=>by go_simp⟩) hS2 ?_
      try simp only [z]
      refine wpAnyH_done (by kernel_rfl) ?_ _
      go_wp2
      go_ret
      exact⟨by rw [Hf.out];rfl,hb.trans (hS2.mono hb.size)⟩
   ·have hbas':Ch.basic gr l l[k]=false:=by simpa using hbas
    rw [hbas']
    have Hf:=Z1 (ok_bad (gr:=gr) hlt (by rw [Ch.okAt,Hat.out,hbas'];simp))
    clear hbas hbas'
    refine tk (i:=7) (v:=.bool true) rfl (.inl ⟨by rfl,fun W' hS'=>by go_simp⟩) hS2 ?_
    try simp only [z]
    refine tk (i:=8) (v:=.bool true) rfl (.inl ⟨by rfl,fun W' hS'=>by go_simp⟩) hS2 ?_
    try simp only [z]
    refine tk (i:=9) (v:=undef) rfl (.inr ⟨by rfl,rfl⟩) hS2 ?_
    try simp only [z]
    refine tk (i:=10) (v:=undef) rfl (.inr ⟨by rfl,rfl⟩) hS2 ?_
    try simp only [z]
    refine tk (i:=11) (v:=undef) rfl (.inr ⟨by rfl,rfl⟩) hS2 ?_
    try simp only [z]
    refine tk (i:=12) (v:=undef) rfl (.inr ⟨by rfl,rfl⟩) hS2 ?_
    try simp only [z]
    refine tk (i:=13) (v:=undef) rfl (.inr ⟨by rfl,rfl⟩) hS2 ?_
    try simp only [z]
    refine tk (i:=14) (v:=undef) rfl (.inr ⟨by rfl,rfl⟩) hS2 ?_
    try simp only [z]
    refine tk (i:=15) (v:=undef) rfl (.inr ⟨by rfl,rfl⟩) hS2 ?_
    try simp only [z]
    refine tk (i:=16) (v:=undef) rfl (.inr ⟨by rfl,rfl⟩) hS2 ?_
    try simp only [z]
    refine tk (i:=17) (v:=undef) rfl (.inr ⟨by rfl,rfl⟩) hS2 ?_
    try simp only [z]
    refine tk (i:=18) (v:=undef) rfl (.inr ⟨by rfl,rfl⟩) hS2 ?_
    try simp only [z]
    refine tk (i:=19) (v:=undef) rfl (.inr ⟨by rfl,rfl⟩) hS2 ?_
    try simp only [z]
    refine tk (i:=20) (v:=undef) rfl (.inr ⟨by rfl,rfl⟩) hS2 ?_
    try simp only [z]
    refine tk (i:=21) (v:=undef) rfl (.inr ⟨by rfl,rfl⟩) hS2 ?_
    try simp only [z]
    refine tk (i:=22) (v:=undef) rfl (.inr ⟨by rfl,rfl⟩) hS2 ?_
    try simp only [z]
    refine tk (i:=23) (v:=undef) rfl (.inr ⟨by rfl,rfl⟩) hS2 ?_
    try simp only [z]
    refine tk (i:=24) (v:=undef) rfl (.inr ⟨by rfl,rfl⟩) hS2 ?_
    try simp only [z]
    refine tk (i:=25) (v:=.bool true) rfl (.inl ⟨by rfl,fun W' hS'=>by go_simp⟩) hS2 ?_
    try simp only [z]
    refine tk (i:=26) (v:=.bool true) rfl (.inl ⟨by rfl,fun W' hS'=>by go_simp⟩) hS2 ?_
    try simp only [z]
    refine tk (i:=27) (v:=undef) rfl (.inr ⟨by rfl,rfl⟩) hS2 ?_
    try simp only [z]
    refine tk (i:=28) (v:=undef) rfl (.inr ⟨by rfl,rfl⟩) hS2 ?_
    try simp only [z]
    refine tk (i:=29) (v:=undef) rfl (.inr ⟨by rfl,rfl⟩) hS2 ?_
    try simp only [z]
    refine tk (i:=30) (v:=undef) rfl (.inr ⟨by rfl,rfl⟩) hS2 ?_
    try simp only [z]
    refine tk (i:=31) (v:=undef) rfl (.inr ⟨by rfl,rfl⟩) hS2 ?_
    try simp only [z]
    refine tk (i:=32) (v:=undef) rfl (.inr ⟨by rfl,rfl⟩) hS2 ?_
    try simp only [z]
    refine tk (i:=33) (v:=undef) rfl (.inr ⟨by rfl,rfl⟩) hS2 ?_
    try simp only [z]
    refine tk (i:=34) (v:=undef) rfl (.inr ⟨by rfl,rfl⟩) hS2 ?_
    try simp only [z]
    refine tk (i:=35) (v:=undef) rfl (.inr ⟨by rfl,rfl⟩) hS2 ?_
    try simp only [z]
    refine tk (i:=36) (v:=undef) rfl (.inr ⟨by rfl,rfl⟩) hS2 ?_
    try simp only [z]
    refine tk (i:=37) (v:=undef) rfl (.inr ⟨by rfl,rfl⟩) hS2 ?_
    try simp only [z]
    refine tk (i:=38) (v:=.bool true) rfl (.inl ⟨by rfl,fun W' hS'=>by go_simp⟩) hS2 ?_
    try simp only [z]
    refine wpAnyH_done (by kernel_rfl) ?_ _
    go_wp2
    go_ret
    exact⟨by rw [Hf.out];rfl,hb.trans (hS2.mono hb.size)⟩
  ·obtain rfl:k=l.length:=by omega
   have hf:Hid (Ch.valid gr l=true):=by show _=_;unfold Ch.valid;rw [Hg.out,decide_eq_true (by have:=Hle.out;omega)];rfl
   clear h
   go_wp2
   go_ret
   exact⟨by rw [hf.out];rfl,hb⟩
end
end Go.Proofs.YtniaimjknmhapaaGreatDoor
namespace Go.Proofs.YtniaimjknmhapaaGreatDoor
open Go.Proofs.Tryz Go.RowKit

section
variable (w:World)
theorem mapr_any (e:Ent) (A:Option Addr) (n c:Nat) (gch:List Acc) (hl:gch.length=n) (hn:n<=100000) (hgw:∀ a∈gch,a.wf) (he:e.At w w.heap.size) (hg:AccsAt w w.heap.size A gch) :
  Calls prog 270 #[.agg #[.string e.name,.string e.cur,.slice e.cA e.cn e.cc,.slice e.lA e.ln e.lc,.bool e.joint],.slice A n c] w fun r w'=>r=.returned (.bool (Gr.mapping e.chart gch e.links))/\Below w.heap.size w w':=by
 obtain⟨W1,hW1,hB0,hb0,hz⟩:=nw1 w #[.string e.name,.string e.cur,.slice e.cA e.cn e.cc,.slice e.lA e.ln e.lc,.bool e.joint] 102
 have HW:=Z1 hW1
 have he1:=he.at_ hB0
 have hg1:=RowsAt.at_ hg hB0
 have x2:=cr9 2 hb0
 have x3:=cr9 3 hb0
 simp at x2 x3
 have s1:w.heap.size<W1.heap.size:=by omega
 have Hb0:=Z1 hb0
 have Hgw:=Z1 hgw
 have Hcl:=Z1 he.hcl
 have Hcn:=Z1 he.hcn
 have Hcw:=Z1 he.hcw
 have Hll:=Z1 he.hll
 have hln:=he.hln
 have Hlw:=Z1 he.hlw
 have hmm:=@run_makeMap prog
 clear hW1 hz hb0 hgw
 go_enter func270,ntmps270
 go_upto_region 1 with(fail)
 rw [<- HW.out]
 go_wp2_with (fail)
 refine(validr_any W1 A n c gch true hl hn hg1).mono ?_
 rintro r W2 ⟨rfl,hB2⟩
 have hB02:=hB0.trans (hB2.mono hB0.size)
 have hb2:=gbox Hb0.out hB2 s1
 have he2:=he1.at_ hB2
 clear x2 x3
 by_cases h1:Ch.valid true gch=true
 ·have x2:=cr9 2 hb2
  have x3:=cr9 3 hb2
  simp at x2 x3
  have s2:w.heap.size<W2.heap.size:=some_lt hb2
  have Hb2:=Z1 hb2
  have H1:=Z1 h1
  have hc2:=he2.hc
  rw [h1]
  clear hb2 h1 he he1 hg
  go_wp2_with (fail)
  refine(validr_any W2 e.cA e.cn e.cc e.chart false Hcl.out Hcn.out hc2).mono ?_
  rintro r W3 ⟨rfl,hB3⟩
  have hB03:=hB02.trans (hB3.mono hB02.size)
  have hb3:=gbox Hb2.out hB3 s2
  have he3:=he2.at_ hB3
  have hg3:=RowsAt.at_ (RowsAt.at_ hg1 hB2) hB3
  clear x2 x3 hc2 he2 hg1
  by_cases h2:Ch.valid false e.chart=true
  ·have x3:=cr9 3 hb3
   simp at x3
   have s3:w.heap.size<W3.heap.size:=some_lt hb3
   have Hb3:=Z1 hb3
   have H2:=Z1 h2
   rw [h2]
   clear hb3 h2
   by_cases h4:400<e.ln
   ·have h4':(400:Int)<(e.ln:Int):=by omega
    have HV:Hid (Gr.mapping e.chart gch e.links=false):=by show _=_;rw [Gr.mapping,decide_eq_false (by have:=Hll.out;omega)];simp
    clear h4
    go_wp2
    go_ret
    exact⟨by rw [HV.out];rfl,hB03⟩
   ·have h4':¬ (400:Int)<(e.ln:Int):=by omega
    have HV:Hid (Gr.mapping e.chart gch e.links=(List.range e.links.length).all (Gr.linkAt e.chart gch e.links)):=by
     show _=_;rw [Gr.mapping,H1.out,H2.out,decide_eq_true (by have:=Hll.out;omega)];rfl
    have hb4:=Hb3.out
    have x34:=cr9 3 hb4
    simp at x34
    have he4:=Z1 he3
    have Hg3:=Z1 hg3
    clear hb4 he3 hg3
    go_wp2
    go_loopw [5] (fun i wr=>∃ k:Nat,k<=e.ln/\i=.int .i64 k/\(List.range k).all (Gr.linkAt e.chart gch e.links)=true/\Below W3.heap.size W3 wr) (fun i _=>e.ln-(intOf i).toNat)
    case atStart=>exact⟨0,Nat.zero_le _,rfl,rfl,Below.refl _ _⟩
    case round =>
     obtain⟨k,hk,rfl,hall,hbr⟩:=hrel
     have Hall:=Z1 hall
     have hq3:=hbr.size
     have hbw:=hB03.trans (hbr.mono hB03.size)
     have hbx:=gbox Hb3.out hbr s3
     have x2:=cr9 2 hbx
     have x3r:=cr9 3 hbx
     simp at x2 x3r
     have sw:w.heap.size<wr.heap.size:=some_lt hbx
     have Hbx:=Z1 hbx
     clear hall x3 x34 hbx
     by_cases hlt:k<e.ln
     ·have hkl:k<e.links.length:=by have:=Hll.out;omega
      obtain⟨b,o,hAe,hbB,c0,c1,c2⟩:=LnksAt.three (RowsAt.below he4.out.hl hbr (Nat.le_refl _)) hkl
      have hbwr:b<wr.heap.size:=by omega
      obtain⟨hBa,hra,hza⟩:=row_new wr #[.int .i64 (e.links[k]).frm,.int .i64 (e.links[k]).to,.int .i64 (e.links[k]).since] 150
      have hbx2:=gbox Hbx.out hBa sw
      obtain⟨Wa,hWa⟩:∃ Wa,Wa=(wr.alloc (.cells #[.int .i64 (e.links[k]).frm,.int .i64 (e.links[k]).to,.int .i64 (e.links[k]).since] 150)):=⟨_,rfl⟩
      rw [<- hWa] at hBa hra hza hbx2
      have HWa:=Z1 hWa
      have hba:=hbr.trans (hBa.mono hq3)
      have hcA:=(RowsAt.below he4.out.hc hba (Nat.le_refl _)).more hba.size
      have Hlat:=Z1 (lat_lt hkl)
      have Hfr:=Z1 (fresh_eq hkl)
      have Hra:=Z1 hra
      have Hbx2:=Z1 hbx2
      have hbF:=hB03.trans (hba.mono hB03.size)
      clear hWa
      go_upto_region 7 with(fail)
      rw [<- HWa.out]
      have HAe:=Z1 hAe
      have y0:=cr9 0 hra
      have w2:=cr9 2 hbx2
      simp at y0 w2
      have t1:wr.heap.size<Wa.heap.size:=some_lt hra
      have t3:w.heap.size<Wa.heap.size:=some_lt hbx2
      clear hAe hra hbx2 c0 c1 c2 x2 x3r
      go_wp2_with (fail)
      refine(findr_any Wa e.cA e.cn e.cc e.chart e.links[k].frm Hcl.out Hcn.out hcA).mono ?_
      rintro r Wb ⟨rfl,hBb⟩
      obtain⟨q,hq⟩:∃ q,q=Ch.found e.chart e.links[k].frm:=⟨_,rfl⟩
      rw [<- hq]
      have Hq:=Z1 hq
      obtain⟨hBc,hrc,hzc⟩:=row_new Wb #[.int .i64 (q).code,.int .i64 (q).kind,.int .i64 (q).basis,.int .i64 (q).parent] 87
      have hrb:=gbox (gbox Hra.out hBb t1) hBc (some_lt (gbox Hra.out hBb t1))
      have hbxb:=gbox (gbox Hbx2.out hBb t3) hBc (some_lt (gbox Hbx2.out hBb t3))
      have hbc:=(hba.trans (hBb.mono hba.size)).trans (hBc.mono (hba.trans (hBb.mono hba.size)).size)
      obtain⟨Wc,hWc⟩:∃ Wc,Wc=(Wb.alloc (.cells #[.int .i64 (q).code,.int .i64 (q).kind,.int .i64 (q).basis,.int .i64 (q).parent] 87)):=⟨_,rfl⟩
      rw [<- hWc] at hBc hrc hzc hrb hbxb hbc
      have HWc:=Z1 hWc
      have hgc:=(RowsAt.below Hg3.out hbc (Nat.le_refl _)).more hbc.size
      have Hrb:=Z1 hrb
      have Hbxb:=Z1 hbxb
      have Hrc:=Z1 hrc
      clear y0 w2 hWc hq hcA
      have y1:=cr9 1 hrb
      simp at y1
      have t4:wr.heap.size<Wc.heap.size:=some_lt hrb
      clear hrb hbxb hrc
      go_upto_region 8 with(fail)
      rw [<- HWc.out]
      go_wp2_with (fail)
      refine(findr_any Wc A n c gch e.links[k].to hl hn hgc).mono ?_
      rintro r Wd ⟨rfl,hBd⟩
      obtain⟨p,hp⟩:∃ p,p=Ch.found gch e.links[k].to:=⟨_,rfl⟩
      rw [<- hp]
      have Hp:=Z1 hp
      obtain⟨hBe,hre,hze⟩:=row_new Wd #[.int .i64 (p).code,.int .i64 (p).kind,.int .i64 (p).basis,.int .i64 (p).parent] 87
      have hr1:=gbox Hrb.out hBd t4
      have hr1':=gbox hr1 hBe (some_lt hr1)
      have hx1:=gbox Hbxb.out hBd (some_lt Hbxb.out)
      have hx1':=gbox hx1 hBe (some_lt hx1)
      have hqd:=gbox Hrc.out hBd (some_lt Hrc.out)
      have hqd':=gbox hqd hBe (some_lt hqd)
      have hbe:=(hbc.trans (hBd.mono hbc.size)).trans (hBe.mono (hbc.trans (hBd.mono hbc.size)).size)
      obtain⟨We,hWe⟩:∃ We,We=(Wd.alloc (.cells #[.int .i64 (p).code,.int .i64 (p).kind,.int .i64 (p).basis,.int .i64 (p).parent] 87)):=⟨_,rfl⟩
      rw [<- hWe] at hBe hre hze hr1' hx1' hqd' hbe
      have HWe:=Z1 hWe
      have Hr1:=Z1 hr1'
      have Hx1:=Z1 hx1'
      clear y1 hWe hp hgc hr1 hx1 hqd
      have y2:=cr9 2 hr1'
      have q1:=cr9 1 hqd'
      have p1:=cr9 1 hre
      simp at y2 q1 p1
      have t5:wr.heap.size<We.heap.size:=some_lt hr1'
      have t6:Wb.heap.size<We.heap.size:=some_lt hqd'
      have t7:Wd.heap.size<We.heap.size:=some_lt hre
      have hbFe:=hB03.trans (hbe.mono hB03.size)
      clear hr1' hx1' hqd' hre
      go_upto_region 9 with(fail)
      rw [<- HWe.out]
      have hbad:Gr.linkOk e.chart gch e.links[k]=false->Hid (Gr.mapping e.chart gch e.links=false):=fun h=>Z1 (mapping_bad hkl (by rw [Gr.linkAt,Hlat.out,h];rfl))
      by_cases h1:Ch.has e.chart e.links[k].frm=true
      case neg =>
       have h1':Ch.has e.chart e.links[k].frm=false:=by simpa using h1
       have HV2:=hbad (by rw [Gr.linkOk,h1'];rfl)
       rw [h1']
       clear h1 h1' hbad
       go_wp2
       go_ret
       exact⟨by rw [HV2.out];rfl,hbFe⟩
      by_cases h2:Ch.has gch e.links[k].to=true
      case neg =>
       have h2':Ch.has gch e.links[k].to=false:=by simpa using h2
       have HV2:=hbad (by rw [Gr.linkOk,h1,h2'];rfl)
       rw [h1,h2']
       clear h1 h2 h2' hbad
       go_wp2
       go_ret
       exact⟨by rw [HV2.out];rfl,hbFe⟩
      by_cases h3:q.kind=p.kind
      case neg =>
       have h3b:(q.kind != p.kind)=true:=by simp [h3]
       have HV2:=hbad (by rw [Gr.linkOk,h1,h2,<- Hq.out,<- Hp.out,decide_eq_false h3];rfl)
       rw [h1,h2]
       clear h1 h2 h3 hbad
       go_wp2
       go_ret
       exact⟨by rw [HV2.out];rfl,hbFe⟩
      have h3b:(q.kind != p.kind)=false:=by simp [h3]
      by_cases h4:Gr.date e.links[k].since=true
      case neg =>
       have h4':Gr.date e.links[k].since=false:=by simpa using h4
       have HV2:=hbad (by rw [Gr.linkOk,h4'];simp)
       have h4d:decide (-25567<=e.links[k].since/\e.links[k].since<=84005)=false:=h4'
       rw [h1,h2]
       clear h1 h2 h3 hbad h4 h4'
       go_wp2_with (fail)
       refine(rvalid_any e.links[k].since We).mono ?_
       rw [h4d]
       rintro r Wf ⟨rfl,rfl⟩
       go_wp2
       go_ret
       exact⟨by rw [HV2.out];rfl,hbFe⟩
      have h4d:decide (-25567<=e.links[k].since/\e.links[k].since<=84005)=true:=h4
      have Hok:Hid (Gr.linkOk e.chart gch e.links[k]=true):=by show _=_;rw [Gr.linkOk,h1,h2,h4,<- Hq.out,<- Hp.out,decide_eq_true h3];rfl
      rw [h1,h2]
      clear h1 h2 h3 h4 hbad
      go_wp2_with (fail)
      refine(rvalid_any e.links[k].since We).mono ?_
      rw [h4d]
      rintro r Wf ⟨rfl,rfl⟩
      clear y2 q1 p1 h4d
      go_wp2
      obtain⟨wo,rfl⟩:∃ wo:World,wo=wr:=⟨_,rfl⟩
      go_loopw [11] (fun j wr=>∃ m:Nat,m<=k/\j=.int .i64 m/\(e.links.take m).any (fun r=>decide (r.frm=e.links[k].frm)&&decide (r.since=e.links[k].since))=false/\Below We.heap.size We wr) (fun j _=>k-(intOf j).toNat)
      case atStart=>exact⟨0,Nat.zero_le _,rfl,rfl,Below.refl _ _⟩
      case round =>
       obtain⟨m,hm,rfl,hno,hbi⟩:=hrel
       have Hno:=Z1 hno
       have hqi:=hbi.size
       have hbFi:=hbFe.trans (hbi.mono hbFe.size)
       clear hno
       by_cases hmk:m<k
       ·have hml:m<e.links.length:=by omega
        have hbei:=hbe.trans (hbi.mono hbe.size)
        obtain⟨b',o',hA',_,d0,d1,d2⟩:=LnksAt.three (RowsAt.below he4.out.hl hbei (Nat.le_refl _)) hml
        rw [HAe.out] at hA'
        cases hA'
        have hr2:=gbox Hr1.out hbi (some_lt Hr1.out)
        have hx2:=gbox Hx1.out hbi (some_lt Hx1.out)
        have y0:=cr9 0 hr2
        have y2:=cr9 2 hr2
        have x3:=cr9 3 hx2
        simp at y0 y2 x3
        rw [HAe.out] at x3
        have i0:(0:Int)<=(m:Int):=by omega
        have i1:(m:Int)<(e.ln:Int):=by omega
        have u1:wo.heap.size<wr.heap.size:=some_lt hr2
        have u2:w.heap.size<wr.heap.size:=some_lt hx2
        have u3:b<wr.heap.size:=by omega
        obtain⟨f1,hf1⟩:∃ f1,f1=e.links[m].frm:=⟨_,rfl⟩
        obtain⟨f2,hf2⟩:∃ f2,f2=e.links[m].since:=⟨_,rfl⟩
        rw [<- hf1] at d0
        rw [<- hf2] at d2
        have Hf1:=Z1 hf1
        have Hf2:=Z1 hf2
        clear hr2 hx2 hf1 hf2 d1
        by_cases g1:f1=e.links[k].frm
        ·have g1b:(f1==e.links[k].frm)=true:=by simp [g1]
         have G1:=Z1 g1
         clear g1
         by_cases g2:f2=e.links[k].since
         ·have g2b:(f2==e.links[k].since)=true:=by simp [g2]
          have HV2:=Z1 (mapping_bad (chart:=e.chart) (gch:=gch) hkl (by
           rw [Gr.linkAt,Hlat.out,Hfr.out]
           have:(e.links.take k).any (fun r=>decide (r.frm=e.links[k].frm)&&decide (r.since=e.links[k].since))=true:=by
            rw [List.any_eq_true]
            exact⟨e.links[m],List.mem_take_iff_getElem.2 ⟨m,by omega,rfl⟩,by rw [<- Hf1.out,<- Hf2.out,G1.out,g2];simp⟩
           rw [this];simp))
          clear g2
          go_wp2_with (go_quiet (fail))
          go_ret
          exact⟨by rw [HV2.out];rfl,below_drawn hbFi _⟩
         ·have g2b:(f2==e.links[k].since)=false:=by simp [g2]
          have Hno2:Hid ((e.links.take (m+1)).any (fun r=>decide (r.frm=e.links[k].frm)&&decide (r.since=e.links[k].since))=false):=by
           show _=_
           rw [List.take_succ_eq_append_getElem hml,List.any_append,Hno.out]
           simp [<- Hf2.out,g2]
          clear g2
          go_wp2_with (go_quiet (fail))
          go_roundw
          case rel=>exact⟨m+1,by omega,by go_num,Hno2.out,below_drawn hbi _⟩
          case measure=>simp [intOf];omega
        ·have g1b:(f1==e.links[k].frm)=false:=by simp [g1]
         have Hno2:Hid ((e.links.take (m+1)).any (fun r=>decide (r.frm=e.links[k].frm)&&decide (r.since=e.links[k].since))=false):=by
          show _=_
          rw [List.take_succ_eq_append_getElem hml,List.any_append,Hno.out]
          simp [<- Hf1.out,g1]
         clear g1
         go_wp2_with (go_quiet (fail))
         go_roundw
         case rel=>exact⟨m+1,by omega,by go_num,Hno2.out,below_drawn hbi _⟩
         case measure=>simp [intOf];omega
       ·obtain rfl:m=k:=by omega
        have Hall2:=Z1 (Gr.range_all Hall.out (show Gr.linkAt e.chart gch e.links m=true by rw [Gr.linkAt,Hlat.out,Hfr.out,Hno.out,Hok.out];rfl))
        have hb3e:=hbe.trans (hbi.mono hbe.size)
        go_wp2
        go_roundw
        case rel=>exact⟨m+1,by omega,by go_num,Hall2.out,hb3e⟩
        case measure=>simp [intOf];omega
     ·obtain rfl:k=e.ln:=by omega
      have HV2:Hid (Gr.mapping e.chart gch e.links=true):=by show _=_;rw [HV.out,Hll.out];exact Hall.out
      go_wp2
      go_ret
      exact⟨by rw [HV2.out];rfl,hbw⟩
  ·have h2':Ch.valid false e.chart=false:=by simpa using h2
   have HV:Hid (Gr.mapping e.chart gch e.links=false):=by show _=_;rw [Gr.mapping,h2'];simp
   rw [h2']
   clear h2 h2' hb3 he3 hg3
   go_wp2
   go_ret
   exact⟨by rw [HV.out];rfl,hB03⟩
 ·have h1':Ch.valid true gch=false:=by simpa using h1
  have HV:Hid (Gr.mapping e.chart gch e.links=false):=by show _=_;rw [Gr.mapping,h1'];simp
  rw [h1']
  clear h1 h1' hb2 he2 he he1
  go_wp2
  go_ret
  exact⟨by rw [HV.out];rfl,hB02⟩
end
end Go.Proofs.YtniaimjknmhapaaGreatDoor
