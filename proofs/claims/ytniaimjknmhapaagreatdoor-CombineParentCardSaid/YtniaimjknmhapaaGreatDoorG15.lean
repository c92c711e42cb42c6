/- My texts PartsZD, TextQD. -/
import Derived.Test.YtniaimjknmhapaaGreatDoorG12
import Derived.Test.YtniaimjknmhapaaGreatDoorG14
set_option linter.unusedVariables false
set_option linter.unusedSimpArgs false
set_option maxRecDepth 100000
set_option maxHeartbeats 16000000
namespace Go.Proofs.YtniaimjknmhapaaGreatDoor
open Go.RowKit
section
variable (w:World)
end
end Go.Proofs.YtniaimjknmhapaaGreatDoor
namespace Go.Proofs.YtniaimjknmhapaaGreatDoor
open Go.Proofs.Tryz Go.RowKit
theorem tab_up {B C:Nat} {w:World} (h:Tab B w) (hC:B<=C):Tab C w:=fun w' hb=>h w' (hb.mono hC)
theorem PI.text_len {w:World} {B k:Nat} {v:Value} {z:Int} (h:PI w B k v z) (hz0:0<=z):(Lib.decDigits z.toNat).length<=9*k+1:=by
 obtain⟨neg,A,n,c,l,rfl,hl,hn,hc,hL,hN,hz,hA,hs⟩:=h.parts
 have hng:neg=false:=by rcases hs with⟨_,e,_⟩ | ⟨_,e,_⟩ | ⟨_,_,e⟩;exact e;exact e;omega
 subst hng
 rcases Nat.eq_zero_or_pos l.length with h0 | h0
 ·have hl0:l=[]:=List.length_eq_zero_iff.1 h0
  rw [hl0] at hz
  have:z=0:=by simpa [Big.sgn,Big.val] using hz
  rw [this,show(0:Int).toNat=0 from rfl,Dec.digits_small (by omega)]
  simp
 ·have h1:=Dec.text_val (k:=9) (B:=1000000000) (by decide) hL hN h0
  have h2:z=Big.val 1000000000 l:=hz
  rw [h2,<- h1]
  have h3:=Dec.text_len 9 (l.map Int.toNat) (fun a ha=>by
   rw [List.mem_map] at ha
   obtain⟨b,hb,rfl⟩:=ha
   have:=hL b hb
   omega) (by omega)
  rw [List.length_map] at h3
  omega
section
variable (w:World)
theorem textqp_any (k j:Nat) (g1:Bool) (A1:Option Addr) (n1 c1:Nat) (g2:Bool) (A2:Option Addr) (n2 c2:Nat) (N D:Int) (hk:k<=900) (hj:j<=900) (hN:0<=N) (hD:0<D)
  (h:∀ W,Below w.heap.size w W->Calls prog 42 #[.agg #[.bool g1,.slice A1 n1 c1,.bool g2,.slice A2 n2 c2]] W (PartsPost k j N D W)) (hT:Tab w.heap.size w) :
  Calls prog 19 #[.agg #[.bool g1,.slice A1 n1 c1,.bool g2,.slice A2 n2 c2]] w fun e w'=>e=.returned (.string ⟨(Dec.frac N.toNat D.toNat).toArray⟩)/\Below w.heap.size w w':=by
 obtain⟨w1,hw1⟩:∃ W,W=w.alloc (.cells #[.bool g1,.slice A1 n1 c1,.bool g2,.slice A2 n2 c2] 43):=⟨_,rfl⟩
 have hB1:Below w.heap.size w w1:=by rw [hw1];exact(Below.refl _ _).alloc (Nat.le_refl _) _
 have hb1:w1.heap[w.heap.size]?=some (.cells #[.bool g1,.slice A1 n1 c1,.bool g2,.slice A2 n2 c2] 43 (0,0)):=by rw [hw1];exact heap_alloc_new w _
 have HW1:=Z1 hw1
 have s1:=some_lt hb1
 have HR:=Z1 (h w1 hB1)
 have x0:=cr9 0 hb1
 have x1:=cr9 1 hb1
 have x2:=cr9 2 hb1
 have x3:=cr9 3 hb1
 simp at x0 x1 x2 x3
 have HT1:=Z1 (hT.on hB1:Tab w.heap.size w1)
 clear hT
 clear hw1 hb1 h
 go_enter func19,ntmps19
 go_upto_region 1 with(fail)
 rw [<- HW1.out]
 go_wp2_with (fail)
 refine HR.out.mono ?_
 rintro e W2 ⟨⟨a1,B1,m1,d1,a2,B2,m2,d2,rfl,hp1,hp2⟩,hB2⟩
 obtain⟨hBa,hra1,hra2,hza⟩:=rows2 W2 #[.bool a1,.slice B1 m1 d1] #[.bool a2,.slice B2 m2 d2] 41
 obtain⟨W3,hW3⟩:∃ W,W=((W2.alloc (.cells #[.bool a1,.slice B1 m1 d1] 41)).alloc (.cells #[.bool a2,.slice B2 m2 d2] 41)):=⟨_,rfl⟩
 rw [<- hW3] at hBa hra1 hra2 hza
 have HW3:=Z1 hW3
 have hB03:=(hB1.trans (hB2.mono hB1.size)).trans (hBa.mono (Nat.le_trans hB1.size hB2.size))
 have HB03:=Z1 hB03
 have Hra1:=Z1 hra1
 have Hra2:=Z1 hra2
 have q1:=some_lt hra1
 have q2:=some_lt hra2
 have Hp1:=Z1 (hp1.at_ hBa)
 have Hp2:=Z1 (hp2.at_ hBa)
 have Hl1:=Z1 (hp1.text_len hN)
 have Hl2:=Z1 (hp2.text_len (Int.le_of_lt hD))
 have HT3:=Z1 (HT1.out.on ((hB2.mono hB1.size).trans (hBa.mono (Nat.le_trans hB1.size hB2.size))):Tab w.heap.size W3)
 clear hW3 hBa hra1 hra2 hza hp1 hp2 hB03 x0 x1 x2 x3 hB2 HR
 go_upto_region 2 with(fail)
 rw [<- HW3.out]
 by_cases hd1:D=1
 ·skip
  have hcm:(cm D 1==0)=true:=by rw [hd1];rfl
  have Hcm:=Z1 hcm
  have HD1:Hid (Dec.frac N.toNat D.toNat=Lib.decDigits N.toNat):=Z1 (by unfold Dec.frac;rw [if_pos (by omega)])
  clear hcm hd1
  have hS:Below W3.heap.size W3 W3.drew:=below_drawn (Below.refl _ _) 1
  refine wp_region_held (S:=Below W3.heap.size W3) (by kernel_rfl) ?_
  change wpAnyH _ _ _ _ _ _ _ _ (World.drew W3)
  obtain⟨WC0,hWd⟩:∃ W,W=W3.drew:=⟨_,rfl⟩
  rw [<- hWd] at hS ⊢
  clear hWd
  refine tk (i:=0) (v:=.agg #[.bool a2,.slice B2 m2 d2]) rfl (yieldsIf_load_mid (by rfl) 41 _ rfl (W2.heap.size+1) 0 rfl [.bool a2,.slice B2 m2 d2] _ (fun W' hS'=>range2 ((hS'.block _ q2).trans Hra2.out)) underlying41 rfl intSize) hS ?_
  try simp only [z]
  refine rd9 1 (by kernel_rfl) rfl (fun K hK=>?_)
  go_simp
  refine(of_int WC0 1 (by omega) (by omega)).mono ?_
  rintro e WC1 ⟨⟨r1,rfl,hr1⟩,hBc⟩
  have hV1:=hS.trans (hBc.mono hS.size)
  obtain⟨h1,C1,f1,e1,rfl⟩:=hr1.open
  refine hK.out _ _ hV1 (fun _=>?_)
  clear hK K
  try simp only [z]
  refine rd9 2 (by kernel_rfl) rfl (fun K hK=>?_)
  go_simp
  refine(cmp_int WC1 j 3 _ _ D 1 (by omega) (by omega) (Hp2.out.at_ hV1) hr1).mono ?_
  rintro e WC2 ⟨rfl,hBc2⟩
  have hV2:=hV1.trans (hBc2.mono hV1.size)
  refine hK.out _ _ hV2 (fun _=>?_)
  clear hK K
  try simp only [z]
  refine rd9 3 (by kernel_rfl) rfl (fun K hK=>?_)
  go_simp
  rw [Hcm.out]
  refine hK.out _ _ hV2 (fun _=>?_)
  clear hK K
  try simp only [z]
  refine wpAnyH_done (by kernel_rfl) ?_ _
  try simp only [z]
  have hBw:=HB03.out.trans (hV2.mono HB03.out.size)
  have hn1:=(hV2.block _ q1).trans Hra1.out
  have y0:=cr9 0 hn1
  have y1:=cr9 1 hn1
  simp at y0 y1
  have o1:=some_lt hn1
  have HBw:=Z1 hBw
  have HP:=Z1 (Hp1.out.at_ hV2)
  have HT4:=Z1 (tab_up (HT3.out.on (hV2.mono HB03.out.size)) HBw.out.size)
  clear hn1 hBw hS hV1 hV2 hBc hBc2 hr1
  go_wp2_with (fail)
  refine(textd_any WC2 k _ N (by omega) hN HP.out HT4.out).mono ?_
  rintro e WC3 ⟨rfl,hBd⟩
  go_wp2
  go_ret
  exact⟨by rw [HD1.out];rfl,HBw.out.trans (hBd.mono HBw.out.size)⟩
 ·skip
  have hcm:(cm D 1==0)=false:=by unfold cm;simp;split <;> (try split) <;> omega
  have Hcm:=Z1 hcm
  have HD1:Hid (Dec.frac N.toNat D.toNat=Lib.decDigits N.toNat++47::Lib.decDigits D.toNat):=Z1 (by unfold Dec.frac;rw [if_neg (by omega)])
  clear hcm hd1
  have hS:Below W3.heap.size W3 W3.drew:=below_drawn (Below.refl _ _) 1
  refine wp_region_held (S:=Below W3.heap.size W3) (by kernel_rfl) ?_
  change wpAnyH _ _ _ _ _ _ _ _ (World.drew W3)
  obtain⟨WC0,hWd⟩:∃ W,W=W3.drew:=⟨_,rfl⟩
  rw [<- hWd] at hS ⊢
  clear hWd
  refine tk (i:=0) (v:=.agg #[.bool a2,.slice B2 m2 d2]) rfl (yieldsIf_load_mid (by rfl) 41 _ rfl (W2.heap.size+1) 0 rfl [.bool a2,.slice B2 m2 d2] _ (fun W' hS'=>range2 ((hS'.block _ q2).trans Hra2.out)) underlying41 rfl intSize) hS ?_
  try simp only [z]
  refine rd9 1 (by kernel_rfl) rfl (fun K hK=>?_)
  go_simp
  refine(of_int WC0 1 (by omega) (by omega)).mono ?_
  rintro e WC1 ⟨⟨r1,rfl,hr1⟩,hBc⟩
  have hV1:=hS.trans (hBc.mono hS.size)
  obtain⟨h1,C1,f1,e1,rfl⟩:=hr1.open
  refine hK.out _ _ hV1 (fun _=>?_)
  clear hK K
  try simp only [z]
  refine rd9 2 (by kernel_rfl) rfl (fun K hK=>?_)
  go_simp
  refine(cmp_int WC1 j 3 _ _ D 1 (by omega) (by omega) (Hp2.out.at_ hV1) hr1).mono ?_
  rintro e WC2 ⟨rfl,hBc2⟩
  have hV2:=hV1.trans (hBc2.mono hV1.size)
  refine hK.out _ _ hV2 (fun _=>?_)
  clear hK K
  try simp only [z]
  refine rd9 3 (by kernel_rfl) rfl (fun K hK=>?_)
  go_simp
  rw [Hcm.out]
  refine hK.out _ _ hV2 (fun _=>?_)
  clear hK K
  try simp only [z]
  refine wpAnyH_done (by kernel_rfl) ?_ _
  try simp only [z]
  have hBw:=HB03.out.trans (hV2.mono HB03.out.size)
  clear hS hV1 hBc hBc2 hr1
  have hn1:=(hV2.block _ q1).trans Hra1.out
  have hn2:=(hV2.block _ q2).trans Hra2.out
  have Hn1:=Z1 hn1
  have Hn2:=Z1 hn2
  have o1:=some_lt hn1
  have o2:=some_lt hn2
  have HPa:=Z1 (Hp1.out.at_ hV2)
  have HPb:=Z1 (Hp2.out.at_ hV2)
  have HB:=Z1 (hBw)
  have HT4:=Z1 (HT3.out.on (hV2.mono HB03.out.size):Tab w.heap.size WC2)
  obtain⟨ns,hns⟩:∃ ns,ns=Lib.decDigits N.toNat:=⟨_,rfl⟩
  obtain⟨ds,hds⟩:∃ ds,ds=Lib.decDigits D.toNat:=⟨_,rfl⟩
  have Hns:=Z1 hns
  have Hds:=Z1 hds
  have hl1:=Hl1.out
  have hl2:=Hl2.out
  rw [<- hns] at hl1
  rw [<- hds] at hl2
  have hz1:¬ 9223372036854775807<ns.length+1:=by omega
  have hz2:¬ 9223372036854775807<ns.length+1+ds.length:=by omega
  have hz3:¬ 9223372036854775807<(ns++[47]).length+ds.length:=by rw [List.length_append];exact hz2
  clear hn1 hn2 hns hds hl1 hl2
  go_upto_region 4 with(fail)
  have hS:Below WC2.heap.size WC2 WC2.drew:=below_drawn (Below.refl _ _) 1
  refine wp_region_held (S:=Below WC2.heap.size WC2) (by kernel_rfl) ?_
  change wpAnyH _ _ _ _ _ _ _ _ (World.drew WC2)
  obtain⟨WE0,hWd⟩:∃ W,W=WC2.drew:=⟨_,rfl⟩
  rw [<- hWd] at hS ⊢
  clear hWd
  refine tk (i:=0) (v:=.agg #[.bool a1,.slice B1 m1 d1]) rfl (yieldsIf_load_mid (by rfl) 41 _ rfl W2.heap.size 0 rfl [.bool a1,.slice B1 m1 d1] _ (fun W' hS'=>range2 ((hS'.block _ o1).trans Hn1.out)) underlying41 rfl intSize) hS ?_
  try simp only [z]
  refine tk (i:=3) (v:=.agg #[.bool a2,.slice B2 m2 d2]) rfl (yieldsIf_load_mid (by rfl) 41 _ rfl (W2.heap.size+1) 0 rfl [.bool a2,.slice B2 m2 d2] _ (fun W' hS'=>range2 ((hS'.block _ o2).trans Hn2.out)) underlying41 rfl intSize) hS ?_
  try simp only [z]
  refine rd9 1 (by kernel_rfl) rfl (fun K hK=>?_)
  go_simp
  refine(textd_any WE0 k _ N (by omega) hN (HPa.out.at_ hS) (tab_up (HT4.out.on (hS.mono HB.out.size)) (Nat.le_trans HB.out.size hS.size))).mono ?_
  rintro e WE1 ⟨rfl,hBe⟩
  rw [<- Hns.out]
  have hS1:=hS.trans (hBe.mono hS.size)
  refine hK.out _ _ hS1 (fun _=>?_)
  clear hK K
  try simp only [z]
  refine tk (i:=2) (v:=.string ⟨(ns++[47]).toArray⟩) rfl (.inl ⟨by rfl,fun W' hS'=>by(go_simp;first | done | (rw [if_neg hz1];simp [str_app]) | (simp [str_app]))⟩) hS1 ?_
  try simp only [z]
  refine rd9 4 (by kernel_rfl) rfl (fun K hK=>?_)
  go_simp
  refine(textd_any WE1 j _ D (by omega) (Int.le_of_lt hD) (HPb.out.at_ hS1) (tab_up (HT4.out.on (hS1.mono HB.out.size)) (Nat.le_trans HB.out.size hS1.size))).mono ?_
  rintro e WE2 ⟨rfl,hBe2⟩
  rw [<- Hds.out]
  have hS2:=hS1.trans (hBe2.mono hS1.size)
  refine hK.out _ _ hS2 (fun _=>?_)
  clear hK K
  try simp only [z]
  refine tk (i:=5) (v:=.string ⟨(ns++47::ds).toArray⟩) rfl (.inl ⟨by rfl,fun W' hS'=>by(go_simp;first | done | (rw [if_neg hz3];simp [str_app]) | (simp [str_app]))⟩) hS2 ?_
  try simp only [z]
  refine rd9 6 (by kernel_rfl) rfl (fun K hK=>?_)
  go_simp
  refine hK.out _ _ hS2 (fun _=>?_)
  clear hK K
  try simp only [z]
  refine wpAnyH_done (by kernel_rfl) ?_ _
  try simp only [z]
  go_wp2
  go_ret
  exact⟨by rw [HD1.out,Hns.out,Hds.out];rfl,HB.out.trans (hS2.mono HB.out.size)⟩
theorem textq_any (k j:Nat) (v:Value) (N D:Int) (hk:k<=900) (hj:j<=900) (hN:0<=N) (hD:0<D) (h:RI w w.heap.size k j v N D) (hT:Tab w.heap.size w) :
  Calls prog 19 #[v] w fun e w'=>e=.returned (.string ⟨(Dec.frac N.toNat D.toNat).toArray⟩)/\Below w.heap.size w w':=by
 obtain⟨g1,A1,n1,c1,g2,A2,n2,c2,rfl⟩:=h.open
 exact textqp_any w k j g1 A1 n1 c1 g2 A2 n2 c2 N D hk hj hN hD (fun W hW=>parts_any W k j _ N D (by omega) (h.at_ hW)) hT
end
end Go.Proofs.YtniaimjknmhapaaGreatDoor
