/- My texts RatRed, RatNew, RatParts, RefQuote. -/
import Derived.Test.YtniaimjknmhapaaGreatDoorG08
import Derived.Test.YtniaimjknmhapaaGreatDoorG02
set_option linter.unusedVariables false
set_option linter.unusedSimpArgs false
set_option maxRecDepth 100000
set_option maxHeartbeats 16000000
namespace Go.Proofs.YtniaimjknmhapaaGreatDoor
open Tryz Go.RowKit

theorem gbox {W W':World} {B b:Nat} {O:Obj} (hG:W.heap[b]?=some O) (hB:Below B W W') (hb:b<B):W'.heap[b]?=some O:=(hB.block b hb).trans hG
theorem gS {w w':World} {g:Nat} {o:Obj} (h:Hid (w.heap[g]?=some o)) (k:Below w.heap.size w w'):Hid (w'.heap[g]?=some o):=Z1 (gbox h.out k (Array.getElem?_eq_some_iff.1 h.out).1)
theorem gB {n:Nat} {w w':World} {g:Nat} {o:Obj} (h:Hid (w.heap[g]?=some o)) (k:Below n w w') (e:g<n):Hid (w'.heap[g]?=some o):=Z1 (gbox h.out k e)
def RI (w:World) (B k j:Nat) (v:Value) (N D:Int):Prop :=
 ∃(g1:Bool) (A1:Option Addr) (n1 c1:Nat) (g2:Bool) (A2:Option Addr) (n2 c2:Nat),v=.agg #[g1,.slice A1 n1 c1,g2,.slice A2 n2 c2] /\
  PI w B k (.agg #[g1,.slice A1 n1 c1]) N/\PI w B j (.agg #[g2,.slice A2 n2 c2]) D
theorem PI.open {w:World} {B k:Nat} {u:Value} {z:Int} (h:PI w B k u z):∃(g:Bool) (A:Option Addr) (n c:Nat),u=.agg #[g,.slice A n c]:=by
 obtain⟨g,A,n,c,l,e,_⟩:=h;exact⟨g,A,n,c,e⟩
theorem RI.at_ {w w':World} {k j:Nat} {v:Value} {N D:Int} (h:RI w w k j v N D) (hb:Below w w w'):RI w' w' k j v N D:=by
 obtain⟨g1,A1,n1,c1,g2,A2,n2,c2,e,h1,h2⟩:=h;exact⟨g1,A1,n1,c1,g2,A2,n2,c2,e,h1.at_ hb,h2.at_ hb⟩
def redBy (N D:Int):Int:=if D<0 then -(Int.gcd N D:Int) else (Int.gcd N D:Int)
theorem b0I {N D:Int} (h:D≠0):redBy N D≠0:=by
 have:0<Int.gcd N D:=Int.gcd_pos_of_ne_zero_right _ h;unfold redBy;split <;> omega
theorem b3m {N D:Int} (h:D≠0):(Int.gcd N D:Int)<=D.natAbs:=by
 have h1:Int.gcd N D ∣ D.natAbs:=Nat.gcd_dvd_right _ _;have:=Nat.le_of_dvd oM h1;omega
theorem PI.other {w w':World} {B k b:Nat} {v:Value} {z:Int} {cs:Array Value} {t:TypeId} {fr:Nat × Nat} (h:PI w B k v z) (hb:w.heap[b]?=some (.cells cs t fr)) (hcs:∀(j:Nat) (n:Int),cs[j]?≠some (.int .u32 n)) (hw:∀ c,c≠b->w'.heap[c]?=w.heap[c]?):PI w' B k v z:=by
 obtain⟨g,A,n,c,l,h1,h2,h3,h4,h5,h6,h7,h8,h9⟩:=h;refine⟨g,A,n,c,l,h1,h2,h3,h4,h5,h6,h7,h8,?_⟩
 rcases h9 with h | ⟨d,o,e,hl,hc⟩
 ·exact .inl h
 ·rcases Nat.eq_zero_or_pos l.length with h0 | h0
  ·exact .inl (List.length_eq_zero_iff.1 h0)
  ·have hne:d≠b:=by
    rintro rfl;have:=hc.1 0 h0;rw [cr9 _ hb] at this;exact hcs _ _ this
   exact .inr ⟨d,o,e,hl,fun j hj=>(World.cell?_of_block (w:=w) (hw d hne)).trans (hc.1 j hj),hc.2.of_block (hw d hne)⟩
theorem Vx {P:Program} {ops:Array Oper} {rest:List Oper} {o:Oper} {a:Act} {w:World} {Q:Exit->Act->World->Prop} (hgd:o.guard=none) (ty:TypeId) (x y:Operand) (d:Option Tmp) (ho:o.op=.store ty x y) (hd:o.dst=d)
  (b:Nat) (t:TypeId) (old cells:Array Value) (hx:a.eval x=.pointer (some ⟨b,0,none⟩)) (hy:a.eval y=.agg cells)
  (hg:w.heap[b]?=some (.cells old t (0,0))) (hs:old.size=cells.size) (hi:(P.info? ty).map (·.size)=some cells.size) (h1:cells.all (·.oneCell')=true)
  (h:wpList P ops Q rest (a.put d undef) (w.setRow b cells)):wpList P ops Q (o::rest) a w :=
 wpList_plain hgd fun _ hK=>VX ty x y d ho hd b t old cells hx hy hg hs hi h1 (hK _ _ h)
theorem Vy:(prog.info? 43).map (·.size)=some 4:=kR
section
variable (w:World)
theorem b2o (Bk k:Nat) (hBk:Bk<=w.heap.size) (v:Value) (z:Int) (hk:k<=100000000000) (h:PI w Bk k v z) :
  Calls prog 72 #[v] w fun e w'=>(∃ u,e=.returned u/\PI w' Bk k u (-z))/\Below w w w':=by
 obtain⟨neg,A,n,c,l,rfl,hl,hn,hc,hL,hN,hz,hA,_⟩:=h.parts;have E:Hid (-z=Big.sgn (!neg) (Big.val 1000000000 l)):=by show _=_;rw [hz];cases neg <;> simp [Big.sgn]
 have H:=Z1 (((hA.more hBk).start (.cells #[neg,.slice A n c] 41)).start (.cells #[false,.slice none 0 0] 41));have hB0:=((Below.refl w w).alloc lR (.cells #[neg,.slice A n c] 41)).alloc sP (.cells #[false,.slice none 0 0] 41);have hZ:=heap_alloc_new (w.alloc (.cells #[neg,.slice A n c] 41)) (.cells #[false,.slice none 0 0] 41);rw [show(w.alloc (.cells #[neg,.slice A n c] 41)).heap.size=w.heap.size+1 by simp] at hZ;have hP:=Z1 (PI.mk (neg:=!neg) hl hn hc hL hA);clear hz hA h;go_enter func72,ntmps72;go_wp2_with (fail);refine(a0N _ (!neg) A n c l hl oM hc H.out).mono ?_;rintro e w1 ⟨rfl,hB⟩;have hq:=hB.size;simp at hq;have hB1:=hB0.trans (hB.mono sO);have hZ1:=(hB.block _ sP).trans hZ;have z0:=cr9 0 hZ1;have z1:=cr9 1 hZ1;have zf:=fun j=>fr0 j hZ1;simp at z0 z1;clear hZ hZ1;go_wp2;have hBf:=(hB1.setCell (p:=⟨w.heap.size+1,0,none⟩) sP (.bool (!neg&&decide (0<(Big.trim l).length)))).setCell (p:=⟨w.heap.size+1,1,none⟩) sP (.slice A (Big.trim l).length c);refine bodyPost_ret (v:=.agg #[.bool (!neg&&decide (0<(Big.trim l).length)),.slice A (Big.trim l).length c]) (by simp [results,results72,go_sem,z0,z1]) rfl ⟨⟨_,rfl,?_⟩,hBf⟩;rw [E.out];exact hP.out.below hBf hBk

theorem PI.boundg {w:World} {B k:Nat} {v:Value} {z:Int} (h:PI w B k v z):(z.natAbs:Int)<1000000000 ^ k:=by
 obtain⟨g,A,n,c,l,rfl,hl,hn,hc,hL,hN,hx,_,_⟩:=h.parts;have h1:=Big.val_lt (B:=1000000000) oM hL;have h0:=Big.val_nonneg (B:=1000000000) oM hL;have h2:=Big.pow_le (B:=1000000000) oM (show l.length<=k by omega);rw [hx]
 cases g <;> simp [Big.sgn] <;> omega
theorem a1L (k j:Nat) (v:Value) (N D:Int) (hk:k<=10000000000) (hj:j<=10000000000) (hD:D≠0) (h:RI w w k j v N D) :
  Calls prog 76 #[v] w fun e w'=>(∃ r,e=.returned r/\RI w' w' k j r (Int.tdiv N (redBy N D)) (Int.tdiv D (redBy N D)))/\Below w w w':=by
 obtain⟨g1,A1,n1,c1,g2,A2,n2,c2,rfl,hN,hDp⟩:=h;have hB0:=((Below.refl w w).alloc lR (.cells #[g1,.slice A1 n1 c1,g2,.slice A2 n2 c2] 43)).alloc sP (.cells ZR 43);have hX:=(Below.heap_alloc (w.alloc (.cells #[g1,.slice A1 n1 c1,g2,.slice A2 n2 c2] 43)) (.cells ZR 43) w sP).trans (heap_alloc_new w (.cells #[g1,.slice A1 n1 c1,g2,.slice A2 n2 c2] 43));have hZ:=heap_alloc_new (w.alloc (.cells #[g1,.slice A1 n1 c1,g2,.slice A2 n2 c2] 43)) (.cells ZR 43);rw [show(w.alloc (.cells #[g1,.slice A1 n1 c1,g2,.slice A2 n2 c2] 43)).heap.size=w.heap.size+1 by simp] at hZ;obtain⟨Hbd,Hgl,Hne⟩:=Z3 hDp.boundg (b3m (N:=N) hD) (b0I (N:=N) hD)
 have Hrb:Hid (-1000000000 ^ j<redBy N D/\redBy N D<1000000000 ^ j):=by
  show _/\_;have h1:=Hbd.out;have h2:=Hgl.out;unfold redBy;split <;> omega
 by_cases hneg:D<0
 ·have Hsg:=Z1 (a1r.2.1.2 hneg)
  have Hrd:Hid (redBy N D=-(Int.gcd N D:Int)):=by show _=_;unfold redBy;rw [if_pos hneg]
  clear hneg hD;go_enter func76,ntmps76;go_wp2_with (fail);refine(a7m _ k j _ _ N D oM oM (hN.at_ hB0) (hDp.at_ hB0)).mono ?_;rintro e w1 ⟨⟨r1,rfl,hr1⟩,hB1⟩;obtain⟨g3,A3,n3,c3,rfl⟩:=hr1.open;have hq1:=hB1.size;simp at hq1;have hBw1:=hB0.trans (hB1.mono sO);have hX1:=Z1 (gbox hX hB1 sO);have hZ1:=Z1 (gbox hZ hB1 sP);have x2:=cr9 2 hX1.out;have x3:=cr9 3 hX1.out;simp at x2 x3;have hw1:w.heap.size<w1.heap.size:=oM;have hw1':w.heap.size+1<w1.heap.size:=oM;clear hX hZ;go_wp2_with (fail);refine(a0Y _ j _ D (hDp.at_ (hBw1.alloc hBw1.size (.cells #[g3,.slice A3 n3 c3] 41)))).mono ?_;rw [Hsg.out];rintro e w2 ⟨rfl,hB2⟩;have hq2:=hB2.size;simp at hq2;have hBw2:=(hBw1.alloc hBw1.size (.cells #[g3,.slice A3 n3 c3] 41)).trans (hB2.mono sO);obtain⟨hX2,hZ2,hG2⟩:=Z3 (gbox ((Below.heap_alloc w1 (.cells #[g3,.slice A3 n3 c3] 41) _ hw1).trans hX1.out) hB2 sO) (gbox ((Below.heap_alloc w1 (.cells #[g3,.slice A3 n3 c3] 41) _ hw1').trans hZ1.out) hB2 sO) (gbox (heap_alloc_new w1 (.cells #[g3,.slice A3 n3 c3] 41)) hB2 sP);have hr2:=(hr1.below ((Below.refl w1 w1).alloc lR (.cells #[g3,.slice A3 n3 c3] 41)) lR).below hB2 sP;have g0:=cr9 0 hG2.out;have g1':=cr9 1 hG2.out;have gf:=fun j=>fr0 j hG2.out;simp at g0 g1';have hw2:w1.heap.size<w2.heap.size:=oM;have hw2b:w.heap.size<w2.heap.size:=oM;have hw2c:w.heap.size+1<w2.heap.size:=oM;clear x2 x3;go_wp2_with (fail);refine(b2o w2 w1 (k+j) oM _ _ oM hr2).mono ?_;rintro e w3 ⟨⟨r3,rfl,hr3⟩,hB3⟩;obtain⟨g5,A5,n5,c5,rfl⟩:=hr3.open;have hq3:=hB3.size;have hX3:=gB hX2 hB3 hw2b;have hZ3:=gB hZ2 hB3 hw2c;have hG3:=gB hG2 hB3 hw2;have hBw3:=hBw2.trans (hB3.mono oM);have y0:=cr9 0 hX3.out;have y1:=cr9 1 hX3.out;have k0:=cr9 0 hG3.out;have k1:=cr9 1 hG3.out;have kf:=fun j=>fr0 j hG3.out;simp at y0 y1 k0 k1;have hw3:w1.heap.size<w3.heap.size:=oM;have hw3b:w.heap.size<w3.heap.size:=oM;have hne1:w.heap.size≠w1.heap.size:=oM;have hne2:w1.heap.size≠w.heap.size:=oM
  have hPV0:PI ((w3.setCell ⟨w1,0,none⟩ (.bool g5)).setCell ⟨w1,1,none⟩ (.slice A5 n5 c5)) ((w3.setCell ⟨w1,0,none⟩ (.bool g5)).setCell ⟨w1,1,none⟩ (.slice A5 n5 c5)).heap.size j (.agg #[g5,.slice A5 n5 c5]) (redBy N D):=by
   have h1:=(hr3.below (((Below.refl w1 w3).setCell (p:=⟨w1,0,none⟩) lR (.bool g5)).setCell (p:=⟨w1,1,none⟩) lR (.slice A5 n5 c5)) lR).more (C:=((w3.setCell ⟨w1,0,none⟩ (.bool g5)).setCell ⟨w1,1,none⟩ (.slice A5 n5 c5)).heap.size) (j:=k+j) sO lR;rw [<- Hrd.out] at h1;exact h1.tight Hrb.out.1 Hrb.out.2
  have hBV0:Below w w ((w3.setCell ⟨w1,0,none⟩ (.bool g5)).setCell ⟨w1,1,none⟩ (.slice A5 n5 c5)):=(hBw3.setCell (p:=⟨w1,0,none⟩) sO (.bool g5)).setCell (p:=⟨w1,1,none⟩) sO (.slice A5 n5 c5);have hoth:∀ c,c≠w1.heap.size->((w3.setCell ⟨w1,0,none⟩ (.bool g5)).setCell ⟨w1,1,none⟩ (.slice A5 n5 c5)).heap[c]?=w3.heap[c]?:=fun c hc=>(Below.heap_setCell _ _ _ c (fun e=>hc (by simpa using e))).trans (Below.heap_setCell _ _ _ c (fun e=>hc (by simpa using e)));have hXV0:=(hoth w hne1).trans hX3.out;have hZV0:=(hoth (w.heap.size+1) oM).trans hZ3.out;have hGV0:=heap_setCell_same _ _ 1 _ _ (.slice A5 n5 c5) (heap_setCell_same w3 w1.heap.size 0 _ _ (.bool g5) hG3.out);simp at hGV0;obtain⟨V,hVe⟩:∃ V,((w3.setCell ⟨w1,0,none⟩ (.bool g5)).setCell ⟨w1,1,none⟩ (.slice A5 n5 c5))=V:=⟨_,rfl⟩;have hqV:w1.heap.size<V.heap.size:=by rw [<- hVe];simp;omega
  rw [hVe] at hPV0 hBV0 hXV0 hZV0 hGV0;have hPV:=hPV0;have hBV:=hBV0;obtain⟨hXV,hZV,hGV,HVe⟩:=Z4 hXV0 hZV0 hGV0 hVe;clear hVe hXV0 hZV0 hGV0 hPV0 hBV0 hoth g0 g1' gf;go_wp2_with (fail);rw [HVe.out];refine(a1m V k j _ _ N (redBy N D) oM oM Hne.out (hN.at_ hBV) hPV).mono ?_;clear y0 y1 k0 k1 kf HVe;rintro e w4 ⟨⟨q4,g6,A6,n6,c6,rfl,hq4⟩,hB4⟩;obtain⟨g7,A7,n7,c7,rfl⟩:=hq4.open;have hsz4:=hB4.size;have hX4:=gB hXV hB4 oM;have hZ4:=gB hZV hB4 oM;have hG4:=gB hGV hB4 hqV;have hBw4:=hBV.trans (hB4.mono oM);have x2:=cr9 2 hX4.out;have x3:=cr9 3 hX4.out;have u0:=cr9 0 hG4.out;have u1:=cr9 1 hG4.out;simp at x2 x3 u0 u1;have s0:w.heap.size<w4.heap.size:=oM;have s1:w.heap.size+1<w4.heap.size:=oM;have s2:w1.heap.size<w4.heap.size:=oM;have hBU:=(hBw4.alloc hBw4.size (.cells #[g7,.slice A7 n7 c7] 41)).alloc sO (.cells #[g6,.slice A6 n6 c6] 41);have hBu:=((Below.refl w4 w4).alloc lR (.cells #[g7,.slice A7 n7 c7] 41)).alloc sP (.cells #[g6,.slice A6 n6 c6] 41);go_wp2_with (fail);refine(a1m _ j j _ _ D (redBy N D) oM oM Hne.out (hDp.at_ hBU) ((hPV.at_ hB4).at_ hBu)).mono ?_;rintro e w5 ⟨⟨q5,g9,A9,n9,c9,rfl,hq5⟩,hB5⟩;obtain⟨g8,A8,n8,c8,rfl⟩:=hq5.open;have hsz5:=hB5.size;simp at hsz5;have hB45:=hBu.trans (hB5.mono sO);have hBw5:=hBw4.trans (hB45.mono oM);have hZ5:=gB hZ4 hB45 s1;have hQ5:=Z1 (gbox ((Below.heap_alloc (w4.alloc (.cells #[g7,.slice A7 n7 c7] 41)) (.cells #[g6,.slice A6 n6 c6] 41) _ sP).trans (heap_alloc_new w4 (.cells #[g7,.slice A7 n7 c7] 41))) hB5 sO);have q0:=cr9 0 hQ5.out;have q1:=cr9 1 hQ5.out;have z0:=cr9 0 hZ5.out;have z1:=cr9 1 hZ5.out;have z2:=cr9 2 hZ5.out;have z3:=cr9 3 hZ5.out;have zf:=fun j=>fr0 j hZ5.out;simp at q0 q1 z0 z1 z2 z3;have t0:w4.heap.size<w5.heap.size:=oM;have t1:w.heap.size+1<w5.heap.size:=oM;have hB56:=((Below.refl w5 w5).alloc lR (.cells #[g8,.slice A8 n8 c8] 41)).alloc sP (.cells #[g9,.slice A9 n9 c9] 41);have hBP:=hBw5.trans (hB56.mono oM);have hZP:=gB hZ5 hB56 t1
  have hno:∀(j:Nat) (n:Int),(ZR:Array Value)[j]?≠some (.int .u32 n):=by
   intro j n
   match j with
   | 0=>simp
   | 1=>simp
   | 2=>simp
   | 3=>simp
   | j+4=>simp
  have hset:∀ c,c≠w.heap.size+1->(((w5.alloc (.cells #[g8,.slice A8 n8 c8] 41)).alloc (.cells #[g9,.slice A9 n9 c9] 41)).setRow (w.heap.size+1) #[g7,.slice A7 n7 c7,g8,.slice A8 n8 c8]).heap[c]?=((w5.alloc (.cells #[g8,.slice A8 n8 c8] 41)).alloc (.cells #[g9,.slice A9 n9 c9] 41)).heap[c]?:=fun c hc=>setRow_other _ _ _ _ hc;have hp1:=Z1 ((((hq4.at_ hB45).at_ hB56).other hZP.out hno hset).more (C:=(((w5.alloc (.cells #[g8,.slice A8 n8 c8] 41)).alloc (.cells #[g9,.slice A9 n9 c9] 41)).setRow (w.heap.size+1) #[g7,.slice A7 n7 c7,g8,.slice A8 n8 c8]).heap.size) sP (Nat.le_refl k));have hp2:=Z1 (((hq5.at_ hB56).other hZP.out hno hset).more (C:=(((w5.alloc (.cells #[g8,.slice A8 n8 c8] 41)).alloc (.cells #[g9,.slice A9 n9 c9] 41)).setRow (w.heap.size+1) #[g7,.slice A7 n7 c7,g8,.slice A8 n8 c8]).heap.size) sP (Nat.le_refl j));have hBF:=below_setRow hBP (show w.heap.size<=w.heap.size+1 by omega) #[g7,.slice A7 n7 c7,g8,.slice A8 n8 c8];have hRF:=setRow_heap ((w5.alloc (.cells #[g8,.slice A8 n8 c8] 41)).alloc (.cells #[g9,.slice A9 n9 c9] 41)) (w.heap.size+1) _ #[g7,.slice A7 n7 c7,g8,.slice A8 n8 c8] _ _ hZP.out;have hload:=run_loadVar_row (P:=prog) _ _ _ 43 _ _ _ hRF underlying43 rfl Vy;have Hone:Hid ((#[g7,.slice A7 n7 c7,g8,.slice A8 n8 c8]:Array Value).all (·.oneCell')=true):=by show _=true;simp [Value.oneCell']
  have Hload:=Z1 hload;clear hset hno x2 x3 u0 u1 hRF hload z0 z1 z2 z3 zf;go_upto_region 6 with(fail);go_wp2_with (refine Vx rfl 43 (.tmp 2) (.tmp 39) none rfl rfl (w.heap.size+1) 43 _ #[g7,.slice A7 n7 c7,g8,.slice A8 n8 c8] rfl rfl hZP.out rfl Vy Hone.out ?_);refine bodyPost_ret (v:=.agg #[g7,.slice A7 n7 c7,g8,.slice A8 n8 c8]) (by simp [results,results76,asAddr,Act.put,Hload.out]) rfl ⟨⟨_,rfl,_,_,_,_,_,_,_,_,rfl,hp1.out,hp2.out⟩,hBF⟩
 ·have Hrd:Hid (redBy N D=(Int.gcd N D:Int)):=by show _=_;unfold redBy;rw [if_neg hneg]
  have Hsg:Hid (sg D=1):=by show _=_;rw [a1r.1];omega
  clear hneg hD;go_enter func76,ntmps76;go_wp2_with (fail);refine(a7m _ k j _ _ N D oM oM (hN.at_ hB0) (hDp.at_ hB0)).mono ?_;rintro e w1 ⟨⟨r1,rfl,hr1⟩,hB1⟩;obtain⟨g3,A3,n3,c3,rfl⟩:=hr1.open;have hq1:=hB1.size;simp at hq1;have hBw1:=hB0.trans (hB1.mono sO);have hX1:=Z1 (gbox hX hB1 sO);have hZ1:=Z1 (gbox hZ hB1 sP);have x2:=cr9 2 hX1.out;have x3:=cr9 3 hX1.out;simp at x2 x3;have hw1:w.heap.size<w1.heap.size:=oM;have hw1':w.heap.size+1<w1.heap.size:=oM;clear hX hZ;go_wp2_with (fail);refine(a0Y _ j _ D (hDp.at_ (hBw1.alloc hBw1.size (.cells #[g3,.slice A3 n3 c3] 41)))).mono ?_;rw [Hsg.out];rintro e w2 ⟨rfl,hB2⟩;have hq2:=hB2.size;simp at hq2;have hBw2:=(hBw1.alloc hBw1.size (.cells #[g3,.slice A3 n3 c3] 41)).trans (hB2.mono sO);obtain⟨hX2,hZ2,hG2⟩:=Z3 (gbox ((Below.heap_alloc w1 (.cells #[g3,.slice A3 n3 c3] 41) _ hw1).trans hX1.out) hB2 sO) (gbox ((Below.heap_alloc w1 (.cells #[g3,.slice A3 n3 c3] 41) _ hw1').trans hZ1.out) hB2 sO) (gbox (heap_alloc_new w1 (.cells #[g3,.slice A3 n3 c3] 41)) hB2 sP);have hr2:=(hr1.below ((Below.refl w1 w1).alloc lR (.cells #[g3,.slice A3 n3 c3] 41)) lR).below hB2 sP;have g0:=cr9 0 hG2.out;have g1':=cr9 1 hG2.out;have gf:=fun j=>fr0 j hG2.out;simp at g0 g1';have hw2:w1.heap.size<w2.heap.size:=oM;have hw2b:w.heap.size<w2.heap.size:=oM;have hw2c:w.heap.size+1<w2.heap.size:=oM;clear x2 x3
  have hPV:PI w2 w2 j (.agg #[g3,.slice A3 n3 c3]) (redBy N D):=by
   have h1:=hr2.more (C:=w2.heap.size) (j:=k+j) oM lR;rw [<- Hrd.out] at h1;exact h1.tight Hrb.out.1 Hrb.out.2
  have hBV:=hBw2;have hXV:=hX2;have hZV:=hZ2;have hGV:=hG2;have hqV:=hw2;have y0:=cr9 0 hX2.out;have y1:=cr9 1 hX2.out;simp at y0 y1;go_wp2_with (fail);refine(a1m w2 k j _ _ N (redBy N D) oM oM Hne.out (hN.at_ hBV) hPV).mono ?_;clear y0 y1 g0 g1' gf;rintro e w4 ⟨⟨q4,g6,A6,n6,c6,rfl,hq4⟩,hB4⟩;obtain⟨g7,A7,n7,c7,rfl⟩:=hq4.open;have hsz4:=hB4.size;have hX4:=gB hXV hB4 oM;have hZ4:=gB hZV hB4 oM;have hG4:=gB hGV hB4 hqV;have hBw4:=hBV.trans (hB4.mono oM);have x2:=cr9 2 hX4.out;have x3:=cr9 3 hX4.out;have u0:=cr9 0 hG4.out;have u1:=cr9 1 hG4.out;simp at x2 x3 u0 u1;have s0:w.heap.size<w4.heap.size:=oM;have s1:w.heap.size+1<w4.heap.size:=oM;have s2:w1.heap.size<w4.heap.size:=oM;have hBU:=(hBw4.alloc hBw4.size (.cells #[g7,.slice A7 n7 c7] 41)).alloc sO (.cells #[g6,.slice A6 n6 c6] 41);have hBu:=((Below.refl w4 w4).alloc lR (.cells #[g7,.slice A7 n7 c7] 41)).alloc sP (.cells #[g6,.slice A6 n6 c6] 41);go_wp2_with (fail);refine(a1m _ j j _ _ D (redBy N D) oM oM Hne.out (hDp.at_ hBU) ((hPV.at_ hB4).at_ hBu)).mono ?_;rintro e w5 ⟨⟨q5,g9,A9,n9,c9,rfl,hq5⟩,hB5⟩;obtain⟨g8,A8,n8,c8,rfl⟩:=hq5.open;have hsz5:=hB5.size;simp at hsz5;have hB45:=hBu.trans (hB5.mono sO);have hBw5:=hBw4.trans (hB45.mono oM);have hZ5:=gB hZ4 hB45 s1;have hQ5:=Z1 (gbox ((Below.heap_alloc (w4.alloc (.cells #[g7,.slice A7 n7 c7] 41)) (.cells #[g6,.slice A6 n6 c6] 41) _ sP).trans (heap_alloc_new w4 (.cells #[g7,.slice A7 n7 c7] 41))) hB5 sO);have q0:=cr9 0 hQ5.out;have q1:=cr9 1 hQ5.out;have z0:=cr9 0 hZ5.out;have z1:=cr9 1 hZ5.out;have z2:=cr9 2 hZ5.out;have z3:=cr9 3 hZ5.out;have zf:=fun j=>fr0 j hZ5.out;simp at q0 q1 z0 z1 z2 z3;have t0:w4.heap.size<w5.heap.size:=oM;have t1:w.heap.size+1<w5.heap.size:=oM;have hB56:=((Below.refl w5 w5).alloc lR (.cells #[g8,.slice A8 n8 c8] 41)).alloc sP (.cells #[g9,.slice A9 n9 c9] 41);have hBP:=hBw5.trans (hB56.mono oM);have hZP:=gB hZ5 hB56 t1
  have hno:∀(j:Nat) (n:Int),(ZR:Array Value)[j]?≠some (.int .u32 n):=by
   intro j n
   match j with
   | 0=>simp
   | 1=>simp
   | 2=>simp
   | 3=>simp
   | j+4=>simp
  have hset:∀ c,c≠w.heap.size+1->(((w5.alloc (.cells #[g8,.slice A8 n8 c8] 41)).alloc (.cells #[g9,.slice A9 n9 c9] 41)).setRow (w.heap.size+1) #[g7,.slice A7 n7 c7,g8,.slice A8 n8 c8]).heap[c]?=((w5.alloc (.cells #[g8,.slice A8 n8 c8] 41)).alloc (.cells #[g9,.slice A9 n9 c9] 41)).heap[c]?:=fun c hc=>setRow_other _ _ _ _ hc;have hp1:=Z1 ((((hq4.at_ hB45).at_ hB56).other hZP.out hno hset).more (C:=(((w5.alloc (.cells #[g8,.slice A8 n8 c8] 41)).alloc (.cells #[g9,.slice A9 n9 c9] 41)).setRow (w.heap.size+1) #[g7,.slice A7 n7 c7,g8,.slice A8 n8 c8]).heap.size) sP (Nat.le_refl k));have hp2:=Z1 (((hq5.at_ hB56).other hZP.out hno hset).more (C:=(((w5.alloc (.cells #[g8,.slice A8 n8 c8] 41)).alloc (.cells #[g9,.slice A9 n9 c9] 41)).setRow (w.heap.size+1) #[g7,.slice A7 n7 c7,g8,.slice A8 n8 c8]).heap.size) sP (Nat.le_refl j));have hBF:=below_setRow hBP (show w.heap.size<=w.heap.size+1 by omega) #[g7,.slice A7 n7 c7,g8,.slice A8 n8 c8];have hRF:=setRow_heap ((w5.alloc (.cells #[g8,.slice A8 n8 c8] 41)).alloc (.cells #[g9,.slice A9 n9 c9] 41)) (w.heap.size+1) _ #[g7,.slice A7 n7 c7,g8,.slice A8 n8 c8] _ _ hZP.out;have hload:=run_loadVar_row (P:=prog) _ _ _ 43 _ _ _ hRF underlying43 rfl Vy;have Hone:Hid ((#[g7,.slice A7 n7 c7,g8,.slice A8 n8 c8]:Array Value).all (·.oneCell')=true):=by show _=true;simp [Value.oneCell']
  have Hload:=Z1 hload;clear hset hno x2 x3 u0 u1 hRF hload z0 z1 z2 z3 zf;go_upto_region 6 with(fail);go_wp2_with (refine Vx rfl 43 (.tmp 2) (.tmp 39) none rfl rfl (w.heap.size+1) 43 _ #[g7,.slice A7 n7 c7,g8,.slice A8 n8 c8] rfl rfl hZP.out rfl Vy Hone.out ?_);refine bodyPost_ret (v:=.agg #[g7,.slice A7 n7 c7,g8,.slice A8 n8 c8]) (by simp [results,results76,asAddr,Act.put,Hload.out]) rfl ⟨⟨_,rfl,_,_,_,_,_,_,_,_,rfl,hp1.out,hp2.out⟩,hBF⟩
end
open Tryz Go.RowKit

theorem RI.open {w:World} {B k j:Nat} {v:Value} {N D:Int} (h:RI w B k j v N D):∃(g1:Bool) (A1:Option Addr) (n1 c1:Nat) (g2:Bool) (A2:Option Addr) (n2 c2:Nat),v=.agg #[g1,.slice A1 n1 c1,g2,.slice A2 n2 c2]:=by
 obtain⟨g1,A1,n1,c1,g2,A2,n2,c2,e,_⟩:=h;exact⟨g1,A1,n1,c1,g2,A2,n2,c2,e⟩
theorem RI.other {w w':World} {B k j b:Nat} {v:Value} {N D:Int} {cs:Array Value} {t:TypeId} {fr:Nat × Nat} (h:RI w B k j v N D) (hb:w.heap[b]?=some (.cells cs t fr)) (hcs:∀(j:Nat) (n:Int),cs[j]?≠some (.int .u32 n)) (hw:∀ c,c≠b->w'.heap[c]?=w.heap[c]?):RI w' B k j v N D:=by
 obtain⟨g1,A1,n1,c1,g2,A2,n2,c2,e,h1,h2⟩:=h;exact⟨g1,A1,n1,c1,g2,A2,n2,c2,e,h1.other hb hcs hw,h2.other hb hcs hw⟩
theorem RI.more {w:World} {B C k j k' j':Nat} {v:Value} {N D:Int} (h:RI w B k j v N D) (hC:B<=C) (hk:k<=k') (hj:j<=j'):RI w C k' j' v N D:=by
 obtain⟨g1,A1,n1,c1,g2,A2,n2,c2,e,h1,h2⟩:=h;exact⟨g1,A1,n1,c1,g2,A2,n2,c2,e,h1.more hC hk,h2.more hC hj⟩
theorem a0F:∀(j:Nat) (n:Int),(ZR:Array Value)[j]?≠some (.int .u32 n):=by
 intro j n
 match j with
 | 0=>simp
 | 1=>simp
 | 2=>simp
 | 3=>simp
 | j+4=>simp

section
variable (w:World)
theorem a7g (k j:Nat) (u v:Value) (N D:Int) (hk:k<=10000000000) (hj:j<=10000000000) (hD:D≠0) (hu:PI w w k u N) (hv:PI w w j v D) :
  Calls prog 70 #[u,v] w fun e w'=>(∃ r,e=.returned (.tuple #[r,()])/\RI w' w' k j r (Int.tdiv N (redBy N D)) (Int.tdiv D (redBy N D)))/\Below w w w':=by
 obtain⟨g1,A1,n1,c1,rfl⟩:=hu.open;obtain⟨g2,A2,n2,c2,rfl⟩:=hv.open;have hB0:=(((Below.refl w w).alloc lR (.cells #[g1,.slice A1 n1 c1] 41)).alloc sP (.cells #[g2,.slice A2 n2 c2] 41)).alloc sO (.cells ZR 43);obtain⟨W1,hW1⟩:∃ W1,W1=(((w.alloc (.cells #[g1,.slice A1 n1 c1] 41)).alloc (.cells #[g2,.slice A2 n2 c2] 41)).alloc (.cells ZR 43)):=⟨_,rfl⟩;have hz1:W1.heap.size=w.heap.size+3:=by rw [hW1];simp
 have hb0:W1.heap[w.heap.size]?=some (.cells #[g1,.slice A1 n1 c1] 41 (0,0)):=by rw [hW1,Below.heap_alloc _ _ _ sO,Below.heap_alloc _ _ _ sP];exact heap_alloc_new w _
 have hb1:W1.heap[w.heap.size+1]?=some (.cells #[g2,.slice A2 n2 c2] 41 (0,0)):=by
  rw [hW1,Below.heap_alloc _ _ _ sP];have:=heap_alloc_new (w.alloc (.cells #[g1,.slice A1 n1 c1] 41)) (.cells #[g2,.slice A2 n2 c2] 41)
  rwa [show(w.alloc (.cells #[g1,.slice A1 n1 c1] 41)).heap.size=w.heap.size+1 by simp] at this
 have hb2:W1.heap[w.heap.size+2]?=some (.cells ZR 43 (0,0)):=by
  rw [hW1];have:=heap_alloc_new ((w.alloc (.cells #[g1,.slice A1 n1 c1] 41)).alloc (.cells #[g2,.slice A2 n2 c2] 41)) (.cells ZR 43)
  rwa [show((w.alloc (.cells #[g1,.slice A1 n1 c1] 41)).alloc (.cells #[g2,.slice A2 n2 c2] 41)).heap.size=w.heap.size+2 by simp] at this
 rw [<- hW1] at hB0;obtain⟨HW,Hz,Hb2⟩:=Z3 hW1 hz1 hb2;have hsg:(sg D==0)=false:=by simp [a1r.2.2];exact hD
 have HD:=Z1 hD;have y0:=cr9 0 hb1;have y1:=cr9 1 hb1;simp at y0 y1;have s1:w.heap.size+1<W1.heap.size:=oM;clear hW1 hz1 hb2 hD;go_enter func70,ntmps70;go_upto_region 1 with(fail);rw [<- HW.out];go_wp2_with (fail);refine(a0Y W1 j _ D (hv.at_ hB0)).mono ?_;rintro e w2 ⟨rfl,hB2⟩;have hsz2:=hB2.size;have hBw2:=hB0.trans (hB2.mono hB0.size);have Hz2:=Z1 (gbox Hb2.out hB2 (by have:=Hz.out;omega));have ha0:=gbox hb0 hB2 oM;have ha1:=gbox hb1 hB2 oM;have x0:=cr9 0 ha0;have x1:=cr9 1 ha0;have x2:=cr9 0 ha1;have x3:=cr9 1 ha1;simp at x0 x1 x2 x3;have s2:w.heap.size+1<w2.heap.size:=oM;have s3:w.heap.size<w2.heap.size:=oM;clear y0 y1 hb0 hb1 ha0 ha1;go_wp2_with (fail);refine(a1L w2 k j _ N D hk hj HD.out ⟨g1,A1,n1,c1,g2,A2,n2,c2,rfl,hu.at_ hBw2,hv.at_ hBw2⟩).mono ?_;rintro e w3 ⟨⟨r3,rfl,hr3⟩,hB3⟩;obtain⟨g3,A3,n3,c3,g4,A4,n4,c4,rfl⟩:=hr3.open;have hsz3:=hB3.size;have hBw3:=hBw2.trans (hB3.mono hBw2.size);have Hz3:=Z1 (gbox Hz2.out hB3 (by have:=Hz.out;omega));have Hone:Hid ((#[g3,.slice A3 n3 c3,g4,.slice A4 n4 c4]:Array Value).all (·.oneCell')=true):=by show _=true;simp [Value.oneCell']
 have hRF:=setRow_heap w3 (w.heap.size+2) _ #[g3,.slice A3 n3 c3,g4,.slice A4 n4 c4] _ _ Hz3.out;have Hload:=Z1 (run_loadVar_row (P:=prog) _ _ _ 43 _ _ _ hRF underlying43 rfl Vy);have hBF:=below_setRow hBw3 (show w.heap.size<=w.heap.size+2 by omega) #[g3,.slice A3 n3 c3,g4,.slice A4 n4 c4];have hp:=Z1 ((hr3.other (w':=w3.setRow (w.heap.size+2) #[g3,.slice A3 n3 c3,g4,.slice A4 n4 c4]) Hz3.out a0F (fun c hc=>setRow_other _ _ _ _ hc)).more (C:=(w3.setRow (w.heap.size+2) #[g3,.slice A3 n3 c3,g4,.slice A4 n4 c4]).heap.size) sP lR lR);clear hRF x0 x1 x2 x3;go_wp2_with (refine Vx rfl 43 (.tmp 4) (.tmp 13) none rfl rfl (w.heap.size+2) 43 _ #[g3,.slice A3 n3 c3,g4,.slice A4 n4 c4] rfl rfl Hz3.out rfl Vy Hone.out ?_);refine bodyPost_ret (v:=.tuple #[.agg #[g3,.slice A3 n3 c3,g4,.slice A4 n4 c4],()]) (by simp [results,results70,asAddr,Act.put,Hload.out]) rfl ⟨⟨_,rfl,hp.out⟩,hBF⟩

theorem a1W (n m:Int) (hn0:-9223372036854775808<=n) (hn1:n<=9223372036854775807) (hm:m≠0) (hm0:-9223372036854775808<=m) (hm1:m<=9223372036854775807) :
  Calls prog 33 #[n,m] w fun e w'=>(∃ r,e=.returned (.tuple #[r,()])/\RI w' w'.heap.size 3 3 r (Int.tdiv n (redBy n m)) (Int.tdiv m (redBy n m)))/\Below w w w':=by
 have hB0:=(Below.refl w w).alloc lR (.cells ZR 43);have hZ:=heap_alloc_new w (.cells ZR 43);obtain⟨HZ,HM,Hn,Hm⟩:=Z4 hZ hm (show -9223372036854775808<=n/\n<=9223372036854775807 from⟨hn0,hn1⟩) (show -9223372036854775808<=m/\m<=9223372036854775807 from⟨hm0,hm1⟩);clear hZ hm hn0 hn1 hm0 hm1;go_enter func33,ntmps33;go_wp2_with (fail);refine(a1M _ n Hn.out.1 Hn.out.2).mono ?_;rintro e w1 ⟨⟨r1,rfl,hr1⟩,hB1⟩;have hsz1:=hB1.size;simp at hsz1;go_wp2_with (fail);refine(a1M w1 m (by have:=Hm.out;omega) (by have:=Hm.out;omega)).mono ?_;rintro e w2 ⟨⟨r2,rfl,hr2⟩,hB2⟩;go_wp2_with (fail);refine(a7g w2 3 3 _ _ n m oM oM HM.out (hr1.at_ hB2) hr2).mono ?_;rintro e w3 ⟨⟨r3,rfl,hr3⟩,hB3⟩;obtain⟨g3,A3,n3,c3,g4,A4,n4,c4,rfl⟩:=hr3.open;have hB13:=hB1.trans ((hB2.mono hB1.size).trans (hB3.mono (Nat.le_trans hB1.size hB2.size)));have hBw3:=hB0.trans (hB13.mono sP);have Hz3:=gB HZ hB13 sP;have Hone:Hid ((#[g3,.slice A3 n3 c3,g4,.slice A4 n4 c4]:Array Value).all (·.oneCell')=true):=by show _=true;simp [Value.oneCell']
 have hRF:=setRow_heap w3 w _ #[g3,.slice A3 n3 c3,g4,.slice A4 n4 c4] _ _ Hz3.out;have Hload:=Z1 (run_loadVar_row (P:=prog) _ _ _ 43 _ _ _ hRF underlying43 rfl Vy);have hBF:=below_setRow hBw3 (Nat.le_refl w) #[g3,.slice A3 n3 c3,g4,.slice A4 n4 c4];have hp:=Z1 ((hr3.other (w':=w3.setRow w #[g3,.slice A3 n3 c3,g4,.slice A4 n4 c4]) Hz3.out a0F (fun c hc=>setRow_other _ _ _ _ hc)).more (C:=(w3.setRow w #[g3,.slice A3 n3 c3,g4,.slice A4 n4 c4]).heap.size) sP lR lR);clear hRF;go_wp2_with (refine Vx rfl 43 (.tmp 4) (.tmp 11) none rfl rfl w.heap.size 43 _ #[g3,.slice A3 n3 c3,g4,.slice A4 n4 c4] rfl rfl Hz3.out rfl Vy Hone.out ?_);refine bodyPost_ret (v:=.tuple #[.agg #[g3,.slice A3 n3 c3,g4,.slice A4 n4 c4],()]) (by simp [results,results33,asAddr,Act.put,Hload.out]) rfl ⟨⟨_,rfl,hp.out⟩,hBF⟩
end
open Tryz Go.RowKit

def RegP (w:World) (X:Array Value) (W':World):Prop :=
 Below w w W'/\W'.heap[w.heap.size]?=some (.cells X 43 (0,0))/\(∃ cs:Array Value,W'.heap[w.heap.size+1]?=some (.cells cs 41 (0,0))/\cs.size=2)/\∃ cs:Array Value,W'.heap[w.heap.size+2]?=some (.cells cs 41 (0,0))/\cs.size=2
theorem RegP.lt {w W:World} {X:Array Value} (h:RegP w X W):w.heap.size+2<W.heap.size:=by
 obtain⟨_,_,_,cs,h,_⟩:=h;exact(Array.getElem?_eq_some_iff.1 h).1
theorem RegP.step {w W W':World} {X:Array Value} (h:RegP w X W) (hb:Below W W W'):RegP w X W':=by
 have hlt:=h.lt;obtain⟨h1,h2,⟨cs,h4,h5⟩,ds,h6,h7⟩:=h;exact⟨h1.trans (hb.mono h1.size),(hb.block _ oM).trans h2,⟨cs,(hb.block _ oM).trans h4,h5⟩,ds,(hb.block _ hlt).trans h6,h7⟩
theorem RegP.drew {w W:World} {X:Array Value} (h:RegP w X W):RegP w X W.drew:=⟨Vw h.1 1,h.2⟩
theorem RegP.store1 {w W:World} {X:Array Value} (h:RegP w X W) (cs:Array Value) (hc:cs.size=2):RegP w X (W.setRow (w.heap.size+1) cs):=by
 obtain⟨h1,h2,⟨ds,h4,h5⟩,es,h6,h7⟩:=h;exact⟨below_setRow h1 oM _,(setRow_other _ _ _ _ oM).trans h2,⟨cs,setRow_heap _ _ _ _ _ _ h4,hc⟩,es,(setRow_other _ _ _ _ oM).trans h6,h7⟩
theorem RegP.store2 {w W:World} {X:Array Value} (h:RegP w X W) (cs:Array Value) (hc:cs.size=2):RegP w X (W.setRow (w.heap.size+2) cs):=by
 obtain⟨h1,h2,⟨ds,h4,h5⟩,es,h6,h7⟩:=h;exact⟨below_setRow h1 oM _,(setRow_other _ _ _ _ oM).trans h2,⟨ds,(setRow_other _ _ _ _ oM).trans h4,h5⟩,cs,setRow_heap _ _ _ _ _ _ h6,hc⟩
theorem RegP.start (w:World) (X:Array Value):RegP w X (((w.alloc (.cells X 43)).alloc (.cells #[false,.slice none 0 0] 41)).alloc (.cells #[false,.slice none 0 0] 41)):=by
 refine⟨((bR.alloc lR _).alloc sP _).alloc sO _,?_,⟨#[false,.slice none 0 0],?_,rfl⟩,#[false,.slice none 0 0],?_,rfl⟩
 ·rw [Below.heap_alloc _ _ _ sO,Below.heap_alloc _ _ _ sP];exact heap_alloc_new w _
 ·rw [Below.heap_alloc _ _ _ sP]
  have:=heap_alloc_new (w.alloc (.cells X 43)) (.cells #[false,.slice none 0 0] 41)
  rwa [show(w.alloc (.cells X 43)).heap.size=w.heap.size+1 by simp] at this
 ·have:=heap_alloc_new ((w.alloc (.cells X 43)).alloc (.cells #[false,.slice none 0 0] 41)) (.cells #[false,.slice none 0 0] 41)
  rwa [show((w.alloc (.cells X 43)).alloc (.cells #[false,.slice none 0 0] 41)).heap.size=w.heap.size+2 by simp] at this
theorem range4 {w:World} {b:Nat} {x0 x1 x2 x3:Value} {t:TypeId} {fr:Nat × Nat} (h:w.heap[b]?=some (.cells #[x0,x1,x2,x3] t fr)):w.rangeAt b 0 [x0,x1]/\w.rangeAt b 2 [x2,x3]:=by
 constructor
 all_goals
  intro j v hj;rw [cr9 _ h]
  match j with
  | 0=>simpa using hj
  | 1=>simpa using hj
  | j+2=>simp at hj

def PartsPost (k j:Nat) (N D:Int) (w:World) (e:Ending) (w':World):Prop :=
 (∃ g1 A1 n1 c1 g2 A2 n2 c2,e=.returned (.tuple #[.agg #[.bool g1,.slice A1 n1 c1],.agg #[.bool g2,.slice A2 n2 c2]])/\PI w' w' k (.agg #[.bool g1,.slice A1 n1 c1]) N/\PI w' w' j (.agg #[.bool g2,.slice A2 n2 c2]) D)/\Below w w w'
section
variable (w:World)
theorem a5K (k j:Nat) (v:Value) (N D:Int) (hD:D≠0) (h:RI w w k j v N D) :
  Calls prog 42 #[v] w (PartsPost k j N D w):=by
 obtain⟨g1,A1,n1,c1,g2,A2,n2,c2,rfl,hN,hDp⟩:=h;have hS0:=RegP.start w #[g1,.slice A1 n1 c1,g2,.slice A2 n2 c2];obtain⟨W1,hW1⟩:∃ W1,W1=(((w.alloc (.cells #[g1,.slice A1 n1 c1,g2,.slice A2 n2 c2] 43)).alloc (.cells #[false,.slice none 0 0] 41)).alloc (.cells #[false,.slice none 0 0] 41)):=⟨_,rfl⟩;rw [<- hW1] at hS0;have HW:=Z1 hW1;have hsg:(sg D==0)=false:=by simp [a1r.2.2];exact hD
 have hlt0:=hS0.lt;have x2:=cr9 2 hS0.2.1;have x3:=cr9 3 hS0.2.1;simp at x2 x3;clear hW1 hD;go_enter func42,ntmps42;go_upto_region 1 with(fail);rw [<- HW.out];go_wp2_with (fail);refine(a0Y W1 j _ D (hDp.at_ hS0.1)).mono ?_;rintro e W2 ⟨rfl,hB2⟩;have hS2:=hS0.step hB2;have hS:=hS2.drew;clear x2 x3;go_upto_region 3 with(fail);refine wp_region_held (S:=RegP w #[g1,.slice A1 n1 c1,g2,.slice A2 n2 c2]) kR ?_;change wpAnyH _ _ _ _ _ _ _ _ (World.drew _);refine jT 0 hS ?_;refine jT 1 hS ?_ (v:=.agg #[g1,.slice A1 n1 c1]) (hy:=(yieldsIf_load_mid (by rfl) 41 _ rfl w.heap.size 0 rfl [g1,.slice A1 n1 c1] _ (fun W' hS'=>(range4 hS'.2.1).1) underlying41 rfl VQ));refine jT 2 hS ?_;refine jT 3 hS ?_ (v:=.agg #[g2,.slice A2 n2 c2]) (hy:=(yieldsIf_load_mid (by rfl) 41 _ rfl w.heap.size 2 rfl [g2,.slice A2 n2 c2] _ (fun W' hS'=>(range4 hS'.2.1).2) underlying41 rfl VQ));refine rZ 4 fun K hK=>?_;rw [if_pos (by rfl)];obtain⟨cs,hcs,hcs2⟩:=hS.2.2.1;refine VX 41 _ _ none rfl rfl (w.heap.size+1) 41 cs #[g1,.slice A1 n1 c1] rfl rfl hcs hcs2 VQ oC ?_;have hR1:=setRow_heap W2.drew (w.heap.size+1) cs #[g1,.slice A1 n1 c1] _ _ hcs;have hS3:=hS.store1 #[g1,.slice A1 n1 c1] rfl;refine jK hK hS3 ?_;clear hK K;refine rZ 5 fun K hK=>?_;rw [if_pos (by rfl)];obtain⟨ds,hds,hds2⟩:=hS3.2.2.2;refine VX 41 _ _ none rfl rfl (w.heap.size+2) 41 ds #[g2,.slice A2 n2 c2] rfl rfl hds hds2 VQ oC ?_;have hR2:=setRow_heap (W2.drew.setRow (w.heap.size+1) #[g1,.slice A1 n1 c1]) (w.heap.size+2) ds #[g2,.slice A2 n2 c2] _ _ hds;have hR1':=(setRow_other (W2.drew.setRow (w.heap.size+1) #[g1,.slice A1 n1 c1]) (w.heap.size+2) (w.heap.size+1) #[g2,.slice A2 n2 c2] oM).trans hR1;have hS4:=hS3.store2 #[g2,.slice A2 n2 c2] rfl;refine jK hK hS4 ?_;clear hK K;refine wpAnyH_done kR ?_ _;have hload1:=run_loadVar_row (P:=prog) _ _ _ 41 _ _ _ hR1' underlying41 rfl VQ;have hload2:=run_loadVar_row (P:=prog) _ _ _ 41 _ _ _ hR2 underlying41 rfl VQ;go_wp2;exact bodyPost_ret (v:=.tuple #[.agg #[g1,.slice A1 n1 c1],.agg #[g2,.slice A2 n2 c2]]) (by simp [results,results42,asAddr,Act.put,hload1,hload2]) rfl ⟨⟨g1,A1,n1,c1,g2,A2,n2,c2,rfl,hN.at_ hS4.1,hDp.at_ hS4.1⟩,hS4.1⟩
end
open Tryz Go.RowKit

theorem RatesAt.start {w:World} {A:Option Addr} {rs:List Rt} (h:RatesAt w w A rs) (o:Obj):RatesAt (w.alloc o) (w.alloc o).heap.size A rs :=
 (h.below ((Below.refl w w).alloc lR o) lR).more sP
theorem RatesAt.at_ {w w':World} {B:Nat} {A:Option Addr} {rs:List Rt} (h:RatesAt w B A rs) (hb:Below B w w') (hB:B<=w.heap.size):RatesAt w' w' A rs :=
 (h.below hb lR).more (Nat.le_trans hB hb.size)

section
variable (w:World)
def Rates.whichR (g:ByteArray) (rs:List Rt) (cur:ByteArray) (d:Int):Rt × Int :=
 if Rates.errQ g rs cur d=0 then
  (if (cur.toList==g.toList)=true then (⟨cur,1,d,1000000⟩,0) else match Rates.which rs cur d with | some r=>(r,0) | none=>(Rt.zero,13))
 else (Rt.zero,Rates.errQ g rs cur d)
theorem gsize:(prog.info? 29).map (·.size)=some 21:=kR

theorem Rates.find_getD (o:Option Int):(∃ v,o=some v)∨o=none:=by cases o <;> simp

end
end Go.Proofs.YtniaimjknmhapaaGreatDoor
