/- My texts JrnM, JrnQ, JrnV. -/
import Derived.Maps.OwnSet
import Derived.Test.YtniaimjknmhapaaGreatDoorG28
set_option linter.unusedVariables false
set_option linter.unusedSimpArgs false
set_option maxRecDepth 100000
set_option maxHeartbeats 16000000
namespace Go.Proofs.YtniaimjknmhapaaGreatDoor
open Go.Proofs.Tryz Go.RowKit Go.Maps
theorem map_has {D:DataW Value} {kl:Lit} {o:Option Value} (h:∀ z:Value,D.atKey kl (.held z)=.held (o.getD z)):Maps.has D kl=o.isSome:=by
 cases o with
 | none =>
  cases hh:Maps.has D kl
  ·rfl
  ·cases D <;> try (cases hh;done)
   rename_i es
   obtain⟨p,hp,hpk⟩:=List.any_eq_true.1 hh
   have hs:(es.find? (fun p=>p.1.sameKey kl)).isSome=true:=List.find?_isSome.2 ⟨p,hp,hpk⟩
   obtain⟨x,hx⟩:=Option.isSome_iff_exists.1 hs
   have e1:x.2=.held (.bool false):=by have:=h (.bool false);simpa [DataW.atKey,hx] using this
   have e2:x.2=.held (.bool true):=by have:=h (.bool true);simpa [DataW.atKey,hx] using this
   rw [e1] at e2
   cases e2
 | some y =>
  cases hh:Maps.has D kl
  ·have e1:=(atKey_of_not_has hh _).symm.trans (h (.bool false))
   have e2:=(atKey_of_not_has hh _).symm.trans (h (.bool true))
   simp only [Option.getD_some,DataW.held.injEq] at e1 e2
   rw [<- e1] at e2
   cases e2
  ·rfl
theorem MapAt.lookOk {w:World} {P:Program} {k t e:TypeId} {b n:Nat} {f:Value->Option Value} (h:MapAt w P k b n f) (K:Keyed P k) (ht:P.underlying t=some (.map k e)) {z:Value} (hz:(zeroValue e).run P w=.ok z w)
  {key:Value} {kl:Lit} (hkey:keyOf P k key=some kl):(Instr.lookup t (.map (some b)) key true).run P w=.ok (.tuple #[(f key).getD z,.bool (f key).isSome]) w:=by
 obtain⟨D,h,_,s⟩:=h
 obtain⟨v,ps,hrun,hv⟩:=h.look_ok K ht hz (zd:=.held z) (zp:=[]) rfl hkey
 rw [s key kl hkey z] at hv
 simp only [heldR,Option.some.injEq,Prod.mk.injEq,DataW.held.injEq] at hv
 rw [hrun,hv.1,map_has (s key kl hkey)]
namespace Jr
def idx (p:List EtC) (id:Int):Option Nat:=p.findIdx? (fun y=>decide (y.id=id))
theorem get_idx (p:List EtC) (id:Int):get p id=(idx p id).bind (fun k=>p[k]?):=by
 unfold get idx
 induction p with
 | nil=>rfl
 | cons a p ih =>
  rw [List.find?_cons,List.findIdx?_cons]
  by_cases h:a.id=id
  ·simp [h]
  ·simp only [h,decide_false,Bool.false_eq_true,if_false]
   rw [ih]
   cases p.findIdx? _ <;> simp
theorem idx_lt {p:List EtC} {id:Int} {k:Nat} (h:idx p id=some k):k<p.length:=(List.findIdx?_eq_some_iff_getElem.1 h).1
theorem get_none {p:List EtC} {id:Int} (h:idx p id=none):get p id=none:=by rw [get_idx,h];rfl
theorem get_some {p:List EtC} {id:Int} {k:Nat} (h:idx p id=some k):get p id=some (p[k]'(idx_lt h)):=by rw [get_idx,h];simp [idx_lt h]
theorem idx_snoc {p:List EtC} {x:EtC} (hn:(get p x.id).isNone=true) (id:Int):idx (p++[x]) id=if id=x.id then some p.length else idx p id:=by
 have h0:idx p x.id=none:=by
  cases h:idx p x.id with
  | none=>rfl
  | some k=>rw [get_some h] at hn;cases hn
 unfold idx at *
 rw [List.findIdx?_append]
 by_cases h:id=x.id
 ·rw [if_pos h,h,h0];simp
 ·rw [if_neg h]
  cases p.findIdx? (fun y=>decide (y.id=id)) with
  | some k=>rfl
  | none=>simp [Ne.symm h]
theorem revd_snoc (p:List EtC) (x:EtC) (id:Int):revd (p++[x]) id=(revd p id||(decide (x.kind=3)&&decide (x.of_=id))):=by unfold revd;simp
end Jr
structure Jrn (B:Nat) (w:World) (b:Nat) (g:Grp) (p:List EtC) (g':Grp) (q:List Etr) (A:Option Addr) (c m1 m2:Nat) (f1 f2:Value->Option Value):Prop where
 hb:w.heap[b]?=some (.cells #[.string g'.cur,.int .i64 g'.Y,.int .i64 g'.M,.int .i64 g'.N,.slice g'.cA g'.cn g'.cc,.int .i64 g'.r0,.int .i64 g'.r1,.int .i64 g'.r2,.int .i64 g'.r3,.int .i64 g'.r4,.int .i64 g'.r5,.int .i64 g'.r6,.int .i64 g'.r7,.int .i64 g'.r8,.int .i64 g'.r9,.int .i64 g'.r10,.int .i64 g'.r11,.int .i64 g'.r12,.int .i64 g'.r13,.int .i64 g'.r14,.slice g'.eA g'.en g'.ec,.slice A q.length c,.map (some m1),.map (some m2)] 219 (0,0))
 he:g'.era=g.era
 hg:g'.At w B
 hBb:B<=b
 hB1:B<=m1
 hB2:B<=m2
 hne:m1≠m2
 hq:q.map (·.c)=p
 ho:w.ownsRow B 71 7 (.slice A q.length c) q.length (q.flatMap Etr.cells)
 hx:∀ x∈q,x.At w w.heap.size/\RowsTy 68 w x.lA x.c.lines
 h1:MapAt w prog 3 m1 p.length f1
 h2:MapAt w prog 3 m2 p.length f2
 hf1:∀ x,f1 (.int .i64 x)=(Jr.idx p x).map (fun(k:Nat)=>Value.int .i64 (k:Int))
 hf2:∀ x,(f2 (.int .i64 x)).isSome=Jr.revd p x
 hw:∀ x∈p,x.wf
def Jrns (B:Nat) (w:World) (b:Nat) (g:Grp) (p:List EtC):Prop:=∃ g' q A c m1 m2 f1 f2,Jrn B w b g p g' q A c m1 m2 f1 f2
section
variable {B b c m1 m2:Nat} {w w':World} {g g':Grp} {p:List EtC} {q:List Etr} {A:Option Addr} {f1 f2:Value->Option Value}
theorem Jrn.below (h:Jrn B w b g p g' q A c m1 m2 f1 f2) (hb:Below w.heap.size w w') (hB:B<=w.heap.size):Jrn B w' b g p g' q A c m1 m2 f1 f2 :=
 ⟨gbox h.hb hb (some_lt h.hb),h.he,h.hg.below hb hB,h.hBb,h.hB1,h.hB2,h.hne,h.hq,pOwns_below h.ho hb,fun x hx=>⟨(h.hx x hx).1.at_ hb,(h.hx x hx).2.below hb⟩,h.h1.below hb h.h1.lt,h.h2.below hb h.h2.lt,h.hf1,h.hf2,h.hw⟩
theorem Jrns.below (h:Jrns B w b g p) (hb:Below w.heap.size w w') (hB:B<=w.heap.size):Jrns B w' b g p:=by
 obtain⟨g',q,A,c,m1,m2,f1,f2,h⟩:=h;exact⟨g',q,A,c,m1,m2,f1,f2,h.below hb hB⟩
theorem Jrn.rows (h:Jrn B w b g p g' q A c m1 m2 f1 f2):RowsAt Etr.cells 7 w w.heap.size A q:=by
 obtain⟨A',c',e,hA⟩:=own_flat (f:=Etr.cells) (sz:=7) (by decide) (fun _=>rfl) h.ho rfl
 cases e;exact hA
theorem Jrn.len (h:Jrn B w b g p g' q A c m1 m2 f1 f2):p.length=q.length:=by rw [<- h.hq,List.length_map]
theorem Jrn.look1 (h:Jrn B w b g p g' q A c m1 m2 f1 f2) (x:Int) (hx:(Lit.int .i64 x).wf=true) (n:Nat):(Instr.lookup 217 (.map (some m1)) (.int .i64 x) true).run prog (w.drewN n)=.ok (.tuple #[((Jr.idx p x).map (fun(k:Nat)=>Value.int .i64 (k:Int))).getD (.int .i64 0),.bool (Jr.idx p x).isSome]) (w.drewN n):=by
 have hz:(zeroValue 3).run prog (w.drewN n)=.ok (.int .i64 0) (w.drewN n):=by kernel_rfl
 have:=MapAt.lookOk (w:=w.drewN n) h.h1 intLaw underlying217 hz (keyOf_int_mk underlying3 hx)
 rw [this,h.hf1,Option.isSome_map]
theorem Jrn.look2 (h:Jrn B w b g p g' q A c m1 m2 f1 f2) (x:Int) (hx:(Lit.int .i64 x).wf=true) (n:Nat):(Instr.lookup 217 (.map (some m2)) (.int .i64 x) true).run prog (w.drewN n)=.ok (.tuple #[(f2 (.int .i64 x)).getD (.int .i64 0),.bool (Jr.revd p x)]) (w.drewN n):=by
 have hz:(zeroValue 3).run prog (w.drewN n)=.ok (.int .i64 0) (w.drewN n):=by kernel_rfl
 have:=MapAt.lookOk (w:=w.drewN n) h.h2 intLaw underlying217 hz (keyOf_int_mk underlying3 hx)
 rw [this,h.hf2]
end
section
variable (w:World)
theorem reverses_any (B b:Nat) (g:Grp) (p:List EtC) (c:EtC) (A:Option Addr) (n kc:Nat) (hj:Jrns B w b g p) (hB:B<=w.heap.size) (hx:(⟨c,A,n,kc⟩:Etr).At w w.heap.size) :
  Calls prog 153 #[.pointer (some ⟨b,0,none⟩),.agg #[.int .i64 c.id,.int .i64 c.ent,.int .i64 c.date,.int .i64 c.kind,.int .i64 c.of_,.string c.text,.slice A n kc]] w (FinePost (Jr.revOk p c) w):=by
 obtain⟨g',q,A',cq,m1,m2,f1,f2,hj⟩:=hj
 obtain⟨W1,hW1,hB0,hb0,hz⟩:=nw1 w #[.int .i64 c.id,.int .i64 c.ent,.int .i64 c.date,.int .i64 c.kind,.int .i64 c.of_,.string c.text,.slice A n kc] 71
 have HW:=Z1 hW1
 have HJ:=Z1 (hj.below hB0 hB)
 have Hx:=Z1 (hx.at_ hB0)
 have Hll:Hid (c.lines.length=n):=hx.hl
 have hln:n<=60:=by have h1:c.lines.length<=60:=hx.hw.hln;have h2:c.lines.length=n:=hx.hl;omega
 have hl1:=HJ.out.look1 c.of_ hx.hw.hof
 have hl2:=HJ.out.look2 c.of_ hx.hw.hof
 have s1:w.heap.size<W1.heap.size:=by omega
 have hbb:=HJ.out.hb
 have sb:b<W1.heap.size:=some_lt hbb
 have z21:=cr9 21 hbb
 have z22:=cr9 22 hbb
 have z23:=cr9 23 hbb
 have y1:=cr9 1 hb0
 have y2:=cr9 2 hb0
 have y4:=cr9 4 hb0
 have y6:=cr9 6 hb0
 simp at z21 z22 z23 y1 y2 y4 y6
 have Hb0:=Z1 hb0
 have Hlen:=Z1 HJ.out.len
 clear hW1 hz hb0 hbb hj hx
 go_enter func153,ntmps153
 go_upto_region 1 with(fail)
 rw [<- HW.out]
 cases hi:Jr.idx p c.of_ with
 | none =>
  have HV:Hid (Jr.revOk p c=false):=by show _=_;unfold Jr.revOk;rw [Jr.get_none hi]
  rw [hi] at hl1
  simp only [Option.map_none,Option.getD_none,Option.isSome_none] at hl1
  clear hi hl2
  go_quiet (fail)
  go_wp2
  go_ret
  exact FinePost.bad HV.out (by decide) (below_drawn hB0 _)
 | some k =>
  have hkp:=Jr.idx_lt hi
  have hkq:k<q.length:=by have:=Hlen.out;omega
  obtain⟨o,ho⟩:∃ o,o=q[k]:=⟨_,rfl⟩
  have hoc:p[k]=o.c:=by rw [ho];simp only [<- HJ.out.hq,List.getElem_map]
  have HV:Hid (Jr.revOk p c=(!Jr.revd p c.of_&&decide (o.c.kind≠3)&&decide (o.c.ent=c.ent)&&decide (o.c.date<=c.date)&&Jr.opposite c.lines o.c.lines)):=by
   show _=_;unfold Jr.revOk;rw [Jr.get_some hi,hoc]
  rw [hi] at hl1
  simp only [Option.map_some,Option.getD_some,Option.isSome_some] at hl1
  obtain⟨bq,oq,hAq,hbq,hr⟩:=RowsAt.look HJ.out.rows hkq
  rw [<- ho] at hr
  rw [hAq] at z21
  have Hr:=Z1 hr
  have hox:=HJ.out.hx o (by rw [ho];exact List.getElem_mem _)
  have Hox:=Z1 hox.1
  obtain⟨oc,oA,on,ok⟩:=o
  have Hol:Hid (oc.lines.length=on):=Hox.out.hl
  have hon:on<=60:=by have h1:oc.lines.length<=60:=Hox.out.hw.hln;have h2:oc.lines.length=on:=Hox.out.hl;omega
  have hk0:(0:Int)<=(k:Int):=by omega
  have hkn:(k:Int)<(q.length:Int):=by omega
  clear hi hkp ho hoc hr hox hAq
  go_quiet (fail)
  obtain⟨W2,hW2⟩:∃ W2,W2=W1.drewN nq:=⟨_,rfl⟩
  have hB12:Below W1.heap.size W1 W2:=by rw [hW2];exact below_drawn (Below.refl _ _) _
  rw [<- hW2]
  have HW2:=Z1 hW2
  have hz2:W2.heap.size=W1.heap.size:=by rw [hW2];rfl
  have t1:=fun {bk o:Nat} {v:Value} (h:W1.cell? ⟨bk,o,none⟩=some v) (hl:bk<W1.heap.size)=>(hB12.cell (p:=⟨bk,o,none⟩) hl).trans h
  have z21':=t1 z21 sb
  have y1':=t1 y1 s1
  have y2':=t1 y2 s1
  have y6':=t1 y6 s1
  have s2:w.heap.size<W2.heap.size:=by omega
  have sb2:b<W2.heap.size:=by omega
  have hb2:bq<W2.heap.size:=by omega
  have hr2:Hid (W2.rangeAt bq (oq+k*7) [.int .i64 oc.id,.int .i64 oc.ent,.int .i64 oc.date,.int .i64 oc.kind,.int .i64 oc.of_,.string oc.text,.slice oA on ok]):=Z1 (by rw [hW2];exact Hr.out)
  have HJ2:=Z1 (HJ.out.below hB12 (by have:=hB0.size;omega))
  have HB2:=Z1 (hB0.trans (hB12.mono hB0.size))
  have hl2':=HJ2.out.look2 c.of_ Hx.out.hw.hof
  have Hox2:=Z1 (Hox.out.at_ hB12)
  have Hx2:=Z1 (Hx.out.at_ hB12)
  have Hb2:=Z1 (gbox Hb0.out hB12 s1)
  have z23':=t1 z23 sb
  have y4':=t1 y4 s1
  clear t1 z21 z22 z23 y1 y2 y4 y6 hl1 hl2 hW2 hB12 hz2
  go_upto_region 4 with(fail)
  obtain⟨hB3,hr3,hz3⟩:=row_new W2 #[.int .i64 oc.id,.int .i64 oc.ent,.int .i64 oc.date,.int .i64 oc.kind,.int .i64 oc.of_,.string oc.text,.slice oA on ok] 71
  go_upto_region 5 with(refine wpList_load_mid rfl 71 (.tmp 27) rfl bq (oq+k*7) rfl [.int .i64 oc.id,.int .i64 oc.ent,.int .i64 oc.date,.int .i64 oc.kind,.int .i64 oc.of_,.string oc.text,.slice oA on ok] _ hr2.out underlying71 rfl etrSize ?_)
  obtain⟨W3,hW3⟩:∃ W3,W3=W2.alloc (.cells #[.int .i64 oc.id,.int .i64 oc.ent,.int .i64 oc.date,.int .i64 oc.kind,.int .i64 oc.of_,.string oc.text,.slice oA on ok] 71):=⟨_,rfl⟩
  rw [<- hW3] at hB3 hr3 hz3
  have HW3:=Z1 hW3
  rw [<- HW3.out]
  have t1:=fun {bk o:Nat} {v:Value} (h:W2.cell? ⟨bk,o,none⟩=some v) (hl:bk<W2.heap.size)=>(hB3.cell (p:=⟨bk,o,none⟩) hl).trans h
  have u23:=t1 z23' sb2
  have u1:=t1 y1' s2
  have u2:=t1 y2' s2
  have u4:=t1 y4' s2
  have u6:=t1 y6' s2
  have q1:=cr9 1 hr3
  have q2:=cr9 2 hr3
  have q3:=cr9 3 hr3
  have q6:=cr9 6 hr3
  simp at q1 q2 q3 q6
  have hl3:=(HJ2.out.below hB3 (by have:=HB2.out.size;omega)).look2 c.of_ Hx.out.hw.hof
  have s3:w.heap.size<W3.heap.size:=by omega
  have sb3:b<W3.heap.size:=by omega
  have so3:W2.heap.size<W3.heap.size:=by omega
  have HB3:=Z1 (HB2.out.trans (hB3.mono HB2.out.size))
  have Hx3:=Z1 (Hx2.out.at_ hB3)
  have Hox3:=Z1 (Hox2.out.at_ hB3)
  obtain⟨rv,hrv⟩:∃ rv,rv=(f2 (.int .i64 c.of_)).getD (.int .i64 0):=⟨_,rfl⟩
  rw [<- hrv] at hl3
  clear t1 z21' z23' y1' y2' y4' y6' hl2' hW3 hr3 hrv hB3 hz3
  cases hrd:Jr.revd p c.of_ with
  | true =>
   have HV2:Hid (Jr.revOk p c=false):=by show _=_;rw [HV.out,hrd];rfl
   rw [hrd] at hl3
   clear hrd
   go_quiet (fail)
   go_wp2
   go_ret
   exact FinePost.bad HV2.out (by decide) (below_drawn HB3.out _)
  | false =>
   have HV2:Hid (Jr.revOk p c=(decide (oc.kind≠3)&&decide (oc.ent=c.ent)&&decide (oc.date<=c.date)&&Jr.opposite c.lines oc.lines)):=by show _=_;rw [HV.out,hrd];rfl
   rw [hrd] at hl3
   clear hrd
   go_quiet (fail)
   obtain⟨W4,hW4⟩:∃ W4,W4=W3.drewN nq:=⟨_,rfl⟩
   have hB34:Below W3.heap.size W3 W4:=by rw [hW4];exact below_drawn (Below.refl _ _) _
   rw [<- hW4]
   have t1:=fun {bk o:Nat} {v:Value} (h:W3.cell? ⟨bk,o,none⟩=some v) (hl:bk<W3.heap.size)=>(hB34.cell (p:=⟨bk,o,none⟩) hl).trans h
   have v1:=t1 u1 s3
   have v2:=t1 u2 s3
   have v6:=t1 u6 s3
   have p1:=t1 q1 so3
   have p2:=t1 q2 so3
   have p3:=t1 q3 so3
   have p6:=t1 q6 so3
   have s4:w.heap.size<W4.heap.size:=by have:=hB34.size;omega
   have so4:W2.heap.size<W4.heap.size:=by have:=hB34.size;omega
   have HB4:=Z1 (HB3.out.trans (hB34.mono HB3.out.size))
   have Hx4:=Z1 (Hx3.out.at_ hB34)
   have Hox4:=Z1 (Hox3.out.at_ hB34)
   clear t1 u23 u1 u2 u4 u6 q1 q2 q3 q6 hl3 hW4 hB34
   by_cases hk3:oc.kind=3
   ·have k3:(oc.kind==3)=true:=by simp [hk3]
    have HV3:Hid (Jr.revOk p c=false):=by show _=_;rw [HV2.out];simp [hk3]
    clear hk3
    go_wp2
    go_ret
    exact FinePost.bad HV3.out (by decide) HB4.out
   have k3:(oc.kind==3)=false:=by simp [hk3]
   have K3:=Z1 hk3
   clear hk3
   by_cases he:oc.ent=c.ent
   case neg =>
    have k4:(oc.ent != c.ent)=true:=by simp [he]
    have HV3:Hid (Jr.revOk p c=false):=by show _=_;rw [HV2.out];simp [he]
    clear he
    go_wp2
    go_ret
    exact FinePost.bad HV3.out (by decide) HB4.out
   have k4:(oc.ent != c.ent)=false:=by simp [he]
   have K4:=Z1 he
   clear he
   by_cases hd:oc.date<=c.date
   case neg =>
    have HV3:Hid (Jr.revOk p c=false):=by show _=_;rw [HV2.out];simp [hd]
    go_wp2
    go_ret
    exact FinePost.bad HV3.out (by decide) HB4.out
   have HV3:Hid (Jr.revOk p c=Jr.opposite c.lines oc.lines):=by show _=_;rw [HV2.out];simp [K3.out,K4.out,hd]
   have hop:=Z1 (opp_any W4 A oA n kc on ok c.lines oc.lines Hll.out hln Hol.out hon Hox4.out.hw.hlw Hx4.out.hA Hox4.out.hA)
   go_wp2_with (fail)
   refine hop.out.mono ?_
   rintro e W5 ⟨rfl,hB5⟩
   have hBF:=HB4.out.trans (hB5.mono HB4.out.size)
   cases ho:Jr.opposite c.lines oc.lines with
   | true =>
    have HV4:Hid (Jr.revOk p c=true):=by show _=_;rw [HV3.out,ho]
    clear ho
    go_wp2
    go_ret
    exact FinePost.good HV4.out hBF
   | false =>
    have HV4:Hid (Jr.revOk p c=false):=by show _=_;rw [HV3.out,ho]
    clear ho
    go_wp2
    go_ret
    exact FinePost.bad HV4.out (by decide) hBF
end
end Go.Proofs.YtniaimjknmhapaaGreatDoor
namespace Go.Proofs.YtniaimjknmhapaaGreatDoor
open Go.Proofs.Tryz Go.RowKit Go.Maps
theorem etrInfo:(prog.info? 71).map (fun i=>(i.zero,i.size,i.bytes))=some (some (.agg #[.int .i64 0,.int .i64 0,.int .i64 0,.int .i64 0,.int .i64 0,.string ByteArray.empty,.slice none 0 0]),7,80):=by kernel_rfl
open Classical in
theorem wp_mapUpdate_at {P:Program} {w:World} {k t e:TypeId} {b n:Nat} {f:Value->Option Value} {o:Oper} {a:Act} {K:Act->World->Prop} {Q:Exit->Act->World->Prop}
  (m x v:Operand) (hop:o.op=Op.mapUpdate t m x v) (h:MapAt w P k b n f) (Kd:Keyed P k) (ht:P.underlying t=some (.map k e))
  (hm:a.eval m=.map (some b)) (hn:n<maxLen) (key val:Value) (kl:Lit) (hx:a.eval x=key) (hv:a.eval v=val) (hkey:keyOf P k key=some kl)
  (hK:∀ w',MapAt w' P k b (n+1) (fun x=>if x=key then some val else f x)->w.grownBy w' (some b)->K (a.put o.dst undef) w'):o.wp P a w K Q:=by
 obtain⟨w',hrun,r1,r2⟩:=h.update Kd ht hn (val:=val) hkey
 unfold Oper.wp
 simp [execOp,hop,hm,hx,hv,hrun,Result.andThen]
 exact hK w' r1 r2
def EtCopy (c:EtC) (n:Nat) (w:World) (e:Ending) (w':World):Prop :=
 Below w.heap.size w w'/\∃ A kc,e=.returned (.agg #[.int .i64 c.id,.int .i64 c.ent,.int .i64 c.date,.int .i64 c.kind,.int .i64 c.of_,.string c.text,.slice A n kc])/\(⟨c,A,n,kc⟩:Etr).At w' w'.heap.size/\RowsTy 68 w' A c.lines
section
variable (w:World)
theorem copied_any (c:EtC) (A:Option Addr) (n kc:Nat) (hx:(⟨c,A,n,kc⟩:Etr).At w w.heap.size) :
  Calls prog 154 #[.agg #[.int .i64 c.id,.int .i64 c.ent,.int .i64 c.date,.int .i64 c.kind,.int .i64 c.of_,.string c.text,.slice A n kc]] w (EtCopy c n w):=by
 obtain⟨W1,hW1,hB0,hb0,hb1,hz⟩:=nw2 w #[.int .i64 c.id,.int .i64 c.ent,.int .i64 c.date,.int .i64 c.kind,.int .i64 c.of_,.string c.text,.slice A n kc] #[.int .i64 0,.int .i64 0,.int .i64 0,.int .i64 0,.int .i64 0,.string ⟨#[]⟩,.slice none 0 0] 71 71
 have HW:=Z1 hW1
 have Hx:=Z1 (hx.at_ hB0)
 have Hll:Hid (c.lines.length=n):=hx.hl
 have hln:n<=60:=by have h1:c.lines.length<=60:=hx.hw.hln;have h2:c.lines.length=n:=hx.hl;omega
 have s1:w.heap.size<W1.heap.size:=by omega
 have s1':w.heap.size+1<W1.heap.size:=by omega
 have y6:=cr9 6 hb0
 simp at y6
 have Hb0:=Z1 hb0
 have Hb1:=Z1 hb1
 have Hc:=Z1 (clone_lin W1 A n kc c.lines Hll.out (by omega) Hx.out.hA)
 clear hW1 hz hb0 hb1 hx
 go_enter func154,ntmps154
 go_upto_region 1 with(fail)
 rw [<- HW.out]
 go_wp2_with (fail)
 refine Hc.out.mono ?_
 rintro e W2 ⟨hB2,A2,c2,rfl,ho⟩
 have hd2:=gbox Hb0.out hB2 s1
 have f2:=fun j=>fr0 j hd2
 have d2:=cr9 6 hd2
 simp at d2
 have s2:w.heap.size<W2.heap.size:=some_lt hd2
 have hd3:=heap_setCell_same W2 w.heap.size 6 _ _ (.slice A2 n c2) hd2
 simp at hd3
 obtain⟨W3,hW3⟩:∃ W3,W3=W2.setCell ⟨w.heap.size,6,none⟩ (.slice A2 n c2):=⟨_,rfl⟩
 rw [<- hW3] at hd3
 have hBw2:=hB0.trans (hB2.mono hB0.size)
 have hBw3:Below w.heap.size w W3:=by rw [hW3];exact hBw2.setCell (p:=⟨w.heap.size,6,none⟩) (Nat.le_refl _) _
 have hg23:W2.grownBy W3 (some w.heap.size):=by rw [hW3];exact grown_set (grown_refl _ _) _ _
 obtain⟨_,_,e1,hA1⟩:=own_flat (f:=Lin.cells) (sz:=3) (by decide) (fun _=>rfl) ho Hll.out.symm
 cases e1
 have hT1:=own_ty ho Hll.out.symm
 obtain⟨hT3,hA3⟩:=hT1.keep hA1 (k:=w.heap.size) (fun cur fr e=>by rw [hd2] at e;cases e) hg23
 have hb13:W3.heap[w.heap.size+1]?=some (.cells #[.int .i64 0,.int .i64 0,.int .i64 0,.int .i64 0,.int .i64 0,.string ⟨#[]⟩,.slice none 0 0] 71 (0,0)):=by
  rw [hW3];exact(heap_setCell_other W2 ⟨w.heap.size,6,none⟩ _ _ (by simp)).trans (gbox Hb1.out hB2 s1')
 have Hd3:=Z1 hd3
 have Hb13:=Z1 hb13
 have HW3:=Z1 hW3
 have Ho:Hid ((#[.int .i64 c.id,.int .i64 c.ent,.int .i64 c.date,.int .i64 c.kind,.int .i64 c.of_,.string c.text,.slice A2 n c2]:Array Value).all (·.oneCell')=true):=by show _=_;simp [Value.oneCell']
 have hR:=setRow_heap W3 (w.heap.size+1) _ #[.int .i64 c.id,.int .i64 c.ent,.int .i64 c.date,.int .i64 c.kind,.int .i64 c.of_,.string c.text,.slice A2 n c2] _ _ hb13
 have hload:=Z1 (run_loadVar_row (P:=prog) _ _ _ 71 _ _ _ hR underlying71 rfl etrSize)
 have hBF:=Z1 (below_setRow hBw3 (show w.heap.size<=w.heap.size+1 by omega) #[.int .i64 c.id,.int .i64 c.ent,.int .i64 c.date,.int .i64 c.kind,.int .i64 c.of_,.string c.text,.slice A2 n c2])
 have hk:=hT3.keep hA3 (k:=w.heap.size+1) (fun cur fr e=>by rw [hb13] at e;cases e) (grown_setRow W3 (w.heap.size+1) #[.int .i64 c.id,.int .i64 c.ent,.int .i64 c.date,.int .i64 c.kind,.int .i64 c.of_,.string c.text,.slice A2 n c2])
 have Hk:=Z1 hk
 have hwf:Hid c.wf:=Hx.out.hw
 have s3:w.heap.size<W3.heap.size:=some_lt Hd3.out
 have s3':w.heap.size+1<W3.heap.size:=some_lt Hb13.out
 clear hW3 hd2 hd3 hT3 hA3 hT1 hA1 ho hb13 hg23 hR hk
 go_upto_region 2 with(fail)
 rw [<- HW3.out]
 clear y6 d2 f2
 go_wp2_with (first | (refine wpList_load_row rfl 71 _ rfl _ rfl _ _ _ _ Hd3.out underlying71 rfl etrSize ?_) | (refine wpList_store_row rfl 71 (.tmp 2) (.tmp 7) none rfl rfl (w.heap.size+1) 71 _ #[.int .i64 c.id,.int .i64 c.ent,.int .i64 c.date,.int .i64 c.kind,.int .i64 c.of_,.string c.text,.slice A2 n c2] rfl rfl Hb13.out rfl etrSize Ho.out ?_))
 exact bodyPost_ret (v:=.agg #[.int .i64 c.id,.int .i64 c.ent,.int .i64 c.date,.int .i64 c.kind,.int .i64 c.of_,.string c.text,.slice A2 n c2]) (by simp [results,results154,asAddr,Act.put,hload.out]) rfl ⟨hBF.out,A2,c2,rfl,⟨Hll.out,Hk.out.2,hwf.out⟩,Hk.out.1⟩
end
end Go.Proofs.YtniaimjknmhapaaGreatDoor
namespace Go.Proofs.YtniaimjknmhapaaGreatDoor
open Go.Proofs.Tryz Go.RowKit Go.Maps
theorem map_ne_own {w:World} {P:Program} {k e:TypeId} {b n B s m:Nat} {f:Value->Option Value} {v:Value} {xs:List Value} (h:MapAt w P k b n f) (ho:w.ownsRow B e s v m xs):some b≠v.ownBlock:=fun q=>by
 obtain⟨D,⟨es,clock,hb,_⟩,_⟩:=h
 rcases ho.2 with⟨rfl,_⟩ | ⟨g,cap,cur',rfl,_,hg',_⟩
 ·simp [Value.ownBlock] at q
 ·simp [Value.ownBlock] at q
  subst q
  rw [hb] at hg'
  cases hg'
theorem map_ne_cells {w:World} {P:Program} {k:TypeId} {b d n:Nat} {f:Value->Option Value} {cs:Array Value} {t:TypeId} {fr:Nat × Nat} (h:MapAt w P k b n f) (hd:w.heap[d]?=some (.cells cs t fr)):b≠d:=fun q=>by
 obtain⟨D,⟨es,clock,hb,_⟩,_⟩:=h
 subst q
 rw [hd] at hb
 cases hb
theorem Etr.kept {w w':World} {x:Etr} (h:x.At w w.heap.size/\RowsTy 68 w x.lA x.c.lines) {k:Nat} (hk:∀ cur fr,w.heap[k]?≠some (.cells cur 68 fr)) (hg:w.grownBy w' (some k)):x.At w' w'.heap.size/\RowsTy 68 w' x.lA x.c.lines:=by
 obtain⟨h1,h2⟩:=h.2.keep h.1.hA hk hg
 exact⟨⟨h.1.hl,h2,h.1.hw⟩,h1⟩
open Classical in
theorem wp_mapUpdate_i {w:World} {t e:TypeId} {b n:Nat} {f:Value->Option Value} {o:Oper} {a:Act} {K:Act->World->Prop} {Q:Exit->Act->World->Prop}
  (m y v:Operand) (hop:o.op=Op.mapUpdate t m y v) (h:MapAt w prog 3 b n f) (ht:prog.underlying t=some (.map 3 e))
  (hm:a.eval m=.map (some b)) (hn:n<maxLen) (x:Int) (val:Value) (hx:a.eval y=.int .i64 x) (hv:a.eval v=val) (hw:(Lit.int .i64 x).wf=true)
  (hK:∀ w' f',MapAt w' prog 3 b (n+1) f'->(∀ z,f' (.int .i64 z)=if z=x then some val else f (.int .i64 z))->w.grownBy w' (some b)->K (a.put o.dst undef) w'):o.wp prog a w K Q :=
 wp_mapUpdate_at m y v hop h intLaw ht hm hn _ val _ hx hv (keyOf_int_mk underlying3 hw) fun w' h1 h2=>hK w' _ h1 (fun z=>by
  show(if _ then _ else _:Option Value)=_
  by_cases e:z=x <;> simp [e]) h2
def PostPost (B b:Nat) (g:Grp) (p:List EtC) (c:EtC) (w:World) (e:Ending) (w':World):Prop :=
 Below B w w'/\∃ n,e=.returned (.int .i64 n)/\(n=0 ↔ Jr.postOk g p c=true)/\(n=0->Jrns B w' b g (p++[c]))
theorem PostPost.bad {B b:Nat} {g:Grp} {p:List EtC} {c:EtC} {w w':World} {n:Int} (h:Below B w w') (hn:n≠0) (hb:Jr.postOk g p c=false):PostPost B b g p c w (.returned (.int .i64 n)) w' :=
 ⟨h,n,rfl,by simp [hn,hb],fun h=>(hn h).elim⟩
structure Jrm (B:Nat) (w:World) (b:Nat) (g:Grp) (p:List EtC) (x:EtC) (g':Grp) (q:List Etr) (A:Option Addr) (c m1 m2:Nat) (f2:Value->Option Value):Prop where
 hb:w.heap[b]?=some (.cells #[.string g'.cur,.int .i64 g'.Y,.int .i64 g'.M,.int .i64 g'.N,.slice g'.cA g'.cn g'.cc,.int .i64 g'.r0,.int .i64 g'.r1,.int .i64 g'.r2,.int .i64 g'.r3,.int .i64 g'.r4,.int .i64 g'.r5,.int .i64 g'.r6,.int .i64 g'.r7,.int .i64 g'.r8,.int .i64 g'.r9,.int .i64 g'.r10,.int .i64 g'.r11,.int .i64 g'.r12,.int .i64 g'.r13,.int .i64 g'.r14,.slice g'.eA g'.en g'.ec,.slice A q.length c,.map (some m1),.map (some m2)] 219 (0,0))
 he:g'.era=g.era
 hg:g'.At w B
 hBb:B<=b
 hB1:B<=m1
 hB2:B<=m2
 hne:m1≠m2
 hq:q.map (·.c)=p
 ho:w.ownsRow B 71 7 (.slice A q.length c) q.length (q.flatMap Etr.cells)
 hx:∀ x∈q,x.At w w.heap.size/\RowsTy 68 w x.lA x.c.lines
 h2:MapAt w prog 3 m2 (p.length+1) f2
 hf2:∀ z,(f2 (.int .i64 z)).isSome=Jr.revd (p++[x]) z
 hw:∀ x∈p,x.wf
theorem jrow_get {g':Grp} {x y z:Value} {j:Nat} {v:Value} (hj:([.string g'.cur,.int .i64 g'.Y,.int .i64 g'.M,.int .i64 g'.N,.slice g'.cA g'.cn g'.cc,.int .i64 g'.r0,.int .i64 g'.r1,.int .i64 g'.r2,.int .i64 g'.r3,.int .i64 g'.r4,.int .i64 g'.r5,.int .i64 g'.r6,.int .i64 g'.r7,.int .i64 g'.r8,.int .i64 g'.r9,.int .i64 g'.r10,.int .i64 g'.r11,.int .i64 g'.r12,.int .i64 g'.r13,.int .i64 g'.r14,.slice g'.eA g'.en g'.ec]:List Value)[j]?=some v):(#[.string g'.cur,.int .i64 g'.Y,.int .i64 g'.M,.int .i64 g'.N,.slice g'.cA g'.cn g'.cc,.int .i64 g'.r0,.int .i64 g'.r1,.int .i64 g'.r2,.int .i64 g'.r3,.int .i64 g'.r4,.int .i64 g'.r5,.int .i64 g'.r6,.int .i64 g'.r7,.int .i64 g'.r8,.int .i64 g'.r9,.int .i64 g'.r10,.int .i64 g'.r11,.int .i64 g'.r12,.int .i64 g'.r13,.int .i64 g'.r14,.slice g'.eA g'.en g'.ec,x,y,z]:Array Value)[j]?=some v:=by
 have hl:j<21:=by have:=(List.getElem?_eq_some_iff.1 hj).1;simpa using this
 have:(#[.string g'.cur,.int .i64 g'.Y,.int .i64 g'.M,.int .i64 g'.N,.slice g'.cA g'.cn g'.cc,.int .i64 g'.r0,.int .i64 g'.r1,.int .i64 g'.r2,.int .i64 g'.r3,.int .i64 g'.r4,.int .i64 g'.r5,.int .i64 g'.r6,.int .i64 g'.r7,.int .i64 g'.r8,.int .i64 g'.r9,.int .i64 g'.r10,.int .i64 g'.r11,.int .i64 g'.r12,.int .i64 g'.r13,.int .i64 g'.r14,.slice g'.eA g'.en g'.ec,x,y,z]:Array Value)=(#[.string g'.cur,.int .i64 g'.Y,.int .i64 g'.M,.int .i64 g'.N,.slice g'.cA g'.cn g'.cc,.int .i64 g'.r0,.int .i64 g'.r1,.int .i64 g'.r2,.int .i64 g'.r3,.int .i64 g'.r4,.int .i64 g'.r5,.int .i64 g'.r6,.int .i64 g'.r7,.int .i64 g'.r8,.int .i64 g'.r9,.int .i64 g'.r10,.int .i64 g'.r11,.int .i64 g'.r12,.int .i64 g'.r13,.int .i64 g'.r14,.slice g'.eA g'.en g'.ec]++#[x,y,z]:Array Value):=rfl
 rw [this,Array.getElem?_append_left (by simpa using hl)]
 simpa using hj
section
variable (w:World)
theorem post_any (B b:Nat) (g:Grp) (p:List EtC) (c:EtC) (A:Option Addr) (n kc:Nat) (hj:Jrns B w b g p) (hB:B<=w.heap.size) (hx:(⟨c,A,n,kc⟩:Etr).At w B) (hp:p.length<=100) :
  Calls prog 88 #[.pointer (some ⟨b,0,none⟩),.agg #[.int .i64 c.id,.int .i64 c.ent,.int .i64 c.date,.int .i64 c.kind,.int .i64 c.of_,.string c.text,.slice A n kc]] w (PostPost B b g p c w):=by
 obtain⟨g',q,A',cq,m1,m2,f1,f2,hj⟩:=hj
 have hbw:=some_lt hj.hb
 have hown0:=hj.ho
 obtain⟨W1,hW1,hB0,hb0,hz⟩:=nw1 w #[.int .i64 c.id,.int .i64 c.ent,.int .i64 c.date,.int .i64 c.kind,.int .i64 c.of_,.string c.text,.slice A n kc] 71
 have HW:=Z1 hW1
 have HJ:=Z1 (hj.below hB0 hB)
 have Hx:=Z1 (hx.below (hB0.mono hB) (Nat.le_refl _))
 have hwf:Hid c.wf:=hx.hw
 have hBB1:=Z1 (hB0.mono hB)
 have hB1:B<=W1.heap.size:=by have:=hB0.size;omega
 have Hown0:=Z1 hown0
 have s1:w.heap.size<W1.heap.size:=by omega
 have sb:b<W1.heap.size:=by omega
 have Hbe:Hid (b≠w.heap.size):=by show _≠_;omega
 have Hb0:=Z1 hb0
 have Hlen:=Z1 HJ.out.len
 have HEt:Hid (Jr.fine g' c=Jr.fine g c):=Jr.fine_same HJ.out.he c
 clear hW1 hz hb0 hj hx hB0 hown0
 go_enter func88,ntmps88
 go_upto_region 1 with(fail)
 rw [<- HW.out]
 go_upto_region 3 with(fail)
 have hS:Below W1.heap.size W1 W1.drew:=below_drawn (Below.refl _ _) 1
 refine wp_region_held (S:=Below W1.heap.size W1) (by kernel_rfl) ?_
 change wpAnyH _ _ _ _ _ _ _ _ (World.drew W1)
 obtain⟨W_0,hWd⟩:∃ W0,W0=W1.drew:=⟨_,rfl⟩
 rw [<- hWd] at hS ⊢
 clear hWd
 refine tk (i:=0) (v:=.pointer (some ⟨b,0,none⟩)) rfl (.inl ⟨by rfl,fun W' hS'=>by go_simp⟩) hS ?_
 try simp only [z]
 refine tk (i:=1) (v:=.pointer (some ⟨b,0,none⟩)) rfl (.inl ⟨by rfl,fun W' hS'=>by go_simp⟩) hS ?_
 try simp only [z]
 refine tk (i:=2) (v:=.pointer (some ⟨b,0,none⟩)) rfl (.inl ⟨by rfl,fun W' hS'=>by go_simp⟩) hS ?_
 try simp only [z]
 refine tk (i:=3) (v:=.agg #[.string g'.cur,.int .i64 g'.Y,.int .i64 g'.M,.int .i64 g'.N,.slice g'.cA g'.cn g'.cc,.int .i64 g'.r0,.int .i64 g'.r1,.int .i64 g'.r2,.int .i64 g'.r3,.int .i64 g'.r4,.int .i64 g'.r5,.int .i64 g'.r6,.int .i64 g'.r7,.int .i64 g'.r8,.int .i64 g'.r9,.int .i64 g'.r10,.int .i64 g'.r11,.int .i64 g'.r12,.int .i64 g'.r13,.int .i64 g'.r14,.slice g'.eA g'.en g'.ec]) rfl (yieldsIf_load_mid (by rfl) 29 _ rfl b 0 rfl [.string g'.cur,.int .i64 g'.Y,.int .i64 g'.M,.int .i64 g'.N,.slice g'.cA g'.cn g'.cc,.int .i64 g'.r0,.int .i64 g'.r1,.int .i64 g'.r2,.int .i64 g'.r3,.int .i64 g'.r4,.int .i64 g'.r5,.int .i64 g'.r6,.int .i64 g'.r7,.int .i64 g'.r8,.int .i64 g'.r9,.int .i64 g'.r10,.int .i64 g'.r11,.int .i64 g'.r12,.int .i64 g'.r13,.int .i64 g'.r14,.slice g'.eA g'.en g'.ec] _ (fun W' hS'=>fun j v hj=>by have:=cr9 j (gbox HJ.out.hb hS' sb);rw [Nat.zero_add,this];exact jrow_get hj) underlying29 rfl grpSize) hS ?_
 try simp only [z]
 refine tk (i:=4) (v:=.agg #[.int .i64 c.id,.int .i64 c.ent,.int .i64 c.date,.int .i64 c.kind,.int .i64 c.of_,.string c.text,.slice A n kc]) rfl (yieldsIf_load_mid (by rfl) 71 _ rfl w.heap.size 0 rfl [.int .i64 c.id,.int .i64 c.ent,.int .i64 c.date,.int .i64 c.kind,.int .i64 c.of_,.string c.text,.slice A n kc] _ (fun W' hS'=>range_of (gbox Hb0.out hS' s1)) underlying71 rfl etrSize) hS ?_
 try simp only [z]
 refine rd9 5 (by kernel_rfl) rfl (fun K hK=>?_)
 have HC:=Z1 (echeck_any W_0 g' c A n kc ((HJ.out.hg.below hS hB1).more (by have:=hS.size;omega)) ((Hx.out.below hS hB1).more (by have:=hS.size;omega)))
 go_simp
 refine HC.out.mono ?_
 rintro e W2 ⟨⟨m,rfl,hm⟩,hB2⟩
 have hS2:=hS.trans (hB2.mono hS.size)
 refine hK.out _ _ hS2 (fun _=>?_)
 clear hK K
 try simp only [z]
 refine rd9 6 (by kernel_rfl) rfl (fun K hK=>?_)
 go_simp
 refine hK.out _ _ hS2 (fun _=>?_)
 clear hK K
 try simp only [z]
 refine wpAnyH_done (by kernel_rfl) ?_ _
 try simp only [z]
 rw [HEt.out] at hm
 have HB2:=Z1 hS2
 have hBB2:=Z1 (hBB1.out.trans (hS2.mono hB1))
 have HJ2:=Z1 (HJ.out.below hS2 hB1)
 have Hx2:=Z1 (Hx.out.below hS2 hB1)
 have he2:=gbox Hb0.out hS2 s1
 have s2:w.heap.size<W2.heap.size:=some_lt he2
 have hb2:=HJ2.out.hb
 have sb2:b<W2.heap.size:=some_lt hb2
 have hB2:B<=W2.heap.size:=by have:=hS2.size;omega
 have He2:=Z1 he2
 clear hS hS2 hb2 he2 hB2 HB2
 have hB2:B<=W2.heap.size:=by omega
 by_cases hm0:m=0
 case neg =>
  have k1:(m != 0)=true:=by simp [hm0]
  have HV:Hid (Jr.postOk g p c=false):=by
   show _=_;unfold Jr.postOk
   cases hf:Jr.fine g c
   ·rfl
   ·exact absurd (hm.2 hf) hm0
  have Hm:=Z1 hm0
  clear hm hm0
  go_wp2
  go_ret
  exact PostPost.bad hBB2.out Hm.out HV.out
 have k1:(m != 0)=false:=by simp [hm0]
 have Hfine:=Z1 (hm.1 hm0)
 clear hm hm0
 go_upto_region 6 with(fail)
 have hl1:=HJ2.out.look1 c.id hwf.out.hid
 have z22:=cr9 22 HJ2.out.hb
 have y0:=cr9 0 He2.out
 simp at z22 y0
 cases hi:Jr.idx p c.id with
 | some k =>
  have HV:Hid (Jr.postOk g p c=false):=by show _=_;unfold Jr.postOk;rw [Jr.get_some hi];simp
  rw [hi] at hl1
  simp only [Option.map_some,Option.getD_some,Option.isSome_some] at hl1
  clear hi
  go_quiet (fail)
  go_wp2
  go_ret
  exact PostPost.bad (below_drawn hBB2.out _) (by decide) HV.out
 | none =>
 have Hnew:Hid ((Jr.get p c.id).isNone=true):=by show _=_;rw [Jr.get_none hi];rfl
 rw [hi] at hl1
 simp only [Option.map_none,Option.getD_none,Option.isSome_none] at hl1
 clear hi
 go_quiet (fail)
 obtain⟨W3,hW3⟩:∃ W3,W3=W2.drewN nq:=⟨_,rfl⟩
 have hB23:Below W2.heap.size W2 W3:=by rw [hW3];exact below_drawn (Below.refl _ _) _
 rw [<- hW3]
 have hBB3:=Z1 (hBB2.out.trans (hB23.mono hB2))
 have HJ3:=Z1 (HJ2.out.below hB23 hB2)
 have Hx3:=Z1 (Hx2.out.below hB23 hB2)
 have He3:=Z1 (gbox He2.out hB23 s2)
 have s3:w.heap.size<W3.heap.size:=some_lt He3.out
 have sb3:b<W3.heap.size:=some_lt HJ3.out.hb
 have hB3:B<=W3.heap.size:=by have:=hB23.size;omega
 have z21:=cr9 21 HJ3.out.hb
 have y3:=cr9 3 He3.out
 simp at z21 y3
 clear z22 y0 hl1 hW3 hB23 nq
 have hql:(q.length:Int)<2000:=by have:=Hlen.out;omega
 have HVa:Hid (Jr.postOk g p c=(decide (c.kind≠3)||Jr.revOk p c)):=by
  show _=_;unfold Jr.postOk;rw [Hfine.out,Hnew.out,decide_eq_true (show p.length<2000 by omega)];simp
 by_cases hk3:c.kind=3
 focus
  have k3:(c.kind==3)=true:=by simp [hk3]
  have K3:=Z1 hk3
  clear hk3
  go_upto_region 10 with(fail)
  have hrev:=Z1 (reverses_any W3 B b g p c A n kc ⟨g',q,A',cq,m1,m2,f1,f2,HJ3.out⟩ hB3 (Hx3.out.more hB3))
  go_wp2_with (refine wpList_load_row rfl 71 _ rfl _ rfl _ _ _ _ He3.out underlying71 rfl etrSize ?_)
  refine hrev.out.mono ?_
  rintro e W4 ⟨⟨m4,rfl,hm4⟩,hB4⟩
  have hBB4:=Z1 (hBB3.out.trans (hB4.mono hB3))
  by_cases hm0:m4=0
  case neg =>
   have k1:(m4 != 0)=true:=by simp [hm0]
   have HV:Hid (Jr.postOk g p c=false):=by
    show _=_;rw [HVa.out]
    cases hf:Jr.revOk p c
    ·simp [K3.out]
    ·exact absurd (hm4.2 hf) hm0
   have Hm:=Z1 hm0
   clear hm4 hm0 z21 y3
   go_wp2
   go_ret
   exact PostPost.bad hBB4.out Hm.out HV.out
  have k1:(m4 != 0)=false:=by simp [hm0]
  have HV:Hid (Jr.postOk g p c=true):=by show _=_;rw [HVa.out,hm4.1 hm0];simp
  have Hrv:=Z1 (hm4.1 hm0)
  clear hm4 hm0
  have HJ4:=Z1 (HJ3.out.below hB4 hB3)
  have Hx4:=Z1 (Hx3.out.below hB4 hB3)
  have He4:=Z1 (gbox He3.out hB4 s3)
  have s4:w.heap.size<W4.heap.size:=some_lt He4.out
  have sb4:b<W4.heap.size:=some_lt HJ4.out.hb
  have hB4:B<=W4.heap.size:=by have:=hB4.size;omega
  have z21':=cr9 21 HJ4.out.hb
  have y3':=cr9 3 He4.out
  simp at z21' y3'
  clear z21 y3
  go_upto_region 16 with(fail)
  have hS:(fun W':World=>W'.heap[b]?=some (.cells #[.string g'.cur,.int .i64 g'.Y,.int .i64 g'.M,.int .i64 g'.N,.slice g'.cA g'.cn g'.cc,.int .i64 g'.r0,.int .i64 g'.r1,.int .i64 g'.r2,.int .i64 g'.r3,.int .i64 g'.r4,.int .i64 g'.r5,.int .i64 g'.r6,.int .i64 g'.r7,.int .i64 g'.r8,.int .i64 g'.r9,.int .i64 g'.r10,.int .i64 g'.r11,.int .i64 g'.r12,.int .i64 g'.r13,.int .i64 g'.r14,.slice g'.eA g'.en g'.ec,.slice A' q.length cq,.map (some m1),.map (some m2)] 219 (0,0))/\W'.heap[w.heap.size]?=some (.cells #[.int .i64 c.id,.int .i64 c.ent,.int .i64 c.date,.int .i64 c.kind,.int .i64 c.of_,.string c.text,.slice A n kc] 71 (0,0))) W4.drew:=⟨HJ4.out.hb,He4.out⟩
  refine wp_region_held (S:=fun W':World=>W'.heap[b]?=some (.cells #[.string g'.cur,.int .i64 g'.Y,.int .i64 g'.M,.int .i64 g'.N,.slice g'.cA g'.cn g'.cc,.int .i64 g'.r0,.int .i64 g'.r1,.int .i64 g'.r2,.int .i64 g'.r3,.int .i64 g'.r4,.int .i64 g'.r5,.int .i64 g'.r6,.int .i64 g'.r7,.int .i64 g'.r8,.int .i64 g'.r9,.int .i64 g'.r10,.int .i64 g'.r11,.int .i64 g'.r12,.int .i64 g'.r13,.int .i64 g'.r14,.slice g'.eA g'.en g'.ec,.slice A' q.length cq,.map (some m1),.map (some m2)] 219 (0,0))/\W'.heap[w.heap.size]?=some (.cells #[.int .i64 c.id,.int .i64 c.ent,.int .i64 c.date,.int .i64 c.kind,.int .i64 c.of_,.string c.text,.slice A n kc] 71 (0,0))) (by kernel_rfl) ?_
  change wpAnyH _ _ _ _ _ _ _ _ (World.drew W4)
  obtain⟨W_0,hWd⟩:∃ W0,W0=W4.drew:=⟨_,rfl⟩
  have hB_0:Below W4.heap.size W4 W_0:=by rw [hWd];exact below_drawn (Below.refl _ _) 1
  rw [<- hWd] at hS ⊢
  clear hWd
  refine tk (i:=0) (v:=.pointer (some ⟨b,0,none⟩)) rfl (.inl ⟨by rfl,fun W' hS'=>by go_simp⟩) hS ?_
  try simp only [z]
  refine tk (i:=1) (v:=.pointer (some ⟨b,0,none⟩)) rfl (.inl ⟨by rfl,fun W' hS'=>by go_simp⟩) hS ?_
  try simp only [z]
  refine tk (i:=2) (v:=.pointer (some ⟨b,23,none⟩)) rfl (.inl ⟨by rfl,fun W' hS'=>by go_simp⟩) hS ?_
  try simp only [z]
  refine tk (i:=3) (v:=.map (some m2)) rfl (.inl ⟨by rfl,fun W' hS'=>by have c0:=cr9 23 hS'.1;simp at c0;have c9:b<W'.heap.size:=some_lt hS'.1;go_simp⟩) hS ?_
  try simp only [z]
  refine tk (i:=4) (v:=.pointer (some ⟨w.heap.size,4,none⟩)) rfl (.inl ⟨by rfl,fun W' hS'=>by go_simp⟩) hS ?_
  try simp only [z]
  refine tk (i:=5) (v:=.int .i64 c.of_) rfl (.inl ⟨by rfl,fun W' hS'=>by have c0:=cr9 4 hS'.2;simp at c0;have c9:w.heap.size<W'.heap.size:=some_lt hS'.2;go_simp⟩) hS ?_
  try simp only [z]
  refine tk (i:=6) (v:=.pointer (some ⟨w.heap.size,0,none⟩)) rfl (.inl ⟨by rfl,fun W' hS'=>by go_simp⟩) hS ?_
  try simp only [z]
  refine tk (i:=7) (v:=.int .i64 c.id) rfl (.inl ⟨by rfl,fun W' hS'=>by have c0:=cr9 0 hS'.2;simp at c0;have c9:w.heap.size<W'.heap.size:=some_lt hS'.2;go_simp⟩) hS ?_
  try simp only [z]
  refine rd9 8 (by kernel_rfl) rfl (fun K hK=>?_)
  have HJ4':=HJ4.out.below hB_0 hB4
  have hmx:p.length<maxLen:=by unfold maxLen;omega
  refine wp_mapUpdate_i _ _ _ rfl HJ4'.h2 underlying217 rfl hmx c.of_ _ rfl rfl hwf.out.hof ?_
  intro W5 f5 hm5 hf5 hg5
  have hne1:some b≠some m2:=fun q=>map_ne_cells HJ4'.h2 hS.1 (Option.some.inj q).symm
  have hne2:some w.heap.size≠some m2:=fun q=>map_ne_cells HJ4'.h2 hS.2 (Option.some.inj q).symm
  have hS5:(fun W':World=>W'.heap[b]?=some (.cells #[.string g'.cur,.int .i64 g'.Y,.int .i64 g'.M,.int .i64 g'.N,.slice g'.cA g'.cn g'.cc,.int .i64 g'.r0,.int .i64 g'.r1,.int .i64 g'.r2,.int .i64 g'.r3,.int .i64 g'.r4,.int .i64 g'.r5,.int .i64 g'.r6,.int .i64 g'.r7,.int .i64 g'.r8,.int .i64 g'.r9,.int .i64 g'.r10,.int .i64 g'.r11,.int .i64 g'.r12,.int .i64 g'.r13,.int .i64 g'.r14,.slice g'.eA g'.en g'.ec,.slice A' q.length cq,.map (some m1),.map (some m2)] 219 (0,0))/\W'.heap[w.heap.size]?=some (.cells #[.int .i64 c.id,.int .i64 c.ent,.int .i64 c.date,.int .i64 c.kind,.int .i64 c.of_,.string c.text,.slice A n kc] 71 (0,0))) W5:=⟨(hg5.block b (some_lt hS.1) hne1).trans hS.1,(hg5.block _ (some_lt hS.2) hne2).trans hS.2⟩
  refine hK.out _ _ hS5 (fun _=>?_)
  clear hK K
  try simp only [z]
  refine wpAnyH_done (by kernel_rfl) ?_ _
  try simp only [z]
  have hBB5:=Z1 ((hBB4.out.trans (hB_0.mono hB4)).grown hg5 (by have:=hB_0.size;omega) (fun j e=>by cases e;exact HJ4'.hB2))
  have Hlin:∀ cur fr,W_0.heap[m2]?≠some (.cells cur 68 fr):=fun cur fr e=>map_ne_cells HJ4'.h2 e rfl
  have HM:Hid (Jrm B W5 b g p c g' q A' cq m1 m2 f5):=by
   refine⟨hS5.1,HJ4'.he,HJ4'.hg.below ((Below.refl B _).grown hg5 (by have:=hB_0.size;omega) (fun j e=>by cases e;exact HJ4'.hB2)) (Nat.le_refl _),HJ4'.hBb,HJ4'.hB1,HJ4'.hB2,HJ4'.hne,HJ4'.hq,HJ4'.ho.kept hg5 (.inr fun e=>map_ne_own HJ4'.h2 HJ4'.ho e.symm),fun x hx=>Etr.kept (HJ4'.hx x hx) Hlin hg5,hm5,fun z=>?_,HJ4'.hw⟩
   rw [Jr.revd_snoc]
   rw [hf5]
   by_cases hz:z=c.of_
   ·rw [if_pos hz];simp [hz,K3.out]
   ·rw [if_neg hz,HJ4'.hf2];simp [Ne.symm hz]
  have HI:Hid (MapAt W5 prog 3 m1 p.length f1):=HJ4'.h1.kept hg5 (by simp [HJ4'.hne])
  have Hf1:=Z1 HJ4'.hf1
  have He5:=Z1 hS5.2
  have hg5B:=(Below.refl B W_0).grown hg5 (by have:=hB_0.size;omega) (fun j e=>by cases e;exact HJ4'.hB2)
  have Hx5:=Z1 ((Hx4.out.below hB_0 hB4).below hg5B (Nat.le_refl _))
  have s5:w.heap.size<W5.heap.size:=some_lt He5.out
  have sb5:b<W5.heap.size:=some_lt HM.out.hb
  have hB5:B<=W5.heap.size:=by have:=hBB5.out.size;omega
  obtain⟨f2',hf2'⟩:∃ f2',f2'=f5:=⟨_,rfl⟩
  rw [<- hf2'] at HM
  clear hf2' hm5 hf5 hg5 hne1 hne2 hS5 hS hB_0 Hlin HJ4' hg5B z21' y3'
  go_upto_region 17 with(fail)
 rotate_left
 focus
  have k3:(c.kind==3)=false:=by simp [hk3]
  have HV:Hid (Jr.postOk g p c=true):=by show _=_;rw [HVa.out];simp [hk3]
  have HM:Hid (Jrm B W3 b g p c g' q A' cq m1 m2 f2) :=
   ⟨HJ3.out.hb,HJ3.out.he,HJ3.out.hg,HJ3.out.hBb,HJ3.out.hB1,HJ3.out.hB2,HJ3.out.hne,HJ3.out.hq,HJ3.out.ho,HJ3.out.hx,HJ3.out.h2.mono (by omega),fun z=>by rw [Jr.revd_snoc,HJ3.out.hf2];simp [hk3],HJ3.out.hw⟩
  have HI:Hid (MapAt W3 prog 3 m1 p.length f1):=HJ3.out.h1
  have Hf1:=Z1 HJ3.out.hf1
  obtain⟨W5,hW5⟩:∃ W5,W5=W3:=⟨_,rfl⟩
  obtain⟨f2',hf2'⟩:∃ f2',f2'=f2:=⟨_,rfl⟩
  rw [<- hf2'] at HM
  clear hf2'
  rw [<- hW5] at HM HI hBB3 He3 Hx3 s3 sb3 hB3 z21 y3 ⊢
  have hBB5:=hBB3
  have He5:=He3
  have Hx5:=Hx3
  have s5:=s3
  have sb5:=sb3
  have hB5:=hB3
  clear hk3 hW5
  go_upto_region 17 with(fail)
  clear z21 y3
 all_goals
  have HJ5:=HM.out
  have hS:(fun W':World=>W'.heap[b]?=some (.cells #[.string g'.cur,.int .i64 g'.Y,.int .i64 g'.M,.int .i64 g'.N,.slice g'.cA g'.cn g'.cc,.int .i64 g'.r0,.int .i64 g'.r1,.int .i64 g'.r2,.int .i64 g'.r3,.int .i64 g'.r4,.int .i64 g'.r5,.int .i64 g'.r6,.int .i64 g'.r7,.int .i64 g'.r8,.int .i64 g'.r9,.int .i64 g'.r10,.int .i64 g'.r11,.int .i64 g'.r12,.int .i64 g'.r13,.int .i64 g'.r14,.slice g'.eA g'.en g'.ec,.slice A' q.length cq,.map (some m1),.map (some m2)] 219 (0,0))/\W'.heap[w.heap.size]?=some (.cells #[.int .i64 c.id,.int .i64 c.ent,.int .i64 c.date,.int .i64 c.kind,.int .i64 c.of_,.string c.text,.slice A n kc] 71 (0,0))) W5.drew:=⟨HM.out.hb,He5.out⟩
  refine wp_region_held (S:=fun W':World=>W'.heap[b]?=some (.cells #[.string g'.cur,.int .i64 g'.Y,.int .i64 g'.M,.int .i64 g'.N,.slice g'.cA g'.cn g'.cc,.int .i64 g'.r0,.int .i64 g'.r1,.int .i64 g'.r2,.int .i64 g'.r3,.int .i64 g'.r4,.int .i64 g'.r5,.int .i64 g'.r6,.int .i64 g'.r7,.int .i64 g'.r8,.int .i64 g'.r9,.int .i64 g'.r10,.int .i64 g'.r11,.int .i64 g'.r12,.int .i64 g'.r13,.int .i64 g'.r14,.slice g'.eA g'.en g'.ec,.slice A' q.length cq,.map (some m1),.map (some m2)] 219 (0,0))/\W'.heap[w.heap.size]?=some (.cells #[.int .i64 c.id,.int .i64 c.ent,.int .i64 c.date,.int .i64 c.kind,.int .i64 c.of_,.string c.text,.slice A n kc] 71 (0,0))) (by kernel_rfl) ?_
  change wpAnyH _ _ _ _ _ _ _ _ (World.drew W5)
  obtain⟨W_0,hWd⟩:∃ W0,W0=W5.drew:=⟨_,rfl⟩
  have hB_0:Below W5.heap.size W5 W_0:=by rw [hWd];exact below_drawn (Below.refl _ _) 1
  rw [<- hWd] at hS ⊢
  clear hWd
  refine tk (i:=0) (v:=.pointer (some ⟨b,0,none⟩)) rfl (.inl ⟨by rfl,fun W' hS'=>by go_simp⟩) hS ?_
  try simp only [z]
  refine tk (i:=1) (v:=.pointer (some ⟨b,0,none⟩)) rfl (.inl ⟨by rfl,fun W' hS'=>by go_simp⟩) hS ?_
  try simp only [z]
  refine tk (i:=2) (v:=.pointer (some ⟨b,22,none⟩)) rfl (.inl ⟨by rfl,fun W' hS'=>by go_simp⟩) hS ?_
  try simp only [z]
  refine tk (i:=3) (v:=.map (some m1)) rfl (.inl ⟨by rfl,fun W' hS'=>by have c0:=cr9 22 hS'.1;simp at c0;have c9:b<W'.heap.size:=some_lt hS'.1;go_simp⟩) hS ?_
  try simp only [z]
  refine tk (i:=4) (v:=.pointer (some ⟨w.heap.size,0,none⟩)) rfl (.inl ⟨by rfl,fun W' hS'=>by go_simp⟩) hS ?_
  try simp only [z]
  refine tk (i:=5) (v:=.int .i64 c.id) rfl (.inl ⟨by rfl,fun W' hS'=>by have c0:=cr9 0 hS'.2;simp at c0;have c9:w.heap.size<W'.heap.size:=some_lt hS'.2;go_simp⟩) hS ?_
  try simp only [z]
  refine tk (i:=6) (v:=.pointer (some ⟨b,0,none⟩)) rfl (.inl ⟨by rfl,fun W' hS'=>by go_simp⟩) hS ?_
  try simp only [z]
  refine tk (i:=7) (v:=.pointer (some ⟨b,0,none⟩)) rfl (.inl ⟨by rfl,fun W' hS'=>by go_simp⟩) hS ?_
  try simp only [z]
  refine tk (i:=8) (v:=.pointer (some ⟨b,21,none⟩)) rfl (.inl ⟨by rfl,fun W' hS'=>by go_simp⟩) hS ?_
  try simp only [z]
  refine tk (i:=9) (v:=.slice A' q.length cq) rfl (.inl ⟨by rfl,fun W' hS'=>by have c0:=cr9 21 hS'.1;simp at c0;have c9:b<W'.heap.size:=some_lt hS'.1;go_simp⟩) hS ?_
  try simp only [z]
  refine tk (i:=10) (v:=.int .i64 q.length) rfl (.inl ⟨by rfl,fun W' hS'=>by go_simp⟩) hS ?_
  try simp only [z]
  refine rd9 11 (by kernel_rfl) rfl (fun K hK=>?_)
  have hI':=HI.out.below hB_0 HI.out.lt
  have hmx:p.length<maxLen:=by unfold maxLen;omega
  refine wp_mapUpdate_i _ _ _ rfl hI' underlying217 rfl hmx c.id _ rfl rfl hwf.out.hid ?_
  intro W6 f6 hm6 hf6 hg6
  have hne1:some b≠some m1:=fun q=>map_ne_cells hI' hS.1 (Option.some.inj q).symm
  have hne2:some w.heap.size≠some m1:=fun q=>map_ne_cells hI' hS.2 (Option.some.inj q).symm
  have hS6:(fun W':World=>W'.heap[b]?=some (.cells #[.string g'.cur,.int .i64 g'.Y,.int .i64 g'.M,.int .i64 g'.N,.slice g'.cA g'.cn g'.cc,.int .i64 g'.r0,.int .i64 g'.r1,.int .i64 g'.r2,.int .i64 g'.r3,.int .i64 g'.r4,.int .i64 g'.r5,.int .i64 g'.r6,.int .i64 g'.r7,.int .i64 g'.r8,.int .i64 g'.r9,.int .i64 g'.r10,.int .i64 g'.r11,.int .i64 g'.r12,.int .i64 g'.r13,.int .i64 g'.r14,.slice g'.eA g'.en g'.ec,.slice A' q.length cq,.map (some m1),.map (some m2)] 219 (0,0))/\W'.heap[w.heap.size]?=some (.cells #[.int .i64 c.id,.int .i64 c.ent,.int .i64 c.date,.int .i64 c.kind,.int .i64 c.of_,.string c.text,.slice A n kc] 71 (0,0))) W6:=⟨(hg6.block b (some_lt hS.1) hne1).trans hS.1,(hg6.block _ (some_lt hS.2) hne2).trans hS.2⟩
  refine hK.out _ _ hS6 (fun _=>?_)
  clear hK K
  try simp only [z]
  refine wpAnyH_done (by kernel_rfl) ?_ _
  try simp only [z]
  have hB06:Below B W5 W6:=(hB_0.mono hB5).grown hg6 (by have:=hB_0.size;omega) (fun j e=>by cases e;exact HJ5.hB1)
  have HBB6:=Z1 (hBB5.out.trans hB06)
  have Hlin:∀ cur fr,W_0.heap[m1]?≠some (.cells cur 68 fr):=fun cur fr e=>map_ne_cells hI' e rfl
  have hx0:∀ x∈q,x.At W_0 W_0.heap.size/\RowsTy 68 W_0 x.lA x.c.lines:=fun x hx=>⟨(HJ5.hx x hx).1.at_ hB_0,(HJ5.hx x hx).2.below hB_0⟩
  have ho0:=pOwns_below HJ5.ho hB_0
  have Hb6:=Z1 hS6.1
  have He6:=Z1 hS6.2
  have Hg6:=Z1 (HJ5.hg.below hB06 (Nat.le_refl _))
  have Ho6:=Z1 (ho0.kept hg6 (.inr fun e=>map_ne_own hI' ho0 e.symm))
  have Hl6:=Z1 (fun x hx=>Etr.kept (hx0 x hx) Hlin hg6:∀ x∈q,x.At W6 W6.heap.size/\RowsTy 68 W6 x.lA x.c.lines)
  have Hm6:=Z1 hm6
  have Hn6:=Z1 ((HJ5.h2.below hB_0 HJ5.h2.lt).kept hg6 (by simp [HJ5.hne.symm]))
  have Hx6:=Z1 (Hx5.out.below hB06 (Nat.le_refl _))
  have hidx:Hid (∀ z,f6 (.int .i64 z)=(Jr.idx (p++[c]) z).map (fun(k:Nat)=>Value.int .i64 (k:Int))):=Z1 fun z=>by
   rw [hf6,Jr.idx_snoc Hnew.out,Hf1.out]
   by_cases hz:z=c.id
   ·rw [if_pos hz,if_pos hz,Hlen.out];rfl
   ·rw [if_neg hz,if_neg hz]
  have s6:w.heap.size<W6.heap.size:=some_lt He6.out
  have sb6:b<W6.heap.size:=some_lt Hb6.out
  have hB6:B<=W6.heap.size:=by have:=HBB6.out.size;omega
  have Hown6:Hid (∀ k,(Value.slice A' q.length cq).ownBlock=some k->k≠w.heap.size):=Z1 fun k hk e=>by have:=(Hown0.out.lt k hk).2;omega
  clear hm6 hf6 hg6 hne1 hne2 hS6 hS hB_0 Hlin hI' hx0 ho0 hB06
  go_upto_region 18 with(fail)
  have hS:(fun W':World=>W'.heap[w.heap.size]?=some (.cells #[.int .i64 c.id,.int .i64 c.ent,.int .i64 c.date,.int .i64 c.kind,.int .i64 c.of_,.string c.text,.slice A n kc] 71 (0,0))) W6.drew:=He6.out
  refine wp_region_held (S:=fun W':World=>W'.heap[w.heap.size]?=some (.cells #[.int .i64 c.id,.int .i64 c.ent,.int .i64 c.date,.int .i64 c.kind,.int .i64 c.of_,.string c.text,.slice A n kc] 71 (0,0))) (by kernel_rfl) ?_
  change wpAnyH _ _ _ _ _ _ _ _ (World.drew W6)
  obtain⟨W_0,hWd⟩:∃ W0,W0=W6.drew:=⟨_,rfl⟩
  have hB_0:Below W6.heap.size W6 W_0:=by rw [hWd];exact below_drawn (Below.refl _ _) 1
  have hz_0:W_0.heap.size=W6.heap.size:=by rw [hWd];rfl
  rw [<- hWd] at hS ⊢
  clear hWd
  refine tk (i:=0) (v:=.pointer (some ⟨b,0,none⟩)) rfl (.inl ⟨by rfl,fun W' hS'=>by go_simp⟩) hS ?_
  try simp only [z]
  refine tk (i:=1) (v:=.pointer (some ⟨b,0,none⟩)) rfl (.inl ⟨by rfl,fun W' hS'=>by go_simp⟩) hS ?_
  try simp only [z]
  refine tk (i:=2) (v:=.pointer (some ⟨b,0,none⟩)) rfl (.inl ⟨by rfl,fun W' hS'=>by go_simp⟩) hS ?_
  try simp only [z]
  refine tk (i:=3) (v:=.pointer (some ⟨b,21,none⟩)) rfl (.inl ⟨by rfl,fun W' hS'=>by go_simp⟩) hS ?_
  try simp only [z]
  refine tk (i:=5) (v:=.agg #[.int .i64 c.id,.int .i64 c.ent,.int .i64 c.date,.int .i64 c.kind,.int .i64 c.of_,.string c.text,.slice A n kc]) rfl (yieldsIf_load_mid (by rfl) 71 _ rfl w.heap.size 0 rfl [.int .i64 c.id,.int .i64 c.ent,.int .i64 c.date,.int .i64 c.kind,.int .i64 c.of_,.string c.text,.slice A n kc] _ (fun W' hS'=>range_of hS') underlying71 rfl etrSize) hS ?_
  try simp only [z]
  refine wpAnyH_letters fun md' ops' Q' a' hlm hlo hlq hla=>?_
  obtain⟨RG,hRG⟩:∃ R:World->Prop,R=fun W':World=>W'.heap[w.heap.size]?=some (.cells #[.int .i64 c.id,.int .i64 c.ent,.int .i64 c.date,.int .i64 c.kind,.int .i64 c.of_,.string c.text,.slice A n kc] 71 (0,0)):=⟨_,rfl⟩
  rw [<- hRG]
  have fin:∀(W7:World) (A7:Option Addr) (k7:Nat),Below W6.heap.size W6 W7->(⟨c,A7,n,k7⟩:Etr).At W7 W7.heap.size->RowsTy 68 W7 A7 c.lines ->
   wpAnyH prog md' ops' Q' RG 4 #[true,true,true,true,true,true,true,true,false,false,false,false] (((a'.put (some 72) (.slice A' q.length cq)).put (some 74) (.agg #[.int .i64 c.id,.int .i64 c.ent,.int .i64 c.date,.int .i64 c.kind,.int .i64 c.of_,.string c.text,.slice A7 n k7])).put (some 75) (.slice (some ⟨W7.heap.size,0,none⟩) 1 1)) (W7.alloc (.cells #[.int .i64 c.id,.int .i64 c.ent,.int .i64 c.date,.int .i64 c.kind,.int .i64 c.of_,.string c.text,.slice A7 n k7] 71)):=by
   intro W7 A7 k7 h7 hat hty
   subst hlm hlo hlq hla hRG
   try simp only [z]
   obtain⟨i0,hi,hz0,hz1,hz2⟩:=info_parts etrInfo
   have ha8:Below W7.heap.size W7 (W7.alloc (.cells #[.int .i64 c.id,.int .i64 c.ent,.int .i64 c.date,.int .i64 c.kind,.int .i64 c.of_,.string c.text,.slice A7 n k7] 71)):=(Below.refl _ _).alloc (Nat.le_refl _) _
   have h8:=h7.trans (ha8.mono h7.size)
   have hS8:=gbox He6.out h8 s6
   have hb8:=gbox Hb6.out h8 sb6
   have ho8:=pOwns_below Ho6.out h8
   have hnew:=cells_new W7 [.int .i64 c.id,.int .i64 c.ent,.int .i64 c.date,.int .i64 c.kind,.int .i64 c.of_,.string c.text,.slice A7 n k7] 71
   have hone:∀ u∈([.int .i64 c.id,.int .i64 c.ent,.int .i64 c.date,.int .i64 c.kind,.int .i64 c.of_,.string c.text,.slice A7 n k7]:List Value),u.oneCell'=true:=by simp [Value.oneCell']
   have hlq:=Hlen.out
   have h63:q.length+1<=maxLen:=by unfold maxLen;omega
   have h64:(q.length+1)*80<=140737488355328:=by omega
   have h65:B<=(W7.alloc (.cells #[.int .i64 c.id,.int .i64 c.ent,.int .i64 c.date,.int .i64 c.kind,.int .i64 c.of_,.string c.text,.slice A7 n k7] 71)).heap.size:=by have:=h8.size;omega
   have hx8:=fun x hx=>(⟨(Hl6.out x hx).1.at_ h8,(Hl6.out x hx).2.below h8⟩:_/\_)
   have hm8:=Hm6.out.below h8 Hm6.out.lt
   have hn8:=Hn6.out.below h8 Hn6.out.lt
   have hat8:=hat.at_ ha8
   have hty8:=hty.below ha8
   obtain⟨W8,hW8⟩:∃ W8,W8=W7.alloc (.cells #[.int .i64 c.id,.int .i64 c.ent,.int .i64 c.date,.int .i64 c.kind,.int .i64 c.of_,.string c.text,.slice A7 n k7] 71):=⟨_,rfl⟩
   have hnew':∀ j u,([.int .i64 c.id,.int .i64 c.ent,.int .i64 c.date,.int .i64 c.kind,.int .i64 c.of_,.string c.text,.slice A7 n k7]:List Value)[j]?=some u->W8.cell? ((⟨W7.heap.size,0,none⟩:Addr).add j)=some u:=by rw [hW8];exact hnew
   rw [<- hW8] at ha8 h8 hS8 hb8 ho8 h65 hx8 hm8 hn8 hat8 hty8 ⊢
   clear hnew
   refine rd9 8 (by kernel_rfl) rfl (fun K hK=>?_)
   refine wp_append_own W8 _ _ 30 rfl B 71 i0 (.agg #[.int .i64 0,.int .i64 0,.int .i64 0,.int .i64 0,.int .i64 0,.string ByteArray.empty,.slice none 0 0]) 7 80 underlying30 hi hz0 hz1 hz2 rfl (by decide) _ _ _ rfl ho8 ⟨W7.heap.size,0,none⟩ 1 1 [.int .i64 c.id,.int .i64 c.ent,.int .i64 c.date,.int .i64 c.kind,.int .i64 c.of_,.string c.text,.slice A7 n k7] rfl rfl hnew' hone h63 h64 h65 ?_
   intro v9 W9 hown9 hgrow9 _
   obtain⟨A9,c9,rfl⟩:∃ A9 c9,v9=.slice A9 (q.length+1) c9:=by
    rcases hown9.2 with⟨e,h0⟩ | ⟨g,cap,cur,e,_⟩
    ·omega
    ·exact⟨_,_,e⟩
   have hne9:∀ k,(Value.slice A' q.length cq).ownBlock=some k->k≠b:=fun k hk e=>by
    subst e
    rcases ho8.2 with⟨e,_⟩ | ⟨g,cap,cur',e,_,hg',_⟩
    ·rw [e] at hk;simp [Value.ownBlock] at hk
    ·rw [e] at hk;simp [Value.ownBlock] at hk;subst hk;rw [hb8] at hg';cases hg'
   have hb9:=(hgrow9.block b (some_lt hb8) (fun e=>hne9 b e.symm rfl)).trans hb8
   have hS9:=(hgrow9.block w.heap.size (some_lt hS8) (fun e=>Hown6.out _ e.symm rfl)).trans hS8
   have hx9:∀ x∈q,x.At W9 W9.heap.size/\RowsTy 68 W9 x.lA x.c.lines:=fun x hx=>by
    obtain⟨r1,r2⟩:=(hx8 x hx).2.kept (hx8 x hx).1.hA ho8 (by decide) hgrow9
    exact⟨⟨(hx8 x hx).1.hl,r2,(hx8 x hx).1.hw⟩,r1⟩
   have hxn:(⟨c,A7,n,k7⟩:Etr).At W9 W9.heap.size/\RowsTy 68 W9 A7 c.lines:=by
    obtain⟨r1,r2⟩:=hty8.kept hat8.hA ho8 (by decide) hgrow9
    exact⟨⟨hat8.hl,r2,hat8.hw⟩,r1⟩
   have hm9:=hm8.kept hgrow9 (map_ne_own hm8 ho8)
   have hn9:=hn8.kept hgrow9 (map_ne_own hn8 ho8)
   have hB89:Below B W8 W9:=(Below.refl B W8).grown hgrow9 h65 (fun k hk=>(ho8.lt k hk).1)
   have hB69:Below B W6 W9:=(h8.mono hB6).trans hB89
   refine hK.out _ _ hS9 (fun _=>?_)
   clear hK K
   try simp only [z]
   refine tk (i:=9) (v:=.pointer (some ⟨b,0,none⟩)) rfl (.inl ⟨by rfl,fun W' hS'=>by go_simp⟩) hS9 ?_
   try simp only [z]
   refine tk (i:=10) (v:=.pointer (some ⟨b,21,none⟩)) rfl (.inl ⟨by rfl,fun W' hS'=>by go_simp⟩) hS9 ?_
   try simp only [z]
   refine rd9 11 (by kernel_rfl) rfl (fun K hK=>?_)
   have c21:=cr9 21 hb9
   simp at c21
   have sb9:b<W9.heap.size:=some_lt hb9
   have cf:=fun j=>fr0 j hb9
   go_simp
   have hb10:=heap_setCell_same W9 b 21 _ _ (.slice A9 (q.length+1) c9) hb9
   simp at hb10
   have hS10:(W9.setCell ⟨b,21,none⟩ (.slice A9 (q.length+1) c9)).heap[w.heap.size]?=some (.cells #[.int .i64 c.id,.int .i64 c.ent,.int .i64 c.date,.int .i64 c.kind,.int .i64 c.of_,.string c.text,.slice A n kc] 71 (0,0)):=(heap_setCell_other W9 ⟨b,21,none⟩ _ _ (Ne.symm Hbe.out)).trans hS9
   refine hK.out _ _ hS10 (fun _=>?_)
   clear hK K
   refine wpAnyH_done (by kernel_rfl) ?_ _
   try simp only [z]
   have hg10:W9.grownBy (W9.setCell ⟨b,21,none⟩ (.slice A9 (q.length+1) c9)) (some b):=grown_set (grown_refl _ _) _ _
   obtain⟨W10,hW10⟩:∃ W10,W10=W9.setCell ⟨b,21,none⟩ (.slice A9 (q.length+1) c9):=⟨_,rfl⟩
   rw [<- hW10] at hb10 hS10 hg10 ⊢
   have hB9:B<=W9.heap.size:=by have:=hB69.size;omega
   have hB910:Below B W9 W10:=(Below.refl B W9).grown hg10 hB9 (fun k hk=>by cases hk;exact HM.out.hBb)
   have hB610:=hB69.trans hB910
   have Hlin:∀ cur fr,W9.heap[b]?≠some (.cells cur 68 fr):=fun cur fr e=>by rw [hb9] at e;cases e
   have hown10:=hown9.kept hg10 (.inr fun e=>by
    rcases hown9.2 with⟨q1,h0⟩ | ⟨g,cap,cur,q1,_,hg',_⟩
    ·omega
    ·rw [q1] at e;simp [Value.ownBlock] at e;subst e;rw [hb9] at hg';cases hg')
   have HF:Hid (Jrns B W10 b g (p++[c])):=by
    refine⟨g',q++[⟨c,A7,n,k7⟩],A9,c9,m1,m2,f6,f2',?_⟩
    have hql1:(q++[(⟨c,A7,n,k7⟩:Etr)]).length=q.length+1:=by simp
    refine⟨by rw [hql1];exact hb10,HM.out.he,Hg6.out.below hB610 (Nat.le_refl _),HM.out.hBb,HM.out.hB1,HM.out.hB2,HM.out.hne,by rw [List.map_append,HM.out.hq];rfl,?_,fun x hx=>?_,?_,?_,hidx.out,HM.out.hf2,fun x hx=>?_⟩
    ·rw [hql1,List.flatMap_append];exact hown10
    ·rw [List.mem_append,List.mem_singleton] at hx
     rcases hx with hx | rfl
     ·exact Etr.kept (hx9 x hx) Hlin hg10
     ·exact Etr.kept hxn Hlin hg10
    ·rw [List.length_append];exact hm9.kept hg10 (fun e=>map_ne_cells hm9 hb9 (Option.some.inj e))
    ·rw [List.length_append];exact hn9.kept hg10 (fun e=>map_ne_cells hn9 hb9 (Option.some.inj e))
    ·rw [List.mem_append,List.mem_singleton] at hx
     rcases hx with hx | rfl
     ·exact HM.out.hw x hx
     ·exact hwf.out
   have HBF:=Z1 (HBB6.out.trans hB610)
   clear hb10 hS10 hg10 hB910 hB610 Hlin hown10 hB9 hB69 hB89 hm9 hn9 hxn hx9 hS9 hb9 hne9 hown9 hgrow9 c21 cf sb9 hat8 hty8 hn8 hm8 hx8 h63 h64 h65 hone hnew' ho8 hb8 hS8 h8 ha8 h7 hat hty hW10 hW8 hlq hS
   go_wp2
   go_ret
   exact⟨HBF.out,0,rfl,by simp [HV.out],fun _=>HF.out⟩
  subst hlm hlo hlq hla hRG
  try simp only [z]
  refine wpAnyH_ready (rs:=[4,6]) (by kernel_rfl) (by simp) (.cons rfl (fun K hK=>?_) (.cons rfl (fun K hK=>?_) .nil))
  ·have q1:=gbox Hb6.out hB_0 sb6
   have c0:=cr9 21 q1
   simp at c0
   have c9:=some_lt q1
   go_simp
   refine hK.out _ _ (gbox He6.out hB_0 s6) (fun _=>?_)
   clear hK K c0 c9 q1
   try simp only [z]
   refine wpAnyH_ready (rs:=[6]) (by kernel_rfl) (by simp) (.cons rfl (fun K hK=>?_) .nil)
   have HC:=Z1 (copied_any W_0 c A n kc ((Hx6.out.below (hB_0.mono hB6) (Nat.le_refl _)).more (by have:=hB_0.size;omega)))
   go_simp
   refine HC.out.mono ?_
   rintro r W7 ⟨hB7,A7,k7,rfl,hat,hty⟩
   have hB7':=hB_0.trans (hB7.mono hB_0.size)
   refine hK.out _ _ (gbox He6.out hB7' s6) (fun _=>?_)
   clear hK K
   try simp only [z]
   refine wpAnyH_ready (rs:=[7]) (by kernel_rfl) (by simp) (.cons rfl (fun K hK=>?_) .nil)
   have hB8':Below W6.heap.size W6 (W7.alloc (.cells #[.int .i64 c.id,.int .i64 c.ent,.int .i64 c.date,.int .i64 c.kind,.int .i64 c.of_,.string c.text,.slice A7 n k7] 71)):=hB7'.trans (((Below.refl _ _).alloc (Nat.le_refl _) _).mono hB7'.size)
   go_simp
   refine hK.out _ _ (gbox He6.out hB8' s6) (fun _=>?_)
   clear hK K
   try simp only [z]
   have hn:=fin W7 A7 k7 hB7' hat hty
   try simp only [z] at hn
   exact hn
  ·have HC:=Z1 (copied_any W_0 c A n kc ((Hx6.out.below (hB_0.mono hB6) (Nat.le_refl _)).more (by have:=hB_0.size;omega)))
   go_simp
   refine HC.out.mono ?_
   rintro r W7 ⟨hB7,A7,k7,rfl,hat,hty⟩
   have hB7':=hB_0.trans (hB7.mono hB_0.size)
   refine hK.out _ _ (gbox He6.out hB7' s6) (fun _=>?_)
   clear hK K
   try simp only [z]
   refine wpAnyH_ready (rs:=[4,7]) (by kernel_rfl) (by simp) (.cons rfl (fun K hK=>?_) (.cons rfl (fun K hK=>?_) .nil))
   ·have q1:=gbox Hb6.out hB7' sb6
    have c0:=cr9 21 q1
    simp at c0
    have c9:=some_lt q1
    go_simp
    refine hK.out _ _ (gbox He6.out hB7' s6) (fun _=>?_)
    clear hK K c0 c9 q1
    try simp only [z]
    refine wpAnyH_ready (rs:=[7]) (by kernel_rfl) (by simp) (.cons rfl (fun K hK=>?_) .nil)
    have hB8':Below W6.heap.size W6 (W7.alloc (.cells #[.int .i64 c.id,.int .i64 c.ent,.int .i64 c.date,.int .i64 c.kind,.int .i64 c.of_,.string c.text,.slice A7 n k7] 71)):=hB7'.trans (((Below.refl _ _).alloc (Nat.le_refl _) _).mono hB7'.size)
    go_simp
    refine hK.out _ _ (gbox He6.out hB8' s6) (fun _=>?_)
    clear hK K
    try simp only [z]
    have hn:=fin W7 A7 k7 hB7' hat hty
    try simp only [z] at hn
    exact hn
   ·have hB8':Below W6.heap.size W6 (W7.alloc (.cells #[.int .i64 c.id,.int .i64 c.ent,.int .i64 c.date,.int .i64 c.kind,.int .i64 c.of_,.string c.text,.slice A7 n k7] 71)):=hB7'.trans (((Below.refl _ _).alloc (Nat.le_refl _) _).mono hB7'.size)
    go_simp
    refine hK.out _ _ (gbox He6.out hB8' s6) (fun _=>?_)
    clear hK K
    try simp only [z]
    refine wpAnyH_ready (rs:=[4]) (by kernel_rfl) (by simp) (.cons rfl (fun K hK=>?_) .nil)
    have q1:=gbox Hb6.out hB8' sb6
    have c0:=cr9 21 q1
    simp at c0
    have c9:=some_lt q1
    go_simp
    refine hK.out _ _ (gbox He6.out hB8' s6) (fun _=>?_)
    clear hK K c0 c9 q1
    try simp only [z]
    have hn:=fin W7 A7 k7 hB7' hat hty
    try simp only [z] at hn
    exact hn
end
end Go.Proofs.YtniaimjknmhapaaGreatDoor
