/- Lemmas. -/
import Derived.Test.YtbhdekahdnenjaaGreatDoorG41
set_option linter.unusedVariables false
set_option linter.unusedSimpArgs false
set_option maxRecDepth 100000
set_option maxHeartbeats 16000000
namespace Go.Proofs.YtbhdekahdnenjaaGreatDoor
open Go.ChangeShapes Go.WideShapes Go.ChangeAt Go.RowKit Go.Deep
theorem cPair:Tryz.prog.cellsOf 37=2:=kR
section
variable {H:Type} {enc:TypeId × Value->H} {w:World} {spare:Nat->Bool} {held:Bool}
theorem a8S {i:Nat} {E I:Value} {x:DataW H × List MemPlace} (h:DataW.trod enc Tryz.prog w 0 spare held i 37 [E,I]=some x) :
  ∃a b:Int,E=a/\I=b/\(Lit.int .i64 a).wf/\(Lit.int .i64 b).wf:=by
 obtain⟨S,m,_,_,_,L,J⟩:=DataW.trod_array Tryz.underlying37 h;have o:=J 0 oM;have s:=J 1 oM;simp only[cInt,K6,Nat.one_mul,YX,Yk,Yy,YV] at o s;rw[List.getElem?_eq_getElem oM] at o s;obtain⟨a,rfl,O⟩:=Vx VP o;obtain⟨b,rfl,Q⟩:=Vx VP s;exact⟨a,b,rfl,rfl,O,Q⟩
theorem b3p {r:Go.Reach} {I:Nat} {v:Value} {d:DataW H} {p:List MemPlace} (hv:Value.okWide Tryz.prog w r I 37 v) (h:DataW.Trod enc Tryz.prog w 0 spare held 37 v d p) :
  ∃a b:Int,v=.agg #[a,b]/\(Lit.int .i64 a).wf/\(Lit.int .i64 b).wf:=by
 simp only[Value.okWide,Tryz.underlying37] at hv;obtain⟨o,rfl,i,_⟩:=hv;rw[cPair] at i;obtain⟨o⟩:=o
 match o,i with
 |[c0,c1],_ =>
  obtain⟨s,E⟩:=h;simp only[Value.cells] at E;obtain⟨a,b,rfl,rfl,J,L⟩:=a8S E;exact⟨a,b,rfl,J,L⟩
end
end Go.Proofs.YtbhdekahdnenjaaGreatDoor
namespace Go.Proofs.YtbhdekahdnenjaaGreatDoor.combineOrder
open Go.ChangeShapes Go.WideShapes Go.ChangeAt Go.RowKit
open Go.ChangeMaps (open_string shut_string)
theorem own:ownKnob Tryz.prog.godebug=none:=kR
theorem lifted (os:Os) (o:os.Started) (H:Type) (enc:TypeId × Value->H) :
  ReturnsInHanded {} Tryz.checked os 3 .any (fun w args=>(Rows.combineOrderSpec.pre enc Tryz.prog Tryz.f3 Rows.combineOrderRow.domain false w args/\laidMetH Tryz.prog laid3 w)/\sizedMet enc Tryz.prog Tryz.f3 (OpenSpec.ofChange Rows.combineOrderSpec) false w args)
   (Rows.combineOrderSpec.post enc Tryz.prog Tryz.f3 false true false false):=by
 refine returnsInHanded_of_change_and (C:=Tryz.checked) (X:=fun w _=>laidMetH Tryz.prog laid3 w) (fun _ _ _ hh h=>h.of_heap hh) own o kR Tryz.func3
  (ChangeSpec.witness_shaped (enc:=enc) (C:=Tryz.checked) (os:=os) (X:=fun w _=>laidMetH Tryz.prog laid3 w) false (World.doorLaid Tryz.prog 24 os) #[.agg #[.string ByteArray.empty,(),(),(),.slice none 0 0,(),(),(),(),(),(),(),(),(),(),(),(),(),(),(),.slice none 0 0,.slice none 0 0,.slice none 0 0,.slice none 0 0,.slice none 0 0,.slice none 0 0,.string ByteArray.empty],.agg #[(),()],.int .u8 0] 8 rfl (World.shaped_of_RefB kR kR) kR kR kR (b3a os _)) ?_
 intro W base args ds gs before i hW a4 _ hL _;have a:∀(j:Nat) t v,Tryz.f3.params[j]?=some t->args[j]?=some v->Value.okWide Tryz.prog W .any base t v:=i;have L:=hW;obtain⟨p,q,E,hV,rfl,a8,a9⟩:=hW;have hA:DataW.TrodAll enc Tryz.prog W 0 (fun _=>true) true Tryz.f3.params.toList args.toList ds p:=E;rw[Tryz.params3] at hA a;obtain⟨v0,aa,d0,a5,p0,q0,O,rfl,rfl,h0,r0⟩:=trodAll_cons hA;obtain⟨v1,ab,d1,a6,p1,q1,rfl,rfl,rfl,h1,r1⟩:=trodAll_cons r0;obtain⟨v2,ac,d2,a7,p2,q2,rfl,rfl,rfl,h2,r2⟩:=trodAll_cons r1;obtain⟨rfl,rfl,rfl⟩:=trodAll_nil r2;obtain rfl:args=#[v0,v1,v2]:=by cases args;simp_all
 obtain⟨rfl,rfl⟩:=trodVars_none hV;have Q:=h0;have k1:=h1;have k2:=h2;have S:∀x∈p0,x.block<W.heap.size:=by obtain⟨m,I⟩:=Q;exact QD m _ _ _ I
 have T:∀x∈p1,x.block<W.heap.size:=by obtain⟨m,I⟩:=k1;exact QD m _ _ _ I
 have a0:∀x∈p2,x.block<W.heap.size:=by obtain⟨m,I⟩:=k2;exact QD m _ _ _ I
 obtain⟨b,rfl,hb⟩:=b4q (a 0 36 v0 rfl rfl) h0;have J:=b4p Q;obtain⟨a1,a2,rfl,_,_⟩:=b3p (a 1 37 v1 rfl rfl) h1;obtain⟨a3,rfl,_,_,w3⟩:=open_int Tryz.underlying5 (a 2 5 v2 rfl rfl) h2;have hk:0<=a3/\a3<256:=by simp[Lit.wf,IntKind.min,IntKind.max,IntKind.bits,IntKind.signed] at w3;omega
 clear E i;refine(b4b W b a1 a2 a3 J hk hb (Lib.tabBelow_of_tabIs (a6W hL))).mono fun e W' ⟨he,s⟩=>?_;subst he;exact⟨_,rfl,_,_,_,[],_,[],L,trodAll_mk1 (shut_bool Tryz.underlying4 _),(trodAll_cons_mk (Below.trod laidOut kR (YZ kR) Q s S) (trodAll_cons_mk (Below.trod laidOut kR (YZ kR) k1 s T) (trodAll_cons_mk (Below.trod laidOut kR (YZ kR) k2 s a0) trodAll_mk0))),rfl,s.frame _,fun h=>by cases h⟩
end Go.Proofs.YtbhdekahdnenjaaGreatDoor.combineOrder
