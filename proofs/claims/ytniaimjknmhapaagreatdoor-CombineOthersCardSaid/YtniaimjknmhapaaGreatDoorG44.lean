/- My texts CtP, OneB. -/
import Derived.Test.YtniaimjknmhapaaGreatDoorG17
set_option linter.unusedVariables false
set_option linter.unusedSimpArgs false
set_option maxRecDepth 100000
set_option maxHeartbeats 16000000
namespace Go.Proofs.YtniaimjknmhapaaGreatDoor
namespace Ct
theorem b2F (n:Nat) (d:Int) (h e:Nat):mat (Hd.matrix n [] d) h e=0:=by
 unfold mat Hd.matrix;simp only [List.getD_eq_getElem?_getD,List.getElem?_map]
 cases (List.range n)[h]? with
 | none=>simp
 | some a =>
  simp only [Option.map_some,Option.getD_some,List.getElem?_map]
  cases (List.range n)[e]? with
  | none=>rfl
  | some b=>rfl
theorem a3k (n:Nat) (d:Int) (set e:Nat):∀ k,votes (Hd.matrix n [] d) set e k=0
 | 0=>rfl
 | k+1=>by unfold votes;rw [a3k n d set e k,b2F];split <;> rfl
theorem a5R (n:Nat) (d:Int) (all:Nat):∀ k,fresh (Hd.matrix n [] d) all k=0
 | 0=>rfl
 | k+1=>by unfold fresh;rw [a3k,if_neg oM];exact a5R n d all k
theorem b1X (n:Nat) (d:Int):ctrl (Hd.matrix n [] d)=1:=by
 unfold ctrl steps;have h1:∀ k all,sets (Hd.matrix n [] d) k all 0=[]:=fun k all=>by cases k <;> rfl
 have h2:sets (Hd.matrix n [] d) 4100 1 1=[1]:=by
  show(if (1:Nat)=0 then [] else 1::sets (Hd.matrix n [] d) 4099 (1 ||| fresh (Hd.matrix n [] d) 1 (Hd.matrix n [] d).length) (fresh (Hd.matrix n [] d) 1 (Hd.matrix n [] d).length))=[1];rw [a5R,h1];rfl
 rw [h2];rfl
theorem b1f (g:Grp) (e:Nat) (d:Int) (he:0<e):meth g [] e d=0:=by
 unfold meth;rw [b1X,a3k]
 have h1:Nat.testBit 1 e=false:=by
  rw [Nat.testBit_eq_decide_div_mod_eq];have:1 / 2 ^ e=0:=Nat.div_eq_of_lt (Nat.one_lt_two_pow oM);rw [this];rfl
 rw [h1];simp
theorem intervals_nil (g:Grp) (e:Nat) (he:0<e):intervals g [] e=[⟨-25567,84006,0⟩]:=by
 unfold intervals;rw [if_neg oM]
 have hd:days []=[-25567]:=by
  unfold days Hd.dates Hd.keys;simp
 rw [hd];show add [] (-25567) (meth g [] e (-25567))=_;rw [b1f g e _ he];rfl
end Ct
open Go.ChangeShapes Go.WideShapes Go.ChangeAt Go.RowKit Go.Deep
theorem cSM:Tryz.prog.cellsOf 33=1:=kR
theorem cSK:Tryz.prog.cellsOf 34=1:=kR
theorem cStr1:Tryz.prog.cellsOf 9=1:=kR
structure Bks.One (b:Bks):Prop where
 h0:b.m0.oneCell'=true
 h1:b.m1.oneCell'=true
 h2:b.m2.oneCell'=true
theorem a5y {H:Type} {enc:TypeId × Value->H} {P:Program} {w:World} {base:Nat} {spare:Nat->Bool} {held:Bool} {tS tE:TypeId} {fuel:Nat} {v:Value} {x:DataW H × List MemPlace} (hu:P.underlying tS=some (.slice tE)) (h:DataW.trod enc P w base spare held fuel tS [v]=some x):v.oneCell'=true:=by
 rcases open_slice hu h with⟨hcs,_⟩ | ⟨a,len,cap,m,n',D,Pl,hcs,_,hl,_⟩
 ·simp at hcs;rw [hcs];rfl
 ·simp at hcs;rw [hcs];rfl
theorem a7z {H:Type} {enc:TypeId × Value->H} {P:Program} {w:World} {base:Nat} {spare:Nat->Bool} {held:Bool} {tS:TypeId} {fuel:Nat} {v:Value} {x:DataW H × List MemPlace} (hu:P.underlying tS=some .string) (h:DataW.trod enc P w base spare held fuel tS [v]=some x):v.oneCell'=true:=by
 obtain⟨s,hcs,_⟩:=DataW.trod_string hu h;simp at hcs;rw [hcs];rfl
theorem b0j {H:Type} {enc:TypeId × Value->H} {w:World} {spare:Nat->Bool} {held:Bool} {b:Bks} {d:DataW H} {p:List MemPlace} (h:DataW.Trod enc Tryz.prog w 0 spare held 36 (b) d p):b.One:=by
 obtain⟨fuel,hf⟩:=h;simp only [Value.cells] at hf;obtain⟨_,_,h4⟩:=Vv Tryz.underlying36 hf 4 33 24 rfl;obtain⟨_,_,h5⟩:=Vv Tryz.underlying36 hf 5 34 25 rfl;obtain⟨_,_,h6⟩:=Vv Tryz.underlying36 hf 6 9 26 rfl;simp only [cSM,cSK,cStr1,List.drop_zero,List.drop_succ_cons,List.take_succ_cons,List.take_zero] at h4 h5 h6;exact⟨a5y Tryz.underlying33 h4,a5y Tryz.underlying34 h5,a7z Tryz.underlying9 h6⟩
end Go.Proofs.YtniaimjknmhapaaGreatDoor
