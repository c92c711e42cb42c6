/- My texts RatRdG, ScaleW, LinW, LinV. -/
import Derived.Test.YtniaimjknmhapaaGreatDoorG14
import Derived.Test.YtniaimjknmhapaaGreatDoorG17
set_option linter.unusedVariables false
set_option linter.unusedSimpArgs false
set_option maxRecDepth 100000
set_option maxHeartbeats 16000000
namespace Go.Proofs.YtniaimjknmhapaaGreatDoor
open Go.RowKit
section
variable (w:World)
end
namespace Sc
def okN (n:Int):Bool:=decide (-1000000000000<=n/\n<=1000000000000)
def wN (n:Int):Int:=Int.tdiv n (redBy n 1)
def wD (n:Int):Int:=Int.tdiv 1 (redBy n 1)
def pN (n N D:Int):Int:=Int.tdiv (wN n*N) (redBy (wN n*N) (dz (wD n)*dz D))
def pD (n N D:Int):Int:=Int.tdiv (dz (wD n)*dz D) (redBy (wN n*N) (dz (wD n)*dz D))
def num (n N D:Int):Int:=Int.tdiv (2*pN n N D+(if pN n N D<0 then -(dz (pD n N D)) else dz (pD n N D))) (2*dz (pD n N D))
def out (n N D:Int):Option Int:=if okN n=true/\okN (num n N D)=true then some (num n N D) else none
end Sc
section
variable (w:World)
end
structure Rn where
 g1:Bool
 A1:Option Addr
 n1:Nat
 c1:Nat
 g2:Bool
 A2:Option Addr
 n2:Nat
 c2:Nat
def Rn.cells (x:Rn):List Value:=[.bool x.g1,.slice x.A1 x.n1 x.c1,.bool x.g2,.slice x.A2 x.n2 x.c2]
def Rn.v (x:Rn):Value:=.agg #[.bool x.g1,.slice x.A1 x.n1 x.c1,.bool x.g2,.slice x.A2 x.n2 x.c2]
def Rn.zero:Rn:=⟨false,none,0,0,false,none,0,0⟩
def Rn.At (w:World) (B K:Nat) (x:Rn):Prop:=∃ N D,RI w B K K x.v N D
theorem Rn.At.below {w w':World} {B C K:Nat} {x:Rn} (h:x.At w B K) (hb:Below C w w') (hC:B<=C):x.At w' B K:=by
 obtain⟨N,D,g1,A1,n1,c1,g2,A2,n2,c2,e,h1,h2⟩:=h
 exact⟨N,D,g1,A1,n1,c1,g2,A2,n2,c2,e,h1.below hb hC,h2.below hb hC⟩
theorem Rn.At.more {w:World} {B C K L:Nat} {x:Rn} (h:x.At w B K) (hC:B<=C) (hK:K<=L):x.At w C L:=by
 obtain⟨N,D,h⟩:=h
 exact⟨N,D,h.more hC hK hK⟩
structure RRow where
 A:Option Addr
 n:Nat
 c:Nat
 l:List Rn
def RRow.cells (r:RRow):List Value:=[.slice r.A r.n r.c]
structure RRow.At (w:World) (B K:Nat) (r:RRow):Prop where
 hl:r.l.length=r.n
 hA:RowsAt Rn.cells 4 w B r.A r.l
 hx:∀ x∈r.l,x.At w B K
theorem RRow.At.below {w w':World} {B C K:Nat} {r:RRow} (h:r.At w B K) (hb:Below C w w') (hC:B<=C):r.At w' B K:=⟨h.hl,RowsAt.below h.hA hb hC,fun x hx=>(h.hx x hx).below hb hC⟩
theorem RRow.At.more {w:World} {B C K L:Nat} {r:RRow} (h:r.At w B K) (hC:B<=C) (hK:K<=L):r.At w C L:=⟨h.hl,RowsAt.more h.hA hC,fun x hx=>(h.hx x hx).more hC hK⟩
namespace Lm
def cols:List RRow->Nat
 | []=>0
 | r::_=>r.n
def valid (m:List RRow):Bool:=m.all (fun r=>decide (r.n=cols m))&&decide (m.length<=24)&&decide (cols m<=24)
end Lm
section
variable (w:World)
end
section
variable (w:World)
end
end Go.Proofs.YtniaimjknmhapaaGreatDoor
