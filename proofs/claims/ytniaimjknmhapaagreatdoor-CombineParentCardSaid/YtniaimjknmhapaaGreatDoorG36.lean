/- My texts CtlW. -/
import Derived.Laws.Small
import Derived.Test.YtniaimjknmhapaaGreatDoorG35
set_option linter.unusedVariables false
set_option linter.unusedSimpArgs false
set_option maxRecDepth 100000
set_option maxHeartbeats 16000000
namespace Go.Proofs.YtniaimjknmhapaaGreatDoor
open Go.RowKit
structure IRow where
 A:Option Addr
 n:Nat
 c:Nat
 l:List Int
def IRow.cells (r:IRow):List Value:=[.slice r.A r.n r.c]
def icell (x:Int):List Value:=[.int .i64 x]
structure IRow.At (w:World) (B:Nat) (r:IRow):Prop where
 hl:r.l.length=r.n
 hA:RowsAt icell 1 w B r.A r.l
theorem IRow.At.below {w w':World} {B C:Nat} {r:IRow} (h:r.At w B) (hb:Below C w w') (hC:B<=C):r.At w' B:=⟨h.hl,RowsAt.below h.hA hb hC⟩
theorem IRow.At.more {w:World} {B C:Nat} {r:IRow} (h:r.At w B) (hC:B<=C):r.At w C:=⟨h.hl,RowsAt.more h.hA hC⟩
structure MatI (w:World) (B:Nat) (A:Option Addr) (n k:Nat) (m:List IRow):Prop where
 hl:m.length=n
 hA:RowsAt IRow.cells 1 w B A m
 hx:∀ r∈m,r.At w B/\r.n=k
section
variable (w:World)
end
end Go.Proofs.YtniaimjknmhapaaGreatDoor
