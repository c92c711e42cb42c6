/- My texts QuoteP, TransP. -/
import Derived.Test.YtniaimjknmhapaaGreatDoorG00
import Derived.Test.YtniaimjknmhapaaGreatDoorG10
import Derived.Test.YtniaimjknmhapaaGreatDoorG13
set_option linter.unusedVariables false
set_option linter.unusedSimpArgs false
set_option maxRecDepth 100000
set_option maxHeartbeats 16000000
namespace Go.Proofs.YtniaimjknmhapaaGreatDoor
open Go.Proofs.Tryz Go.RowKit
def Grp.q (g:Grp):QGrp:=⟨g.cur,g.Y,g.M,g.N,.slice g.cA g.cn g.cc,.int .i64 g.r0,.int .i64 g.r1,.int .i64 g.r2,.int .i64 g.r3,.int .i64 g.r4,.int .i64 g.r5,.int .i64 g.r6,.int .i64 g.r7,.int .i64 g.r8,.int .i64 g.r9,.int .i64 g.r10,.int .i64 g.r11,.int .i64 g.r12,.int .i64 g.r13,.int .i64 g.r14,.slice g.eA g.en g.ec⟩
namespace Rates
def spotG (g:Grp) (rs:List Rt) (cur:ByteArray) (d:Int):Int × Int:=((whichR g.cur rs cur d).1.val,(whichR g.cur rs cur d).2)
def avgG (g:Grp) (rs:List Rt) (cur:ByteArray) (p:Int):Int × Int:=avg g.q rs cur p
end Rates
section
variable (w:World)
theorem spotg_any (g:Grp) (A:Option Addr) (n c:Nat) (rs:List Rt) (cur:ByteArray) (d:Int) (hl:rs.length=n) (hn:n<=1000) (hg:g.cur.size<=maxLen) (hcu:cur.size<=maxLen) (hr:∀ r∈rs,r.wf) (h:RatesAt w w.heap.size A rs) :
  Calls prog 180 #[.agg #[.string g.cur,.int .i64 g.Y,.int .i64 g.M,.int .i64 g.N,.slice g.cA g.cn g.cc,.int .i64 g.r0,.int .i64 g.r1,.int .i64 g.r2,.int .i64 g.r3,.int .i64 g.r4,.int .i64 g.r5,.int .i64 g.r6,.int .i64 g.r7,.int .i64 g.r8,.int .i64 g.r9,.int .i64 g.r10,.int .i64 g.r11,.int .i64 g.r12,.int .i64 g.r13,.int .i64 g.r14,.slice g.eA g.en g.ec],.slice A n c,.string cur,.int .i64 d] w fun e w'=>e=.returned (.tuple #[.int .i64 (Rates.spotG g rs cur d).1,.int .i64 (Rates.spotG g rs cur d).2])/\Below w.heap.size w w' :=
 spot_any w g.q A n c rs cur d hl hn hg hcu hr h
theorem avgg_any (g:Grp) (A:Option Addr) (n c:Nat) (rs:List Rt) (cur:ByteArray) (p:Int) (hl:rs.length=n) (hn:n<=1000) (hg:g.cur.size<=maxLen) (hcu:cur.size<=maxLen) (hr:∀ r∈rs,r.wf) (h:RatesAt w w.heap.size A rs) :
  Calls prog 179 #[.agg #[.string g.cur,.int .i64 g.Y,.int .i64 g.M,.int .i64 g.N,.slice g.cA g.cn g.cc,.int .i64 g.r0,.int .i64 g.r1,.int .i64 g.r2,.int .i64 g.r3,.int .i64 g.r4,.int .i64 g.r5,.int .i64 g.r6,.int .i64 g.r7,.int .i64 g.r8,.int .i64 g.r9,.int .i64 g.r10,.int .i64 g.r11,.int .i64 g.r12,.int .i64 g.r13,.int .i64 g.r14,.slice g.eA g.en g.ec],.slice A n c,.string cur,.int .i64 p] w fun e w'=>e=.returned (.tuple #[.int .i64 (Rates.avgG g rs cur p).1,.int .i64 (Rates.avgG g rs cur p).2])/\Below w.heap.size w w' :=
 davg_any w g.q A n c rs cur p hl hn hg hcu hr h
end
end Go.Proofs.YtniaimjknmhapaaGreatDoor
namespace Go.Proofs.YtniaimjknmhapaaGreatDoor
structure Bks where
 g:Grp
 eA:Option Addr
 en:Nat
 ec:Nat
 ents:List Etr
 rA:Option Addr
 rn:Nat
 rc:Nat
 rates:List Rt
 hA:Option Addr
 hn:Nat
 hc:Nat
 holds:List Hld
 m0:Value
 m1:Value
 m2:Value
structure Itm where
 ent0:Int
 lin:Int
 ent:Int
 acct:Int
 partner:Int
 date:Int
 amt:Int
def Itm.cells (x:Itm):List Value:=[.int .i64 x.ent0,.int .i64 x.lin,.int .i64 x.ent,.int .i64 x.acct,.int .i64 x.partner,.int .i64 x.date,.int .i64 x.amt]
namespace Gr
def kind (g:Grp) (a:Int):Int:=(Ch.found g.chart a).kind
def isResult (g:Grp) (a:Int):Bool:=decide (kind g a=4)||decide (kind g a=5)
def isEquity (g:Grp) (a:Int):Bool:=decide (kind g a=3)
end Gr
def allSome {α:Type}:List (Option α)->Option (List α)
 | []=>some []
 | none::_=>none
 | some x::l=>(allSome l).map (x::·)
namespace Tr
def best:List Lnk->Option Lnk
 | []=>none
 | x::l=>some (l.foldl (fun m y=>if m.since<y.since then y else m) x)
def linksOf (e:Ent) (code day:Int):List Lnk:=e.links.filter (fun x=>decide (x.frm=code)&&decide (x.since<=day))
def mapAt (e:Ent) (code day:Int):Option Int:=if Ch.has e.chart code=true then (best (linksOf e code day)).map (·.to) else none
def nat (n:Int):Int:=if n<0 then -n else n
def out (n r:Int):Int:=nat n*(r / 1000000)+(2*nat n*(r % 1000000)+1000000) / 2000000
def conv (n r:Int):Option Int :=
 if Jr.okAmt n=true/\1<=r/\r<=1000000000000/\¬ (0<r / 1000000/\1000000000000 / (r / 1000000)<nat n)/\out n r<=1000000000000 then some (if n<0 then -(out n r) else out n r) else none
def look (b:Bks) (cur:ByteArray) (last basis date:Int):Int × Int :=
 if cur=b.g.cur then (1000000,0) else if basis=2 then Rates.avgG b.g b.rates cur (Cal.perV b.g.Y b.g.M b.g.N date) else Rates.spotG b.g b.rates cur (if basis=1 then last else date)
def shown (g:Grp) (a date begin_:Int):Int:=if date<begin_/\Gr.isResult g a=true then g.r6 else a
def rateOf (b:Bks) (e:Nat) (la acct date:Int):Option (Int × Int) :=
 (mapAt (Gr.eat b.g.ents e) acct la).bind (fun m=>if Ch.has b.g.chart m=true/\(look b (Gr.eat b.g.ents e).cur la (Ch.found b.g.chart m).basis date).2=0 then some (m,(look b (Gr.eat b.g.ents e).cur la (Ch.found b.g.chart m).basis date).1) else none)
def lat (x:EtC) (k:Nat):Lin:=x.lines.getD k Lin.zero
def item (b:Bks) (e:Nat) (p:Int) (x:EtC) (k:Nat):Option Itm :=
 (rateOf b e (Cal.last b.g.Y b.g.M p) (lat x k).acct x.date).bind (fun r=>(conv (lat x k).amt r.2).map (fun n=>⟨x.id,k,x.ent,shown b.g r.1 x.date (Cal.begin_ b.g.Y b.g.M p),(lat x k).prt,x.date,n⟩))
def before (x y:EtC):Bool:=decide (x.date<y.date)||(decide (x.date=y.date)&&decide (x.id<=y.id))
def entries (b:Bks) (e:Nat) (p:Int):List EtC:=((b.ents.map (·.c)).filter (fun x=>decide (x.ent=(e:Int))&&decide (x.date<=Cal.last b.g.Y b.g.M p))).mergeSort before
def tries (b:Bks) (e:Nat) (p:Int) (x:EtC):List (Option Itm):=(List.range x.lines.length).map (item b e p x)
def valid (b:Bks):Bool:=Jr.ok b.g (b.ents.map (·.c))&&Rates.valid b.g.cur b.rates
def items (b:Bks) (e:Nat) (p:Int):Option (List Itm) :=
 if valid b=true/\e<b.g.ents.length/\0<=p/\p<b.g.N then allSome ((entries b e p).flatMap (tries b e p)) else none
end Tr
namespace Cb
def acq (g:Grp) (since:Int) (x:Itm):Itm:=if x.date<=since/\(Gr.isEquity g x.acct=true∨Gr.isResult g x.acct=true) then { x with acct:=g.r7 } else x
def valid (b:Bks):Bool:=Tr.valid b&&Hd.valid b.g.ents.length b.holds
end Cb
end Go.Proofs.YtniaimjknmhapaaGreatDoor
