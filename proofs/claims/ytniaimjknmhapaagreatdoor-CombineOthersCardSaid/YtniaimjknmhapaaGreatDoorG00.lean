/- My texts ChartPlain, Cal, GroupPlain, Base, GroupStr, Limb. -/
import Derived.WalkKit
import Derived.Test.YtniaimjknmhapaaGreatDoorProg
import Derived.WalkLawsBesides
import Derived.Lib.Hide
import Derived.BigQuiet
import Derived.Deep.QuietTactic
import Derived.Outline
import Derived.Laws.IdiomStrings
import Derived.Calls
import Derived.Laws.Rows
import Derived.Deep.RegionHeld
namespace Go.Proofs.YtniaimjknmhapaaGreatDoor
open Go.RowKit
theorem oM {p:Prop} (h:p:=by omega):p:=h
theorem kR {p:Prop} (h:p:=by kernel_rfl):p:=h
theorem sO {p:Prop} (h:p:=by simp;omega):p:=h
theorem sP {p:Prop} (h:p:=by simp):p:=h
theorem dC {p:Prop} (h:p:=by decide):p:=h
theorem oC {p:Prop} (h:p:=by simp [Value.oneCell']):p:=h
theorem lR {n:Nat}:n<=n:=Nat.le_refl n
theorem bR {n:Nat} {w:World}:Below n w w:=Below.refl n w
instance:Coe World Nat:=⟨fun w=>w.heap.size⟩
theorem z:(∀(a:Act) (t:Tmp) (v:Value),a.put (some t) v={ a with tmps:=a.tmps.setIfInBounds t v }) ∧ (∀(a:Act) (v:Value),a.put none v=a) ∧
    (∀ {α:Type} {xs:List α} {i:Nat} {h:i<xs.toArray.size},xs.toArray[i]'h=xs[i]'(by simpa using h)) ∧
    (∀ {α:Type} {a:α} {l:List α} {i:Nat} {h:i+1<(a::l).length},(a::l)[i+1]'h=l[i]'(Nat.lt_of_succ_lt_succ h)) ∧
    (∀ {α:Type} {a:α} {l:List α} {h:0<(a::l).length},(a::l)[0]'h=a) ∧
    (∀ {α:Type} {l:List α} {i:Nat} {a:α},l.toArray.setIfInBounds i a=(l.set i a).toArray) ∧
    (∀ {α:Type} {x a:α} {xs:List α},(x::xs).set 0 a=a::xs) ∧ (∀ {α:Type} {x a:α} {xs:List α} {i:Nat},(x::xs).set (i+1) a=x::xs.set i a) :=
  ⟨fun _ _ _=>rfl,fun _ _=>rfl,List.getElem_toArray _,List.getElem_cons_succ ..,rfl,List.setIfInBounds_toArray ..,List.set_cons_zero ..,List.set_cons_succ ..⟩
theorem cr9 {w:World} {g:Nat} {cs:Array Value} {t:TypeId} {fr:Nat × Nat} (j:Nat) (h:w.heap[g]?=some (.cells cs t fr)):w.cell? ⟨g,j,none⟩=cs[j]?:=cell_of_row w g j cs t fr h
theorem fr0 {w:World} {g:Nat} {cs:Array Value} {t:TypeId} (j:Nat) (h:w.heap[g]?=some (.cells cs t (0,0))):w.frozen? ⟨g,j,none⟩=false:=frozen_of_row w g j cs t h
theorem tk {P:Program} {ops:Array Oper} {Q:Exit->Act->World->Prop} {md:Region.Mode} {S:World->Prop} {i:Nat} {oi:Oper} {v:Value} {n:Nat} {l:Array Bool} {a:Act} {w:World} (hi:ops[i]?=some oi) (hy:YieldsIf P ops S oi v a) (hS:S w) (h:wpAnyH P md ops Q S n (l.setIfInBounds i true) (a.put oi.dst v) w) (hs:(Region.noSelect ops&&Region.free md ops l i&&(Region.ready md ops l).contains i)=true:=by kernel_rfl) (hQ:∀ c a w,Q (.panic c) (a.put oi.dst v) w->Q (.panic c) a w:=by exact fun _ _ _ h=>h):wpAnyH P md ops Q S (n+1) l a w:=by
 simp only [Bool.and_eq_true] at hs
 exact wpAnyH_take hi hs.1.1 hs.1.2 hs.2 hQ hy hS h
theorem rd9 {P:Program} {ops:Array Oper} {Q:Exit->Act->World->Prop} {md:Region.Mode} {S:World->Prop} {fuel:Nat} {listed:Array Bool} {a:Act} {w:World} (i:Nat) {o:Oper} (hr:Region.ready md ops listed=[i]) (ho:ops[i]?=some o) (h:∀ K':Act->World->Prop,Shut (∀ a w,S w->(S w->wpAnyH P md ops Q S fuel (listed.setIfInBounds i true) a w)->K' a w)->if Region.wanted o (yielded ops a.tmps)=true then Oper.wp P o a w K' Q else K' (a.put o.dst undef) w):wpAnyH P md ops Q S (fuel+1) listed a w:=wpAnyH_ready hr (by simp) (AllReadyH.cons ho h AllReadyH.nil)
theorem Z1 {p:Prop} (h:p):Hid p:=Lib.hid h
theorem jT {P:Program} {ops:Array Oper} {Q:Exit->Act->World->Prop} {md:Region.Mode} {S:World->Prop} (i:Nat) {oi:Oper} {v:Value} {n:Nat} {l:Array Bool} {a:Act} {w:World} {G:Prop} (hS:S w) (h:G) (hi:ops[i]?=some oi:=by exact rfl) (hy:YieldsIf P ops S oi v a:=by first|exact .inl ⟨by rfl,fun W' hS'=>by first|(go_simp;done)|(go_simp;rfl)⟩|exact .inr ⟨by rfl,rfl⟩) (hs:(Region.noSelect ops && Region.free md ops l i && (Region.ready md ops l).contains i)=true:=by kernel_rfl) (hQ:∀ c a w,Q (.panic c) (a.put oi.dst v) w->Q (.panic c) a w:=by exact fun _ _ _ h=>h) (hG:G->wpAnyH P md ops Q S n (l.setIfInBounds i true) (a.put oi.dst v) w:=by intro h9;(try simp only [Go.Proofs.YtniaimjknmhapaaGreatDoor.z]);exact h9):wpAnyH P md ops Q S (n+1) l a w:=tk hi hy hS (hG h) hs hQ
theorem rZ {P:Program} {ops:Array Oper} {Q:Exit->Act->World->Prop} {md:Region.Mode} {S:World->Prop} {fuel:Nat} {listed:Array Bool} {a:Act} {w:World} (i:Nat) {o:Oper} (h:∀ K':Act->World->Prop,Shut (∀ a w,S w->(S w->wpAnyH P md ops Q S fuel (listed.setIfInBounds i true) a w)->K' a w)->if Region.wanted o (yielded ops a.tmps)=true then Oper.wp P o a w K' Q else K' (a.put o.dst undef) w) (hr:Region.ready md ops listed=[i]:=by kernel_rfl) (ho:ops[i]?=some o:=by exact rfl):wpAnyH P md ops Q S (fuel+1) listed a w:=rd9 i hr ho h
theorem jK {P:Program} {ops:Array Oper} {Q:Exit->Act->World->Prop} {md:Region.Mode} {S:World->Prop} {fuel:Nat} {listed:Array Bool} {K:Act->World->Prop} {a:Act} {w:World} {G:Prop} (hK:Shut (∀ a w,S w->(S w->wpAnyH P md ops Q S fuel listed a w)->K a w)) (hS:S w) (g:G) (hG:G->wpAnyH P md ops Q S fuel listed a w:=by intro h9;(try simp only [Go.Proofs.YtniaimjknmhapaaGreatDoor.z]);exact h9):K a w:=hK.out a w hS fun _=>hG g
theorem Z3 {p0 p1 p2:Prop} (h0:p0) (h1:p1) (h2:p2):Hid p0/\Hid p1/\Hid p2:=⟨Z1 h0,Z1 h1,Z1 h2⟩
theorem Z4 {p0 p1 p2 p3:Prop} (h0:p0) (h1:p1) (h2:p2) (h3:p3):Hid p0/\Hid p1/\Hid p2/\Hid p3:=⟨Z1 h0,Z1 h1,Z1 h2,Z1 h3⟩
theorem Z5 {p0 p1 p2 p3 p4:Prop} (h0:p0) (h1:p1) (h2:p2) (h3:p3) (h4:p4):Hid p0/\Hid p1/\Hid p2/\Hid p3/\Hid p4:=⟨Z1 h0,Z1 h1,Z1 h2,Z1 h3,Z1 h4⟩
theorem Z6 {p0 p1 p2 p3 p4 p5:Prop} (h0:p0) (h1:p1) (h2:p2) (h3:p3) (h4:p4) (h5:p5):Hid p0/\Hid p1/\Hid p2/\Hid p3/\Hid p4/\Hid p5:=⟨Z1 h0,Z1 h1,Z1 h2,Z1 h3,Z1 h4,Z1 h5⟩
theorem Z7 {p0 p1 p2 p3 p4 p5 p6:Prop} (h0:p0) (h1:p1) (h2:p2) (h3:p3) (h4:p4) (h5:p5) (h6:p6):Hid p0/\Hid p1/\Hid p2/\Hid p3/\Hid p4/\Hid p5/\Hid p6:=⟨Z1 h0,Z1 h1,Z1 h2,Z1 h3,Z1 h4,Z1 h5,Z1 h6⟩
theorem y9:(∀(a:Act) (t:Tmp) (v:Value),a.put (some t) v={ a with tmps:=a.tmps.setIfInBounds t v }) ∧ (∀(a:Act) (v:Value),a.put none v=a) ∧ (∀ {α:Type} {l:List α} {i:Nat} {a:α},l.toArray.setIfInBounds i a=(l.set i a).toArray) ∧ (∀ {α:Type} {x a:α} {xs:List α},(x::xs).set 0 a=a::xs) ∧ (∀ {α:Type} {x a:α} {xs:List α} {i:Nat},(x::xs).set (i+1) a=x::xs.set i a):=⟨fun _ _ _=>rfl,fun _ _=>rfl,List.setIfInBounds_toArray ..,List.set_cons_zero ..,List.set_cons_succ ..⟩
theorem tse {α:Type} {l:List α} {i:Nat} (h:i<l.length):l.take (i+1)=l.take i++[l[i]]:=List.take_succ_eq_append_getElem h
theorem bT {a b c:World} (h:Hid (Below a.heap.size a b)) (k:Below b.heap.size b c):Hid (Below a.heap.size a c):=Z1 (h.out.trans (k.mono h.out.size))
structure ZR0 where
 a:Unit
def ZR:ZR0:=⟨()⟩
instance:Coe ZR0 (Array Value):=⟨fun _=>#[.bool false,.slice none 0 0,.bool false,.slice none 0 0]⟩
structure ZC0 where
 a:Unit
def ZC:ZC0:=⟨()⟩
instance:Coe ZC0 (Array Value):=⟨fun _=>#[.int .i64 0,.int .i64 0,.int .i64 0,.bool false,.slice none 0 0,.bool false,.slice none 0 0,.bool false,.slice none 0 0,.bool false,.slice none 0 0,.slice none 0 0,.slice none 0 0]⟩
instance:Coe ZC0 Value:=⟨fun _=>.agg #[.int .i64 0,.int .i64 0,.int .i64 0,.bool false,.slice none 0 0,.bool false,.slice none 0 0,.bool false,.slice none 0 0,.bool false,.slice none 0 0,.slice none 0 0,.slice none 0 0]⟩
instance:Coe Int Value:=⟨fun x=>.int .i64 x⟩
instance:Coe Nat Value:=⟨fun x=>.int .i64 (x:Int)⟩
instance:Coe Unit Value:=⟨fun _=>.int .i64 0⟩
instance:Coe Bool Value:=⟨fun x=>.bool x⟩
structure CL0 where
 a:Unit
def CL:CL0:=⟨()⟩
instance:CoeFun CL0 (fun _=>FuncId->Array Value->World->Value->Prop):=⟨fun _ n a w v=>Calls Go.Proofs.Tryz.prog n a w fun e w'=>e=.returned v/\Below w.heap.size w w'⟩
end Go.Proofs.YtniaimjknmhapaaGreatDoor
set_option linter.unusedVariables false
set_option linter.unusedSimpArgs false
set_option maxRecDepth 100000
set_option maxHeartbeats 16000000
namespace Go.Proofs.YtniaimjknmhapaaGreatDoor
open Go.RowKit

structure Acc where
 code:Int
 kind:Int
 basis:Int
 parent:Int
instance:Coe Acc (Array Value):=⟨fun x=>#[.int .i64 x.code,.int .i64 x.kind,.int .i64 x.basis,.int .i64 x.parent]⟩
instance:Coe Acc Value:=⟨fun x=>.agg #[.int .i64 x.code,.int .i64 x.kind,.int .i64 x.basis,.int .i64 x.parent]⟩
instance:Coe Acc (List Value):=⟨fun x=>[.int .i64 x.code,.int .i64 x.kind,.int .i64 x.basis,.int .i64 x.parent]⟩
def Acc.zero:Acc:=⟨0,0,0,0⟩
def Acc.cells (a:Acc):List Value:=a
def Acc.val (a:Acc):Value:=a
namespace Ch
def find (l:List Acc) (c:Int):Option Acc:=l.find? (fun a=>a.code==c)
def found (l:List Acc) (c:Int):Acc:=(find l c).getD Acc.zero
def has (l:List Acc) (c:Int):Bool:=(find l c).isSome
theorem find_take {l:List Acc} {c:Int} {k:Nat} (hk:k<l.length) (h:find (l.take k) c=none):find (l.take (k+1)) c=if l[k].code=c then some l[k] else none:=by
 unfold find at *;rw [tse hk,List.find?_append,h];simp [List.find?_cons]
 split <;> simp_all
theorem find_hit {l:List Acc} {c:Int} {k:Nat} (hk:k<l.length) (h:find (l.take k) c=none) (hc:l[k].code=c):find l c=some l[k]:=by
 have h1:=find_take hk h;rw [if_pos hc] at h1;have h2:find l c=find (l.take (k+1)++l.drop (k+1)) c:=by rw [List.take_append_drop]
 rw [h2];unfold find at *;rw [List.find?_append,h1];rfl
theorem find_some {l:List Acc} {c:Int} {a:Acc} (h:find l c=some a):a∈l/\a.code=c:=by
 unfold find at h;exact⟨List.mem_of_find?_eq_some h,by simpa using List.find?_some h⟩
theorem find_mem {l:List Acc} {a:Acc} (h:a∈l):∃ b,find l a.code=some b:=by
 unfold find
 cases he:l.find? (fun b=>b.code==a.code) with
 | some b=>exact⟨b,rfl⟩
 | none=>rw [List.find?_eq_none] at he;have:=he a h;simp at this

def basic (gr:Bool) (l:List Acc) (a:Acc):Bool :=
 decide (1<=a.code)&&decide (a.code<=99999)&&decide (1<=a.kind)&&decide (a.kind<=5) &&
 (if gr=true then decide (1<=a.basis)&&decide (a.basis<=3) else decide (a.basis=0)) &&
 (decide (a.parent=0)||match find l a.parent with | none=>false | some p=>decide (p.code≠a.code)&&decide (p.kind=a.kind))
def climb (l:List Acc):Nat->Int->Nat
 | 0,_=>0
 | n+1,c=>match find l c with | none=>0 | some a=>1+climb l n a.parent
def at_ (l:List Acc) (i:Nat):Acc:=l.getD i Acc.zero
def okAt (gr:Bool) (l:List Acc) (i:Nat):Bool :=
 basic gr l (at_ l i)&&(decide (i=0)||decide ((at_ l (i-1)).code<(at_ l i).code))&&decide (climb l (l.length+1) (at_ l i).code<=l.length)
def valid (gr:Bool) (l:List Acc):Bool:=decide (l.length<=200)&&(List.range l.length).all (okAt gr l)

theorem all_of {n:Nat} {P:Nat->Bool} (h:∀ i,i<n->P i=true):(List.range n).all P=true:=by
 rw [List.all_eq_true];intro i hi;exact h i (List.mem_range.1 hi)
theorem all_not {n i:Nat} {P:Nat->Bool} (hi:i<n) (h:P i=false):(List.range n).all P=false:=by
 rw [List.all_eq_false];exact⟨i,List.mem_range.2 hi,by simp [h]⟩
theorem at_lt {l:List Acc} {i:Nat} (h:i<l.length):at_ l i=l[i]:=by simp [at_,h]

inductive Up (l:List Acc) (code:Int):List Int->Int->Prop
 | nil:Up l code [] code
 | snoc {p:List Int} {c:Int} {a:Acc} (h:Up l code p c) (hf:find l c=some a) (hn:c ∉ p):Up l code (p++[c]) a.parent
def Ends (l:List Acc) (p:List Int) (c:Int):Prop:=find l c=none∨c∈p
theorem Up.nodup {l:List Acc} {code c:Int} {p:List Int} (h:Up l code p c):p.Nodup:=by
 induction h with
 | nil=>exact List.nodup_nil
 | snoc h hf hn ih =>
  rw [List.nodup_append];refine⟨ih,sP,?_⟩;intro a ha b hb e;rw [List.mem_singleton] at hb;subst hb e;exact hn ha
theorem Up.mem {l:List Acc} {code c:Int} {p:List Int} (h:Up l code p c):∀ x∈p,∃ a,find l x=some a:=by
 induction h with
 | nil=>intro x hx;cases hx
 | @snoc p c a h hf hn ih =>
  intro x hx;rw [List.mem_append] at hx
  rcases hx with hx | hx
  ·exact ih x hx
  ·rw [List.mem_singleton] at hx;subst hx;exact⟨a,hf⟩
theorem pigeon:∀(p:List Int) (l:List Acc),p.Nodup->(∀ x∈p,∃ a∈l,a.code=x)->p.length<=l.length
 | [],l,_,_=>Nat.zero_le _
 | x::p,l,hn,hm=>by
  obtain⟨a,ha,hax⟩:=hm x (List.mem_cons_self);obtain⟨s,t,rfl⟩:=List.append_of_mem ha;have hn':=List.nodup_cons.1 hn
  have:=pigeon p (s++t) hn'.2 fun y hy=>by
   obtain⟨b,hb,hby⟩:=hm y (List.mem_cons_of_mem _ hy);refine⟨b,?_,hby⟩;rw [List.mem_append,List.mem_cons] at hb;rw [List.mem_append]
   rcases hb with hb | rfl | hb
   ·exact .inl hb
   ·exfalso;rw [hax] at hby;subst hby;exact hn'.1 hy
   ·exact .inr hb
  simp at this ⊢;omega
theorem Up.length {l:List Acc} {code c:Int} {p:List Int} (h:Up l code p c):p.length<=l.length :=
 pigeon p l h.nodup fun x hx=>by
  obtain⟨a,ha⟩:=h.mem x hx;exact⟨a,find_some ha⟩
theorem Up.climb {l:List Acc} {code c:Int} {p:List Int} (h:Up l code p c):∀ n,Ch.climb l (p.length+n) code=p.length+Ch.climb l n c:=by
 induction h with
 | nil=>intro n;simp
 | @snoc p c a h hf hn ih =>
  intro n;rw [List.length_append,List.length_singleton,Nat.add_assoc,ih (1+n),Nat.add_comm 1 n];show _+Ch.climb l (n+1) c=_;simp only [Ch.climb,hf];omega
theorem climb_none {l:List Acc} {c:Int} (h:find l c=none) (n:Nat):climb l n c=0:=by
 cases n with
 | zero=>rfl
 | succ n=>simp only [climb,h]
theorem a2T {l:List Acc} {p:List Int} (h:∀ x∈p,∃ a,find l x=some a/\a.parent∈p):∀(n:Nat) (x:Int),x∈p->climb l n x=n
 | 0,_,_=>rfl
 | n+1,x,hx=>by
  obtain⟨a,hf,ha⟩:=h x hx;simp only [climb,hf];rw [a2T h n _ ha];omega
theorem Up.next {l:List Acc} {code c:Int} {p:List Int} (h:Up l code p c):∀ x∈p,∃ a,find l x=some a/\(a.parent∈p∨a.parent=c):=by
 induction h with
 | nil=>intro x hx;cases hx
 | @snoc p c a h hf hn ih =>
  intro x hx;rw [List.mem_append,List.mem_singleton] at hx
  rcases hx with hx | rfl
  ·obtain⟨b,hb,hp⟩:=ih x hx
   refine⟨b,hb,.inl ?_⟩;rw [List.mem_append,List.mem_singleton];exact hp
  ·exact⟨a,hf,.inr rfl⟩
theorem Up.start {l:List Acc} {code c:Int} {p:List Int} (h:Up l code p c):(p=[]/\c=code)∨code∈p:=by
 induction h with
 | nil=>exact .inl ⟨rfl,rfl⟩
 | @snoc p c a h hf hn ih =>
  right
  rw [List.mem_append,List.mem_singleton]
  rcases ih with⟨_,e⟩ | h
  ·exact .inr e.symm
  ·exact .inl h
theorem Up.last {l:List Acc} {code c:Int} {p:List Int} (h:Up l code p c) (hp:0<p.length):∃ a,find l (p[p.length-1]' oM)=some a/\a.parent=c:=by
 cases h with
 | nil=>simp at hp
 | snoc h hf hn=>exact⟨_,by simpa using hf,rfl⟩
theorem top_iff {gr:Bool} {l:List Acc} (hb:∀ a∈l,basic gr l a=true) {a:Acc} (ha:a∈l) {p:List Int} {c:Int} (h:Up l a.code p c) (he:Ends l p c):c=0 ↔ climb l (l.length+1) a.code<=l.length:=by
 have hlen:=h.length;have hcl:=h.climb (l.length+1-p.length);rw [show p.length+(l.length+1-p.length)=l.length+1 by omega] at hcl
 have hne:0<p.length:=by
  rcases h.start with⟨e,e2⟩ | hm
  ·obtain⟨b,hf⟩:=find_mem ha
   rcases he with he | he
   ·rw [e2,hf] at he;cases he
   ·rw [e] at he;cases he
  ·exact List.length_pos_of_mem hm
 rcases he with he | he
 ·rw [climb_none he] at hcl
  refine⟨fun _=>oM,fun _=>?_⟩;obtain⟨b,hf,hbc⟩:=h.last hne;have hb':=hb b (find_some hf).1;unfold basic at hb';rw [hbc,he] at hb';simp at hb';exact hb'.2
 ·have hcl2:=a2T (l:=l) (p:=p) (fun x hx=>by
   obtain⟨b,hf,hor⟩:=h.next x hx;refine⟨b,hf,?_⟩
   rcases hor with h1 | h1
   ·exact h1
   ·rw [h1];exact he) (l.length+1-p.length) c he
  rw [hcl2] at hcl;refine⟨fun h0=>?_,fun hh=>oM⟩;subst h0;obtain⟨b,hf⟩:=h.mem 0 he;have hb':=hb b (find_some hf).1;rw [basic] at hb';simp [(find_some hf).2] at hb'
end Ch
namespace Cal

def leapB (y:Int):Bool:=decide (y % 4=0/\(y % 100≠0∨y % 400=0))
def tab (m:Int):Int:=if m=2 then 28 else if m=4∨m=6∨m=9∨m=11 then 30 else 31
def mlen (y m:Int):Int:=if m=2/\leapB y=true then 29 else tab m
def days (y m:Int):Int:=if 1900<=y/\y<=2199/\1<=m/\m<=12 then mlen y m else 0
def byear (y:Int):Int:=365*(y-1)+(y-1) / 4-(y-1) / 100+(y-1) / 400-719162
def lp (y:Int):Int:=if leapB y=true then 1 else 0
def cum (y m:Int):Int :=
 (if m<=1 then 0 else if m=2 then 31 else if m=3 then 59 else if m=4 then 90 else if m=5 then 120 else if m=6 then 151 else if m=7 then 181
  else if m=8 then 212 else if m=9 then 243 else if m=10 then 273 else if m=11 then 304 else if m=12 then 334 else 365)+(if 3<=m then lp y else 0)
def num (y m d:Int):Int:=byear y+cum y m+d-1
def vld (y m d:Int):Prop:=1900<=y/\y<=2199/\1<=m/\m<=12/\1<=d/\d<=mlen y m

theorem lp_01 (y:Int):0<=lp y/\lp y<=1:=by unfold lp;split <;> omega
theorem lp_cases (y:Int):(leapB y=true/\lp y=1)∨(leapB y=false/\lp y=0):=by
 unfold lp;by_cases h:leapB y=true <;> simp [h]
theorem leap_iff (y:Int):leapB y=true ↔ (y % 4=0/\(y % 100≠0∨y % 400=0)):=by unfold leapB;simp
theorem byear_succ (y:Int):byear (y+1)=byear y+365+lp y:=by
 have h:=leap_iff y;unfold byear lp
 by_cases hl:leapB y=true
 ·rw [if_pos hl];rw [hl] at h;simp at h;omega
 ·rw [if_neg hl];have:¬ (y % 4=0/\(y % 100≠0∨y % 400=0)):=fun hh=>hl (h.2 hh);omega
theorem byear_lo:byear 1900=-25567:=dC
theorem byear_hi:byear 2200=84006:=dC
theorem a4J (a b:Int) (_h0:1<=a) (h:a<=b):byear a<=byear b:=by unfold byear;omega
theorem byear_bd (y:Int) (h0:1900<=y) (h:y<=2200):-25567<=byear y/\byear y<=84006:=by unfold byear;omega
theorem b2Y (m:Int):28<=tab m/\tab m<=31:=by unfold tab;split <;> (try split) <;> omega
theorem mlen_bd (y m:Int):28<=mlen y m/\mlen y m<=31:=by unfold mlen;have:=b2Y m;split <;> omega
theorem a9o (y m:Int):mlen y m=tab m+(if m=2 then lp y else 0):=by
 rcases lp_cases y with⟨h,e⟩ | ⟨h,e⟩ <;> by_cases hm:m=2 <;> simp [mlen,h,e,hm,tab]
theorem cum_succ (y m:Int) (h1:1<=m) (h2:m<=12):cum y (m+1)=cum y m+mlen y m:=by
 have hm:m=1∨m=2∨m=3∨m=4∨m=5∨m=6∨m=7∨m=8∨m=9∨m=10∨m=11∨m=12:=oM;rw [a9o]
 rcases hm with rfl | rfl | rfl | rfl | rfl | rfl | rfl | rfl | rfl | rfl | rfl | rfl <;> simp [cum,tab] <;> omega
theorem cum_one (y:Int):cum y 1=0:=by simp [cum]
theorem cum_end (y:Int):cum y 13=365+lp y:=by simp [cum]
theorem cum_bd (y m:Int) (h1:1<=m) (h2:m<=13):0<=cum y m/\cum y m<=366:=by
 have:=lp_01 y;have hm:m=1∨m=2∨m=3∨m=4∨m=5∨m=6∨m=7∨m=8∨m=9∨m=10∨m=11∨m=12∨m=13:=oM
 rcases hm with rfl | rfl | rfl | rfl | rfl | rfl | rfl | rfl | rfl | rfl | rfl | rfl | rfl <;> simp [cum] <;> omega
theorem a9Z (y m k:Int) (h1:1<=m) (h:m<k) (h2:k<=13):cum y m+mlen y m<=cum y k:=by
 have:=lp_01 y;rw [a9o];have hm:m=1∨m=2∨m=3∨m=4∨m=5∨m=6∨m=7∨m=8∨m=9∨m=10∨m=11∨m=12:=oM;have hk:k=1∨k=2∨k=3∨k=4∨k=5∨k=6∨k=7∨k=8∨k=9∨k=10∨k=11∨k=12∨k=13:=oM
 rcases hm with rfl | rfl | rfl | rfl | rfl | rfl | rfl | rfl | rfl | rfl | rfl | rfl <;>
  rcases hk with rfl | rfl | rfl | rfl | rfl | rfl | rfl | rfl | rfl | rfl | rfl | rfl | rfl <;> simp [cum,tab] <;> omega
theorem days_in (y m:Int) (h:1900<=y/\y<=2199/\1<=m/\m<=12):days y m=mlen y m:=by unfold days;rw [if_pos h]
theorem days_out (y m:Int) (h:¬ (1900<=y/\y<=2199/\1<=m/\m<=12)):days y m=0:=by unfold days;rw [if_neg h]
theorem days_bd (y m:Int):0<=days y m/\days y m<=31:=by unfold days;have:=mlen_bd y m;split <;> omega
theorem days_vld (y m d:Int):vld y m d ↔ (1<=d/\d<=days y m):=by
 unfold vld days
 by_cases h:1900<=y/\y<=2199/\1<=m/\m<=12
 ·rw [if_pos h];omega
 ·rw [if_neg h];omega
theorem num_year (y m d:Int) (h:vld y m d):byear y<=num y m d/\num y m d<byear (y+1):=by
 obtain⟨_,_,h1,h2,_,_⟩:=h;have c1:=a9Z y m 13 h1 oM oM;have c0:=cum_bd y m h1 oM;rw [cum_end] at c1;rw [byear_succ];unfold num;omega
theorem num_bd (y m d:Int) (h:vld y m d):-25567<=num y m d/\num y m d<=84005:=by
 have h':=num_year y m d h;obtain⟨a,b,_⟩:=h;have:=byear_bd y a oM;have:=byear_bd (y+1) oM oM;omega
theorem num_inj (y m d y' m' d':Int) (h:vld y m d) (h':vld y' m' d') (e:num y m d=num y' m' d'):y=y'/\m=m'/\d=d':=by
 have a:=num_year _ _ _ h;have b:=num_year _ _ _ h';obtain⟨p1,p2,p3,p4,p5,p6⟩:=h;obtain⟨q1,q2,q3,q4,q5,q6⟩:=h'
 have hy:y=y':=by
  rcases Int.lt_trichotomy y y' with hl | he | hl
  ·have:=a4J (y+1) y' oM oM;omega
  ·exact he
  ·have:=a4J (y'+1) y oM oM;omega
 subst hy;unfold num at e
 have hm:m=m':=by
  rcases Int.lt_trichotomy m m' with hl | he | hl
  ·have:=a9Z y m m' p3 hl oM;omega
  ·exact he
  ·have:=a9Z y m' m q3 hl oM;omega
 subst hm;exact⟨rfl,rfl,oM⟩

def py (Y M p:Int):Int:=(12*Y+M-1+p) / 12
def pm (Y M p:Int):Int:=(12*Y+M-1+p) % 12+1
def first(Y M p:Int):Int:=num (py Y M p) (pm Y M p) 1
def last (Y M p:Int):Int:=first Y M p+mlen (py Y M p) (pm Y M p)-1
def ok (Y M N:Int):Bool:=decide (1<=M/\M<=12/\1<=N/\N<=120/\1900<=Y/\Y<=2199/\py Y M (N-1)<=2199)
def err (Y M N p:Int):Int:=if ok Y M N=true then (if p<0∨N<=p then 2 else 0) else 1
theorem ok_iff (Y M N:Int):ok Y M N=true ↔ (1<=M/\M<=12/\1<=N/\N<=120/\1900<=Y/\Y<=2199/\py Y M (N-1)<=2199):=by unfold ok;simp
theorem err_zero (Y M N p:Int):err Y M N p=0 ↔ (ok Y M N=true/\0<=p/\p<N):=by
 unfold err
 by_cases h:ok Y M N=true
 ·rw [if_pos h];by_cases h2:p<0∨N<=p
  ·rw [if_pos h2];simp;omega
  ·rw [if_neg h2];simp [h];omega
 ·rw [if_neg h];simp [h]
theorem pvld (Y M N p:Int) (h:ok Y M N=true) (h1:0<=p) (h2:p<N):1900<=py Y M p/\py Y M p<=2199/\1<=pm Y M p/\pm Y M p<=12:=by
 rw [ok_iff] at h;unfold py pm at *;omega
theorem first_vld (Y M N p:Int) (h:ok Y M N=true) (h1:0<=p) (h2:p<N):vld (py Y M p) (pm Y M p) 1:=by
 have:=pvld Y M N p h h1 h2;have:=mlen_bd (py Y M p) (pm Y M p);exact⟨oM,oM,oM,oM,oM,oM⟩
theorem b1p (Y M N p:Int) (h:ok Y M N=true) (h1:0<=p) (h2:p<N):vld (py Y M p) (pm Y M p) (mlen (py Y M p) (pm Y M p)):=by
 have:=pvld Y M N p h h1 h2;have:=mlen_bd (py Y M p) (pm Y M p);exact⟨oM,oM,oM,oM,oM,oM⟩
theorem b2J (Y M p:Int):last Y M p=num (py Y M p) (pm Y M p) (mlen (py Y M p) (pm Y M p)):=by unfold last first num;omega
theorem first_bd (Y M N p:Int) (h:ok Y M N=true) (h1:0<=p) (h2:p<N):-25567<=first Y M p/\first Y M p<=last Y M p/\last Y M p<=84005/\last Y M p<=first Y M p+30:=by
 have a:=num_bd _ _ _ (first_vld Y M N p h h1 h2);have b:=num_bd _ _ _ (b1p Y M N p h h1 h2);have c:=mlen_bd (py Y M p) (pm Y M p);rw [<- b2J] at b;refine⟨a.1,?_,b.2,?_⟩ <;> unfold last <;> omega
end Cal
open Go.RowKit

structure Lnk where
 frm:Int
 to:Int
 since:Int
instance:Coe Lnk (Array Value):=⟨fun x=>#[.int .i64 x.frm,.int .i64 x.to,.int .i64 x.since]⟩
instance:Coe Lnk Value:=⟨fun x=>.agg #[.int .i64 x.frm,.int .i64 x.to,.int .i64 x.since]⟩
instance:Coe Lnk (List Value):=⟨fun x=>[.int .i64 x.frm,.int .i64 x.to,.int .i64 x.since]⟩
structure Ent where
 name:ByteArray
 cur:ByteArray
 cA:Option Addr
 cn:Nat
 cc:Nat
 chart:List Acc
 lA:Option Addr
 ln:Nat
 lc:Nat
 links:List Lnk
 joint:Bool
instance:Coe Ent (Array Value):=⟨fun x=>#[.string x.name,.string x.cur,.slice x.cA x.cn x.cc,.slice x.lA x.ln x.lc,.bool x.joint]⟩
instance:Coe Ent Value:=⟨fun x=>.agg #[.string x.name,.string x.cur,.slice x.cA x.cn x.cc,.slice x.lA x.ln x.lc,.bool x.joint]⟩
instance:Coe Ent (List Value):=⟨fun x=>[.string x.name,.string x.cur,.slice x.cA x.cn x.cc,.slice x.lA x.ln x.lc,.bool x.joint]⟩
structure Grp where
 cur:ByteArray
 Y:Int
 M:Int
 N:Int
 cA:Option Addr
 cn:Nat
 cc:Nat
 chart:List Acc
 r0:Int
 r1:Int
 r2:Int
 r3:Int
 r4:Int
 r5:Int
 r6:Int
 r7:Int
 r8:Int
 r9:Int
 r10:Int
 r11:Int
 r12:Int
 r13:Int
 r14:Int
 eA:Option Addr
 en:Nat
 ec:Nat
 ents:List Ent
instance:Coe Grp (Array Value):=⟨fun x=>#[.string x.cur,.int .i64 x.Y,.int .i64 x.M,.int .i64 x.N,.slice x.cA x.cn x.cc,.int .i64 x.r0,.int .i64 x.r1,.int .i64 x.r2,.int .i64 x.r3,.int .i64 x.r4,.int .i64 x.r5,.int .i64 x.r6,.int .i64 x.r7,.int .i64 x.r8,.int .i64 x.r9,.int .i64 x.r10,.int .i64 x.r11,.int .i64 x.r12,.int .i64 x.r13,.int .i64 x.r14,.slice x.eA x.en x.ec]⟩
instance:Coe Grp Value:=⟨fun x=>.agg #[.string x.cur,.int .i64 x.Y,.int .i64 x.M,.int .i64 x.N,.slice x.cA x.cn x.cc,.int .i64 x.r0,.int .i64 x.r1,.int .i64 x.r2,.int .i64 x.r3,.int .i64 x.r4,.int .i64 x.r5,.int .i64 x.r6,.int .i64 x.r7,.int .i64 x.r8,.int .i64 x.r9,.int .i64 x.r10,.int .i64 x.r11,.int .i64 x.r12,.int .i64 x.r13,.int .i64 x.r14,.slice x.eA x.en x.ec]⟩
instance:Coe Grp (List Value):=⟨fun x=>[.string x.cur,.int .i64 x.Y,.int .i64 x.M,.int .i64 x.N,.slice x.cA x.cn x.cc,.int .i64 x.r0,.int .i64 x.r1,.int .i64 x.r2,.int .i64 x.r3,.int .i64 x.r4,.int .i64 x.r5,.int .i64 x.r6,.int .i64 x.r7,.int .i64 x.r8,.int .i64 x.r9,.int .i64 x.r10,.int .i64 x.r11,.int .i64 x.r12,.int .i64 x.r13,.int .i64 x.r14,.slice x.eA x.en x.ec]⟩
structure Role where
 name:ByteArray
 code:Int
 kind:Int
 basis:Int
 mapped:Bool
instance:Coe Role (Array Value):=⟨fun x=>#[.string x.name,.int .i64 x.code,.int .i64 x.kind,.int .i64 x.basis,.bool x.mapped]⟩
instance:Coe Role Value:=⟨fun x=>.agg #[.string x.name,.int .i64 x.code,.int .i64 x.kind,.int .i64 x.basis,.bool x.mapped]⟩
instance:Coe Role (List Value):=⟨fun x=>[.string x.name,.int .i64 x.code,.int .i64 x.kind,.int .i64 x.basis,.bool x.mapped]⟩
def Lnk.zero:Lnk:=⟨0,0,0⟩
def Role.zero:Role:=⟨ByteArray.empty,0,0,0,false⟩
def Ent.zero:Ent:=⟨ByteArray.empty,ByteArray.empty,none,0,0,[],none,0,0,[],false⟩
def Lnk.cells (x:Lnk):List Value:=x
def Ent.cells (x:Ent):List Value:=x
def Role.cells (x:Role):List Value:=x
namespace Gr
def upper (c:UInt8):Bool:=decide (65<=(c.toNat:Int)/\(c.toNat:Int)<=90)
def isCur (s:ByteArray):Bool:=s.data.toList.all upper&&decide (s.size=3)
def letter (x:Int):Bool:=decide (97<=x/\x<=122)||decide (65<=x/\x<=90)
def byteAt (s:ByteArray) (i:Nat):Int:=((s.data.toList.getD i 0).toNat:Int)
def nameAt (s:ByteArray) (i:Nat):Bool:=letter (byteAt s i)||(decide (i≠0)&&(decide (byteAt s i=45)||decide (48<=byteAt s i/\byteAt s i<=57)))
def isName (s:ByteArray):Bool:=(List.range s.size).all (nameAt s)&&decide (1<=s.size/\s.size<=16)
def based (a:Acc):Bool:=if a.kind=1∨a.kind=2 then decide (a.basis=1∨a.basis=3) else if a.kind=3 then decide (a.basis=3) else decide (a.basis=2)
def date (d:Int):Bool:=decide (-25567<=d/\d<=84005)
def linkOk (chart gchart:List Acc) (x:Lnk):Bool:=Ch.has chart x.frm&&Ch.has gchart x.to&&decide ((Ch.found chart x.frm).kind=(Ch.found gchart x.to).kind)&&date x.since
def lat (l:List Lnk) (i:Nat):Lnk:=l.getD i Lnk.zero
def sameKey (x y:Lnk):Bool:=decide (x.frm=y.frm)&&decide (x.since=y.since)
def fresh (l:List Lnk) (i:Nat) (x:Lnk):Bool:=!(l.take i).any (fun y=>sameKey y x)
def linkAt (chart gchart:List Acc) (l:List Lnk) (i:Nat):Bool:=linkOk chart gchart (lat l i)&&fresh l i (lat l i)
def mapping (chart gchart:List Acc) (l:List Lnk):Bool :=
 Ch.valid true gchart&&Ch.valid false chart&&decide (l.length<=400)&&(List.range l.length).all (linkAt chart gchart l)
def roles (g:Grp):List Role :=
 [⟨⟨#[105,110,118,101,115,116,109,101,110,116]⟩,g.r0,1,3,true⟩,⟨⟨#[103,111,111,100,119,105,108,108]⟩,g.r1,1,3,false⟩,
  ⟨⟨#[97,115,115,111,99,105,97,116,101,115]⟩,g.r2,1,3,false⟩,⟨⟨#[105,110,118,101,110,116,111,114,121]⟩,g.r3,1,1,true⟩,
  ⟨⟨#[114,101,115,101,114,118,101]⟩,g.r4,3,3,false⟩,⟨⟨#[109,105,110,111,114,105,116,121]⟩,g.r5,3,3,false⟩,⟨⟨#[114,101,116,97,105,110,101,100]⟩,g.r6,3,3,true⟩,
  ⟨⟨#[97,99,113,117,105,114,101,100]⟩,g.r7,3,3,false⟩,⟨⟨#[111,119,110,101,114,115]⟩,g.r8,3,3,false⟩,
  ⟨⟨#[100,105,115,112,111,115,97,108]⟩,g.r9,4,2,false⟩,⟨⟨#[97,115,115,111,99,105,97,116,101,80,114,111,102,105,116]⟩,g.r10,4,2,false⟩,⟨⟨#[100,105,118,105,100,101,110,100,115]⟩,g.r11,4,2,true⟩,
  ⟨⟨#[109,105,110,111,114,105,116,121,80,114,111,102,105,116]⟩,g.r12,5,2,false⟩,⟨⟨#[100,105,102,102,101,114,101,110,99,101]⟩,g.r13,5,2,false⟩,⟨⟨#[109,97,114,103,105,110]⟩,g.r14,5,2,false⟩]
def rat (l:List Role) (i:Nat):Role:=l.getD i Role.zero
def roleAt (chart:List Acc) (l:List Role) (i:Nat):Bool :=
 Ch.has chart (rat l i).code&&decide ((Ch.found chart (rat l i).code).kind=(rat l i).kind)&&decide ((Ch.found chart (rat l i).code).basis=(rat l i).basis)&&!(l.take i).any (fun y=>decide (y.code=(rat l i).code))
def accounts (g:Grp):Bool:=Ch.valid true g.chart&&g.chart.all based&&(List.range (roles g).length).all (roleAt g.chart (roles g))
def openTo (l:List Role) (x:Lnk):Bool:=!l.any (fun y=>decide (y.code=x.to)&&!y.mapped)
def entity (g:Grp) (e:Ent):Bool:=isName e.name&&isCur e.cur&&mapping e.chart g.chart e.links&&e.links.all (openTo (roles g))
def eat (l:List Ent) (i:Nat):Ent:=l.getD i Ent.zero
def entAt (g:Grp) (i:Nat):Bool:=entity g (eat g.ents i)&&!(g.ents.take i).any (fun y=>decide (y.name=(eat g.ents i).name))
def books (g:Grp):Bool:=isCur g.cur&&Cal.ok g.Y g.M g.N&&accounts g
def valid (g:Grp):Bool:=books g&&decide (1<=g.ents.length)&&decide (g.ents.length<=12)&&!(eat g.ents 0).joint&&(List.range g.ents.length).all (entAt g)
end Gr
open Go.RowKit

theorem a1J {fn:Func} {t u v x:Tmp} (h:fn.results=#[.tmp t,.tmp u,.tmp v,.tmp x]) (tmps:Array Value) (P:Program) (w:World) :
  (results fn tmps).run P w=.ok (.tuple #[tmps.getD t undef,tmps.getD u undef,tmps.getD v undef,tmps.getD x undef]) w:=by simp [results,h]
theorem a1y {k:IntKind} {a b:Int} (h:a=b):Ending.returned (.int k a)=.returned (.int k b):=by rw [h]
theorem VZ {a b:Bool} (h:a=b):Ending.returned (.bool a)=.returned (.bool b):=by rw [h]
theorem bcell {B:Nat} {W w1:World} (hb:Below B W w1):(∀ b o,b<B->w1.cell? ⟨b,o,none⟩=W.cell? ⟨b,o,none⟩)/\(∀ b o,b<B->w1.frozen? ⟨b,o,none⟩=W.frozen? ⟨b,o,none⟩) :=
 ⟨fun b o h=>hb.cell (p:=⟨b,o,none⟩) h,fun b o h=>hb.frozen (p:=⟨b,o,none⟩) h⟩
open Tryz Go.RowKit

namespace Gr
theorem allTake (l:List UInt8) (p:UInt8->Bool) (k:Nat) (h:k<l.length):(l.take (k+1)).all p=((l.take k).all p&&p l[k]):=by
 rw [tse h,List.all_append];simp
theorem allMiss (l:List UInt8) (p:UInt8->Bool) (k:Nat) (h:k<l.length) (hp:p l[k]=false):l.all p=false:=by
 rw [List.all_eq_false];exact⟨l[k],List.getElem_mem h,by simp [hp]⟩
theorem range_all {n:Nat} {P:Nat->Bool} (h:(List.range n).all P=true) (hn:P n=true):(List.range (n+1)).all P=true:=by
 rw [List.range_succ,List.all_append,h];simp [hn]
theorem byte_at (s:ByteArray) (k:Nat) (h:k<s.size):byteAt s k=(s[k].toNat:Int):=by
 unfold byteAt;have:k<s.data.toList.length:=by simpa using h
 rw [List.getD_eq_getElem?_getD,List.getElem?_eq_getElem this];rfl
end Gr
section
variable (w:World)
theorem a7r (s:ByteArray) (hs:s.size<=maxLen):Calls prog 195 #[.string s] w fun e w'=>e=.returned (.bool (Gr.isCur s))/\w=w':=by
 unfold maxLen at hs;have hsz:s.data.toList.length=s.size:=sP;go_enter func195,ntmps195;go_wp2
 go_loop [6] (fun i=>∃ k:Nat,k<=s.size/\i=.int .i64 k/\(s.data.toList.take k).all Gr.upper=true) (fun i=>s.size-(intOf i).toNat)
 case atStart=>exact⟨0,Nat.zero_le _,rfl,rfl⟩
 case round =>
  obtain⟨k,hk,rfl,ha⟩:=hrel;have Ha:=Z1 ha;clear ha
  by_cases hlt:k<s.size
  ·have hg:s.data.toList[k]' oM=s[k]:=rfl
   by_cases h1:(s[k].toNat:Int)<65
   ·have hf:Hid (Gr.isCur s=false):=by
     show Gr.isCur s=false;unfold Gr.isCur;rw [Gr.allMiss _ _ k oM (by rw [hg];unfold Gr.upper;simp only [decide_eq_false_iff_not];omega)];rfl
    clear hg;go_wp2;go_ret;exact⟨VZ hf.out.symm,rfl⟩
   ·by_cases h2:90<(s[k].toNat:Int)
    ·have hf:Hid (Gr.isCur s=false):=by
      show Gr.isCur s=false;unfold Gr.isCur;rw [Gr.allMiss _ _ k oM (by rw [hg];unfold Gr.upper;simp only [decide_eq_false_iff_not];omega)];rfl
     clear hg;go_wp2;go_ret;exact⟨VZ hf.out.symm,rfl⟩
    ·have hf:Hid ((s.data.toList.take (k+1)).all Gr.upper=true):=by
      show _=true;rw [Gr.allTake _ _ k oM,Ha.out,hg];unfold Gr.upper;simp;omega
     clear hg;go_wp2
     go_round
     case rel=>exact⟨k+1,oM,by go_num,hf.out⟩
     case measure=>simp [intOf];omega
  ·obtain rfl:k=s.size:=oM
   have hf:Hid (Gr.isCur s=decide (s.size=3)):=by
    show _=_;have h:=Ha.out;rw [List.take_of_length_le oM] at h;unfold Gr.isCur;rw [h,Bool.true_and]
   clear hsz;go_wp2;go_ret;refine⟨VZ ?_,rfl⟩;rw [hf.out,Bool.eq_iff_iff];simp;omega
theorem a1b (x:Int):Calls prog 280 #[.int .u8 x] w fun e w'=>e=.returned (.bool (Gr.letter x))/\w=w':=by
 by_cases h1:97<=x
 ·by_cases h2:x<=122
  ·have hf:Hid (Gr.letter x=true):=by show _=_;simp [Gr.letter];omega
   go_enter func280,ntmps280;go_wp2;go_ret;exact⟨by rw [hf.out];rfl,rfl⟩
  ·have h3:65<=x:=oM
   have h4:¬ x<=90:=oM;have hf:Hid (Gr.letter x=false):=by show _=_;simp [Gr.letter];omega
   go_enter func280,ntmps280;go_wp2;go_ret;exact⟨by rw [hf.out];rfl,rfl⟩
 ·by_cases h3:65<=x
  ·by_cases h4:x<=90
   ·have hf:Hid (Gr.letter x=true):=by show _=_;simp [Gr.letter];omega
    go_enter func280,ntmps280;go_wp2;go_ret;exact⟨by rw [hf.out];rfl,rfl⟩
   ·have hf:Hid (Gr.letter x=false):=by show _=_;simp [Gr.letter];omega
    go_enter func280,ntmps280;go_wp2;go_ret;exact⟨by rw [hf.out];rfl,rfl⟩
  ·have hf:Hid (Gr.letter x=false):=by show _=_;simp [Gr.letter];omega
   go_enter func280,ntmps280;go_wp2;go_ret;exact⟨by rw [hf.out];rfl,rfl⟩
theorem a9k (s:ByteArray) (hs:s.size<=maxLen):Calls prog 239 #[.string s] w fun e w'=>e=.returned (.bool (Gr.isName s))/\w=w':=by
 unfold maxLen at hs;go_enter func239,ntmps239;go_wp2
 go_loop [7] (fun i=>∃ k:Nat,k<=s.size/\i=.int .i64 k/\(List.range k).all (Gr.nameAt s)=true) (fun i=>s.size-(intOf i).toNat)
 case atStart=>exact⟨0,Nat.zero_le _,rfl,rfl⟩
 case round =>
  obtain⟨k,hk,rfl,ha⟩:=hrel;have Ha:=Z1 ha;clear ha
  by_cases hlt:k<s.size
  ·have Hat:=Z1 (Gr.byte_at s k hlt)
   have hbad:Gr.nameAt s k=false->Hid (Gr.isName s=false):=fun h=>by
    show _=_;unfold Gr.isName;rw [Ch.all_not hlt h];rfl
   have hgood:Gr.nameAt s k=true->Hid ((List.range (k+1)).all (Gr.nameAt s)=true):=fun h=>Gr.range_all Ha.out h
   by_cases hl:Gr.letter (s[k].toNat:Int)=true
   ·have hL:=hl
    have hf:=hgood (by rw [Gr.nameAt,Hat.out,hl];rfl);clear hl hbad hgood;go_wp2_with (go_at_call 280;refine(a1b _ _).mono ?_;rw [hL];rintro e w4 ⟨rfl,rfl⟩)
    go_round
    case rel=>exact⟨k+1,oM,by go_num,hf.out⟩
    case measure=>simp [intOf];omega
   ·have hL:Gr.letter (s[k].toNat:Int)=false:=by simpa using hl
    clear hl
    by_cases h0:k=0
    ·have hf:=hbad (by rw [Gr.nameAt,Hat.out,hL];simp [h0])
     subst h0;clear hbad hgood;go_wp2_with (go_at_call 280;refine(a1b _ _).mono ?_;rw [hL];rintro e w4 ⟨rfl,rfl⟩);go_ret;exact⟨VZ hf.out.symm,rfl⟩
    have h0b:((k:Int)==0)=false:=sO
    by_cases h1:(s[k].toNat:Int)=45
    ·have h1b:((s[k].toNat:Int) != 45)=false:=by simp [h1]
     have hf:=hgood (by rw [Gr.nameAt,Hat.out,hL,h1];simp [h0]);clear hbad hgood h1;go_wp2_with (go_at_call 280;refine(a1b _ _).mono ?_;rw [hL];rintro e w4 ⟨rfl,rfl⟩)
     go_round
     case rel=>exact⟨k+1,oM,by go_num,hf.out⟩
     case measure=>simp [intOf];omega
    have h1b:((s[k].toNat:Int) != 45)=true:=by simp [h1]
    by_cases h2:(s[k].toNat:Int)<48
    ·have hf:=hbad (by rw [Gr.nameAt,Hat.out,hL];simp [h1];omega)
     clear hbad hgood h1 h0;go_wp2_with (go_at_call 280;refine(a1b _ _).mono ?_;rw [hL];rintro e w4 ⟨rfl,rfl⟩);go_ret;exact⟨VZ hf.out.symm,rfl⟩
    by_cases h3:57<(s[k].toNat:Int)
    ·have hf:=hbad (by rw [Gr.nameAt,Hat.out,hL];simp [h1];omega)
     clear hbad hgood h1 h0;go_wp2_with (go_at_call 280;refine(a1b _ _).mono ?_;rw [hL];rintro e w4 ⟨rfl,rfl⟩);go_ret;exact⟨VZ hf.out.symm,rfl⟩
    ·have hf:=hgood (by rw [Gr.nameAt,Hat.out,hL];simp [h0];omega)
     clear hbad hgood h1 h0;go_wp2_with (go_at_call 280;refine(a1b _ _).mono ?_;rw [hL];rintro e w4 ⟨rfl,rfl⟩)
     go_round
     case rel=>exact⟨k+1,oM,by go_num,hf.out⟩
     case measure=>simp [intOf];omega
  ·obtain rfl:k=s.size:=oM
   have hf:Hid (Gr.isName s=decide (1<=s.size/\s.size<=16)):=by
    show _=_;unfold Gr.isName;rw [Ha.out,Bool.true_and]
   by_cases h1:(1:Int)<=(s.size:Int)
   ·go_wp2
    go_ret;refine⟨VZ ?_,rfl⟩;rw [hf.out,Bool.eq_iff_iff];simp;omega
   ·go_wp2
    go_ret;refine⟨VZ ?_,rfl⟩;rw [hf.out,Bool.eq_iff_iff];simp;omega
end
namespace Big

def val (B:Int):List Int->Int
 | []=>0
 | a::l=>a+B*val B l
def Lim (B:Int) (l:List Int):Prop:=∀ a∈l,0<=a/\a<B
def Norm (l:List Int):Prop:=∀ h:l≠[],l.getLast h≠0
def sgn (neg:Bool) (n:Int):Int:=if neg=true then -n else n

theorem Lim.nil {B:Int}:Lim B []:=fun _ h=>by cases h
theorem Lim.cons {B a:Int} {l:List Int}:Lim B (a::l) ↔ (0<=a/\a<B)/\Lim B l:=by unfold Lim;simp
theorem Lim.append {B:Int} {l m:List Int}:Lim B (l++m) ↔ Lim B l/\Lim B m:=by
 unfold Lim;simp only [List.mem_append];exact⟨fun h=>⟨fun a ha=>h a (.inl ha),fun a ha=>h a (.inr ha)⟩,fun h a ha=>ha.elim (h.1 a) (h.2 a)⟩
theorem Lim.take {B:Int} {l:List Int} (h:Lim B l) (k:Nat):Lim B (l.take k):=fun a ha=>h a (List.mem_of_mem_take ha)
theorem Lim.drop {B:Int} {l:List Int} (h:Lim B l) (k:Nat):Lim B (l.drop k):=fun a ha=>h a (List.mem_of_mem_drop ha)
theorem Lim.get {B:Int} {l:List Int} (h:Lim B l) (k:Nat) (hk:k<l.length):0<=l[k]/\l[k]<B:=h _ (List.getElem_mem hk)
theorem Lim.zeros {B:Int} (hB:0<B) (k:Nat):Lim B (List.replicate k 0):=fun a ha=>by
 rw [List.mem_replicate] at ha;omega

theorem a3l (B:Int):val B []=0:=rfl
theorem val_cons (B a:Int) (l:List Int):val B (a::l)=a+B*val B l:=rfl
theorem val_one (B a:Int):val B [a]=a:=by simp [val]
theorem val_append (B:Int) (l m:List Int):val B (l++m)=val B l+B ^ l.length*val B m:=by
 induction l with
 | nil=>simp [val]
 | cons a l ih =>
  rw [List.cons_append,val_cons,ih,val_cons,List.length_cons,Int.pow_succ,Int.mul_add];rw [Int.mul_comm (B ^ l.length) B,Int.mul_assoc,Int.add_assoc]
theorem val_snoc (B:Int) (l:List Int) (a:Int):val B (l++[a])=val B l+B ^ l.length*a:=by rw [val_append,val_one]
theorem val_zeros (B:Int) (k:Nat):val B (List.replicate k 0)=0:=by
 induction k with
 | zero=>rfl
 | succ k ih=>rw [List.replicate_succ,val_cons,ih];simp
theorem pow_pos {B:Int} (hB:0<B) (k:Nat):0<B ^ k:=Int.pow_pos hB
theorem val_nonneg {B:Int} (hB:0<B) {l:List Int} (h:Lim B l):0<=val B l:=by
 induction l with
 | nil=>simp [val]
 | cons a l ih =>
  rw [Lim.cons] at h;have:=Int.mul_nonneg (Int.le_of_lt hB) (ih h.2);rw [val_cons];omega
theorem val_lt {B:Int} (hB:0<B) {l:List Int} (h:Lim B l):val B l<B ^ l.length:=by
 induction l with
 | nil=>simp [val]
 | cons a l ih =>
  rw [Lim.cons] at h;have h1:=ih h.2;rw [val_cons,List.length_cons,Int.pow_succ];have h2:B*(val B l+1)<=B*B ^ l.length:=Int.mul_le_mul_of_nonneg_left oM (Int.le_of_lt hB);rw [Int.mul_add,Int.mul_one] at h2;rw [Int.mul_comm (B ^ l.length) B];omega
theorem val_take_succ (B:Int) (l:List Int) (k:Nat) (h:k<l.length):val B (l.take (k+1))=val B (l.take k)+B ^ k*l[k]:=by
 rw [tse h,val_snoc,List.length_take,Nat.min_eq_left (Nat.le_of_lt h)]
theorem val_split (B:Int) (l:List Int) (k:Nat) (h:k<=l.length):val B l=val B (l.take k)+B ^ k*val B (l.drop k):=by
 conv=>lhs;rw [<- List.take_append_drop k l]
 rw [val_append,List.length_take,Nat.min_eq_left h]
theorem val_drop (B:Int) (l:List Int) (k:Nat) (h:k<l.length):val B (l.drop k)=l[k]+B*val B (l.drop (k+1)):=by
 rw [List.drop_eq_getElem_cons h,val_cons]

theorem Norm.nil:Norm []:=fun h=>absurd rfl h
theorem norm_snoc {l:List Int} {a:Int} (h:a≠0):Norm (l++[a]):=fun _=>by simpa using h
theorem Norm.last {l:List Int} (h:Norm l) (hl:0<l.length):l[l.length-1]' oM≠0:=by
 have:=h (by intro e;rw [e] at hl;simp at hl)
 rwa [List.getLast_eq_getElem] at this
theorem a3x {B:Int} (hB:0<B) {l:List Int} (h:Lim B l) (hn:Norm l) (hl:0<l.length):B ^ (l.length-1)<=val B l:=by
 have h1:=hn.last hl;have h2:=h.get (l.length-1) oM;rw [val_split B l (l.length-1) oM,val_drop B l (l.length-1) oM];have h3:=val_nonneg hB (h.take (l.length-1));have h4:List.drop (l.length-1+1) l=[]:=List.drop_of_length_le oM;rw [h4,a3l,Int.mul_zero,Int.add_zero];have h5:B ^ (l.length-1)*1<=B ^ (l.length-1)*l[l.length-1]:=Int.mul_le_mul_of_nonneg_left oM (Int.le_of_lt (pow_pos hB _));omega
theorem val_zero {B:Int} (hB:0<B) {l:List Int} (h:Lim B l) (hn:Norm l):val B l=0 ↔ l=[]:=by
 constructor
 ·intro h0
  rcases Nat.eq_zero_or_pos l.length with e | hl
  ·exact List.length_eq_zero_iff.1 e
  ·have h1:=a3x hB h hn hl
   have h2:=pow_pos hB (l.length-1);omega
 ·rintro rfl;rfl
theorem pow_le {B:Int} (hB:1<=B) {a b:Nat} (h:a<=b):B ^ a<=B ^ b:=by
 induction h with
 | refl=>exact Int.le_refl _
 | @step m _ ih =>
  rw [Int.pow_succ];have h0:0<=B ^ m:=Int.le_of_lt (pow_pos oM m);have h1:B ^ m*1<=B ^ m*B:=Int.mul_le_mul_of_nonneg_left hB h0;rw [Int.mul_one] at h1;exact Int.le_trans ih h1
theorem length_le {B:Int} (hB:1<=B) {l:List Int} (h:Lim B l) (hn:Norm l) (k:Nat) (hv:val B l<B ^ k):l.length<=k:=by
 rcases Nat.lt_or_ge k l.length with hk | hk
 ·have h1:=a3x oM h hn oM
  have h2:=pow_le hB (show k<=l.length-1 by omega);omega
 ·exact hk
theorem longer_lt {B:Int} (hB:1<=B) {l m:List Int} (h:Lim B l) (hm:Lim B m) (hn:Norm m) (hl:l.length<m.length):val B l<val B m:=by
 have h1:=val_lt oM h;have h2:=a3x oM hm hn oM;have h3:=pow_le hB (show l.length<=m.length-1 by omega);omega
theorem top_lt {B:Int} (hB:1<=B) {l m:List Int} (h:Lim B l) (hm:Lim B m) (e:l.length=m.length) (k:Nat) (hk:k<l.length)
  (he:l.drop (k+1)=m.drop (k+1)) (hlt:l[k]<m[k]' oM):val B l<val B m:=by
 rw [val_split B l k oM,val_split B m k oM,val_drop B l k hk,val_drop B m k oM,he];have h1:=val_lt oM (h.take k);rw [List.length_take,Nat.min_eq_left oM] at h1;have h2:=val_nonneg oM (hm.take k);have h3:B ^ k*(l[k]+B*val B (List.drop (k+1) m)+1)<=B ^ k*(m[k]' oM+B*val B (List.drop (k+1) m)):=Int.mul_le_mul_of_nonneg_left oM (Int.le_of_lt (pow_pos oM _));rw [Int.mul_add,Int.mul_one] at h3;omega

def trim (l:List Int):List Int:=(l.reverse.dropWhile (·==0)).reverse
theorem a2c (l:List Int):trim (l++[0])=trim l:=by simp [trim]
theorem a5o {l:List Int} {a:Int} (h:a≠0):trim (l++[a])=l++[a]:=by simp [trim,h]
theorem a7a {P:List Int->Prop} (h0:P []) (hs:∀ l r,P l->P (l++[r])) (l:List Int):P l:=by
 rw [<- List.reverse_reverse l]
 induction l.reverse with
 | nil=>exact h0
 | cons a t ih=>rw [List.reverse_cons];exact hs _ _ ih
theorem trim_spec (B:Int) (l:List Int):val B (trim l)=val B l/\Norm (trim l)/\(trim l).length<=l.length/\trim l=l.take (trim l).length:=by
 revert l
 refine a7a ⟨rfl,Norm.nil,lR,rfl⟩ fun l a ih=>?_
 by_cases h:a=0
 ·subst h
  obtain⟨h1,h2,h3,h4⟩:=ih;rw [a2c];refine⟨by rw [h1,val_snoc];simp,h2,sO,?_⟩;rw [List.take_append_of_le_length h3];exact h4
 ·rw [a5o h]
  exact⟨rfl,norm_snoc h,lR,(List.take_length).symm⟩
theorem trim_lim {B:Int} {l:List Int} (h:Lim B l):Lim B (trim l):=by
 rw [(trim_spec B l).2.2.2];exact h.take _
theorem trim_take {l:List Int} {k:Nat} (hk:k<l.length) (h0:l[k]=0):trim (l.take (k+1))=trim (l.take k):=by
 rw [tse hk,h0,a2c]
theorem trim_take_stop {l:List Int} {k:Nat} (hk:k<l.length) (h0:l[k]≠0):trim (l.take (k+1))=l.take (k+1):=by
 rw [tse hk,a5o h0]

end Big
end Go.Proofs.YtniaimjknmhapaaGreatDoor
