/- My texts EntK, JrnP, JrnW, RefJ, RefK. -/
import Derived.Test.YtniaimjknmhapaaGreatDoorG10
import Derived.Test.YtniaimjknmhapaaGreatDoorG14
import Derived.Test.YtniaimjknmhapaaGreatDoorG19
import Derived.Test.YtniaimjknmhapaaGreatDoorG13
import Derived.Test.YtniaimjknmhapaaGreatDoorG24
import Derived.Test.YtniaimjknmhapaaGreatDoorG25
set_option linter.unusedVariables false
set_option linter.unusedSimpArgs false
set_option maxRecDepth 100000
set_option maxHeartbeats 16000000
namespace Go.Proofs.YtniaimjknmhapaaGreatDoor
open Go.Proofs.Tryz Go.RowKit
section
variable (w:World)
def Jr.upto (g:Grp) (c:EtC) (k:Nat):Prop:=(1<=k->Jr.formed g c=true)/\(2<=k->Jr.charted g c=true)/\(3<=k->Jr.dated g c=true)/\(4<=k->decide (Jr.total c.lines=0)=true)
theorem echeck_any (g:Grp) (c:EtC) (A:Option Addr) (n kc:Nat) (hg:g.At w w.heap.size) (hx:(⟨c,A,n,kc⟩:Etr).At w w.heap.size) :
  Calls prog 152 #[.agg #[.string g.cur,.int .i64 g.Y,.int .i64 g.M,.int .i64 g.N,.slice g.cA g.cn g.cc,.int .i64 g.r0,.int .i64 g.r1,.int .i64 g.r2,.int .i64 g.r3,.int .i64 g.r4,.int .i64 g.r5,.int .i64 g.r6,.int .i64 g.r7,.int .i64 g.r8,.int .i64 g.r9,.int .i64 g.r10,.int .i64 g.r11,.int .i64 g.r12,.int .i64 g.r13,.int .i64 g.r14,.slice g.eA g.en g.ec],.agg #[.int .i64 c.id,.int .i64 c.ent,.int .i64 c.date,.int .i64 c.kind,.int .i64 c.of_,.string c.text,.slice A n kc]] w (FinePost (Jr.fine g c) w):=by
 obtain⟨W1,hW1,hB0,hb0,hb1,hz⟩:=nw2 w #[.string g.cur,.int .i64 g.Y,.int .i64 g.M,.int .i64 g.N,.slice g.cA g.cn g.cc,.int .i64 g.r0,.int .i64 g.r1,.int .i64 g.r2,.int .i64 g.r3,.int .i64 g.r4,.int .i64 g.r5,.int .i64 g.r6,.int .i64 g.r7,.int .i64 g.r8,.int .i64 g.r9,.int .i64 g.r10,.int .i64 g.r11,.int .i64 g.r12,.int .i64 g.r13,.int .i64 g.r14,.slice g.eA g.en g.ec] #[.int .i64 c.id,.int .i64 c.ent,.int .i64 c.date,.int .i64 c.kind,.int .i64 c.of_,.string c.text,.slice A n kc] 29 71
 have HW:=Z1 hW1
 have hg1:=Z1 (hg.at_ hB0)
 have hx1:=Z1 (hx.at_ hB0)
 have Hel:=Z1 hg.hel
 have s1:w.heap.size<W1.heap.size:=by omega
 have s1':w.heap.size+1<W1.heap.size:=by omega
 have Hb0:=Z1 hb0
 have Hb1:=Z1 hb1
 clear hW1 hz hb0 hb1 hg hx
 go_enter func152,ntmps152
 go_upto_region 1 with(fail)
 rw [<- HW.out]
 go_wp2
 go_loopw [9] (fun i wr=>∃ k:Nat,k<=4/\i=.int .i64 k/\Jr.upto g c k/\Below W1.heap.size W1 wr) (fun i _=>4-(intOf i).toNat)
 case atStart=>exact⟨0,by omega,rfl,⟨by omega,by omega,by omega,by omega⟩,Below.refl _ _⟩
 case round =>
  obtain⟨k,hk,rfl,hu,hb⟩:=hrel
  have Hu:=Z1 hu
  have hB0r:=hB0.trans (hb.mono hB0.size)
  have hgr:=Z1 ((hg1.out.below hb (Nat.le_refl _)).more hb.size)
  have hxr:=Z1 ((hx1.out.below hb (Nat.le_refl _)).more hb.size)
  have Hg:=Z1 (gbox Hb0.out hb s1)
  have Hx:=Z1 (gbox Hb1.out hb s1')
  have q1:=some_lt Hg.out
  have q2:=some_lt Hx.out
  clear hu
  rcases(show k=0∨k=1∨k=2∨k=3∨k=4 by omega) with rfl | rfl | rfl | rfl | rfl
  case inr.inr.inr.inr =>
   have HV:Hid (Jr.fine g c=true):=by
    show _=_;obtain⟨h1,h2,h3,h4⟩:=Hu.out
    unfold Jr.fine;rw [h1 (by omega),h2 (by omega),h3 (by omega),h4 (by omega)];rfl
   go_wp2
   go_ret
   exact FinePost.good HV.out hB0r
  case inl =>
   have hix:∀ W,(Instr.index 272 (.agg #[.func (.func 201) #[] #[],.func (.func 202) #[] #[],.func (.func 203) #[] #[],.func (.func 204) #[] #[]]) (.int .i64 0)).run prog W=.ok (.func (.func 201) #[] #[]) W:=fun W=>by kernel_rfl
   go_wp2_with (first | (refine wpList_load_row rfl 29 _ rfl _ rfl _ _ _ _ Hg.out underlying29 rfl grpSize ?_) | (refine wpList_load_row rfl 71 _ rfl _ rfl _ _ _ _ Hx.out underlying71 rfl etrSize ?_))
   refine(formed_any wr g c A n kc hgr.out hxr.out).mono ?_
   have HF:Hid (Jr.formed g c=false->Jr.fine g c=false):=Z1 fun h=>by unfold Jr.fine;rw [h];rfl
   have HN:Hid (Jr.formed g c=true->Jr.upto g c 1):=Z1 fun h=>⟨fun _=>h,by omega,by omega,by omega⟩
   rintro e W2 ⟨⟨m,rfl,hm⟩,hB2⟩
   have hb2:=hb.trans (hB2.mono hb.size)
   have hBF:=hB0r.trans (hB2.mono hB0r.size)
   by_cases h:m=0
   ·have h':(m != 0)=false:=by simp [h]
    have HN:=Z1 (HN.out (hm.1 h))
    clear h hm
    go_wp2
    go_roundw
    case rel=>exact⟨1,by omega,rfl,HN.out,hb2⟩
    case measure=>simp [intOf]
   ·have h':(m != 0)=true:=by simp [h]
    have HF:=Z1 (HF.out (by cases hq:Jr.formed g c;rfl;exact absurd (hm.2 hq) h))
    have Hne:=Z1 h
    clear h hm
    go_wp2
    go_ret
    exact FinePost.bad HF.out Hne.out hBF
  case inr.inl =>
   have hix:∀ W,(Instr.index 272 (.agg #[.func (.func 201) #[] #[],.func (.func 202) #[] #[],.func (.func 203) #[] #[],.func (.func 204) #[] #[]]) (.int .i64 1)).run prog W=.ok (.func (.func 202) #[] #[]) W:=fun W=>by kernel_rfl
   obtain⟨hv,ke,hke,hkl⟩:=Jr.fine_parts (Hu.out.1 (by omega))
   have hc:=Z1 (charted_any wr g c A n kc ke hgr.out hxr.out hke (by have:=Hel.out;omega))
   clear hv hke hkl
   go_wp2_with (first | (refine wpList_load_row rfl 29 _ rfl _ rfl _ _ _ _ Hg.out underlying29 rfl grpSize ?_) | (refine wpList_load_row rfl 71 _ rfl _ rfl _ _ _ _ Hx.out underlying71 rfl etrSize ?_))
   refine hc.out.mono ?_
   have HF:Hid (Jr.charted g c=false->Jr.fine g c=false):=Z1 fun h=>by unfold Jr.fine;rw [h];simp
   have HN:Hid (Jr.charted g c=true->Jr.upto g c 2):=Z1 fun h=>⟨fun _=>Hu.out.1 (by omega),fun _=>h,by omega,by omega⟩
   rintro e W2 ⟨⟨m,rfl,hm⟩,hB2⟩
   have hb2:=hb.trans (hB2.mono hb.size)
   have hBF:=hB0r.trans (hB2.mono hB0r.size)
   by_cases h:m=0
   ·have h':(m != 0)=false:=by simp [h]
    have HN:=Z1 (HN.out (hm.1 h))
    clear h hm
    go_wp2
    go_roundw
    case rel=>exact⟨2,by omega,rfl,HN.out,hb2⟩
    case measure=>simp [intOf]
   ·have h':(m != 0)=true:=by simp [h]
    have HF:=Z1 (HF.out (by cases hq:Jr.charted g c;rfl;exact absurd (hm.2 hq) h))
    have Hne:=Z1 h
    clear h hm
    go_wp2
    go_ret
    exact FinePost.bad HF.out Hne.out hBF
  case inr.inr.inl =>
   have hix:∀ W,(Instr.index 272 (.agg #[.func (.func 201) #[] #[],.func (.func 202) #[] #[],.func (.func 203) #[] #[],.func (.func 204) #[] #[]]) (.int .i64 2)).run prog W=.ok (.func (.func 203) #[] #[]) W:=fun W=>by kernel_rfl
   have hv:=(Jr.fine_parts (Hu.out.1 (by omega))).1
   have hc:=Z1 (dated_any wr g c A n kc hv)
   clear hv
   go_wp2_with (first | (refine wpList_load_row rfl 29 _ rfl _ rfl _ _ _ _ Hg.out underlying29 rfl grpSize ?_) | (refine wpList_load_row rfl 71 _ rfl _ rfl _ _ _ _ Hx.out underlying71 rfl etrSize ?_))
   refine hc.out.mono ?_
   have HF:Hid (Jr.dated g c=false->Jr.fine g c=false):=Z1 fun h=>by unfold Jr.fine;rw [h];simp
   have HN:Hid (Jr.dated g c=true->Jr.upto g c 3):=Z1 fun h=>⟨fun _=>Hu.out.1 (by omega),fun _=>Hu.out.2.1 (by omega),fun _=>h,by omega⟩
   rintro e W2 ⟨⟨m,rfl,hm⟩,hB2⟩
   have hb2:=hb.trans (hB2.mono hb.size)
   have hBF:=hB0r.trans (hB2.mono hB0r.size)
   by_cases h:m=0
   ·have h':(m != 0)=false:=by simp [h]
    have HN:=Z1 (HN.out (hm.1 h))
    clear h hm
    go_wp2
    go_roundw
    case rel=>exact⟨3,by omega,rfl,HN.out,hb2⟩
    case measure=>simp [intOf]
   ·have h':(m != 0)=true:=by simp [h]
    have HF:=Z1 (HF.out (by cases hq:Jr.dated g c;rfl;exact absurd (hm.2 hq) h))
    have Hne:=Z1 h
    clear h hm
    go_wp2
    go_ret
    exact FinePost.bad HF.out Hne.out hBF
  case inr.inr.inr.inl =>
   have hix:∀ W,(Instr.index 272 (.agg #[.func (.func 201) #[] #[],.func (.func 202) #[] #[],.func (.func 203) #[] #[],.func (.func 204) #[] #[]]) (.int .i64 3)).run prog W=.ok (.func (.func 204) #[] #[]) W:=fun W=>by kernel_rfl
   have hc:=Z1 (balanced_any wr g c A n kc hxr.out)
   go_wp2_with (first | (refine wpList_load_row rfl 29 _ rfl _ rfl _ _ _ _ Hg.out underlying29 rfl grpSize ?_) | (refine wpList_load_row rfl 71 _ rfl _ rfl _ _ _ _ Hx.out underlying71 rfl etrSize ?_))
   refine hc.out.mono ?_
   have HF:Hid (decide (Jr.total c.lines=0)=false->Jr.fine g c=false):=Z1 fun h=>by unfold Jr.fine;rw [h];simp
   have HN:Hid (decide (Jr.total c.lines=0)=true->Jr.upto g c 4):=Z1 fun h=>⟨fun _=>Hu.out.1 (by omega),fun _=>Hu.out.2.1 (by omega),fun _=>Hu.out.2.2.1 (by omega),fun _=>h⟩
   rintro e W2 ⟨⟨m,rfl,hm⟩,hB2⟩
   have hb2:=hb.trans (hB2.mono hb.size)
   have hBF:=hB0r.trans (hB2.mono hB0r.size)
   by_cases h:m=0
   ·have h':(m != 0)=false:=by simp [h]
    have HN:=Z1 (HN.out (hm.1 h))
    clear h hm
    go_wp2
    go_roundw
    case rel=>exact⟨4,by omega,rfl,HN.out,hb2⟩
    case measure=>simp [intOf]
   ·have h':(m != 0)=true:=by simp [h]
    have HF:=Z1 (HF.out (by cases hq:decide (Jr.total c.lines=0);rfl;exact absurd (hm.2 hq) h))
    have Hne:=Z1 h
    clear h hm
    go_wp2
    go_ret
    exact FinePost.bad HF.out Hne.out hBF
end
end Go.Proofs.YtniaimjknmhapaaGreatDoor
namespace Go.Proofs.YtniaimjknmhapaaGreatDoor
open Go.RowKit
def Ent.era (e:Ent):Ent:={ e with cA:=none,cn:=0,cc:=0,lA:=none,ln:=0,lc:=0 }
def Grp.era (g:Grp):Grp:={ g with cA:=none,cn:=0,cc:=0,eA:=none,en:=0,ec:=0,ents:=g.ents.map Ent.era }
theorem Gr.eat_era (l:List Ent) (i:Nat):Gr.eat (l.map Ent.era) i=(Gr.eat l i).era:=by
 unfold Gr.eat
 by_cases h:i<l.length
 ·simp [h]
 ·simp [h,Ent.zero,Ent.era]
theorem Gr.entAt_era (g:Grp) (i:Nat):Gr.entAt g.era i=Gr.entAt g i:=by
 unfold Gr.entAt
 show(Gr.entity g.era (Gr.eat (g.ents.map Ent.era) i)&&_)=_
 rw [Gr.eat_era]
 show(Gr.entity g (Gr.eat g.ents i)&&!((g.ents.map Ent.era).take i).any (fun y=>decide (y.name=(Gr.eat (g.ents.map Ent.era) i).name)))=_
 rw [Gr.eat_era,<- List.map_take,List.any_map]
 rfl
theorem Gr.valid_era (g:Grp):Gr.valid g.era=Gr.valid g:=by
 unfold Gr.valid
 show(Gr.books g&&decide (1<=(g.ents.map Ent.era).length)&&decide ((g.ents.map Ent.era).length<=12)&&!(Gr.eat (g.ents.map Ent.era) 0).joint&&(List.range (g.ents.map Ent.era).length).all (Gr.entAt g.era))=_
 rw [Gr.eat_era,List.length_map,show Gr.entAt g.era=Gr.entAt g from funext (Gr.entAt_era g)]
 rfl
theorem Jr.fine_era (g:Grp) (x:EtC):Jr.fine g.era x=Jr.fine g x:=by
 have h1:Jr.formed g.era x=Jr.formed g x:=by
  unfold Jr.formed
  rw [Gr.valid_era,show g.era.ents.length=g.ents.length from List.length_map _]
 have h2:Jr.charted g.era x=Jr.charted g x:=by
  unfold Jr.charted Jr.chartOf
  rw [show g.era.ents=g.ents.map Ent.era from rfl,Gr.eat_era];rfl
 unfold Jr.fine
 rw [h1,h2];rfl
theorem Jr.fine_same {g g':Grp} (h:g'.era=g.era) (x:EtC):Jr.fine g' x=Jr.fine g x:=by rw [<- Jr.fine_era,h,Jr.fine_era]
theorem RowsTy.keep {α:Type} {f:α->List Value} {sz:Nat} {t:TypeId} {w w':World} {A:Option Addr} {l:List α} {k:Nat} (h:RowsTy t w A l) (hi:RowsAt f sz w w.heap.size A l) (hk:∀ cur fr,w.heap[k]?≠some (.cells cur t fr)) (hg:w.grownBy w' (some k)) :
  RowsTy t w' A l/\RowsAt f sz w' w'.heap.size A l:=by
 rcases h with h | ⟨b,o,cur,fr,e,hb⟩
 ·exact⟨.inl h,.inl h⟩
 ·have hne:some b≠some k:=fun q=>by cases q;exact hk _ _ hb
  refine⟨.inr ⟨b,o,cur,fr,e,(hg.block b (some_lt hb) hne).trans hb⟩,RowsAt.kept hi hg fun b' o' q=>?_⟩
  rw [e] at q;cases q;exact hne
structure Ent.Cp (w:World) (e e':Ent):Prop where
 he:e'.era=e.era
 ha:e'.At w w.heap.size
 hc:RowsTy 87 w e'.cA e'.chart
 hl:RowsTy 150 w e'.lA e'.links
theorem Ent.Cp.at_ {w w':World} {e e':Ent} (h:Ent.Cp w e e') (hb:Below w.heap.size w w'):Ent.Cp w' e e':=⟨h.he,h.ha.at_ hb,h.hc.below hb,h.hl.below hb⟩
theorem Ent.Cp.keep {w w':World} {e e':Ent} {k:Nat} (h:Ent.Cp w e e') {cs:Array Value} {t:TypeId} {fr:Nat × Nat} (hk:w.heap[k]?=some (.cells cs t fr)) (h1:t≠87) (h2:t≠150) (hg:w.grownBy w' (some k)):Ent.Cp w' e e':=by
 have g1:=h.hc.keep h.ha.hc (k:=k) (fun cur fr e=>by rw [hk] at e;cases e;exact h1 rfl) hg
 have g2:=h.hl.keep h.ha.hl (k:=k) (fun cur fr e=>by rw [hk] at e;cases e;exact h2 rfl) hg
 exact⟨h.he,⟨h.ha.hcl,h.ha.hcn,g1.2,h.ha.hcw,h.ha.hll,h.ha.hln,g2.2,h.ha.hlw,h.ha.hn,h.ha.hu⟩,g1.1,g2.1⟩
def Blk {α:Type} (f:α->List Value) (sz:Nat) (t:TypeId) (w:World) (G:Nat) (l:List α):Prop :=
 ∃ cur,w.heap[G]?=some (.cells cur t (0,0))/\cur.toList.take (l.length*sz)=l.flatMap f
theorem flat_set {α:Type} {f:α->List Value} {sz:Nat} (hf:∀ a,(f a).length=sz):∀(l:List α) (i:Nat) (hi:i<l.length) (j:Nat) (v:Value) (y:α),j<sz->f y=(f l[i]).set j v->(l.flatMap f).set (i*sz+j) v=(l.set i y).flatMap f
 | a::l,0,_,j,v,y,hj,h=>by
  simp only [List.flatMap_cons,List.set_cons_zero,Nat.zero_mul,Nat.zero_add]
  rw [h,List.set_append_left _ _ (by rw [hf];exact hj)];rfl
 | a::l,i+1,hi,j,v,y,hj,h=>by
  have ih:=flat_set hf l i (by simpa using hi) j v y hj (by simpa using h)
  simp only [List.flatMap_cons,List.set_cons_succ]
  rw [<- ih,show(i+1)*sz+j=(f a).length+(i*sz+j) by rw [hf,Nat.add_mul];omega,List.set_append_right _ _ (by omega)]
  congr 2;omega
section
variable {α:Type} {f:α->List Value} {sz:Nat} {t:TypeId} {w w':World} {G B:Nat} {l:List α}
theorem Blk.lt (h:Blk f sz t w G l):G<w.heap.size:=by obtain⟨_,h,_⟩:=h;exact some_lt h
theorem Blk.own {base n c:Nat} (h:w.ownsRow base t sz (.slice (some ⟨G,0,none⟩) n c) n (l.flatMap f)) (hn:n=l.length):Blk f sz t w G l:=by
 subst hn
 rcases h.2 with⟨e,_⟩ | ⟨g,cap,cur,e,_,hg,_,_,_,htk⟩
 ·cases e
 ·cases e;exact⟨cur,hg,htk⟩
theorem Blk.below (h:Blk f sz t w G l) (hb:Below w.heap.size w w'):Blk f sz t w' G l:=by obtain⟨cur,h1,h2⟩:=h;exact⟨cur,gbox h1 hb (some_lt h1),h2⟩
theorem Blk.get (h:Blk f sz t w G l) (hf:∀ a,(f a).length=sz) {i:Nat} (hi:i<l.length):∃ cur,w.heap[G]?=some (.cells cur t (0,0))/\∀ j v,j<sz->(f l[i])[j]?=some v->cur[i*sz+j]?=some v:=by
 obtain⟨cur,h1,h2⟩:=h
 refine⟨cur,h1,fun j v hj hv=>?_⟩
 have e:=flat_get f sz l (fun a _=>hf a) i hi j hj
 rw [hv,<- h2,List.getElem?_take] at e
 split at e
 ·simpa using e
 ·cases e
theorem Blk.cell (h:Blk f sz t w G l) (hf:∀ a,(f a).length=sz) {i:Nat} (hi:i<l.length) {j:Nat} {v:Value} (hj:j<sz) (hv:(f l[i])[j]?=some v):w.cell? ⟨G,i*sz+j,none⟩=some v:=by
 obtain⟨cur,h1,h2⟩:=h.get hf hi
 exact(cr9 _ h1).trans (h2 j v hj hv)
theorem Blk.rows (h:Blk f sz t w G l) (hf:∀ a,(f a).length=sz) (hB:G<B):RowsAt f sz w B (some ⟨G,0,none⟩) l :=
 .inr ⟨G,0,rfl,hB,fun k hk j v hv=>by
  have hj:j<sz:=by have:=(List.getElem?_eq_some_iff.1 hv).1;rwa [hf] at this
  rw [Nat.zero_add];exact h.cell hf hk hj hv⟩
theorem Blk.set (h:Blk f sz t w G l) (hf:∀ a,(f a).length=sz) {i:Nat} (hi:i<l.length) {j:Nat} (hj:j<sz) (v:Value) (y:α) (hy:f y=(f l[i]).set j v):Blk f sz t (w.setCell ⟨G,i*sz+j,none⟩ v) G (l.set i y):=by
 obtain⟨cur,h1,h2⟩:=h
 refine⟨_,heap_setCell_same _ G _ _ _ v h1,?_⟩
 rw [List.length_set,<- flat_set hf l i hi j v y hj hy,<- h2]
 simp [List.take_set]
end
end Go.Proofs.YtniaimjknmhapaaGreatDoor
namespace Go.Proofs.YtniaimjknmhapaaGreatDoor
open Go.Proofs.Tryz Go.RowKit
def CopyPost (g:Grp) (w:World) (e:Ending) (w':World):Prop:=Below w.heap.size w w'/\∃ g':Grp,e=.returned (.agg #[.string g'.cur,.int .i64 g'.Y,.int .i64 g'.M,.int .i64 g'.N,.slice g'.cA g'.cn g'.cc,.int .i64 g'.r0,.int .i64 g'.r1,.int .i64 g'.r2,.int .i64 g'.r3,.int .i64 g'.r4,.int .i64 g'.r5,.int .i64 g'.r6,.int .i64 g'.r7,.int .i64 g'.r8,.int .i64 g'.r9,.int .i64 g'.r10,.int .i64 g'.r11,.int .i64 g'.r12,.int .i64 g'.r13,.int .i64 g'.r14,.slice g'.eA g'.en g'.ec])/\g'.era=g.era/\g'.At w' w'.heap.size
structure Cping (g:Grp) (i:Nat) (w:World) (G:Nat) (L:List Ent):Prop where
 hl:L.length=g.ents.length
 hb:Blk Ent.cells 5 102 w G L
 hc:∀ k (h:k<L.length) (h':k<g.ents.length),(k<i->Ent.Cp w g.ents[k] L[k])/\(i<=k->L[k]=g.ents[k])
theorem Cping.done {g:Grp} {w:World} {G:Nat} {L:List Ent} (h:Cping g g.ents.length w G L):L.map Ent.era=g.ents.map Ent.era/\∀ e∈L,e.At w w.heap.size:=by
 constructor
 ·apply List.ext_getElem (by simp [h.hl])
  intro k h1 h2
  simp only [List.length_map] at h1 h2
  rw [List.getElem_map,List.getElem_map]
  exact((h.hc k h1 h2).1 h2).he
 ·intro e he
  obtain⟨k,hk,rfl⟩:=List.getElem_of_mem he
  have:=h.hl
  exact((h.hc k hk (by omega)).1 (by omega)).ha
theorem Cping.other {g:Grp} {i:Nat} {w w':World} {G k:Nat} {L:List Ent} (h:Cping g i w G L) {cs:Array Value} {t:TypeId} {fr:Nat × Nat} (hk:w.heap[k]?=some (.cells cs t fr)) (h1:t≠87) (h2:t≠150) (h3:k≠G) (hg:w.grownBy w' (some k)):Cping g i w' G L :=
 ⟨h.hl,by obtain⟨cur,q1,q2⟩:=h.hb;exact⟨cur,(hg.block G (some_lt q1) (by simp;omega)).trans q1,q2⟩,fun k h4 h5=>⟨fun h6=>((h.hc k h4 h5).1 h6).keep hk h1 h2 hg,(h.hc k h4 h5).2⟩⟩
theorem grown_setRow (w:World) (b:Nat) (cs:Array Value):w.grownBy (w.setRow b cs) (some b) :=
 ⟨rfl,rfl,rfl,by simp,fun i _ hne=>setRow_other w b i cs (fun e=>hne (by rw [e]))⟩
section
variable (w:World)
theorem gcopy_any (g:Grp) (hg:g.At w w.heap.size) (h1:1<=g.en) :
  Calls prog 151 #[.agg #[.string g.cur,.int .i64 g.Y,.int .i64 g.M,.int .i64 g.N,.slice g.cA g.cn g.cc,.int .i64 g.r0,.int .i64 g.r1,.int .i64 g.r2,.int .i64 g.r3,.int .i64 g.r4,.int .i64 g.r5,.int .i64 g.r6,.int .i64 g.r7,.int .i64 g.r8,.int .i64 g.r9,.int .i64 g.r10,.int .i64 g.r11,.int .i64 g.r12,.int .i64 g.r13,.int .i64 g.r14,.slice g.eA g.en g.ec]] w (CopyPost g w):=by
 obtain⟨W1,hW1,hB0,hb0,hb1,hz⟩:=nw2 w #[.string g.cur,.int .i64 g.Y,.int .i64 g.M,.int .i64 g.N,.slice g.cA g.cn g.cc,.int .i64 g.r0,.int .i64 g.r1,.int .i64 g.r2,.int .i64 g.r3,.int .i64 g.r4,.int .i64 g.r5,.int .i64 g.r6,.int .i64 g.r7,.int .i64 g.r8,.int .i64 g.r9,.int .i64 g.r10,.int .i64 g.r11,.int .i64 g.r12,.int .i64 g.r13,.int .i64 g.r14,.slice g.eA g.en g.ec] #[.string ⟨#[]⟩,.int .i64 0,.int .i64 0,.int .i64 0,.slice none 0 0,.int .i64 0,.int .i64 0,.int .i64 0,.int .i64 0,.int .i64 0,.int .i64 0,.int .i64 0,.int .i64 0,.int .i64 0,.int .i64 0,.int .i64 0,.int .i64 0,.int .i64 0,.int .i64 0,.int .i64 0,.slice none 0 0] 29 29
 have HW:=Z1 hW1
 have hg1:=Z1 (hg.at_ hB0)
 have Hg0:=Z1 hg
 have hcn:=hg.hcn
 have hen:=hg.hen
 have s1:w.heap.size<W1.heap.size:=by omega
 have s1':w.heap.size+1<W1.heap.size:=by omega
 have x4:=cr9 4 hb0
 simp at x4
 have Hb0:=Z1 hb0
 have Hb1:=Z1 hb1
 clear hW1 hz hb0 hb1 hg
 go_enter func151,ntmps151
 go_upto_region 1 with(fail)
 rw [<- HW.out]
 go_wp2_with (fail)
 refine(clone_acc W1 g.cA g.cn g.cc g.chart hg1.out.hcl hcn hg1.out.hc).mono ?_
 rintro e W2 ⟨hB2,A1,c1,rfl,ho1⟩
 have hd2:=gbox Hb0.out hB2 s1
 have f2:=fun j=>fr0 j hd2
 have d2:=cr9 4 hd2
 simp at d2
 have s2:w.heap.size<W2.heap.size:=some_lt hd2
 have hd3:=heap_setCell_same W2 w.heap.size 4 _ _ (.slice A1 g.cn c1) hd2
 simp at hd3
 obtain⟨W3,hW3⟩:∃ W3,W3=W2.setCell ⟨w.heap.size,4,none⟩ (.slice A1 g.cn c1):=⟨_,rfl⟩
 rw [<- hW3] at hd3
 have hBw2:=hB0.trans (hB2.mono hB0.size)
 have hBw3:Below w.heap.size w W3:=by rw [hW3];exact hBw2.setCell (p:=⟨w.heap.size,4,none⟩) (Nat.le_refl _) _
 have hg23:W2.grownBy W3 (some w.heap.size):=by rw [hW3];exact grown_set (grown_refl _ _) _ _
 have hz23:W3.heap.size=W2.heap.size:=by rw [hW3];simp [World.setCell]
 have ho1':=own_flat (f:=Acc.cells) (sz:=4) (by decide) (fun _=>rfl) ho1 hg1.out.hcl.symm
 obtain⟨A1',c1',e1,hA1⟩:=ho1'
 cases e1
 have hT1:=own_ty ho1 hg1.out.hcl.symm
 obtain⟨hT3,hA3⟩:=hT1.keep hA1 (k:=w.heap.size) (fun cur fr e=>by rw [hd2] at e;cases e) hg23
 have hb13:=gbox Hb1.out hB2 s1'
 have hb13':W3.heap[w.heap.size+1]?=some (.cells #[.string ⟨#[]⟩,.int .i64 0,.int .i64 0,.int .i64 0,.slice none 0 0,.int .i64 0,.int .i64 0,.int .i64 0,.int .i64 0,.int .i64 0,.int .i64 0,.int .i64 0,.int .i64 0,.int .i64 0,.int .i64 0,.int .i64 0,.int .i64 0,.int .i64 0,.int .i64 0,.int .i64 0,.slice none 0 0] 29 (0,0)):=by rw [hW3];exact(heap_setCell_other W2 ⟨w.heap.size,4,none⟩ _ _ (by simp)).trans hb13
 have HT3:=Z1 hT3
 have HA3:=Z1 hA3
 have Hd3:=Z1 hd3
 have Hb13:=Z1 hb13'
 have he3:RowsAt Ent.cells 5 W3 W3.heap.size g.eA g.ents:=(RowsAt.below Hg0.out.he hBw3 (Nat.le_refl _)).more hBw3.size
 have x20:=cr9 20 hd3
 simp at x20
 have s3:w.heap.size<W3.heap.size:=some_lt hd3
 have s3':w.heap.size+1<W3.heap.size:=some_lt Hb13.out
 have HW3:=Z1 hW3
 have Hel:=Z1 hg1.out.hel
 clear hW3 hd2 hd3 hT3 hA3 hT1 hA1 ho1 hb13 hb13' hg23 hz23
 go_upto_region 2 with(fail)
 rw [<- HW3.out]
 clear x4 d2 f2
 go_wp2_with (fail)
 refine(clone_ent W3 g.eA g.en g.ec g.ents Hel.out hen he3).mono ?_
 rintro e W4 ⟨hB4,A2,c2,rfl,ho2⟩
 obtain⟨G,hA2,hG0⟩:∃ G,A2=some ⟨G,0,none⟩/\W3.heap.size<=G:=by
  rcases ho2.2 with⟨e,h0⟩ | ⟨G,cap,cur,e,hb,_⟩
  ·omega
  ·cases e;exact⟨G,rfl,hb⟩
 subst hA2
 have hBk:=Blk.own ho2 Hel.out.symm
 have hd4:=gbox Hd3.out hB4 s3
 have f4:=fun j=>fr0 j hd4
 have d4:=cr9 20 hd4
 simp at d4
 have s4:w.heap.size<W4.heap.size:=some_lt hd4
 have hd5:=heap_setCell_same W4 w.heap.size 20 _ _ (.slice (some ⟨G,0,none⟩) g.en c2) hd4
 simp at hd5
 have hBw4:=hBw3.trans (hB4.mono hBw3.size)
 have hT4:=HT3.out.below hB4
 have hA4:=RowsAt.at_ HA3.out hB4
 obtain⟨W5,hW5⟩:∃ W5,W5=W4.setCell ⟨w.heap.size,20,none⟩ (.slice (some ⟨G,0,none⟩) g.en c2):=⟨_,rfl⟩
 rw [<- hW5] at hd5
 have hBw5:Below w.heap.size w W5:=by rw [hW5];exact hBw4.setCell (p:=⟨w.heap.size,20,none⟩) (Nat.le_refl _) _
 have hg45:W4.grownBy W5 (some w.heap.size):=by rw [hW5];exact grown_set (grown_refl _ _) _ _
 obtain⟨hT5,hA5⟩:=hT4.keep hA4 (k:=w.heap.size) (fun cur fr e=>by rw [hd4] at e;cases e) hg45
 have hBk5:Blk Ent.cells 5 102 W5 G g.ents:=by
  obtain⟨cur,q1,q2⟩:=hBk
  exact⟨cur,by rw [hW5];exact(heap_setCell_other W4 ⟨w.heap.size,20,none⟩ _ _ (by simp;omega)).trans q1,q2⟩
 have hb15:W5.heap[w.heap.size+1]?=some (.cells #[.string ⟨#[]⟩,.int .i64 0,.int .i64 0,.int .i64 0,.slice none 0 0,.int .i64 0,.int .i64 0,.int .i64 0,.int .i64 0,.int .i64 0,.int .i64 0,.int .i64 0,.int .i64 0,.int .i64 0,.int .i64 0,.int .i64 0,.int .i64 0,.int .i64 0,.int .i64 0,.int .i64 0,.slice none 0 0] 29 (0,0)):=by rw [hW5];exact(heap_setCell_other W4 ⟨w.heap.size,20,none⟩ _ _ (by simp)).trans (gbox Hb13.out hB4 s3')
 have HT5:=Z1 hT5
 have HA5:=Z1 hA5
 have Hd5:=Z1 hd5
 have Hb15:=Z1 hb15
 have hCp:=Z1 (show Cping g 0 W5 G g.ents from⟨rfl,hBk5,fun k _ _=>⟨fun h=>by omega,fun _=>rfl⟩⟩)
 have x20':=cr9 20 hd5
 simp at x20'
 have s5:w.heap.size<W5.heap.size:=some_lt hd5
 have s5':w.heap.size+1<W5.heap.size:=some_lt hb15
 have hGs:w.heap.size+1<G:=by omega
 have HW5:=Z1 hW5
 clear hW5 hd4 hd5 hT5 hA5 hT4 hA4 hBk hBk5 hb15 ho2 hg45 x20
 go_upto_region 3 with(fail)
 rw [<- HW5.out]
 clear d4 f4
 go_wp2
 go_loopw [16] (fun i wr=>∃ k:Nat,k<=g.en/\i=.int .i64 k/\(∃ L,Cping g k wr G L)/\(RowsTy 87 wr A1 g.chart/\RowsAt Acc.cells 4 wr wr.heap.size A1 g.chart)/\Below G W5 wr) (fun i _=>g.en-(intOf i).toNat)
 case atStart=>exact⟨0,Nat.zero_le _,rfl,⟨_,hCp.out⟩,⟨HT5.out,HA5.out⟩,Below.refl _ _⟩
 case round =>
  obtain⟨k,hk,rfl,⟨L,hL⟩,hch,hb⟩:=hrel
  have HL:=Z1 hL
  have Hch:=Z1 hch
  clear hL hch x20'
  have hdr:=(hb.block _ (by omega:w.heap.size<G)).trans Hd5.out
  have hbr1:=(hb.block _ hGs).trans Hb15.out
  have y20:=cr9 20 hdr
  simp at y20
  have sr:w.heap.size<wr.heap.size:=some_lt hdr
  have hGr:=HL.out.hb.lt
  have Hbr1:=Z1 hbr1
  have Hdr:=Z1 hdr
  have hbww:=hBw5.trans (hb.mono (by omega))
  clear hdr hbr1
  by_cases hlt:k<g.en
  case neg =>
   obtain rfl:k=g.en:=by omega
   have hq:=HL.out
   have e:Cping g g.ents.length wr G L:=by rw [Hel.out];exact hq
   have hLl:L.length=g.en:=e.hl.trans Hel.out
   obtain⟨g',hg'⟩:∃ g':Grp,g'={ g with cA:=A1,cn:=g.cn,cc:=c1,eA:=some ⟨G,0,none⟩,en:=g.en,ec:=c2,ents:=L }:=⟨_,rfl⟩
   have HE:Hid (g'.era=g.era):=by show _=_;rw [hg'];unfold Grp.era;simp only [e.done.1]
   have hR:=setRow_heap wr (w.heap.size+1) _ #[.string g'.cur,.int .i64 g'.Y,.int .i64 g'.M,.int .i64 g'.N,.slice g'.cA g'.cn g'.cc,.int .i64 g'.r0,.int .i64 g'.r1,.int .i64 g'.r2,.int .i64 g'.r3,.int .i64 g'.r4,.int .i64 g'.r5,.int .i64 g'.r6,.int .i64 g'.r7,.int .i64 g'.r8,.int .i64 g'.r9,.int .i64 g'.r10,.int .i64 g'.r11,.int .i64 g'.r12,.int .i64 g'.r13,.int .i64 g'.r14,.slice g'.eA g'.en g'.ec] _ _ Hbr1.out
   have hload:=Z1 (run_loadVar_row (P:=prog) _ _ _ 29 _ _ _ hR underlying29 rfl grpSize)
   have hBF:=Z1 (below_setRow hbww (show w.heap.size<=w.heap.size+1 by omega) #[.string g'.cur,.int .i64 g'.Y,.int .i64 g'.M,.int .i64 g'.N,.slice g'.cA g'.cn g'.cc,.int .i64 g'.r0,.int .i64 g'.r1,.int .i64 g'.r2,.int .i64 g'.r3,.int .i64 g'.r4,.int .i64 g'.r5,.int .i64 g'.r6,.int .i64 g'.r7,.int .i64 g'.r8,.int .i64 g'.r9,.int .i64 g'.r10,.int .i64 g'.r11,.int .i64 g'.r12,.int .i64 g'.r13,.int .i64 g'.r14,.slice g'.eA g'.en g'.ec])
   have Ho:Hid ((#[.string g'.cur,.int .i64 g'.Y,.int .i64 g'.M,.int .i64 g'.N,.slice g'.cA g'.cn g'.cc,.int .i64 g'.r0,.int .i64 g'.r1,.int .i64 g'.r2,.int .i64 g'.r3,.int .i64 g'.r4,.int .i64 g'.r5,.int .i64 g'.r6,.int .i64 g'.r7,.int .i64 g'.r8,.int .i64 g'.r9,.int .i64 g'.r10,.int .i64 g'.r11,.int .i64 g'.r12,.int .i64 g'.r13,.int .i64 g'.r14,.slice g'.eA g'.en g'.ec]:Array Value).all (·.oneCell')=true):=by show _=_;simp [Value.oneCell']
   have hgr:=grown_setRow wr (w.heap.size+1) #[.string g'.cur,.int .i64 g'.Y,.int .i64 g'.M,.int .i64 g'.N,.slice g'.cA g'.cn g'.cc,.int .i64 g'.r0,.int .i64 g'.r1,.int .i64 g'.r2,.int .i64 g'.r3,.int .i64 g'.r4,.int .i64 g'.r5,.int .i64 g'.r6,.int .i64 g'.r7,.int .i64 g'.r8,.int .i64 g'.r9,.int .i64 g'.r10,.int .i64 g'.r11,.int .i64 g'.r12,.int .i64 g'.r13,.int .i64 g'.r14,.slice g'.eA g'.en g'.ec]
   have e6:=e.other Hbr1.out (by decide) (by decide) (by omega) hgr
   have hA6:=(Hch.out.1.keep Hch.out.2 (k:=w.heap.size+1) (fun cur fr q=>by rw [Hbr1.out] at q;cases q) hgr).2
   have HG':Hid (g'.At (wr.setRow (w.heap.size+1) #[.string g'.cur,.int .i64 g'.Y,.int .i64 g'.M,.int .i64 g'.N,.slice g'.cA g'.cn g'.cc,.int .i64 g'.r0,.int .i64 g'.r1,.int .i64 g'.r2,.int .i64 g'.r3,.int .i64 g'.r4,.int .i64 g'.r5,.int .i64 g'.r6,.int .i64 g'.r7,.int .i64 g'.r8,.int .i64 g'.r9,.int .i64 g'.r10,.int .i64 g'.r11,.int .i64 g'.r12,.int .i64 g'.r13,.int .i64 g'.r14,.slice g'.eA g'.en g'.ec]) (wr.setRow (w.heap.size+1) #[.string g'.cur,.int .i64 g'.Y,.int .i64 g'.M,.int .i64 g'.N,.slice g'.cA g'.cn g'.cc,.int .i64 g'.r0,.int .i64 g'.r1,.int .i64 g'.r2,.int .i64 g'.r3,.int .i64 g'.r4,.int .i64 g'.r5,.int .i64 g'.r6,.int .i64 g'.r7,.int .i64 g'.r8,.int .i64 g'.r9,.int .i64 g'.r10,.int .i64 g'.r11,.int .i64 g'.r12,.int .i64 g'.r13,.int .i64 g'.r14,.slice g'.eA g'.en g'.ec]).heap.size):=by
    have gen:∀ WF:World,RowsAt Acc.cells 4 WF WF.heap.size A1 g.chart->Cping g g.ents.length WF G L->g'.At WF WF.heap.size:=by
     intro WF a1 a2
     rw [hg']
     exact⟨Hg0.out.hcl,Hg0.out.hcn,a1,Hg0.out.hcw,hLl,hen,a2.hb.rows (fun _=>rfl) a2.hb.lt,a2.done.2,Hg0.out.hn,Hg0.out.hr⟩
    exact gen _ hA6 e6
   have hdr':wr.heap[w.heap.size]?=some (.cells #[.string g'.cur,.int .i64 g'.Y,.int .i64 g'.M,.int .i64 g'.N,.slice g'.cA g'.cn g'.cc,.int .i64 g'.r0,.int .i64 g'.r1,.int .i64 g'.r2,.int .i64 g'.r3,.int .i64 g'.r4,.int .i64 g'.r5,.int .i64 g'.r6,.int .i64 g'.r7,.int .i64 g'.r8,.int .i64 g'.r9,.int .i64 g'.r10,.int .i64 g'.r11,.int .i64 g'.r12,.int .i64 g'.r13,.int .i64 g'.r14,.slice g'.eA g'.en g'.ec] 29 (0,0)):=by rw [hg'];exact Hdr.out
   have Hdr':=Z1 hdr'
   have s6:w.heap.size+1<wr.heap.size:=some_lt Hbr1.out
   clear hR hdr' e hq hLl hg' hA6 e6 hgr
   go_wp2_with (first | (refine wpList_load_row rfl 29 _ rfl _ rfl _ _ _ _ Hdr'.out underlying29 rfl grpSize ?_) | (refine wpList_store_row rfl 29 (.tmp 2) (.tmp 40) none rfl rfl (w.heap.size+1) 29 _ #[.string g'.cur,.int .i64 g'.Y,.int .i64 g'.M,.int .i64 g'.N,.slice g'.cA g'.cn g'.cc,.int .i64 g'.r0,.int .i64 g'.r1,.int .i64 g'.r2,.int .i64 g'.r3,.int .i64 g'.r4,.int .i64 g'.r5,.int .i64 g'.r6,.int .i64 g'.r7,.int .i64 g'.r8,.int .i64 g'.r9,.int .i64 g'.r10,.int .i64 g'.r11,.int .i64 g'.r12,.int .i64 g'.r13,.int .i64 g'.r14,.slice g'.eA g'.en g'.ec] rfl rfl Hbr1.out rfl grpSize Ho.out ?_))
   exact bodyPost_ret (v:=.agg #[.string g'.cur,.int .i64 g'.Y,.int .i64 g'.M,.int .i64 g'.N,.slice g'.cA g'.cn g'.cc,.int .i64 g'.r0,.int .i64 g'.r1,.int .i64 g'.r2,.int .i64 g'.r3,.int .i64 g'.r4,.int .i64 g'.r5,.int .i64 g'.r6,.int .i64 g'.r7,.int .i64 g'.r8,.int .i64 g'.r9,.int .i64 g'.r10,.int .i64 g'.r11,.int .i64 g'.r12,.int .i64 g'.r13,.int .i64 g'.r14,.slice g'.eA g'.en g'.ec]) (by simp [results,results151,asAddr,Act.put,hload.out]) rfl ⟨hBF.out,g',rfl,HE.out,HG'.out⟩
  have hkl:k<g.ents.length:=by have:=Hel.out;omega
  have hkL:k<L.length:=by rw [HL.out.hl];exact hkl
  have hLk:L[k]=g.ents[k]:=(HL.out.hc k hkL hkl).2 (Nat.le_refl _)
  obtain⟨e,he⟩:∃ e,e=g.ents[k]:=⟨_,rfl⟩
  have c2:=HL.out.hb.cell (fun _=>rfl) hkL (j:=2) (by omega) (by rw [hLk];rfl)
  have c3:=HL.out.hb.cell (fun _=>rfl) hkL (j:=3) (by omega) (by rw [hLk];rfl)
  rw [<- he] at c2 c3
  obtain⟨cur0,hcur0,_⟩:=HL.out.hb
  have cf:=fun j=>fr0 j hcur0
  have Hcf:=Z1 cf
  have Hcur0:=Z1 hcur0
  have Heo:=Z1 (show e.At wr w.heap.size by rw [he];exact(Hg0.out.hea _ (List.getElem_mem _)).below hbww (Nat.le_refl _))
  have hk0:(0:Int)<=(k:Int):=by omega
  have hkn:(k:Int)<(g.en:Int):=by omega
  have HhLk:=Z1 hLk
  have He:=Z1 he
  clear he hLk hcur0
  go_upto_region 7 with(fail)
  have hS:Below G wr wr.drew:=below_drawn (Below.refl _ _) 1
  refine wp_region_held (S:=Below G wr) (by kernel_rfl) ?_
  change wpAnyH _ _ _ _ _ _ _ _ (World.drew wr)
  obtain⟨W_0,hWd⟩:∃ W0,W0=wr.drew:=⟨_,rfl⟩
  rw [<- hWd] at hS ⊢
  have hB0':Below wr.heap.size wr W_0:=by rw [hWd];exact below_drawn (Below.refl _ _) 1
  have hz0':wr.heap.size=W_0.heap.size:=by rw [hWd];rfl
  clear hWd
  refine tk (i:=0) (v:=.pointer (some ⟨G,k*5,none⟩)) rfl (.inl ⟨by rfl,fun W' hS'=>by go_simp⟩) hS ?_
  try simp only [z]
  refine tk (i:=1) (v:=.pointer (some ⟨G,k*5,none⟩)) rfl (.inl ⟨by rfl,fun W' hS'=>by go_simp⟩) hS ?_
  try simp only [z]
  refine tk (i:=2) (v:=.pointer (some ⟨G,k*5,none⟩)) rfl (.inl ⟨by rfl,fun W' hS'=>by go_simp⟩) hS ?_
  try simp only [z]
  refine tk (i:=3) (v:=.pointer (some ⟨G,k*5,none⟩)) rfl (.inl ⟨by rfl,fun W' hS'=>by go_simp⟩) hS ?_
  try simp only [z]
  refine tk (i:=4) (v:=.pointer (some ⟨G,k*5+2,none⟩)) rfl (.inl ⟨by rfl,fun W' hS'=>by go_simp⟩) hS ?_
  try simp only [z]
  refine tk (i:=7) (v:=.pointer (some ⟨G,k*5,none⟩)) rfl (.inl ⟨by rfl,fun W' hS'=>by go_simp⟩) hS ?_
  try simp only [z]
  refine tk (i:=8) (v:=.pointer (some ⟨G,k*5,none⟩)) rfl (.inl ⟨by rfl,fun W' hS'=>by go_simp⟩) hS ?_
  try simp only [z]
  refine tk (i:=9) (v:=.pointer (some ⟨G,k*5+3,none⟩)) rfl (.inl ⟨by rfl,fun W' hS'=>by go_simp⟩) hS ?_
  try simp only [z]
  refine wpAnyH_letters fun md' ops' Q' a' hlm hlo hlq hla=>?_
  obtain⟨RG,hRG⟩:∃ R:World->Prop,R=Below G wr:=⟨_,rfl⟩
  rw [<- hRG] at hS ⊢
  have fin:∀(W W6:World) (A6:Option Addr) (c6:Nat) (A8:Option Addr) (c8:Nat),RG W->Below wr.heap.size wr W6->W6.ownsRow wr.heap.size 87 4 (.slice A6 e.cn c6) e.cn (e.chart.flatMap Acc.cells)->Below W6.heap.size W6 W->W.ownsRow W6.heap.size 150 3 (.slice A8 e.ln c8) e.ln (e.links.flatMap Lnk.cells) ->
   wpAnyH prog md' ops' Q' RG 6 #[true,true,true,true,true,true,true,true,true,true,true,true,false,false,false,false,false,false] ((((a'.put (some 28) (.slice e.cA e.cn e.cc)).put (some 33) (.slice e.lA e.ln e.lc)).put (some 29) (.slice A6 e.cn c6)).put (some 34) (.slice A8 e.ln c8)) W:=by
   intro W W6 A6 c6 A8 c8 hS h6 o6 h8 o8
   subst hlm hlo hlq hla hRG
   try simp only [z]
   have hw:Below wr.heap.size wr W:=h6.trans (h8.mono h6.size)
   have hcurW:=gbox Hcur0.out hw hGr
   have f1:=fun j=>fr0 j hcurW
   have k2:W.cell? ⟨G,k*5+2,none⟩=some (.slice e.cA e.cn e.cc):=(hw.cell (p:=⟨G,k*5+2,none⟩) hGr).trans c2
   have sG:G<W.heap.size:=some_lt hcurW
   refine tk (i:=12) (v:=.pointer (some ⟨G,k*5,none⟩)) rfl (.inl ⟨by rfl,fun W' hS'=>by go_simp⟩) hS ?_
   try simp only [z]
   refine tk (i:=13) (v:=.pointer (some ⟨G,k*5+2,none⟩)) rfl (.inl ⟨by rfl,fun W' hS'=>by go_simp⟩) hS ?_
   try simp only [z]
   refine rd9 14 (by kernel_rfl) rfl (fun K hK=>?_)
   go_simp
   have hS2:=hS.setCell (p:=⟨G,k*5+2,none⟩) (Nat.le_refl _) (.slice A6 e.cn c6)
   have hc2:=heap_setCell_same W G (k*5+2) _ _ (.slice A6 e.cn c6) hcurW
   have k3:(W.setCell ⟨G,k*5+2,none⟩ (.slice A6 e.cn c6)).cell? ⟨G,k*5+3,none⟩=some (.slice e.lA e.ln e.lc):=by
    rw [World.cell?_setCell_other _ _ _ _ (by simp)];exact(hw.cell (p:=⟨G,k*5+3,none⟩) hGr).trans c3
   refine hK.out _ _ hS2 (fun _=>?_)
   clear hK K
   try simp only [z]
   obtain⟨V,hV⟩:∃ V,V=W.setCell ⟨G,k*5+2,none⟩ (.slice A6 e.cn c6):=⟨_,rfl⟩
   rw [<- hV] at hS2 hc2 k3 ⊢
   have f2:=fun j=>fr0 j hc2
   have sV:G<V.heap.size:=some_lt hc2
   have HV:=Z1 hV
   clear hV f1 k2
   refine tk (i:=15) (v:=.pointer (some ⟨G,k*5,none⟩)) rfl (.inl ⟨by rfl,fun W' hS'=>by go_simp⟩) hS2 ?_
   try simp only [z]
   refine tk (i:=16) (v:=.pointer (some ⟨G,k*5+3,none⟩)) rfl (.inl ⟨by rfl,fun W' hS'=>by go_simp⟩) hS2 ?_
   try simp only [z]
   refine rd9 17 (by kernel_rfl) rfl (fun K hK=>?_)
   go_simp
   have hS3:=hS2.setCell (p:=⟨G,k*5+3,none⟩) (Nat.le_refl _) (.slice A8 e.ln c8)
   refine hK.out _ _ hS3 (fun _=>?_)
   clear hK K
   refine wpAnyH_done (by kernel_rfl) ?_ _
   try simp only [z]
   obtain⟨U,hU⟩:∃ U,U=V.setCell ⟨G,k*5+3,none⟩ (.slice A8 e.ln c8):=⟨_,rfl⟩
   rw [<- hU] at hS3 ⊢
   have hcl:e.chart.length=e.cn:=Heo.out.hcl
   have hll:e.links.length=e.ln:=Heo.out.hll
   obtain⟨_,_,q1,hA6⟩:=own_flat (f:=Acc.cells) (sz:=4) (by decide) (fun _=>rfl) o6 hcl.symm
   cases q1
   obtain⟨_,_,q1,hA8⟩:=own_flat (f:=Lnk.cells) (sz:=3) (by decide) (fun _=>rfl) o8 hll.symm
   cases q1
   have hT6:=(own_ty o6 hcl.symm).below h8
   have hA6':=RowsAt.at_ hA6 h8
   have hT8:=own_ty o8 hll.symm
   obtain⟨e',he'⟩:∃ e':Ent,e'={ e with cA:=A6,cn:=e.cn,cc:=c6,lA:=A8,ln:=e.ln,lc:=c8 }:=⟨_,rfl⟩
   have hCp:Ent.Cp W e e':=by
    rw [he']
    exact⟨rfl,⟨hcl,Heo.out.hcn,hA6',Heo.out.hcw,hll,Heo.out.hln,hA8,Heo.out.hlw,Heo.out.hn,Heo.out.hu⟩,hT6,hT8⟩
   have hg1':W.grownBy U (some G):=by rw [hU,HV.out];exact grown_set (grown_set (grown_refl _ _) _ _) _ _
   have hCpU:=hCp.keep hcurW (by decide) (by decide) hg1'
   have hbl:=((HL.out.hb.below hw).set (fun _=>rfl) hkL (j:=2) (by omega) (.slice A6 e.cn c6) { e with cA:=A6,cn:=e.cn,cc:=c6 } (by rw [HhLk.out,<- He.out];rfl))
   rw [<- HV.out] at hbl
   have hbl2:=hbl.set (fun _=>rfl) (i:=k) (by simpa using hkL) (j:=3) (by omega) (.slice A8 e.ln c8) e' (by rw [he'];simp [Ent.cells])
   rw [<- hU,List.set_set] at hbl2
   have hnew:Cping g (k+1) U G (L.set k e'):=by
    refine⟨by simp [HL.out.hl],hbl2,fun i h1 h2=>?_⟩
    rw [List.getElem_set]
    have hi:=HL.out.hc i (by simpa using h1) h2
    by_cases q:k=i
    ·subst q
     rw [if_pos rfl,<- He.out]
     exact⟨fun _=>hCpU,fun q=>by omega⟩
    ·rw [if_neg q]
     exact⟨fun q=>((hi.1 (by omega)).at_ hw).keep hcurW (by decide) (by decide) hg1',fun q=>hi.2 (by omega)⟩
   have hch2:=(Hch.out.1.below hw).keep (RowsAt.at_ Hch.out.2 hw) (k:=G) (fun cur fr q=>by rw [hcurW] at q;cases q) hg1'
   have hbU:=hb.trans (hS3.mono (Nat.le_refl _))
   have Hnew:=Z1 hnew
   have Hch2:=Z1 hch2
   have HbU:=Z1 hbU
   clear hnew hch2 hbU hU hS3 hS2 hS hw hcurW hc2 k3 f2 o6 o8 h6 h8 hCp hCpU hbl hbl2 hT6 hA6' hT8 hA6 hA8 hg1' he' hcl hll sG sV c2 c3 cf y20
   go_wp2
   go_roundw
   case rel=>exact⟨k+1,by omega,by go_num,⟨_,Hnew.out⟩,Hch2.out,HbU.out⟩
   case measure=>simp [intOf];omega
  subst hlm hlo hlq hla hRG
  have hszw:wr.heap.size=W_0.heap.size:=hz0'
  try simp only [z]
  refine wpAnyH_ready (rs:=[5,10]) (by kernel_rfl) (by simp) (.cons rfl (fun K hK=>?_) (.cons rfl (fun K hK=>?_) .nil))
  ·have c0:=(hB0'.cell (p:=⟨G,k*5+2,none⟩) hGr).trans c2
   have sG:G<W_0.heap.size:=by have:=hB0'.size;omega
   go_simp
   refine hK.out _ _ (hB0'.mono (Nat.le_of_lt hGr)) (fun _=>?_)
   clear hK K c0 sG
   try simp only [z]
   refine wpAnyH_ready (rs:=[6,10]) (by kernel_rfl) (by simp) (.cons rfl (fun K hK=>?_) (.cons rfl (fun K hK=>?_) .nil))
   ·have HC:=Z1 (clone_acc W_0 e.cA e.cn e.cc e.chart Heo.out.hcl Heo.out.hcn ((RowsAt.below Heo.out.hc hB0' (by omega)).more (by have:=hB0'.size;omega)))
    go_simp
    refine HC.out.mono ?_
    rintro r W6 ⟨hB6,A6,c6,rfl,o6⟩
    have hB6':=hB0'.trans (hB6.mono hB0'.size)
    refine hK.out _ _ (hB6'.mono (Nat.le_of_lt hGr)) (fun _=>?_)
    clear hK K
    try simp only [z]
    refine wpAnyH_ready (rs:=[10]) (by kernel_rfl) (by simp) (.cons rfl (fun K hK=>?_) .nil)
    have c0:=(hB6'.cell (p:=⟨G,k*5+3,none⟩) hGr).trans c3
    have sG:G<W6.heap.size:=by have:=hB6'.size;omega
    go_simp
    refine hK.out _ _ (hB6'.mono (Nat.le_of_lt hGr)) (fun _=>?_)
    clear hK K c0 sG
    try simp only [z]
    refine wpAnyH_ready (rs:=[11]) (by kernel_rfl) (by simp) (.cons rfl (fun K hK=>?_) .nil)
    have HC:=Z1 (clone_lnk W6 e.lA e.ln e.lc e.links Heo.out.hll Heo.out.hln ((RowsAt.below Heo.out.hl hB6' (by omega)).more (by have:=hB6'.size;omega)))
    go_simp
    refine HC.out.mono ?_
    rintro r W8 ⟨hB8,A8,c8,rfl,o8⟩
    have hB8':=hB6'.trans (hB8.mono hB6'.size)
    refine hK.out _ _ (hB8'.mono (Nat.le_of_lt hGr)) (fun _=>?_)
    clear hK K
    try simp only [z]
    have hn:=fin W8 W6 A6 c6 A8 c8 (hB8'.mono (Nat.le_of_lt hGr)) hB6' (by rw [hszw];exact o6) hB8 o8
    try simp only [z] at hn
    exact hn
   ·have c0:=(hB0'.cell (p:=⟨G,k*5+3,none⟩) hGr).trans c3
    have sG:G<W_0.heap.size:=by have:=hB0'.size;omega
    go_simp
    refine hK.out _ _ (hB0'.mono (Nat.le_of_lt hGr)) (fun _=>?_)
    clear hK K c0 sG
    try simp only [z]
    refine wpAnyH_ready (rs:=[6]) (by kernel_rfl) (by simp) (.cons rfl (fun K hK=>?_) .nil)
    have HC:=Z1 (clone_acc W_0 e.cA e.cn e.cc e.chart Heo.out.hcl Heo.out.hcn ((RowsAt.below Heo.out.hc hB0' (by omega)).more (by have:=hB0'.size;omega)))
    go_simp
    refine HC.out.mono ?_
    rintro r W6 ⟨hB6,A6,c6,rfl,o6⟩
    have hB6':=hB0'.trans (hB6.mono hB0'.size)
    refine hK.out _ _ (hB6'.mono (Nat.le_of_lt hGr)) (fun _=>?_)
    clear hK K
    try simp only [z]
    refine wpAnyH_ready (rs:=[11]) (by kernel_rfl) (by simp) (.cons rfl (fun K hK=>?_) .nil)
    have HC:=Z1 (clone_lnk W6 e.lA e.ln e.lc e.links Heo.out.hll Heo.out.hln ((RowsAt.below Heo.out.hl hB6' (by omega)).more (by have:=hB6'.size;omega)))
    go_simp
    refine HC.out.mono ?_
    rintro r W8 ⟨hB8,A8,c8,rfl,o8⟩
    have hB8':=hB6'.trans (hB8.mono hB6'.size)
    refine hK.out _ _ (hB8'.mono (Nat.le_of_lt hGr)) (fun _=>?_)
    clear hK K
    try simp only [z]
    have hn:=fin W8 W6 A6 c6 A8 c8 (hB8'.mono (Nat.le_of_lt hGr)) hB6' (by rw [hszw];exact o6) hB8 o8
    try simp only [z] at hn
    exact hn
  ·have c0:=(hB0'.cell (p:=⟨G,k*5+3,none⟩) hGr).trans c3
   have sG:G<W_0.heap.size:=by have:=hB0'.size;omega
   go_simp
   refine hK.out _ _ (hB0'.mono (Nat.le_of_lt hGr)) (fun _=>?_)
   clear hK K c0 sG
   try simp only [z]
   refine wpAnyH_ready (rs:=[5]) (by kernel_rfl) (by simp) (.cons rfl (fun K hK=>?_) .nil)
   have c0:=(hB0'.cell (p:=⟨G,k*5+2,none⟩) hGr).trans c2
   have sG:G<W_0.heap.size:=by have:=hB0'.size;omega
   go_simp
   refine hK.out _ _ (hB0'.mono (Nat.le_of_lt hGr)) (fun _=>?_)
   clear hK K c0 sG
   try simp only [z]
   refine wpAnyH_ready (rs:=[6]) (by kernel_rfl) (by simp) (.cons rfl (fun K hK=>?_) .nil)
   have HC:=Z1 (clone_acc W_0 e.cA e.cn e.cc e.chart Heo.out.hcl Heo.out.hcn ((RowsAt.below Heo.out.hc hB0' (by omega)).more (by have:=hB0'.size;omega)))
   go_simp
   refine HC.out.mono ?_
   rintro r W6 ⟨hB6,A6,c6,rfl,o6⟩
   have hB6':=hB0'.trans (hB6.mono hB0'.size)
   refine hK.out _ _ (hB6'.mono (Nat.le_of_lt hGr)) (fun _=>?_)
   clear hK K
   try simp only [z]
   refine wpAnyH_ready (rs:=[11]) (by kernel_rfl) (by simp) (.cons rfl (fun K hK=>?_) .nil)
   have HC:=Z1 (clone_lnk W6 e.lA e.ln e.lc e.links Heo.out.hll Heo.out.hln ((RowsAt.below Heo.out.hl hB6' (by omega)).more (by have:=hB6'.size;omega)))
   go_simp
   refine HC.out.mono ?_
   rintro r W8 ⟨hB8,A8,c8,rfl,o8⟩
   have hB8':=hB6'.trans (hB8.mono hB6'.size)
   refine hK.out _ _ (hB8'.mono (Nat.le_of_lt hGr)) (fun _=>?_)
   clear hK K
   try simp only [z]
   have hn:=fin W8 W6 A6 c6 A8 c8 (hB8'.mono (Nat.le_of_lt hGr)) hB6' (by rw [hszw];exact o6) hB8 o8
   try simp only [z] at hn
   exact hn
end
end Go.Proofs.YtniaimjknmhapaaGreatDoor
namespace Go.Proofs.YtniaimjknmhapaaGreatDoor
open Go.Proofs.Tryz Go.RowKit
section
variable (w:World)
theorem rmon_any (n:Int) (h:Jr.okAmt n=true):Calls prog 321 #[.int .i64 n] w fun e w'=>e=.returned (.bool true)/\w=w':=by
 unfold Jr.okAmt at h
 rw [decide_eq_true_eq] at h
 obtain⟨h1,h2⟩:=h
 go_enter func321,ntmps321
 go_wp2
 go_ret
 exact⟨by simp <;> omega,rfl⟩
theorem rprint_any (s:ByteArray) (hp:Jr.plain s=true):Calls prog 308 #[.string s] w fun e w'=>e=.returned (.bool true)/\w=w':=by
 have hs:s.size<=80:=by unfold Jr.plain at hp;simp only [Bool.and_eq_true,decide_eq_true_eq] at hp;exact hp.2
 have hsz:s.data.toList.length=s.size:=by simp
 have HA:Hid (s.data.toList.all Jr.print=true):=by unfold Jr.plain at hp;simp only [Bool.and_eq_true] at hp;exact Z1 hp.1
 clear hp
 go_enter func308,ntmps308
 go_wp2
 go_loop [3] (fun i=>∃ k:Nat,k<=s.size/\i=.int .i64 k) (fun i=>s.size-(intOf i).toNat)
 case atStart=>exact⟨0,Nat.zero_le _,rfl⟩
 case round =>
  obtain⟨k,hk,rfl⟩:=hrel
  by_cases hlt:k<s.size
  ·have hg:s.data.toList[k]'(by omega)=s[k]:=rfl
   have hpr:Jr.print s[k]=true:=by
    have:=List.all_eq_true.1 HA.out _ (List.getElem_mem (show k<s.data.toList.length by omega))
    rw [hg] at this;exact this
   unfold Jr.print at hpr
   rw [decide_eq_true_eq] at hpr
   obtain⟨h1,h2⟩:=hpr
   have h1':¬ (s[k].toNat:Int)<32:=by omega
   have h2':¬ 126<(s[k].toNat:Int):=by omega
   clear hg h1 h2
   go_wp2
   go_round
   case rel=>exact⟨k+1,by omega,by go_num⟩
   case measure=>simp [intOf];omega
  ·obtain rfl:k=s.size:=by omega
   clear hsz
   go_wp2
   go_ret
   exact⟨ret_bool (by simp;omega),rfl⟩
theorem rsum11_any (A:Option Addr) (n c:Nat) (l:List Lin) (hl:l.length=n) (hn:n<=60) (hw:∀ x∈l,x.wf) (h:LinsAt w w.heap.size A l) :
  Calls prog 273 #[.slice A n c] w fun e w'=>e=.returned (.int .i64 (Jr.total l))/\w=w':=by
 have HW:=Z1 hw
 have Hl:=Z1 hl
 clear hw hl
 go_enter func273,ntmps273
 go_wp2
 go_loop [3,4] (fun s i=>∃ k:Nat,k<=n/\i=.int .i64 k/\s=.int .i64 (Jr.total (l.take k))) (fun _ i=>n-(intOf i).toNat)
 case atStart=>exact⟨0,Nat.zero_le _,rfl,rfl⟩
 case round =>
  obtain⟨k,hk,rfl,rfl⟩:=hrel
  by_cases hlt:k<n
  ·have hkl:k<l.length:=by have:=Hl.out;omega
   obtain⟨b,o,rfl,hbB,hr⟩:=LinsAt.three h hkl
   obtain⟨x,hx⟩:∃ x,x=l[k]:=⟨_,rfl⟩
   rw [<- hx] at hr
   have Hst:=Z1 (Jr.total_take hkl)
   have hbt:=Jr.total_bd (l.take (k+1)) fun y hy=>HW.out y (List.mem_of_mem_take hy)
   rw [Hst.out,<- hx] at hbt
   rw [<- hx] at Hst
   simp only [List.length_take] at hbt
   have hb1:-67553994410557440<=Jr.total (l.take k)+x.amt/\Jr.total (l.take k)+x.amt<=67553994410557440:=by omega
   obtain⟨t,ht⟩:∃ t,t=Jr.total (l.take k):=⟨_,rfl⟩
   rw [<- ht] at hb1 Hst ⊢
   have c1:=range_cell hr 1 _ rfl
   obtain⟨hb1,hb2⟩:=hb1
   clear hr hx hbt ht h
   go_wp2
   go_round
   case rel=>exact⟨k+1,by omega,by go_num,by rw [Hst.out]⟩
   case measure=>simp [intOf];omega
  ·obtain rfl:k=n:=by omega
   have htk:l.take k=l:=List.take_of_length_le (by have:=Hl.out;omega)
   rw [htk]
   go_wp2
   go_ret
   exact⟨rfl,rfl⟩
theorem rincal_any (Y M N d:Int) (ho:Cal.ok Y M N=true) (hd:0<=Cal.per Y M N d) :
  Calls prog 272 #[.agg #[.int .i64 Y,.int .i64 M,.int .i64 N],.int .i64 d] w fun e w'=>e=.returned (.bool true)/\Below w.heap.size w w':=by
 have hi:=(Cal.ok_iff Y M N).1 ho
 have h0:Cal.err Y M N 0=0:=(Cal.err_zero Y M N 0).2 ⟨ho,by omega,by omega⟩
 have h1:Cal.err Y M N (N-1)=0:=(Cal.err_zero Y M N (N-1)).2 ⟨ho,by omega,by omega⟩
 have hs:=Cal.per_span hd
 obtain⟨f,hf⟩:∃ f,f=Cal.first Y M 0:=⟨_,rfl⟩
 obtain⟨l,hl⟩:∃ l,l=Cal.last Y M (N-1):=⟨_,rfl⟩
 rw [<- hf,<- hl] at hs
 have H0:=Z1 h0
 have H1:=Z1 h1
 have Hf:=Z1 hf
 have Hl:=Z1 hl
 have hn1:1<=N:=by omega
 have hn2:N<=120:=by omega
 clear h0 h1 hf hl hd ho hi
 go_enter func272,ntmps272
 go_wp2_with (go_at_call 18;refine(rFirst_any _ _ _ _ _ H0.out).mono ?_;rw [<- Hf.out];rintro e w4 ⟨rfl,hB⟩;obtain⟨hc,hcf⟩:=bcell hB)
 refine(rLast_any _ _ _ _ _ H1.out).mono ?_
 rw [<- Hl.out]
 rintro e w5 ⟨rfl,hB5⟩
 go_wp2
 go_ret
 exact⟨by simp <;> omega,(((Below.refl _ _).alloc (Nat.le_refl _) _).trans (hB.mono (by simp))).trans (hB5.mono (by have:=hB.size;simp at this;omega))⟩
theorem rline_any (g:Grp) (x:Lin) (e:Nat) (hl:g.ents.length=g.en) (hn:g.en<=12) (h:Jr.lineOk g.ents.length e x=true) :
  Calls prog 309 #[.agg #[.string g.cur,.int .i64 g.Y,.int .i64 g.M,.int .i64 g.N,.slice g.cA g.cn g.cc,.int .i64 g.r0,.int .i64 g.r1,.int .i64 g.r2,.int .i64 g.r3,.int .i64 g.r4,.int .i64 g.r5,.int .i64 g.r6,.int .i64 g.r7,.int .i64 g.r8,.int .i64 g.r9,.int .i64 g.r10,.int .i64 g.r11,.int .i64 g.r12,.int .i64 g.r13,.int .i64 g.r14,.slice g.eA g.en g.ec],.int .i64 e,.agg #[.int .i64 x.acct,.int .i64 x.amt,.int .i64 x.prt]] w fun ev w'=>ev=.returned (.bool true)/\Below w.heap.size w w':=by
 obtain⟨W1,hW1,hB0,hn0,hb0,hz⟩:=nw2 w #[.string g.cur,.int .i64 g.Y,.int .i64 g.M,.int .i64 g.N,.slice g.cA g.cn g.cc,.int .i64 g.r0,.int .i64 g.r1,.int .i64 g.r2,.int .i64 g.r3,.int .i64 g.r4,.int .i64 g.r5,.int .i64 g.r6,.int .i64 g.r7,.int .i64 g.r8,.int .i64 g.r9,.int .i64 g.r10,.int .i64 g.r11,.int .i64 g.r12,.int .i64 g.r13,.int .i64 g.r14,.slice g.eA g.en g.ec] #[.int .i64 x.acct,.int .i64 x.amt,.int .i64 x.prt] 29 68
 have HW:=Z1 hW1
 have g20:=cr9 20 hn0
 have z1:=cr9 1 hb0
 have z2:=cr9 2 hb0
 simp at g20 z1 z2
 have s1:=some_lt hn0
 have s2:=some_lt hb0
 unfold Jr.lineOk at h
 simp only [Bool.and_eq_true,decide_eq_true_eq] at h
 obtain⟨⟨⟨⟨k1,k2⟩,k3⟩,k4⟩,k5⟩:=h
 have Hm:=Z1 (rmon_any W1 x.amt k2)
 have q1:(x.amt==0)=false:=by simp [k1]
 rw [hl] at k4
 clear hW1 hz hn0 hb0 k1 k2 hl
 by_cases hp:x.prt=-1
 ·have q2:(x.prt==-1)=true:=by simp [hp]
  clear hp k3 k4 k5
  go_enter func309,ntmps309
  go_upto_region 1 with(fail)
  rw [<- HW.out]
  go_wp2_with (fail)
  refine Hm.out.mono ?_
  rintro ev W2 ⟨rfl,rfl⟩
  go_wp2
  go_ret
  exact⟨rfl,hB0⟩
 ·have q2:(x.prt==-1)=false:=by simp [hp]
  have q3:0<=x.prt:=by omega
  have q4:(x.prt != (e:Int))=true:=by simp [k5]
  have q5:x.prt<(g.en:Int):=by omega
  clear hp k3 k4 k5
  go_enter func309,ntmps309
  go_upto_region 1 with(fail)
  rw [<- HW.out]
  go_wp2_with (fail)
  refine Hm.out.mono ?_
  rintro ev W2 ⟨rfl,rfl⟩
  go_wp2
  go_ret
  exact⟨by first | rfl | simp,hB0⟩
end
end Go.Proofs.YtniaimjknmhapaaGreatDoor
namespace Go.Proofs.YtniaimjknmhapaaGreatDoor
open Go.Proofs.Tryz Go.RowKit
section
variable (w:World)
theorem rshape_any (g:Grp) (c:EtC) (A:Option Addr) (n kc ke:Nat) (hg:g.At w w.heap.size) (hx:(⟨c,A,n,kc⟩:Etr).At w w.heap.size) (hke:c.ent=ke) (hf:Jr.formed g c=true) :
  Calls prog 271 #[.agg #[.string g.cur,.int .i64 g.Y,.int .i64 g.M,.int .i64 g.N,.slice g.cA g.cn g.cc,.int .i64 g.r0,.int .i64 g.r1,.int .i64 g.r2,.int .i64 g.r3,.int .i64 g.r4,.int .i64 g.r5,.int .i64 g.r6,.int .i64 g.r7,.int .i64 g.r8,.int .i64 g.r9,.int .i64 g.r10,.int .i64 g.r11,.int .i64 g.r12,.int .i64 g.r13,.int .i64 g.r14,.slice g.eA g.en g.ec],.agg #[.int .i64 c.id,.int .i64 c.ent,.int .i64 c.date,.int .i64 c.kind,.int .i64 c.of_,.string c.text,.slice A n kc]] w fun ev w'=>ev=.returned (.bool true)/\Below w.heap.size w w':=by
 obtain⟨W1,hW1,hB0,hb0,hb1,hz⟩:=nw2 w #[.string g.cur,.int .i64 g.Y,.int .i64 g.M,.int .i64 g.N,.slice g.cA g.cn g.cc,.int .i64 g.r0,.int .i64 g.r1,.int .i64 g.r2,.int .i64 g.r3,.int .i64 g.r4,.int .i64 g.r5,.int .i64 g.r6,.int .i64 g.r7,.int .i64 g.r8,.int .i64 g.r9,.int .i64 g.r10,.int .i64 g.r11,.int .i64 g.r12,.int .i64 g.r13,.int .i64 g.r14,.slice g.eA g.en g.ec] #[.int .i64 c.id,.int .i64 c.ent,.int .i64 c.date,.int .i64 c.kind,.int .i64 c.of_,.string c.text,.slice A n kc] 29 71
 have HW:=Z1 hW1
 have hg1:=Z1 (hg.at_ hB0)
 have Hel:=Z1 hg.hel
 have Hll:Hid (c.lines.length=n):=hx.hl
 have hA:Hid (LinsAt W1 W1.heap.size A c.lines):=RowsAt.at_ hx.hA hB0
 have Hb0:=Z1 hb0
 have Hb1:=Z1 hb1
 have s1:w.heap.size<W1.heap.size:=by omega
 have s1':w.heap.size+1<W1.heap.size:=by omega
 unfold Jr.formed Jr.shape at hf
 simp only [Bool.and_eq_true,decide_eq_true_eq] at hf
 obtain⟨⟨⟨⟨hv,hs⟩,hp⟩,hln⟩,hall⟩:=hf
 obtain⟨i1,i2,i3,i4,i5,i6,i7⟩:=hs
 have HV:=Z1 hv
 have HP:=Z1 hp
 have HAll:=Z1 hall
 rw [hke] at i3
 rw [Hel.out] at i3
 have hen:g.en<=12:=by
  have:=HV.out;unfold Gr.valid at this;simp only [Bool.and_eq_true,decide_eq_true_eq] at this;have h2:=Hel.out;omega
 rw [Hll.out] at hln
 obtain⟨l1,l2⟩:=hln
 have Hgr:=Z1 (grpr_any W1 g hg1.out)
 have n1:¬ c.id<1:=by omega
 have n2:¬ (ke:Int)<0:=by omega
 have n3:¬ (ke:Int) ≥ (g.en:Int):=by omega
 have n4:¬ c.kind<1:=by omega
 have n5:¬ c.kind > 3:=by omega
 have n6:¬ (n:Int)<2:=by omega
 have n7:¬ (n:Int) > 40:=by omega
 have Hke:=Z1 hke
 have hcs:((c.kind==3)=true/\(c.kind != 3)=false/\¬ c.of_<1)∨((c.kind==3)=false/\(c.kind != 3)=true/\(c.of_ != 0)=false):=by
  by_cases h:c.kind=3
  ·left;have:=i6 h;simp [h];omega
  ·right;have:=i7 h;simp [h,this]
 clear hW1 hz hb0 hb1 hg hx hke hv hp hall i1 i2 i3 i4 i5 i6 i7
 go_enter func271,ntmps271
 go_upto_region 1 with(fail)
 rw [<- HW.out]
 have hload:W1.rangeAt w.heap.size 0 [.string g.cur,.int .i64 g.Y,.int .i64 g.M,.int .i64 g.N,.slice g.cA g.cn g.cc,.int .i64 g.r0,.int .i64 g.r1,.int .i64 g.r2,.int .i64 g.r3,.int .i64 g.r4,.int .i64 g.r5,.int .i64 g.r6,.int .i64 g.r7,.int .i64 g.r8,.int .i64 g.r9,.int .i64 g.r10,.int .i64 g.r11,.int .i64 g.r12,.int .i64 g.r13,.int .i64 g.r14,.slice g.eA g.en g.ec]:=range_of Hb0.out
 go_wp2_with (refine wpList_load_want (by rfl) 29 (.tmp 2) rfl w.heap.size 0 rfl _ _ hload underlying29 rfl grpSize ?_)
 refine Hgr.out.mono ?_
 rw [HV.out]
 rintro ev W2 ⟨rfl,hB2⟩
 have hb2:=gbox Hb1.out hB2 s1'
 have hg2:=gbox Hb0.out hB2 s1
 have z0:=cr9 0 hb2
 have z1:=cr9 1 hb2
 have z3:=cr9 3 hb2
 have z4:=cr9 4 hb2
 have z5:=cr9 5 hb2
 have z6:=cr9 6 hb2
 have g20:=cr9 20 hg2
 simp at z0 z1 z3 z4 z5 z6 g20
 rw [Hke.out] at z1
 have s2:=some_lt hb2
 have s3:=some_lt hg2
 have Hpr:=Z1 (rprint_any W2 c.text HP.out)
 have hB02:=hB0.trans (hB2.mono hB0.size)
 have Hb2:=Z1 hb2
 have Hg2:=Z1 hg2
 clear hb2 hg2 hload
 rcases hcs with⟨q1,q2,q3⟩ | ⟨q1,q2,q3⟩
 all_goals
  go_wp2_with (fail)
  refine Hpr.out.mono ?_
  rintro ev W3 ⟨rfl,rfl⟩
  go_wp2
  go_loopw [5] (fun i wr=>∃ k:Nat,k<=n/\i=.int .i64 k/\Below W1.heap.size W1 wr) (fun i _=>n-(intOf i).toNat)
  case atStart=>exact⟨0,Nat.zero_le _,rfl,hB2⟩
  case round =>
   obtain⟨k,hk,rfl,hb⟩:=hrel
   clear z0 z1 z3 z4 z5 z6 g20
   have hbr:=gbox Hb1.out hb s1'
   have hgr:=gbox Hb0.out hb s1
   have y1:=cr9 1 hbr
   have y6:=cr9 6 hbr
   simp at y1 y6
   rw [Hke.out] at y1
   have t2:=some_lt hbr
   have t3:=some_lt hgr
   have hB0r:=hB0.trans (hb.mono hB0.size)
   by_cases hlt:k<n
   case neg =>
    obtain rfl:k=n:=by omega
    clear hbr hgr
    go_wp2
    go_ret
    exact⟨rfl,hB0r⟩
   have hkl:k<c.lines.length:=by have:=Hll.out;omega
   obtain⟨bb,o,rfl,hbB,hr⟩:=LinsAt.three (RowsAt.below hA.out hb (Nat.le_refl _)) hkl
   obtain⟨x,hx⟩:∃ x,x=c.lines[k]:=⟨_,rfl⟩
   rw [<- hx] at hr
   have hok:Jr.lineOk g.ents.length ke x=true:=by
    have:=List.all_eq_true.1 HAll.out x (by rw [hx];exact List.getElem_mem hkl)
    rw [Hke.out] at this;exact this
   have Hr:=Z1 hr
   have hbw:bb<wr.heap.size:=Nat.lt_of_lt_of_le hbB hb.size
   have Hline:=Z1 (fun W:World=>rline_any W g x ke Hel.out hen hok)
   have Hbr:=Z1 hbr
   have Hgr2:=Z1 hgr
   clear hbr hgr hx hr hok
   go_upto_region 8 with(fail)
   have hS:Below wr.heap.size wr wr.drew:=below_drawn (Below.refl _ _) 1
   refine wp_region_held (S:=Below wr.heap.size wr) (by kernel_rfl) ?_
   change wpAnyH _ _ _ _ _ _ _ _ (World.drew wr)
   obtain⟨W_0,hWd⟩:∃ W0,W0=wr.drew:=⟨_,rfl⟩
   rw [<- hWd] at hS ⊢
   clear hWd
   refine tk (i:=0) (v:=.agg #[.string g.cur,.int .i64 g.Y,.int .i64 g.M,.int .i64 g.N,.slice g.cA g.cn g.cc,.int .i64 g.r0,.int .i64 g.r1,.int .i64 g.r2,.int .i64 g.r3,.int .i64 g.r4,.int .i64 g.r5,.int .i64 g.r6,.int .i64 g.r7,.int .i64 g.r8,.int .i64 g.r9,.int .i64 g.r10,.int .i64 g.r11,.int .i64 g.r12,.int .i64 g.r13,.int .i64 g.r14,.slice g.eA g.en g.ec]) rfl (yieldsIf_load_mid (by rfl) 29 _ rfl w.heap.size 0 rfl [.string g.cur,.int .i64 g.Y,.int .i64 g.M,.int .i64 g.N,.slice g.cA g.cn g.cc,.int .i64 g.r0,.int .i64 g.r1,.int .i64 g.r2,.int .i64 g.r3,.int .i64 g.r4,.int .i64 g.r5,.int .i64 g.r6,.int .i64 g.r7,.int .i64 g.r8,.int .i64 g.r9,.int .i64 g.r10,.int .i64 g.r11,.int .i64 g.r12,.int .i64 g.r13,.int .i64 g.r14,.slice g.eA g.en g.ec] _ (fun W' hS'=>range_of (gbox Hgr2.out hS' t3)) underlying29 rfl grpSize) hS ?_
   try simp only [z]
   refine tk (i:=1) (v:=.pointer (some ⟨w.heap.size+1,1,none⟩)) rfl (.inl ⟨by rfl,fun W' hS'=>by go_simp⟩) hS ?_
   try simp only [z]
   refine tk (i:=2) (v:=.int .i64 ke) rfl (.inl ⟨by rfl,fun W' hS'=>by have c0:=(hS'.cell (p:=⟨w.heap.size+1,1,none⟩) (by omega)).trans y1;have c9:=some_lt (gbox Hbr.out hS' t2);go_simp⟩) hS ?_
   try simp only [z]
   refine tk (i:=3) (v:=.pointer (some ⟨w.heap.size+1,6,none⟩)) rfl (.inl ⟨by rfl,fun W' hS'=>by go_simp⟩) hS ?_
   try simp only [z]
   refine tk (i:=4) (v:=.slice (some ⟨bb,o,none⟩) n kc) rfl (.inl ⟨by rfl,fun W' hS'=>by have c0:=(hS'.cell (p:=⟨w.heap.size+1,6,none⟩) (by omega)).trans y6;have c9:=some_lt (gbox Hbr.out hS' t2);go_simp⟩) hS ?_
   try simp only [z]
   refine tk (i:=5) (v:=.int .i64 k) rfl (.inl ⟨by rfl,fun W' hS'=>by go_simp⟩) hS ?_
   try simp only [z]
   refine tk (i:=6) (v:=.pointer (some ⟨bb,o+k*3,none⟩)) rfl (.inl ⟨by rfl,fun W' hS'=>by go_simp⟩) hS ?_
   try simp only [z]
   refine tk (i:=7) (v:=.agg #[.int .i64 x.acct,.int .i64 x.amt,.int .i64 x.prt]) rfl (yieldsIf_load_mid (by rfl) 68 _ rfl bb (o+k*3) rfl [.int .i64 x.acct,.int .i64 x.amt,.int .i64 x.prt] _ (fun W' hS'=>fun j v hj=>(hS'.cell (p:=⟨bb,o+k*3+j,none⟩) (by omega)).trans (Hr.out j v hj)) underlying68 rfl linSize) hS ?_
   try simp only [z]
   refine rd9 8 (by kernel_rfl) rfl (fun K hK=>?_)
   go_simp
   refine(Hline.out _).mono ?_
   rintro ev W4 ⟨rfl,hB4⟩
   have hS2:=hS.trans (hB4.mono hS.size)
   refine hK.out _ _ hS2 (fun _=>?_)
   clear hK K
   try simp only [z]
   refine rd9 9 (by kernel_rfl) rfl (fun K hK=>?_)
   go_simp
   refine hK.out _ _ hS2 (fun _=>?_)
   clear hK K
   try simp only [z]
   refine wpAnyH_done (by kernel_rfl) ?_ _
   try simp only [z]
   have hbF:=hb.trans (hS2.mono hb.size)
   clear y1 y6 hS hS2
   go_wp2
   go_roundw
   case rel=>exact⟨k+1,by omega,by go_num,hbF⟩
   case measure=>simp [intOf];omega
end
end Go.Proofs.YtniaimjknmhapaaGreatDoor
