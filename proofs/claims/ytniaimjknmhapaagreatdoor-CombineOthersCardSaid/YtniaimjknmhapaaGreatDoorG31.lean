/- My texts HoldA, KeysW, RefHP, RefH, TotW, DatW. -/
import Derived.Maps.RangeWalk
import Derived.Sort.OwnSorted
import Derived.Sort.OwnSortedInts
import Derived.Test.YtniaimjknmhapaaGreatDoorG30
set_option linter.unusedVariables false
set_option linter.unusedSimpArgs false
set_option maxRecDepth 100000
set_option maxHeartbeats 16000000
namespace Go.Proofs.YtniaimjknmhapaaGreatDoor
open Go.Proofs.Tryz Go.RowKit Go.Shelf
attribute [local go_sem] Oper.semAt_some
def shC (s:Option (Int × Int)):Array Value:=#[.int .i64 (s.getD (0,0)).1]
def siC (s:Option (Int × Int)):Array Value:=#[.int .i64 (s.getD (0,0)).2]
def foC (s:Option (Int × Int)):Array Value:=#[.bool s.isSome]
theorem a7X (ws:World) (L m:Nat) (hm:1<=m) (A:Option Addr) (n c:Nat) (hs:List Hld) (h e:Int) (hl:hs.length=n) (hn:n<=1000) (hws:ws.heap.size=L+7)
  (c0:ws.cell? ⟨L+4,0,none⟩=some (.slice A n c)) (c1:ws.cell? ⟨L+5,0,none⟩=some (.int .i64 h)) (c2:ws.cell? ⟨L+6,0,none⟩=some (.int .i64 e)) (hA:RowsAt Hld.cells 4 ws L A hs) :
  SeqStopsK Fence.wide m prog 249 #[.pointer (some ⟨L+4,0,none⟩),.pointer (some ⟨L+5,0,none⟩),.pointer (some ⟨L+6,0,none⟩)] encH
   (fun W W'=>KeepR (L+7) (L+1) (L+4) W W'/\W.heap.size<=W'.heap.size) (fun ys=>ys=hs.filter (Hd.pair h e)) (fun _=>True) hs.length ws:=fun l J Jx W hW hJ _ hY h0 =>
 b0W m hm l (L+7) (L+1) (L+4) (L+4) (L+5) (L+6) A n c hs h e hl hn L oM oM oM oM oM oM
  J Jx W (by have:=hW.size;omega) hJ hY ((hW.cell (p:=⟨L+4,0,none⟩) (by rw [hws];show L+4<_;omega)).trans c0) ((hW.cell (p:=⟨L+5,0,none⟩) (by rw [hws];show L+5<_;omega)).trans c1)
  ((hW.cell (p:=⟨L+6,0,none⟩) (by rw [hws];show L+6<_;omega)).trans c2) (RowsAt.below hA hW oM) h0
section
variable (w:World)
theorem a4w (A:Option Addr) (n c:Nat) (hs:List Hld) (h e d:Int) (hl:hs.length=n) (hn:n<=1000) (hA:RowsAt Hld.cells 4 w w A hs) :
  CL 160 #[.slice A n c,h,e,d] w (Hd.at_ hs h e d):=by
 refine callsIn_wide.1 (callsIn_of_wp_marks (F:=Fence.wide) (n:=8) func160 rfl trivial ?_ rfl);simp only [ntmps160,List.size_toArray,List.length_cons,List.length_nil,Nat.reduceAdd,Nat.reduceSub,Array.replicate_succ,Array.replicate_zero,List.push_toArray,List.append_toArray,List.nil_append,List.cons_append]
 gi_wp2
 refine⟨trivial,callsIn_wide.2 ((b0V _ _ _ _ _ _).mono ?_)⟩;rintro ev w5 ⟨rfl,rfl⟩
 gi_wp2
 obtain⟨ws,hws⟩:∃ ws,((((((w.alloc (.cells #[d] 3)).alloc (.cells #[()] 3)).alloc (.cells #[()] 3)).alloc (.cells #[false] 4)).alloc (.cells #[.slice A n c] 32)).alloc (.cells #[h] 3)).alloc (.cells #[e] 3)=ws:=⟨_,rfl⟩;have hwb:Below w w ws:=by rw [<- hws];exact((((((((Below.refl _ w).alloc lR _).alloc sP _).alloc sO _).alloc sO _).alloc sO _).alloc sO _).alloc sO _)
 obtain⟨L,hLe⟩:∃ L,w.heap.size=L:=⟨_,rfl⟩;have hsz:ws.heap.size=L+7:=by rw [<- hws,<- hLe];simp
 have b4:ws.cell? ⟨L+4,0,none⟩=some (.slice A n c):=by rw [<- hws,<- hLe];simp [go_sem]
 have b5:ws.cell? ⟨L+5,0,none⟩=some (.int .i64 h):=by rw [<- hws,<- hLe];simp [go_sem]
 have b6:ws.cell? ⟨L+6,0,none⟩=some (.int .i64 e):=by rw [<- hws,<- hLe];simp [go_sem]
 have r1:Row ws (L+1) 3 (shC none):=by
  rw [<- hws,<- hLe];have:=heap_alloc_new (w.alloc (.cells #[d] 3)) (.cells (shC none) 3);rw [World.size_alloc] at this;exact(((((Row.alloc this _).alloc _).alloc _).alloc _).alloc _)
 have r2:Row ws (L+2) 3 (siC none):=by
  rw [<- hws,<- hLe];have:=heap_alloc_new ((w.alloc (.cells #[d] 3)).alloc (.cells #[()] 3)) (.cells (siC none) 3);rw [World.size_alloc,World.size_alloc] at this;exact((((Row.alloc this _).alloc _).alloc _).alloc _)
 have r3:Row ws (L+3) 4 (foC none):=by
  rw [<- hws,<- hLe];have:=heap_alloc_new (((w.alloc (.cells #[d] 3)).alloc (.cells #[()] 3)).alloc (.cells #[()] 3)) (.cells (foC none) 4);rw [World.size_alloc,World.size_alloc,World.size_alloc] at this;exact(((Row.alloc this _).alloc _).alloc _)
 have r0:Row ws L 3 #[d]:=by
  rw [<- hws,<- hLe];exact((((((Row.alloc (heap_alloc_new w (.cells #[d] 3)) _).alloc _).alloc _).alloc _).alloc _).alloc _)
 have hA':RowsAt Hld.cells 4 ws L A hs:=by rw [<- hLe];exact RowsAt.below hA hwb lR
 have HA:=Z1 hA';rw [hws];simp only [hLe];replace hwb:Below L w ws:=hLe ▸ hwb;have hL0:L<=w.heap.size:=Nat.le_of_eq hLe.symm;clear hws hA hA';simp only [Nat.add_assoc,Nat.reduceAdd]
 refine wpIn_rangeFunc_ownH rfl (by omega:1<=8) (gf:=249) (lb:=#[.pointer (some ⟨L+4,0,none⟩),.pointer (some ⟨L+5,0,none⟩),.pointer (some ⟨L+6,0,none⟩)]) rfl trivial (enters_of func249 kR rfl)
  (a7X ws L 7 oM A n c hs h e hl hn hsz b4 b5 b6 HA.out)
  (fun h k=>⟨h.1.trans k.1,Nat.le_trans h.2 k.2⟩) (fun W l o o' h1 h2 h3 h4=>⟨KeepR.putObj (n:=L+7) (w:=ws) oM W l o o' h1 h2 h3 h4,by simp [World.putObj]⟩) bR (fun _=>rfl)
  (fun pre W=>Row W (L+1) 3 (shC (pre.foldl (Hd.see d) none))/\Row W (L+2) 3 (siC (pre.foldl (Hd.see d) none))/\Row W (L+3) 4 (foC (pre.foldl (Hd.see d) none))/\Below L w W/\L+7<=W.heap.size/\Row W L 3 #[d]) (fun _ _ _=>False)
  (OwnFrom.and (Own.from (a1I (L+1) 3 (fun pre:List Hld=>shC (pre.foldl (Hd.see d) none))) _) (OwnFrom.and (Own.from (a1I (L+2) 3 (fun pre:List Hld=>siC (pre.foldl (Hd.see d) none))) _) (OwnFrom.and (Own.from (a1I (L+3) 4 (fun pre:List Hld=>foC (pre.foldl (Hd.see d) none))) _) (OwnFrom.and (ownFrom_below oM oM) (OwnFrom.and (fun _ _ _ _ hs hg _=>Nat.le_trans hs hg.size) (Own.from (a1I L 3 (fun _:List Hld=>#[d])) _)))))) (fun _ _ _ _ _ hs _ _=>hs)
  ⟨r1,r2,r3,hwb,oM,r0⟩
  (fun x a' W=>∃ Bx,L+7<=Bx/\Row W Bx 61 #[x.hdr,x.ent,x.date,x.shr]/\a'={ tmps:=#[.slice A n c,.int .i64 h,.int .i64 e,.int .i64 d,undef,undef,undef,.pointer (some ⟨L,0,none⟩),.int .i64 0,.pointer (some ⟨L+1,0,none⟩),.pointer (some ⟨L+2,0,none⟩),.pointer (some ⟨L+3,0,none⟩),.pointer (some ⟨Bx,0,none⟩),.slice A n c,.int .i64 h,.int .i64 e,.func (.func 249) #[] #[.pointer (some ⟨L+4,0,none⟩),.pointer (some ⟨L+5,0,none⟩),.pointer (some ⟨L+6,0,none⟩)],.agg #[x.hdr,x.ent,x.date,x.shr],undef,undef,undef,undef,undef,undef,undef,undef,undef,undef,undef,undef,undef,undef,undef,undef,undef,undef,undef],defers:=[] })
  ?hAx ?assign ?body ?done ?stop
 case hAx =>
  rintro x a' _ X Y row ⟨Bx,k1,k2,k3⟩ hg hrow;exact⟨Bx,k1,(hg.block Bx (Array.getElem?_eq_some_iff.1 k2).1 (fun e=>by obtain⟨_,o,ho,hc⟩:=hrow Bx e.symm;rw [show X.heap[Bx]?=_ from k2] at ho;cases ho;cases hc)).trans k2,k3⟩
 case assign =>
  rintro l pre x W K ⟨i1,i2,i3,i4,i5,i6⟩ hK;dsimp only [encH]
  gi_wp2
  exact hK _ _ ((KeepsOthers.alloc _ _).from _) ⟨(KeepR.refl _ _ _ _).alloc i5 _,sP⟩ ⟨i1.alloc _,i2.alloc _,i3.alloc _,i4.alloc oM _,sO,i6.alloc _⟩ ⟨W,i5,heap_alloc_new W _,rfl⟩
 case body =>
  rintro l pre x a' W hl' ⟨r,hr'⟩ ⟨i1,i2,i3,i4,i5,i6⟩ ⟨Bx,k1,k2,rfl⟩ hlt;have x2:=cr9 2 k2;have x3:=cr9 3 k2;have d0:=cr9 0 i6;simp at x2 x3 d0;have sx:=Vq k2;obtain⟨s,hs0⟩:∃ s,s=List.foldl (Hd.see d) none pre:=⟨_,rfl⟩;rw [<- hs0] at i1 i2 i3;have hsn:List.foldl (Hd.see d) none (pre++[x])=Hd.see d s x:=by rw [List.foldl_append,hs0];rfl
  obtain⟨HS,I1,I2,I3,I4,I6,K2⟩:=Z7 hsn i1 i2 i3 i4 i6 k2;have y1:=cr9 0 i1;have y2:=cr9 0 i2;have y3:=cr9 0 i3;simp [shC,siC,foC] at y1 y2 y3;have s1:=Vq i1;have s2:=Vq i2;have s3:=Vq i3;have s6:=Vq i6;clear hsn hs0 i1 i2 i3 i4 i6 k2
  by_cases hd:x.date<=d
  case neg =>
   have HN:Hid (Hd.see d s x=s):=by show _=_;unfold Hd.see;simp [hd]
   gi_wp2
   exact⟨KeepsFrom.of_grownBy (Xq W none) (fun j e=>by cases e),⟨KeepR.refl _ _ _ _,lR⟩,by rw [HS.out,HN.out];exact I1.out,by rw [HS.out,HN.out];exact I2.out,by rw [HS.out,HN.out];exact I3.out,I4.out,i5,I6.out⟩
  cases s with
  | none =>
   have HN:Hid (Hd.see d none x=some (x.shr,x.date)):=by show _=_;unfold Hd.see Hd.later;simp [hd]
   simp at y1 y2 y3
   gi_wp2
   refine a1v (S:=fun W':World=>Row W' Bx 61 x) kR (a5J kR) ?_;change wpAnyH _ _ _ _ _ _ _ _ (World.drew W);have hS:(fun W':World=>Row W' Bx 61 x) W.drew:=K2.out;refine jT 0 hS ?_;refine jT 1 hS ?_ (v:=.int .i64 x.shr) (hy:=(.inl ⟨by rfl,fun W' hS'=>by have c0:=cr9 3 hS';simp at c0;have c9:=Vq hS';go_simp⟩));refine jT 2 hS ?_;refine jT 3 hS ?_ (v:=.int .i64 x.date) (hy:=(.inl ⟨by rfl,fun W' hS'=>by have c0:=cr9 2 hS';simp at c0;have c9:=Vq hS';go_simp⟩));have g1:Row W.drew (L+1) 3 (shC none):=I1.out;have g2:Row W.drew (L+2) 3 (siC none):=I2.out;have g3:Row W.drew (L+3) 4 (foC none):=I3.out;refine rZ 4 fun K hK=>?_;have c0:=cr9 0 g1;simp [shC,siC,foC] at c0;have cf:=fun j=>fr0 j g1;have s9:=Vq g1;go_simp;have hS1:(fun W':World=>Row W' Bx 61 x) (W.drew.setCell ⟨L+1,0,none⟩ (.int .i64 x.shr)):=Row.other hS ⟨L+1,0,none⟩ (by show Bx≠L+1;omega) _;have g2:=Row.other g2 ⟨L+1,0,none⟩ (by show L+2≠L+1;omega) (.int .i64 x.shr);have g3:=Row.other g3 ⟨L+1,0,none⟩ (by show L+3≠L+1;omega) (.int .i64 x.shr);have g1:=Row.set g1 0 (.int .i64 x.shr);refine jK hK hS1 ?_;clear hK K;obtain⟨U1,hU1⟩:∃ U,U=(W.drew.setCell ⟨L+1,0,none⟩ (.int .i64 x.shr)):=⟨_,rfl⟩;replace hS1:Row U1 Bx 61 x:=by rw [hU1];exact hS1
   rw [<- hU1] at g1;rw [<- hU1] at g2;rw [<- hU1] at g3;change wpAnyH _ _ _ _ _ _ _ _ (W.drew.setCell ⟨L+1,0,none⟩ (.int .i64 x.shr));rw [<- hU1];have HU1:=Z1 hU1;clear c0 cf s9 hU1;refine rZ 5 fun K hK=>?_;have c0:=cr9 0 g2;simp [shC,siC,foC] at c0;have cf:=fun j=>fr0 j g2;have s9:=Vq g2;go_simp;have hS2:(fun W':World=>Row W' Bx 61 x) (U1.setCell ⟨L+2,0,none⟩ (.int .i64 x.date)):=Row.other hS1 ⟨L+2,0,none⟩ (by show Bx≠L+2;omega) _;have g1:=Row.other g1 ⟨L+2,0,none⟩ (by show L+1≠L+2;omega) (.int .i64 x.date);have g3:=Row.other g3 ⟨L+2,0,none⟩ (by show L+3≠L+2;omega) (.int .i64 x.date);have g2:=Row.set g2 0 (.int .i64 x.date);refine jK hK hS2 ?_;clear hK K;obtain⟨U2,hU2⟩:∃ U,U=(U1.setCell ⟨L+2,0,none⟩ (.int .i64 x.date)):=⟨_,rfl⟩;replace hS2:Row U2 Bx 61 x:=by rw [hU2];exact hS2
   rw [<- hU2] at g1;rw [<- hU2] at g2;rw [<- hU2] at g3;change wpAnyH _ _ _ _ _ _ _ _ (U1.setCell ⟨L+2,0,none⟩ (.int .i64 x.date));rw [<- hU2];have HU2:=Z1 hU2;clear c0 cf s9 hU2;refine rZ 6 fun K hK=>?_;have c0:=cr9 0 g3;simp [shC,siC,foC] at c0;have cf:=fun j=>fr0 j g3;have s9:=Vq g3;go_simp;have hS3:(fun W':World=>Row W' Bx 61 x) (U2.setCell ⟨L+3,0,none⟩ (.bool true)):=Row.other hS2 ⟨L+3,0,none⟩ (by show Bx≠L+3;omega) _;have g1:=Row.other g1 ⟨L+3,0,none⟩ (by show L+1≠L+3;omega) (.bool true);have g2:=Row.other g2 ⟨L+3,0,none⟩ (by show L+2≠L+3;omega) (.bool true);have g3:=Row.set g3 0 (.bool true);refine jK hK hS3 ?_;clear hK K;obtain⟨U3,hU3⟩:∃ U,U=(U2.setCell ⟨L+3,0,none⟩ (.bool true)):=⟨_,rfl⟩;replace hS3:Row U3 Bx 61 x:=by rw [hU3];exact hS3
   rw [<- hU3] at g1;rw [<- hU3] at g2;rw [<- hU3] at g3;change wpAnyH _ _ _ _ _ _ _ _ (U2.setCell ⟨L+3,0,none⟩ (.bool true));rw [<- hU3];have HU3:=Z1 hU3;clear c0 cf s9 hU3;refine wpAnyH_done kR ?_ _
   try simp only [z]
   show Exit.inBlock 1 _ Exit.normal _ _;have g0:Row U3 L 3 #[d]:=by rw [HU3.out,HU2.out,HU1.out];exact Row.other (Row.other (Row.other (show Row W.drew L _ _ from I6.out) ⟨L+1,0,none⟩ (by show L≠L+1;omega) _) ⟨L+2,0,none⟩ (by show L≠L+2;omega) _) ⟨L+3,0,none⟩ (by show L≠L+3;omega) _
   have hbe:Below L w U3:=by rw [HU3.out,HU2.out,HU1.out];exact(((Vw I4.out 1).setCell (p:=⟨L+1,0,none⟩) (by show L<=L+1;omega) _).setCell (p:=⟨L+2,0,none⟩) (by show L<=L+2;omega) _).setCell (p:=⟨L+3,0,none⟩) (by show L<=L+3;omega) _
   have hsz3:U3.heap.size=W.heap.size:=by rw [HU3.out,HU2.out,HU1.out];simp [World.setCell]
   have hkr:KeepR (L+7) (L+1) (L+4) W U3:=fun b hb hL=>by
    rw [HU3.out,HU2.out,HU1.out,Below.heap_setCell _ _ _ _ (by show b≠L+3;omega),Below.heap_setCell _ _ _ _ (by show b≠L+2;omega),Below.heap_setCell _ _ _ _ (by show b≠L+1;omega)];rfl
   have hkf:KeepsFrom (L+7) W U3:=by
    have e1:KeepsFrom (L+7) W W.drew:=KeepsFrom.of_grownBy (a1p (Xq W none) 1) (fun j e=>by cases e);have e2:KeepsFrom (L+7) W.drew U1:=by rw [HU1.out];exact KeepsFrom.of_grownBy (Xv (Xq W.drew (some (L+1))) 0 _) (fun j e=>by cases e;omega)
    have e3:KeepsFrom (L+7) U1 U2:=by rw [HU2.out];exact KeepsFrom.of_grownBy (Xv (Xq U1 (some (L+2))) 0 _) (fun j e=>by cases e;omega)
    have e4:KeepsFrom (L+7) U2 U3:=by rw [HU3.out];exact KeepsFrom.of_grownBy (Xv (Xq U2 (some (L+3))) 0 _) (fun j e=>by cases e;omega)
    exact((e1.trans e2).trans e3).trans e4
   gi_wp2
   exact⟨hkf,⟨hkr,oM⟩,by rw [HS.out,HN.out];exact g1,by rw [HS.out,HN.out];exact g2,by rw [HS.out,HN.out];exact g3,hbe,oM,g0⟩
  | some y =>
   simp at y1 y2 y3
   by_cases hy:y.2<x.date
   case neg =>
    have HN:Hid (Hd.see d (some y) x=some y):=by show _=_;unfold Hd.see Hd.later;simp [hy]
    have k0:decide (x.date > y.2)=false:=sO
    gi_wp2
    exact⟨KeepsFrom.of_grownBy (Xq W none) (fun j e=>by cases e),⟨KeepR.refl _ _ _ _,lR⟩,by rw [HS.out,HN.out];exact I1.out,by rw [HS.out,HN.out];exact I2.out,by rw [HS.out,HN.out];exact I3.out,I4.out,i5,I6.out⟩
   have HN:Hid (Hd.see d (some y) x=some (x.shr,x.date)):=by show _=_;unfold Hd.see Hd.later;simp [hd,hy]
   have k0:decide (x.date > y.2)=true:=sO
   gi_wp2
   refine a1v (S:=fun W':World=>Row W' Bx 61 x) kR (a5J kR) ?_;change wpAnyH _ _ _ _ _ _ _ _ (World.drew W);have hS:(fun W':World=>Row W' Bx 61 x) W.drew:=K2.out;refine jT 0 hS ?_;refine jT 1 hS ?_ (v:=.int .i64 x.shr) (hy:=(.inl ⟨by rfl,fun W' hS'=>by have c0:=cr9 3 hS';simp at c0;have c9:=Vq hS';go_simp⟩));refine jT 2 hS ?_;refine jT 3 hS ?_ (v:=.int .i64 x.date) (hy:=(.inl ⟨by rfl,fun W' hS'=>by have c0:=cr9 2 hS';simp at c0;have c9:=Vq hS';go_simp⟩));have g1:Row W.drew (L+1) 3 (shC (some y)):=I1.out;have g2:Row W.drew (L+2) 3 (siC (some y)):=I2.out;have g3:Row W.drew (L+3) 4 (foC (some y)):=I3.out;refine rZ 4 fun K hK=>?_;have c0:=cr9 0 g1;simp [shC,siC,foC] at c0;have cf:=fun j=>fr0 j g1;have s9:=Vq g1;go_simp;have hS1:(fun W':World=>Row W' Bx 61 x) (W.drew.setCell ⟨L+1,0,none⟩ (.int .i64 x.shr)):=Row.other hS ⟨L+1,0,none⟩ (by show Bx≠L+1;omega) _;have g2:=Row.other g2 ⟨L+1,0,none⟩ (by show L+2≠L+1;omega) (.int .i64 x.shr);have g3:=Row.other g3 ⟨L+1,0,none⟩ (by show L+3≠L+1;omega) (.int .i64 x.shr);have g1:=Row.set g1 0 (.int .i64 x.shr);refine jK hK hS1 ?_;clear hK K;obtain⟨U1,hU1⟩:∃ U,U=(W.drew.setCell ⟨L+1,0,none⟩ (.int .i64 x.shr)):=⟨_,rfl⟩;replace hS1:Row U1 Bx 61 x:=by rw [hU1];exact hS1
   rw [<- hU1] at g1;rw [<- hU1] at g2;rw [<- hU1] at g3;change wpAnyH _ _ _ _ _ _ _ _ (W.drew.setCell ⟨L+1,0,none⟩ (.int .i64 x.shr));rw [<- hU1];have HU1:=Z1 hU1;clear c0 cf s9 hU1;refine rZ 5 fun K hK=>?_;have c0:=cr9 0 g2;simp [shC,siC,foC] at c0;have cf:=fun j=>fr0 j g2;have s9:=Vq g2;go_simp;have hS2:(fun W':World=>Row W' Bx 61 x) (U1.setCell ⟨L+2,0,none⟩ (.int .i64 x.date)):=Row.other hS1 ⟨L+2,0,none⟩ (by show Bx≠L+2;omega) _;have g1:=Row.other g1 ⟨L+2,0,none⟩ (by show L+1≠L+2;omega) (.int .i64 x.date);have g3:=Row.other g3 ⟨L+2,0,none⟩ (by show L+3≠L+2;omega) (.int .i64 x.date);have g2:=Row.set g2 0 (.int .i64 x.date);refine jK hK hS2 ?_;clear hK K;obtain⟨U2,hU2⟩:∃ U,U=(U1.setCell ⟨L+2,0,none⟩ (.int .i64 x.date)):=⟨_,rfl⟩;replace hS2:Row U2 Bx 61 x:=by rw [hU2];exact hS2
   rw [<- hU2] at g1;rw [<- hU2] at g2;rw [<- hU2] at g3;change wpAnyH _ _ _ _ _ _ _ _ (U1.setCell ⟨L+2,0,none⟩ (.int .i64 x.date));rw [<- hU2];have HU2:=Z1 hU2;clear c0 cf s9 hU2;refine rZ 6 fun K hK=>?_;have c0:=cr9 0 g3;simp [shC,siC,foC] at c0;have cf:=fun j=>fr0 j g3;have s9:=Vq g3;go_simp;have hS3:(fun W':World=>Row W' Bx 61 x) (U2.setCell ⟨L+3,0,none⟩ (.bool true)):=Row.other hS2 ⟨L+3,0,none⟩ (by show Bx≠L+3;omega) _;have g1:=Row.other g1 ⟨L+3,0,none⟩ (by show L+1≠L+3;omega) (.bool true);have g2:=Row.other g2 ⟨L+3,0,none⟩ (by show L+2≠L+3;omega) (.bool true);have g3:=Row.set g3 0 (.bool true);refine jK hK hS3 ?_;clear hK K;obtain⟨U3,hU3⟩:∃ U,U=(U2.setCell ⟨L+3,0,none⟩ (.bool true)):=⟨_,rfl⟩;replace hS3:Row U3 Bx 61 x:=by rw [hU3];exact hS3
   rw [<- hU3] at g1;rw [<- hU3] at g2;rw [<- hU3] at g3;change wpAnyH _ _ _ _ _ _ _ _ (U2.setCell ⟨L+3,0,none⟩ (.bool true));rw [<- hU3];have HU3:=Z1 hU3;clear c0 cf s9 hU3;refine wpAnyH_done kR ?_ _
   try simp only [z]
   show Exit.inBlock 1 _ Exit.normal _ _;have g0:Row U3 L 3 #[d]:=by rw [HU3.out,HU2.out,HU1.out];exact Row.other (Row.other (Row.other (show Row W.drew L _ _ from I6.out) ⟨L+1,0,none⟩ (by show L≠L+1;omega) _) ⟨L+2,0,none⟩ (by show L≠L+2;omega) _) ⟨L+3,0,none⟩ (by show L≠L+3;omega) _
   have hbe:Below L w U3:=by rw [HU3.out,HU2.out,HU1.out];exact(((Vw I4.out 1).setCell (p:=⟨L+1,0,none⟩) (by show L<=L+1;omega) _).setCell (p:=⟨L+2,0,none⟩) (by show L<=L+2;omega) _).setCell (p:=⟨L+3,0,none⟩) (by show L<=L+3;omega) _
   have hsz3:U3.heap.size=W.heap.size:=by rw [HU3.out,HU2.out,HU1.out];simp [World.setCell]
   have hkr:KeepR (L+7) (L+1) (L+4) W U3:=fun b hb hL=>by
    rw [HU3.out,HU2.out,HU1.out,Below.heap_setCell _ _ _ _ (by show b≠L+3;omega),Below.heap_setCell _ _ _ _ (by show b≠L+2;omega),Below.heap_setCell _ _ _ _ (by show b≠L+1;omega)];rfl
   have hkf:KeepsFrom (L+7) W U3:=by
    have e1:KeepsFrom (L+7) W W.drew:=KeepsFrom.of_grownBy (a1p (Xq W none) 1) (fun j e=>by cases e);have e2:KeepsFrom (L+7) W.drew U1:=by rw [HU1.out];exact KeepsFrom.of_grownBy (Xv (Xq W.drew (some (L+1))) 0 _) (fun j e=>by cases e;omega)
    have e3:KeepsFrom (L+7) U1 U2:=by rw [HU2.out];exact KeepsFrom.of_grownBy (Xv (Xq U1 (some (L+2))) 0 _) (fun j e=>by cases e;omega)
    have e4:KeepsFrom (L+7) U2 U3:=by rw [HU3.out];exact KeepsFrom.of_grownBy (Xv (Xq U2 (some (L+3))) 0 _) (fun j e=>by cases e;omega)
    exact((e1.trans e2).trans e3).trans e4
   gi_wp2
   exact⟨hkf,⟨hkr,oM⟩,by rw [HS.out,HN.out];exact g1,by rw [HS.out,HN.out];exact g2,by rw [HS.out,HN.out];exact g3,hbe,oM,g0⟩
 case done =>
  rintro D ys W hD rfl ⟨i1,i2,i3,i4,i5,i6⟩ hK;have sL:L+1<W.heap.size:=oM;obtain⟨sh,hsh⟩:∃ sh,sh=Hd.at_ hs h e d:=⟨_,rfl⟩;have hsh2:((List.foldl (Hd.see d) none (hs.filter (Hd.pair h e))).getD (0,0)).1=sh:=by rw [hsh];rfl
  have Hsh:=Z1 hsh;have z0:W.cell? ⟨L+1,0,none⟩=some (.int .i64 sh):=by rw [<- hsh2];have:=cr9 0 i1;simpa [shC] using this
  clear hsh hsh2
  gi_wp2
  refine⟨sP,.inl ⟨_,_,rfl,run_takeDeferred hK,⟨_,by simp [results,results160];rfl,by rw [<- Hsh.out],?_⟩⟩⟩;rw [hLe];exact i4.trans (belowK_b (w:=ws) oM _ D _ _ oM hK rfl rfl)
 case stop =>
  rintro D c' pre W _ _ hx _;exact hx.elim
end
open Go.Proofs.Tryz Go.RowKit Go.Maps
namespace Hd
theorem a4s:∀(n:Nat) (l:List Int),l.length<=n->l.eraseDups.Nodup
 | _,[],_=>sP
 | 0,a::l,h=>by simp at h
 | n+1,a::l,h=>by
  rw [List.eraseDups_cons,List.nodup_cons];refine⟨fun hm=>?_,a4s n _ ?_⟩
  ·rw [List.mem_eraseDups,List.mem_filter] at hm
   simp at hm
  ·have:=List.length_filter_le (fun b=>!b==a) l
   simp at h;omega
theorem nodup_keys (l:List Int):(keys l).Nodup:=a4s _ l lR
theorem a7p:∀(n:Nat) (l:List Int),l.length<=n->l.eraseDups.length<=l.length
 | _,[],_=>sP
 | 0,a::l,h=>by simp at h
 | n+1,a::l,h=>by
  rw [List.eraseDups_cons];have h1:=List.length_filter_le (fun b=>!b==a) l;simp at h;have:=a7p n (l.filter (fun b=>!b==a)) oM;simp;omega
theorem keys_len (l:List Int):(keys l).length<=l.length:=a7p _ l lR
theorem mem_keys {x:Int} {l:List Int}:x∈keys l ↔ x∈l:=List.mem_eraseDups
theorem sum_perm {l l':List Int} (h:l.Perm l'):l.sum=l'.sum:=by
 induction h with
 | nil=>rfl
 | cons x _ ih=>simp [ih]
 | swap x y l=>simp;omega
 | trans _ _ i1 i2=>rw [i1,i2]
end Hd
def KeysIs (D:DataW Value) (l:List Int):Prop :=
 IsMap D/\(∀ x,(Lit.int .i64 x).wf=true->has D (.int .i64 x)=l.contains x)
def KeysAt (w:World) (b:Nat) (l:List Int):Prop:=∃ D:DataW Value,w.ownsMap prog 3 (plainElem prog 4) b l.length D/\KeysIs D l
theorem KeysAt.lt {w:World} {b:Nat} {l:List Int} (h:KeysAt w b l):b<w.heap.size:=by obtain⟨D,h,_⟩:=h;exact h.lt
theorem KeysAt.kept {w w':World} {b:Nat} {l:List Int} {row:Option Nat} (h:KeysAt w b l) (hg:w.grownBy w' row) (hne:some b≠row):KeysAt w' b l:=by
 obtain⟨D,h,r⟩:=h;exact⟨D,h.kept hg hne,r⟩
theorem a4c {w w':World} {b n B:Nat} {D:DataW Value} (h:w.ownsMap prog 3 (plainElem prog 4) b n D) (hb:Below B w w') (hB:b<B):w'.ownsMap prog 3 (plainElem prog 4) b n D:=by
 obtain⟨es,clock,he,r⟩:=h;exact⟨es,clock,(hb.block b hB).trans he,r⟩
theorem KeysAt.below {w w':World} {b B:Nat} {l:List Int} (h:KeysAt w b l) (hb:Below B w w') (hB:b<B):KeysAt w' b l:=by
 obtain⟨D,h,r⟩:=h;exact⟨D,a4c h hb hB,r⟩
theorem KeysAt.made (w:World):KeysAt (w.alloc (.map #[] 0)) w [] :=
 ⟨_,World.ownsMap_made w prog 3 (plainElem prog 4),isMap_empty,fun _ _=>rfl⟩
theorem keyZ {x:Int} (h:(Lit.int .i64 x).wf=true):keyOf prog 3 (.int .i64 x)=some (.int .i64 x):=keyOf_int_mk underlying3 h
theorem KeysIs.put {D:DataW Value} {l:List Int} (h:KeysIs D l) {c:Int} (hc:(Lit.int .i64 c).wf=true):KeysIs (D.put (.int .i64 c) (.lit (.bool true))) (l++[c]):=by
 obtain⟨h1,h2⟩:=h;have hk:=intLaw.key (keyZ hc);refine⟨h1.put _ _,fun x hx=>?_⟩
 have ha:(l++[c]).contains x=(l.contains x||decide (x=c)):=by
  rw [Bool.eq_iff_iff];simp
 rw [ha]
 by_cases e:x=c
 ·subst e
  rw [has_put_same h1 hk];simp
 ·rw [has_put_other (by simp [e]),h2 x hx]
  simp [e]
theorem a1G {w:World} {b:Nat} {l:List Int} {ops:Array Oper} {rest:List Oper} {o:Oper} {a:Act} {Q:Exit->Act->World->Prop}
  (hg:o.guard=none) (m x v:Operand) (hop:o.op=Op.mapUpdate 224 m x v) (h:KeysAt w b l) (hm:a.eval m=.map (some b)) (hn:l.length<maxLen) (c:Int) (hc:(Lit.int .i64 c).wf=true)
  (hx:a.eval x=.int .i64 c) (hv:a.eval v=.bool true)
  (hK:∀ w',KeysAt w' b (l++[c])->w.grownBy w' (some b)->wpList prog ops Q rest (a.put o.dst undef) w') :
  wpList prog ops Q (o::rest) a w:=by
 refine wpList_plain hg fun K' hK'=>?_;obtain⟨D,hD,hS⟩:=h;obtain⟨w',hrun,r1,r2⟩:=hD.update intLaw underlying224 hn (keyZ hc) (plainElem_bool underlying4 true);unfold Oper.wp;simp [execOp,hop,hm,hx,hv,hrun,Result.andThen];exact hK' _ _ (hK w' ⟨_,by rw [List.length_append];exact r1,hS.put hc⟩ r2)
theorem a1F {w:World} {ops:Array Oper} {rest:List Oper} {o:Oper} {a:Act} {Q:Exit->Act->World->Prop} (hg:o.guard=none) (it:Operand) (hop:o.op=Op.next it false)
  (b r n:Nat) (D:DataW Value) (left:Lit->Bool) (cnt:Nat) (hit:a.eval it=.pointer (some ⟨r,0,none⟩)) (h:w.ranges prog 3 (plainElem prog 4) b r n D left cnt)
  (hDone:cnt=0->(∀ kl,left kl=false)->wpList prog ops Q rest (a.put o.dst (.tuple #[false])) w)
  (hMore:∀(x:Int) (v:Value) (w':World) (cnt':Nat),(Lit.int .i64 x).wf=true->left (.int .i64 x)=true->has D (.int .i64 x)=true->w'.ranges prog 3 (plainElem prog 4) b r n D (fun z=>left z&&!z.sameKey (.int .i64 x)) cnt'->cnt'<cnt ->
   w.grownBy w' (some r)->w'.heap.size=w.heap.size->(Instr.entry (.pointer (some ⟨r,0,none⟩))).run prog w'=.ok (.tuple #[x,v]) w'->wpList prog ops Q rest (a.put o.dst (.tuple #[true,x,v])) w') :
  wpList prog ops Q (o::rest) a w :=
 wpList_next_ranges w hg it hop 3 intLaw (plainElem prog 4) (Value.int .i64) Value.bool (fun key kl hkey=>by obtain⟨x,rfl,_⟩:=Maps.keyOf_int_inv underlying3 hkey;exact⟨x,rfl⟩) (fun v y hv=>by cases v <;> simp [plainElem,underlying4] at hv;exact⟨_,rfl⟩)
  b r n D left cnt hit h hDone (fun x c kl y w' cnt' hkey hlk hv hat hrg hlt hgr hsz hen=>by
   obtain⟨x',ex,rfl,hwx⟩:=Maps.keyOf_int_inv underlying3 hkey
   cases ex
   exact hMore x _ w' cnt' hwx hlk (has_true_of_atKey hat) hrg hlt hgr hsz hen)
theorem a5O (a b:Int):(Lit.int .i64 a).sameKey (.int .i64 b)=decide (a=b):=by
 by_cases h:a=b
 ·subst h;rw [decide_eq_true rfl];simp [Lit.sameKey]
 ·rw [decide_eq_false h];exact sameKey_ne (by simp [h])
structure KMet (l:List Int) (left:Lit->Bool) (ss:List Int):Prop where
 gone:∀ x∈l,left (.int .i64 x)=false->x∈ss
 good:∀ x∈ss,x∈l/\left (.int .i64 x)=false
 nodup:ss.Nodup
theorem KMet.step {l:List Int} {left:Lit->Bool} {ss:List Int} {x:Int} (h:KMet l left ss) (hx:x∈l) (hl:left (.int .i64 x)=true):KMet l (fun z=>left z&&!z.sameKey (.int .i64 x)) (ss++[x]):=by
 have hsplit:∀ y,(left (.int .i64 y)&&!(Lit.int .i64 y).sameKey (.int .i64 x))=false->y=x∨left (.int .i64 y)=false:=by
  intro y hy;rw [a5O] at hy
  by_cases e:y=x
  ·exact .inl e
  ·right;simpa [e] using hy
 have hns:x ∉ ss:=fun hm=>by have:=(h.good x hm).2;rw [hl] at this;cases this
 refine⟨fun y hy hg=>?_,fun y hy=>?_,?_⟩
 ·rcases hsplit y hg with rfl | hg
  ·simp
  ·exact List.mem_append_left _ (h.gone y hy hg)
 ·rw [List.mem_append,List.mem_singleton] at hy
  rcases hy with hy | rfl
  ·obtain⟨h1,h3⟩:=h.good y hy
   exact⟨h1,by rw [h3];rfl⟩
  ·exact⟨hx,by rw [a5O];simp⟩
 ·rw [List.nodup_append]
  exact⟨h.nodup,sP,fun a ha b hb=>by rw [List.mem_singleton] at hb;subst hb;exact fun e=>hns (e ▸ ha)⟩
theorem KMet.end_ {l:List Int} {left:Lit->Bool} {ss:List Int} (h:KMet l left ss) (h0:∀ kl,left kl=false):ss.Perm (Hd.keys l) :=
 (List.perm_ext_iff_of_nodup h.nodup (Hd.nodup_keys l)).2 fun x=>⟨fun hx=>Hd.mem_keys.2 (h.good x hx).1,fun hx=>h.gone x (Hd.mem_keys.1 hx) (h0 _)⟩
theorem a8D:∀(ss l:List Int),ss.Nodup->(∀ x∈ss,x∈l)->ss.length<=l.length
 | [],_,_,_=>Nat.zero_le _
 | x::ss,l,hn,hs=>by
  have hx:=hs x (List.mem_cons_self);have h1:=a8D ss (l.erase x) (List.nodup_cons.1 hn).2 (fun y hy=>(List.mem_erase_of_ne (fun(e:y=x)=>(List.nodup_cons.1 hn).1 (by rw [<- e];exact hy))).2 (hs y (List.mem_cons_of_mem _ hy)));rw [List.length_erase_of_mem hx] at h1;have h2:0<l.length:=List.length_pos_of_mem hx;simp only [List.length_cons];omega
theorem KMet.len {l:List Int} {left:Lit->Bool} {ss:List Int} (h:KMet l left ss):ss.length<=l.length:=by
 exact a8D ss l h.nodup fun x hx=>(h.good x hx).1
namespace Hd
def firstH (l:List Hld) (i:Nat):Bool:=!(l.take i).any (fun y=>decide (y.hdr=(hat l i).hdr))
def totalR (l:List Hld) (e d:Int):Nat->Int
 | 0=>0
 | k+1=>if firstH l k=true then totalR l e d k+at_ l (hat l k).hdr e d else totalR l e d k
theorem hat_lt {l:List Hld} {i:Nat} (h:i<l.length):hat l i=l[i]:=by unfold hat;simp [h]
theorem a9A (l:List Int) (x:Int):keys (l++[x])=if x∈l then keys l else keys l++[x]:=by
 unfold keys;rw [List.eraseDups_append]
 by_cases h:x∈l
 ·rw [if_pos h]
  have:List.removeAll [x] l=[]:=by simp [List.removeAll,h]
  rw [this];simp
 ·rw [if_neg h]
  have:List.removeAll [x] l=[x]:=by simp [List.removeAll,h]
  rw [this];simp [List.eraseDups_cons]
theorem a5q (l:List Hld) (e d:Int):∀ k,k<=l.length->totalR l e d k=((keys ((l.take k).map (·.hdr))).map (fun h=>at_ l h e d)).sum
 | 0,_=>by simp [totalR,keys]
 | k+1,hk=>by
  unfold totalR;rw [a5q l e d k oM,tse (by omega:k<l.length),List.map_append,List.map_cons,List.map_nil,a9A,hat_lt (by omega:k<l.length)]
  have hf:firstH l k=true ↔ ¬ (l[k].hdr∈(l.take k).map (·.hdr)):=by
   unfold firstH;rw [hat_lt (by omega:k<l.length),Bool.not_eq_true',List.any_eq_false,List.mem_map]
   constructor
   ·rintro h ⟨x,hx,e⟩;exact h x hx (by simpa using e)
   ·intro h x hx e;exact h ⟨x,hx,by simpa using e⟩
  by_cases h:firstH l k=true
  ·rw [if_pos h,if_neg (hf.1 h)]
   simp
  ·rw [if_neg h,if_pos (by by_cases g:l[k].hdr∈(l.take k).map (·.hdr);exact g;exact absurd (hf.2 g) h)]
theorem a5p (l:List Hld) (e d:Int):totalR l e d l.length=total l e d:=by
 rw [a5q l e d _ lR,List.take_length];rfl
theorem a1P (d d':Int):∀(l:List Hld) (s:Option (Int × Int)),(∀ x∈l,(x.date<=d ↔ x.date<=d'))->l.foldl (see d) s=l.foldl (see d') s
 | [],_,_=>rfl
 | x::l,s,h=>by
  show l.foldl (see d) (see d s x)=l.foldl (see d') (see d' s x)
  have h1:see d s x=see d' s x:=by
   unfold see;have:=h x (List.mem_cons_self);have e:decide (x.date<=d)=decide (x.date<=d'):=by rw [Bool.eq_iff_iff];simpa using this
   rw [e]
  rw [h1];exact a1P d d' l _ fun y hy=>h y (List.mem_cons_of_mem _ hy)
theorem b2d (l:List Hld) (h e d d':Int) (hd:∀ x∈l,x.ent=e->(x.date<=d ↔ x.date<=d')):at_ l h e d=at_ l h e d':=by
 unfold at_ last;rw [a1P d d'];intro x hx;rw [List.mem_filter] at hx;refine hd x hx.1 ?_;have:=hx.2;unfold pair at this;simp at this;exact this.2
theorem a6t (l:List Hld) (e d d':Int) (hd:∀ x∈l,x.ent=e->(x.date<=d ↔ x.date<=d')):total l e d=total l e d':=by
 unfold total
 congr 1
 exact List.map_congr_left fun h _=>b2d l h e d d' hd
theorem a5S (d:Int):∀(l:List Hld),(∀ x∈l,¬ x.date<=d)->l.foldl (see d) none=none
 | [],_=>rfl
 | x::l,h=>by
  show l.foldl (see d) (see d none x)=none;have h1:see d none x=none:=by unfold see;rw [if_neg];simp [h x (List.mem_cons_self)]
  rw [h1];exact a5S d l fun y hy=>h y (List.mem_cons_of_mem _ hy)
theorem a6Z {α:Type} (f:α->Int):∀(l:List α),(∀ x∈l,f x=0)->(l.map f).sum=0
 | [],_=>rfl
 | x::l,h=>by rw [List.map_cons,List.sum_cons,h x (List.mem_cons_self),a6Z f l fun y hy=>h y (List.mem_cons_of_mem _ hy)];rfl
theorem a7x (l:List Hld) (e d:Int) (hd:∀ x∈l,x.ent=e->¬ x.date<=d):total l e d=0:=by
 unfold total;refine a6Z _ _ fun h _=>?_;unfold at_ last;rw [a5S]
 ·rfl
 ·intro x hx
  rw [List.mem_filter] at hx;refine hd x hx.1 ?_;have:=hx.2;unfold pair at this;simp at this;exact this.2
theorem latest (e d:Int):∀(l:List Hld),(∃ x∈l,x.ent=e/\x.date<=d)->∃ x∈l,x.ent=e/\x.date<=d/\∀ y∈l,y.ent=e->y.date<=d->y.date<=x.date
 | [],h=>by obtain⟨x,hx,_⟩:=h;cases hx
 | a::l,h=>by
  by_cases ht:∃ x∈l,x.ent=e/\x.date<=d
  ·obtain⟨x,hx,h1,h2,h3⟩:=latest e d l ht
   by_cases hc:a.ent=e/\a.date<=d/\x.date<a.date
   ·refine⟨a,List.mem_cons_self,hc.1,hc.2.1,fun y hy hy1 hy2=>?_⟩
    rcases List.mem_cons.1 hy with rfl | hy
    ·exact Int.le_refl _
    ·have:=h3 y hy hy1 hy2;omega
   ·refine⟨x,List.mem_cons_of_mem _ hx,h1,h2,fun y hy hy1 hy2=>?_⟩
    rcases List.mem_cons.1 hy with rfl | hy
    ·have:¬ x.date<y.date:=fun q=>hc ⟨hy1,hy2,q⟩
     omega
    ·exact h3 y hy hy1 hy2
  ·obtain⟨x,hx,h1,h2⟩:=h
   rcases List.mem_cons.1 hx with rfl | hx
   ·refine⟨x,List.mem_cons_self,h1,h2,fun y hy hy1 hy2=>?_⟩
    rcases List.mem_cons.1 hy with rfl | hy
    ·exact Int.le_refl _
    ·exact absurd ⟨y,hy,hy1,hy2⟩ ht
   ·exact absurd ⟨x,hx,h1,h2⟩ ht
theorem a9q {l:List Hld} {d:Int}:d∈dates l ↔ ∃ x∈l,x.date=d:=by
 unfold dates;rw [List.mem_mergeSort,mem_keys,List.mem_map]
def okAll (n:Nat) (l:List Hld):Bool:=(List.range l.length).all (keyAt n l)
def lowAt (l:List Hld) (i:Nat):Bool:=decide (totalR l (hat l i).ent (hat l i).date l.length<=10000)
def validR (n:Nat) (l:List Hld):Bool :=
 decide (1<=n/\n<=12)&&decide (l.length<=200)&&okAll n l&&(List.range l.length).all (lowAt l)
theorem b3g {n:Nat} {l:List Hld} (h:okAll n l=true):∀ x∈l,0<=x.ent/\x.ent<n:=by
 intro x hx;obtain⟨i,hi,rfl⟩:=List.getElem_of_mem hx;unfold okAll at h;rw [List.all_eq_true] at h;have h1:=h i (List.mem_range.2 hi);unfold keyAt at h1;rw [hat_lt hi] at h1;simp only [Bool.and_eq_true] at h1;have h2:=h1.1;unfold proper at h2;simp only [Bool.and_eq_true,decide_eq_true_eq] at h2;omega
theorem valid_eq (n:Nat) (l:List Hld):valid n l=validR n l:=by
 unfold valid validR;have hk:(List.range l.length).all (keyAt n l)=okAll n l:=rfl;rw [hk]
 cases ho:okAll n l with
 | false=>simp
 | true =>
  congr 1
  rw [Bool.eq_iff_iff,List.all_eq_true,List.all_eq_true];have hent:=b3g ho
  constructor
  ·intro h i hi
   have hil:=List.mem_range.1 hi;have hx:=List.getElem_mem hil;have h1:=h l[i].date (a9q.2 ⟨_,hx,rfl⟩);unfold most at h1;rw [List.all_eq_true] at h1;have he:=hent _ hx;have h2:=h1 l[i].ent.toNat (List.mem_range.2 oM);unfold lowAt;rw [a5p,hat_lt hil];rw [Int.toNat_of_nonneg he.1] at h2;exact h2
  ·intro h d hd
   unfold most;rw [List.all_eq_true];intro e he
   have hlow:∀ x∈l,total l x.ent x.date<=10000:=by
    intro x hx;obtain⟨i,hi,rfl⟩:=List.getElem_of_mem hx;have h1:=h i (List.mem_range.2 hi);unfold lowAt at h1;rw [a5p,hat_lt hi] at h1;simpa using h1
   by_cases hex:∃ x∈l,x.ent=e/\x.date<=d
   ·obtain⟨x,hx,h1,h2,h3⟩:=latest e d l hex
    have h4:=hlow x hx;rw [h1] at h4;rw [a6t l e d x.date]
    ·simpa using h4
    ·intro y hy hye
     constructor
     ·exact fun q=>h3 y hy hye q
     ·intro q;omega
   ·rw [a7x l e d fun x hx h1 h2=>hex ⟨x,hx,h1,h2⟩]
    decide
def BestIs (l:List Hld) (h e d:Int) (i:Nat) (b:Int):Prop :=
 (b=-1/\((l.take i).filter (pair h e)).foldl (see d) none=none)∨∃ k,∃ hk:k<l.length,k<i/\b=k/\((l.take i).filter (pair h e)).foldl (see d) none=some (l[k].shr,l[k].date)
theorem BestIs.skip {l:List Hld} {h e d:Int} {i:Nat} {b:Int} (hb:BestIs l h e d i b) (hi:i<l.length) (hn:see d (((l.take i).filter (pair h e)).foldl (see d) none) l[i]=((l.take i).filter (pair h e)).foldl (see d) none∨pair h e l[i]=false):BestIs l h e d (i+1) b:=by
 have hf:((l.take (i+1)).filter (pair h e)).foldl (see d) none=((l.take i).filter (pair h e)).foldl (see d) none:=by
  rw [tse hi,List.filter_append,List.foldl_append]
  cases hp:pair h e l[i] with
  | false=>simp [hp]
  | true =>
   rcases hn with hn | hn
   ·simp [hp,hn]
   ·rw [hp] at hn;cases hn
 rcases hb with⟨h1,h2⟩ | ⟨k,hk,h1,h2,h3⟩
 ·exact .inl ⟨h1,by rw [hf];exact h2⟩
 ·exact .inr ⟨k,hk,oM,h2,by rw [hf];exact h3⟩
theorem BestIs.take {l:List Hld} {h e d:Int} {i:Nat} {b:Int} (_:BestIs l h e d i b) (hi:i<l.length) (hp:pair h e l[i]=true) (hn:see d (((l.take i).filter (pair h e)).foldl (see d) none) l[i]=some (l[i].shr,l[i].date)):BestIs l h e d (i+1) i:=by
 refine .inr ⟨i,hi,oM,rfl,?_⟩;rw [tse hi,List.filter_append,List.foldl_append];simp [hp,hn]
end Hd
open Go.RowKit
theorem HldsAt.four {w:World} {B:Nat} {A:Option Addr} {l:List Hld} (h:RowsAt Hld.cells 4 w B A l) {k:Nat} (hk:k<l.length):∃ b o,A=some ⟨b,o,none⟩/\b<B/\w.cell? ⟨b,o+k*4,none⟩=some (.int .i64 l[k].hdr)/\w.cell? ⟨b,o+k*4+1,none⟩=some (.int .i64 l[k].ent)/\w.cell? ⟨b,o+k*4+2,none⟩=some (.int .i64 l[k].date)/\w.cell? ⟨b,o+k*4+3,none⟩=some (.int .i64 l[k].shr):=by
 obtain⟨b,o,e,hb,hr⟩:=RowsAt.look h hk;exact⟨b,o,e,hb,hr 0 _ rfl,hr 1 _ rfl,hr 2 _ rfl,hr 3 _ rfl⟩
section
variable (w:World)
end
open Go.Proofs.Tryz Go.RowKit Go.Maps
theorem a2I:(prog.info? 61).map (·.size)=some 4:=kR
theorem b2i (f:Int->Int) (hf:∀ x,0<=f x/\f x<=10000):∀ l:List Int,0<=(l.map f).sum/\(l.map f).sum<=10000*l.length
 | []=>sP
 | x::l=>by
  have h1:=b2i f hf l;have h2:=hf x;simp only [List.map_cons,List.sum_cons,List.length_cons];omega
section
variable (w:World)
theorem a8y (A:Option Addr) (n c:Nat) (l:List Hld) (e d:Int) (hl:l.length=n) (hn:n<=1000) (hw:∀ x∈l,(Lit.int .i64 x.hdr).wf=true) (hs:∀ x∈l,0<=x.shr/\x.shr<=10000) (hA:RowsAt Hld.cells 4 w w A l) :
  CL 94 #[.slice A n c,e,d] w (Hd.total l e d):=by
 obtain⟨HA,Hl,HS,HW,HM0,HB0⟩:=Z6 hA hl hs hw (KeysAt.made w) ((Below.refl w w).alloc lR (.map #[] 0));have hmm:=@run_makeMap prog;clear hA hl hs hw;go_enter func94,ntmps94;go_wp2
 go_loopw [15] (fun i wr=>∃ k:Nat,k<=n/\i=.int .i64 k/\KeysAt wr w ((l.take k).map (·.hdr))/\Below w w wr) (fun i _=>n-(intOf i).toNat)
 case atStart=>exact⟨0,Nat.zero_le _,rfl,HM0.out,HB0.out⟩
 case round =>
  obtain⟨k,hk,rfl,hm,hb⟩:=hrel;have Hm:=Z1 hm;have hgr:=hm.lt;clear hm
  by_cases hlt:k<n
  ·have hkl:k<l.length:=by have:=Hl.out;omega
   obtain⟨b,o,rfl,hbB,hr⟩:=RowsAt.look (RowsAt.below HA.out hb lR) hkl;obtain⟨x,hx⟩:∃ x,x=l[k]:=⟨_,rfl⟩;rw [<- hx] at hr;have hwx:=HW.out x (by rw [hx];exact List.getElem_mem _);have hbw:b<wr.heap.size:=by have:=hb.size;omega
   have Hst:Hid ((l.take (k+1)).map (·.hdr)=(l.take k).map (·.hdr)++[x.hdr]):=by show _=_;rw [tse hkl,<- hx];simp
   obtain⟨h,hh⟩:∃ h,h=x.hdr:=⟨_,rfl⟩;rw [<- hh] at Hst hwx;have hcells:x.cells=[.int .i64 h,.int .i64 x.ent,.int .i64 x.date,.int .i64 x.shr]:=by rw [hh];rfl
   rw [hcells] at hr;have Hr:=Z1 hr;have hB1:=(Below.refl wr wr).alloc lR (.cells #[h,x.ent,x.date,x.shr] 61);have Hm1:=Z1 (Hm.out.below hB1 hgr);have hll:((l.take k).map (·.hdr)).length<maxLen:=by rw [List.length_map,List.length_take];unfold maxLen;omega
   have Hwx:=Z1 hwx;have Hb1:=Z1 (hb.alloc hb.size (.cells #[h,x.ent,x.date,x.shr] 61));have hq:=hb.size;clear hr hx hh hcells hB1 hwx;go_wp2_with (first | (refine wpList_load_mid rfl 61 (.tmp 17) rfl b (o+k*4) rfl [h,x.ent,x.date,x.shr] _ Hr.out underlying61 rfl a2I ?_) | (at_mapUpdate;refine a1G rfl _ _ _ rfl Hm1.out rfl hll h Hwx.out rfl rfl ?_;intro w7 hm7 hg7));rw [<- Hst.out] at hm7;have hb7:=Hb1.out.grown hg7 sO (fun j hj=>by cases hj;exact lR);go_wp2;go_roundw
   case rel=>exact⟨k+1,oM,by go_num,hm7,hb7⟩
   case measure=>simp [intOf];omega
  obtain rfl:k=n:=oM;have htk:l.take k=l:=List.take_of_length_le (by have:=Hl.out;omega);have hm:=Hm.out;rw [htk] at hm;obtain⟨D,hD,hS⟩:=hm;obtain⟨nn,hnn⟩:∃ nn,nn=(l.map (·.hdr)).length:=⟨_,rfl⟩;rw [<- hnn] at hD;have HD:=Z1 hD;have HDs:=Z1 hS;have hbl:=hD.lt;clear hnn htk hD hS HM0 HB0 Hm;have Hdl:Hid ((l.map (·.hdr)).length=k):=by show _=_;rw [List.length_map];exact Hl.out
  go_wp2_with (at_range;refine wpList_range_own _ rfl _ 224 rfl 3 4 intLaw underlying224 _ w nn _ rfl HD.out ?_;intro w0 hrg0 hg0 hs0);obtain⟨wo,rfl⟩:∃ wo,wo=wr:=⟨_,rfl⟩
  go_frame
  go_loopw [10] (fun v ws=>∃(left:Lit->Bool) (cnt:Nat) (ss:List Int),ws.ranges prog 3 (plainElem prog 4) w wo nn D left cnt /\
    KMet (l.map (·.hdr)) left ss/\v=.int .i64 ((ss.map (fun h=>Hd.at_ l h e d)).sum)/\Below w w ws/\wo.heap.size<=ws.heap.size)
   (fun _ ws=>ws.rangeLeft w wo)
  case atStart =>
   refine⟨_,_,[],hrg0,⟨fun x hx hl0=>?_,sP,List.nodup_nil⟩,rfl,hb.grown hg0 hb.size (fun j hj=>by cases hj),oM⟩;obtain⟨y,hy,e0⟩:=List.mem_map.1 hx;rw [HDs.out.2 x (by rw [<- e0];exact HW.out y hy)] at hl0;simp at hl0;exact absurd e0 (hl0 y hy)
  case round =>
   obtain⟨ws,rfl⟩:∃ ws,ws=wr:=⟨_,rfl⟩;obtain⟨left,cnt,ss,hrg,hC,rfl,hbs,hsz⟩:=hrel;have HC:=Z1 hC;have Hrg:=Z1 hrg;clear hC hrg hrg0 hs0 hg0;go_upto_region 10 with(at_next;refine a1F rfl _ rfl w wo nn _ _ _ rfl Hrg.out ?_ ?_)
   ·skip
    intro _ hl0
    have HV:Hid ((ss.map (fun h=>Hd.at_ l h e d)).sum=Hd.total l e d):=by
     show _=_;exact Hd.sum_perm ((HC.out.end_ hl0).map _)
    clear hl0 HC;go_wp2;go_ret;exact⟨by rw [HV.out];rfl,hbs⟩
   ·skip
    intro x cc w2 cnt2 hwx hlk hhas hrg2 hlt2 hg2 hs2 hen;rw [HDs.out.2 x hwx] at hhas;have hxm:x∈l.map (·.hdr):=by simpa using hhas
    have HCn:=Z1 (HC.out.step hxm hlk);have Hrg2:=Z1 hrg2;have hb2:=hbs.grown hg2 hbs.size (fun j hj=>by cases hj;exact hb.size);have hA2:=Z1 (RowsAt.more (RowsAt.below HA.out hb2 lR) hb2.size);have Ha:=Z1 (a4w w2 A k c l x e d Hl.out hn hA2.out);have hsb:=b2i (fun h=>Hd.at_ l h e d) (fun h=>Hd.at_bd l h e d HS.out) ss;have hsl:=HC.out.len;rw [Hdl.out] at hsl;have hyb:=Hd.at_bd l x e d HS.out;have Hst:Hid (((ss++[x]).map (fun h=>Hd.at_ l h e d)).sum=(ss.map (fun h=>Hd.at_ l h e d)).sum+Hd.at_ l x e d):=by show _=_;simp
    obtain⟨t,ht⟩:∃ t,t=(ss.map (fun h=>Hd.at_ l h e d)).sum:=⟨_,rfl⟩;obtain⟨y,hy⟩:∃ y,y=Hd.at_ l x e d:=⟨_,rfl⟩;rw [<- ht] at hsb Hst ⊢;rw [<- hy] at hyb Hst Ha;have ho1:-9223372036854775808<=t+y:=oM;have ho2:t+y<=9223372036854775807:=oM;have Hlt2:=Z1 hlt2;have hsz2:wo.heap.size<=w2.heap.size:=oM;clear hs2 hhas hxm hlk hrg2 hg2 ht hy hsb hyb hlt2;go_wp2_with (fail);refine Ha.out.mono ?_;rintro ev w3 ⟨rfl,hB3⟩;have hsz3:=hB3.size;have hgr3:w2.grownBy w3 none:=⟨hB3.os,hB3.tape,hB3.output,hB3.size,fun i hi _=>hB3.block i hi⟩;have Hrg3:=Z1 (Hrg2.out.kept hgr3 sP sP);clear hgr3;go_wp2;go_roundw
    case rel=>exact⟨_,cnt2,ss++[x],Hrg3.out,HCn.out,by rw [Hst.out],hb2.trans (hB3.mono hb2.size),oM⟩
    case measure=>rw [Hrg3.out.left_eq,Hrg.out.left_eq];exact Hlt2.out
end
open Go.Proofs.Tryz Go.RowKit Go.Maps Go.Sort Go.Shelf
theorem sortsZ (m:Nat):AnyZI.SortsIn prog Tryz.sortedA_ren Fence.wide m :=
 ⟨fun blk off cap ss W hH hblk hsz=>callsIn_wide.2 (AnyM.slices_Sort_int Tryz.sortA blk off cap ss W hH hblk hsz),
  fun p cap W=>callsIn_wide.2 (AnyM.slices_Sort_int_none Tryz.sortA p cap W)⟩
theorem KeysIs.keys {w:World} {b n:Nat} {D:DataW Value} {l:List Int} (h:KeysIs D l) (hD:w.ownsMap prog 3 (plainElem prog 4) b n D) (hw:∀ x∈l,(Lit.int .i64 x).wf=true):(intKeys D).Perm (Hd.keys l):=by
 have hc:CollectedI D (fun _=>false) (Hd.keys l):=by
  refine⟨Hd.nodup_keys l,fun x=>?_⟩;rw [Hd.mem_keys]
  constructor
  ·intro hx
   refine⟨?_,rfl⟩;rw [h.2 x (hw x hx)];simpa using hx
  ·rintro⟨hx,_⟩
   have hwx:(Lit.int .i64 x).wf=true:=by
    obtain⟨es,rfl,hko⟩:=hD.keysOf;rw [has_eq,List.any_eq_true] at hx;obtain⟨p,hp,hs⟩:=hx;obtain⟨v,hv⟩:=hko p hp;obtain⟨y,_,hy,hl⟩:=Maps.keyOf_i64 underlying3 hv;rw [hy] at hs;have:y=x:=by simpa [Lit.sameKey] using hs
    rw [<- this];exact hl
   have:=h.2 x hwx;rw [hx] at this;simpa using this.symm
 exact(hc.perm hD intLaw underlying3 (fun _=>rfl)).symm
def DatesPost (l:List Int) (w:World) (e:Ending) (w':World):Prop :=
 Below w w w'/\∃ A c,Fresh w A/\e=.returned (.slice A l.length c)/\RowsAt icell 1 w' w' A l
def DatesTy (l:List Int) (w:World) (e:Ending) (w':World):Prop :=
 Below w w w'/\∃ A c,(Fresh w A/\RowsTy 3 w' A l)/\e=.returned (.slice A l.length c)/\RowsAt icell 1 w' w' A l
section
variable (w:World)
theorem a9z (mb:Option Nat):Calls prog 159 #[.map mb] w fun e w'=>e=.returned (.func (.func 210) #[] #[.pointer (some ⟨w,0,none⟩)])/\w'=w.alloc (.cells #[.map mb] 224) :=
 (callsIn_wide (n:=5)).1 (AnyZI.keys_in Tryz.keysA Fence.wide 5 trivial rfl mb w)
theorem a6w (b nn:Nat) (D:DataW Value) (hD:w.ownsMap prog 3 (plainElem prog 4) b nn D) (hn:Maps.size D<=1000) :
  Calls prog 158 #[.func (.func 210) #[] #[.pointer (some ⟨w,0,none⟩)]] (w.alloc (.cells #[.map (some b)] 224)) fun e w'=>∃(v:Value) (ss:List Int),e=.returned v/\ss.Perm (intKeys D) /\
   w'.ownsRow (w.heap.size+1) 3 1 v ss.length ((ss.mergeSort (fun x y=>decide (x<=y))).map (Value.int .i64))/\Below (w.heap.size+1) (w.alloc (.cells #[.map (some b)] 224)) w':=by
 have hbl:=hD.lt
 have hseq:SeqGives Fence.wide 2 prog 210 #[.pointer (some ⟨w,0,none⟩)] encZ (fun ss=>ss.Perm (intKeys D)) (Maps.size D) (w.alloc (.cells #[.map (some b)] 224)) :=
  AnyZI.keys_gives (ρ:=Tryz.keysA_ren) { Tryz.keysA with } Fence.wide _ trivial rfl oM w b nn _ _ sP sP (by
   obtain⟨es,clock,hb,Ft,hs,hD⟩:=hD;exact⟨es,clock,(Below.heap_alloc _ _ b hbl).trans hb,Ft,hs,hD⟩)
 have cS:=AnyZI.sorted_in Tryz.sortedA Fence.wide 5 trivial trivial trivial trivial rfl oM (sortsZ _) (enters_of func209 kR rfl) 210 #[.pointer (some ⟨w,0,none⟩)] trivial (enters_of func210 kR rfl) _ _ (by unfold maxLen;omega) oM _ hseq;refine((callsIn_wide (n:=5)).1 cS).mono ?_;rintro e w' ⟨v,ss,rfl,hS,hrow,_,hb⟩;have e1:(w.alloc (.cells #[.map (some b)] 224)).heap.size=w.heap.size+1:=sP;rw [e1] at hrow hb;exact⟨v,ss,rfl,hS,hrow,hb⟩
theorem a3O (A:Option Addr) (n c:Nat) (l:List Hld) (hl:l.length=n) (hn:n<=1000) (hw:∀ x∈l,(Lit.int .i64 x.date).wf=true) (hA:RowsAt Hld.cells 4 w w A l) :
  Calls prog 93 #[.slice A n c] w (DatesTy (Hd.dates l) w):=by
 obtain⟨HA,Hl,HW,HM0,HB0⟩:=Z5 hA hl hw (KeysAt.made w) ((Below.refl w w).alloc lR (.map #[] 0));have hmm:=@run_makeMap prog;clear hA hl hw;go_enter func93,ntmps93;go_wp2
 go_loopw [9] (fun i wr=>∃ k:Nat,k<=n/\i=.int .i64 k/\KeysAt wr w ((l.take k).map (·.date))/\Below w w wr) (fun i _=>n-(intOf i).toNat)
 case atStart=>exact⟨0,Nat.zero_le _,rfl,HM0.out,HB0.out⟩
 case round =>
  obtain⟨k,hk,rfl,hm,hb⟩:=hrel;have Hm:=Z1 hm;have hgr:=hm.lt;clear hm
  by_cases hlt:k<n
  ·have hkl:k<l.length:=by have:=Hl.out;omega
   obtain⟨b,o,rfl,hbB,hr⟩:=RowsAt.look (RowsAt.below HA.out hb lR) hkl;obtain⟨x,hx⟩:∃ x,x=l[k]:=⟨_,rfl⟩;rw [<- hx] at hr;have hwx:=HW.out x (by rw [hx];exact List.getElem_mem _);have hbw:b<wr.heap.size:=by have:=hb.size;omega
   have Hst:Hid ((l.take (k+1)).map (·.date)=(l.take k).map (·.date)++[x.date]):=by show _=_;rw [tse hkl,<- hx];simp
   obtain⟨h,hh⟩:∃ h,h=x.date:=⟨_,rfl⟩;rw [<- hh] at Hst hwx;have hcells:x.cells=[.int .i64 x.hdr,.int .i64 x.ent,.int .i64 h,.int .i64 x.shr]:=by rw [hh];rfl
   rw [hcells] at hr;have Hr:=Z1 hr;have hB1:=(Below.refl wr wr).alloc lR (.cells #[x.hdr,x.ent,h,x.shr] 61);have Hm1:=Z1 (Hm.out.below hB1 hgr);have hll:((l.take k).map (·.date)).length<maxLen:=by rw [List.length_map,List.length_take];unfold maxLen;omega
   have Hwx:=Z1 hwx;have Hb1:=Z1 (hb.alloc hb.size (.cells #[x.hdr,x.ent,h,x.shr] 61));have hq:=hb.size;clear hr hx hh hcells hB1 hwx;go_wp2_with (first | (refine wpList_load_mid rfl 61 (.tmp 11) rfl b (o+k*4) rfl [x.hdr,x.ent,h,x.shr] _ Hr.out underlying61 rfl a2I ?_) | (at_mapUpdate;refine a1G rfl _ _ _ rfl Hm1.out rfl hll h Hwx.out rfl rfl ?_;intro w7 hm7 hg7));rw [<- Hst.out] at hm7;have hb7:=Hb1.out.grown hg7 sO (fun j hj=>by cases hj;exact lR);go_wp2;go_roundw
   case rel=>exact⟨k+1,oM,by go_num,hm7,hb7⟩
   case measure=>simp [intOf];omega
  obtain rfl:k=n:=oM;have htk:l.take k=l:=List.take_of_length_le (by have:=Hl.out;omega);have hm:=Hm.out;rw [htk] at hm;obtain⟨D,hD,hS⟩:=hm;have hdl:(l.map (·.date)).length=k:=by rw [List.length_map];exact Hl.out
  have hsz:=hD.size_le;have Hk:=Z1 (a9z wr (some w));have Hs:=Z1 (a6w wr w _ D hD oM);have Hperm:=Z1 (hS.keys hD (fun x hx=>by obtain⟨y,hy,rfl⟩:=List.mem_map.1 hx;exact HW.out y hy));have hbz:=hb.size;clear htk hD hS HM0 HB0 Hm hsz hdl;go_wp2_with (fail);refine Hk.out.mono ?_;rintro e W2 ⟨rfl,rfl⟩;go_wp2_with (fail);refine Hs.out.mono ?_;rintro e W3 ⟨v,ss,rfl,hS,hrow,hB3⟩;have hms:ss.mergeSort (fun x y=>decide (x<=y))=Hd.dates l:=mergeSort_of_perm_i (hS.trans Hperm.out);have hlen:ss.length=(Hd.dates l).length:=by rw [<- hms,List.length_mergeSort]
  rw [hms] at hrow
  have hfl:(Hd.dates l).map (Value.int .i64)=(Hd.dates l).flatMap icell:=by
   have:∀ m:List Int,m.map (Value.int .i64)=m.flatMap icell:=fun m=>by induction m with | nil=>rfl | cons x m ih=>rw [List.map_cons,List.flatMap_cons,ih];rfl
   exact this _
  rw [hfl] at hrow;obtain⟨A',c',e',hA'⟩:=Xz (f:=icell) dC (fun _=>rfl) hrow hlen
  have Hfr:Hid (Fresh w A'):=by
   rw [e'] at hrow;exact Z1 (fun ad h=>by have:=a0S hrow ad h;omega)
  have HA3:=Z1 hA';have hty:RowsTy 3 W3 A' (Hd.dates l):=by rw [e'] at hrow;exact a2P hrow hlen
  have HTy:=Z1 hty;clear hty;have HB3:Hid (Below w w W3):=Z1 ((hb.alloc hbz _).trans (hB3.mono oM));have Hlen:=Z1 hlen;subst e';clear hrow hms hfl hA' hB3 hS hlen;go_wp2;go_ret;exact⟨HB3.out,A',c',⟨Hfr.out,HTy.out⟩,by first | rfl | (rw [Hlen.out];rfl),HA3.out⟩
theorem a9X (A:Option Addr) (n c:Nat) (l:List Hld) (hl:l.length=n) (hn:n<=1000) (hw:∀ x∈l,(Lit.int .i64 x.date).wf=true) (hA:RowsAt Hld.cells 4 w w A l) :
  Calls prog 93 #[.slice A n c] w (DatesPost (Hd.dates l) w) :=
 (a3O w A n c l hl hn hw hA).mono fun _ _ ⟨h,A',c',hf,he,hA'⟩=>⟨h,A',c',hf.1,he,hA'⟩
end
end Go.Proofs.YtniaimjknmhapaaGreatDoor
