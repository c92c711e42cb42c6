/- Lemmas. -/
import Derived.Maps.RangeWalk
import Derived.Sort.OwnSorted
import Derived.Sort.OwnSortedInts
import Derived.Test.YtbhdekahdnenjaaGreatDoorG30
set_option linter.unusedVariables false
set_option linter.unusedSimpArgs false
set_option maxRecDepth 100000
set_option maxHeartbeats 16000000
namespace Go.Proofs.YtbhdekahdnenjaaGreatDoor
open Go.Proofs.Tryz Go.RowKit Go.Shelf
variable (w:World)
attribute [local go_sem] Oper.semAt_some
def shC (s:Option (Int × Int)):Array Value:=#[.int .i64 (s.getD (0,0)).1]
def siC (s:Option (Int × Int)):Array Value:=#[.int .i64 (s.getD (0,0)).2]
def foC (s:Option (Int × Int)):Array Value:=#[.bool s.isSome]
theorem a8R (i:World) (L m:Nat) (hm:1<=m) (A:OA) (n c:Nat) (s:List Hld) (h e:Int) (hl:s.length=n) (hn:n<=1000) (a:i.heap.size=L+7)
  (I:i.cell? ⟨L+4,0,none⟩=some (.slice A n c)) (O:i.cell? ⟨L+5,0,none⟩=some (.int .i64 h)) (Q:i.cell? ⟨L+6,0,none⟩=some (.int .i64 e)) (T:RowsAt Hld.cells 4 i L A s) :
  SeqStopsK Fence.wide m prog 230 #[.pointer (some ⟨L+4,0,none⟩),.pointer (some ⟨L+5,0,none⟩),.pointer (some ⟨L+6,0,none⟩)] encH
   (fun W W'=>KeepR (L+7) (L+1) (L+4) W W'/\(W:Nat)<=W') (fun ys=>ys=s.filter (Hd.pair h e)) (fun _=>True) s.length i:=fun l J E W o X _ hY S =>
 b2k m hm l (L+7) (L+1) (L+4) (L+4) (L+5) (L+6) A n c s h e hl hn L oM oM oM oM oM oM
  J E W (by have:=o.size;omega) X hY ((o.cell (p:=⟨L+4,0,none⟩) (by rw[a];show L+4<_;omega)).trans I) ((o.cell (p:=⟨L+5,0,none⟩) (by rw[a];show L+5<_;omega)).trans O)
  ((o.cell (p:=⟨L+6,0,none⟩) (by rw[a];show L+6<_;omega)).trans Q) (RowsAt.below T o oM) S
theorem a4N (A:OA) (n c:Nat) (hs:List Hld) (h e d:Int) (hl:hs.length=n) (hn:n<=1000) (hA:RowsAt Hld.cells 4 w w A hs) :
  CL 125 #[.slice A n c,h,e,d] w (Hd.at_ hs h e d):=by
 refine XL.1 (callsIn_of_wp_marks (F:=Fence.wide) (n:=8) func125 rfl trivial ?_ rfl);simp only[ntmps125,Yn,Xl,Y8,Nat.reduceAdd,Nat.reduceSub,Yr,Yl,YT,YW,Xr,XM]
 gi_wp2
 refine⟨trivial,XL.2 ((b2j _ _ _ _ _ _).mono ?_)⟩;rintro ev w5 ⟨rfl,rfl⟩
 gi_wp2
 obtain⟨ws,a8⟩:∃ws,((((((w.alloc (.cells #[d] 3)).alloc (.cells #[()] 3)).alloc (.cells #[()] 3)).alloc (.cells #[false] 4)).alloc (.cells #[.slice A n c] 32)).alloc (.cells #[h] 3)).alloc (.cells #[e] 3)=ws:=⟨_,rfl⟩;have ac:Below w w ws:=by rw[<- a8];exact((((((((VM _ w).alloc lR _).alloc sP _).alloc sO _).alloc sO _).alloc sO _).alloc sO _).alloc sO _)
 obtain⟨L,a0⟩:∃L,w.heap.size=L:=⟨_,rfl⟩;have ao:ws.heap.size=L+7:=by rw[<- a8,<- a0];simp
 have b4:ws.cell? ⟨L+4,0,none⟩=some (.slice A n c):=by rw[<- a8,<- a0];simp[go_sem]
 have b5:ws.cell? ⟨L+5,0,none⟩=some (.int .i64 h):=by rw[<- a8,<- a0];simp[go_sem]
 have b6:ws.cell? ⟨L+6,0,none⟩=some (.int .i64 e):=by rw[<- a8,<- a0];simp[go_sem]
 have r1:Row ws (L+1) 3 (shC none):=by
  rw[<- a8,<- a0];have:=Vh (w.alloc (.cells #[d] 3)) (.cells (shC none) 3);rw[ZQ] at this;exact(((((Row.alloc this _).alloc _).alloc _).alloc _).alloc _)
 have r2:Row ws (L+2) 3 (siC none):=by
  rw[<- a8,<- a0];have:=Vh ((w.alloc (.cells #[d] 3)).alloc (.cells #[()] 3)) (.cells (siC none) 3);rw[ZQ,ZQ] at this;exact((((Row.alloc this _).alloc _).alloc _).alloc _)
 have r3:Row ws (L+3) 4 (foC none):=by
  rw[<- a8,<- a0];have:=Vh (((w.alloc (.cells #[d] 3)).alloc (.cells #[()] 3)).alloc (.cells #[()] 3)) (.cells (foC none) 4);rw[ZQ,ZQ,ZQ] at this;exact(((Row.alloc this _).alloc _).alloc _)
 have r0:Row ws L 3 #[d]:=by
  rw[<- a8,<- a0];exact((((((Row.alloc (Vh w (.cells #[d] 3)) _).alloc _).alloc _).alloc _).alloc _).alloc _)
 have aj:RowsAt Hld.cells 4 ws L A hs:=by rw[<- a0];exact RowsAt.below hA ac lR
 have HA:=Z1 aj;rw[a8];simp only[a0];replace ac:Below L w ws:=a0 ▸ ac;have ap:L<=w:=X6 a0.symm;clear a8 hA aj;simp only[QT,Nat.reduceAdd]
 refine wpIn_rangeFunc_ownH rfl (by omega:1<=8) (gf:=230) (lb:=#[.pointer (some ⟨L+4,0,none⟩),.pointer (some ⟨L+5,0,none⟩),.pointer (some ⟨L+6,0,none⟩)]) rfl trivial (enters_of func230 kR rfl)
  (a8R ws L 7 oM A n c hs h e hl hn ao b4 b5 b6 HA)
  (fun h k=>⟨h.1.trans k.1,Vn h.2 k.2⟩) (fun W l o o' h1 h2 h3 h4=>⟨KeepR.putObj (n:=L+7) (w:=ws) oM W l o o' h1 h2 h3 h4,by simp[World.putObj]⟩) bR (fun _=>rfl)
  (fun J W=>Row W (L+1) 3 (shC (J.foldl (Hd.see d) none))/\Row W (L+2) 3 (siC (J.foldl (Hd.see d) none))/\Row W (L+3) 4 (foC (J.foldl (Hd.see d) none))/\Below L w W/\L+7<=W/\Row W L 3 #[d]) (fun _ _ _=>False)
  (OwnFrom.and (Own.from (a1T (L+1) 3 (fun J:List Hld=>shC (J.foldl (Hd.see d) none))) _) (OwnFrom.and (Own.from (a1T (L+2) 3 (fun J:List Hld=>siC (J.foldl (Hd.see d) none))) _) (OwnFrom.and (Own.from (a1T (L+3) 4 (fun J:List Hld=>foC (J.foldl (Hd.see d) none))) _) (OwnFrom.and (ownFrom_below oM oM) (OwnFrom.and (fun _ _ _ _ hs hg _=>Vn hs hg.size) (Own.from (a1T L 3 (fun _:List Hld=>#[d])) _)))))) (fun _ _ _ _ _ hs _ _=>hs)
  ⟨r1,r2,r3,ac,oM,r0⟩
  (fun x a' W=>∃a,L+7<=a/\Row W a 43 #[x.hdr,x.ent,x.date,x.shr]/\a'={ tmps:=#[.slice A n c,.int .i64 h,.int .i64 e,.int .i64 d,undef,undef,undef,.pointer (some ⟨L,0,none⟩),.int .i64 0,.pointer (some ⟨L+1,0,none⟩),.pointer (some ⟨L+2,0,none⟩),.pointer (some ⟨L+3,0,none⟩),.pointer (some ⟨a,0,none⟩),.slice A n c,.int .i64 h,.int .i64 e,.func (.func 230) #[] #[.pointer (some ⟨L+4,0,none⟩),.pointer (some ⟨L+5,0,none⟩),.pointer (some ⟨L+6,0,none⟩)],.agg #[x.hdr,x.ent,x.date,x.shr],undef,undef,undef,undef,undef,undef,undef,undef,undef,undef,undef,undef,undef,undef,undef,undef,undef,undef,undef],defers:=[] })
  ?hAx ?assign ?body ?done ?stop
 case hAx =>
  rintro x a' _ X Y row ⟨a,k1,k2,k3⟩ hg ak;exact⟨a,k1,(hg.block a (Array.getElem?_eq_some_iff.1 k2).1 (fun e=>by obtain⟨_,o,ho,hc⟩:=ak a e.symm;rw[show X.heap[a]?=_ from k2] at ho;cases ho;cases hc)).trans k2,k3⟩
 case assign =>
  rintro l J x W K ⟨i1,i2,i3,i4,i5,i6⟩ hK;dsimp only[encH]
  gi_wp2
  exact hK _ _ ((KeepsOthers.alloc _ _).from _) ⟨(KeepR.refl _ _ _ _).alloc i5 _,sP⟩ ⟨i1.alloc _,i2.alloc _,i3.alloc _,i4.alloc oM _,sO,i6.alloc _⟩ ⟨W,i5,Vh W _,rfl⟩
 case body =>
  rintro l J x a' W aq ⟨r,au⟩ ⟨i1,i2,i3,i4,i5,i6⟩ ⟨a,k1,k2,rfl⟩ ar;have x2:=cr9 2 k2;have x3:=cr9 3 k2;have d0:=cr9 0 i6;simp at x2 x3 d0;have sx:=Vq k2;obtain⟨s,ah⟩:=eX (List.foldl (Hd.see d) none J);rw[<- ah] at i1 i2 i3;have al:List.foldl (Hd.see d) none (J++[x])=Hd.see d s x:=by rw[YH,ah];rfl
  obtain⟨HS,I1,I2,I3,I4,I6,K2⟩:=Z7 al i1 i2 i3 i4 i6 k2;have y1:=cr9 0 i1;have y2:=cr9 0 i2;have y3:=cr9 0 i3;simp[shC,siC,foC] at y1 y2 y3;have s1:=Vq i1;have s2:=Vq i2;have s3:=Vq i3;have s6:=Vq i6;clear al ah i1 i2 i3 i4 i6 k2
  by_cases hd:x.date<=d
  case neg =>
   have HN:Hid (Hd.see d s x=s):=by show _=_;unfold Hd.see;simp[hd]
   gi_wp2
   exact⟨KeepsFrom.of_grownBy (Xx W none) (fun j e=>by cases e),⟨KeepR.refl _ _ _ _,lR⟩,by rw[HS,HN];exact I1.out,by rw[HS,HN];exact I2.out,by rw[HS,HN];exact I3.out,I4.out,i5,I6.out⟩
  cases s with
  |none =>
   have HN:Hid (Hd.see d none x=some (x.shr,x.date)):=by show _=_;unfold Hd.see Hd.later;simp[hd]
   simp at y1 y2 y3
   gi_wp2
   refine a1D (S:=fun W':World=>Row W' a 43 x) kR (a6e kR) ?_;change wpAnyH _ _ _ _ _ _ _ _ (World.drew W);have hS:(fun W':World=>Row W' a 43 x) W.drew:=K2.out;refine jT 0 hS ?_;refine jT 1 hS ?_ (v:=.int .i64 x.shr) (hy:=(.inl ⟨by rfl,fun W' a7=>by have c0:=cr9 3 a7;simp at c0;have c9:=Vq a7;go_simp⟩));refine jT 2 hS ?_;refine jT 3 hS ?_ (v:=.int .i64 x.date) (hy:=(.inl ⟨by rfl,fun W' a7=>by have c0:=cr9 2 a7;simp at c0;have c9:=Vq a7;go_simp⟩));have O:Row W.drew (L+1) 3 (shC none):=I1.out;have Q:Row W.drew (L+2) 3 (siC none):=I2.out;have T:Row W.drew (L+3) 4 (foC none):=I3.out;refine rZ 4 fun K hK=>?_;have c0:=cr9 0 O;simp[shC,siC,foC] at c0;have cf:=fun j=>fr0 j O;have s9:=Vq O;go_simp;have a9:(fun W':World=>Row W' a 43 x) (W.drew.setCell ⟨L+1,0,none⟩ (.int .i64 x.shr)):=Row.other hS ⟨L+1,0,none⟩ (by show a≠L+1;omega) _;have Q:=Row.other Q ⟨L+1,0,none⟩ (by show L+2≠L+1;omega) (.int .i64 x.shr);have T:=Row.other T ⟨L+1,0,none⟩ (by show L+3≠L+1;omega) (.int .i64 x.shr);have O:=Row.set O 0 (.int .i64 x.shr);refine jK hK a9 ?_;clear hK K;obtain⟨U1,i⟩:=eX ((W.drew.setCell ⟨L+1,0,none⟩ (.int .i64 x.shr)));replace a9:Row U1 a 43 x:=by rw[i];exact a9
   rw[<- i] at O;rw[<- i] at Q;rw[<- i] at T;change wpAnyH _ _ _ _ _ _ _ _ (W.drew.setCell ⟨L+1,0,none⟩ (.int .i64 x.shr));rw[<- i];have a4:=Z1 i;clear c0 cf s9 i;refine rZ 5 fun K hK=>?_;have c0:=cr9 0 Q;simp[shC,siC,foC] at c0;have cf:=fun j=>fr0 j Q;have s9:=Vq Q;go_simp;have aa:(fun W':World=>Row W' a 43 x) (U1.setCell ⟨L+2,0,none⟩ (.int .i64 x.date)):=Row.other a9 ⟨L+2,0,none⟩ (by show a≠L+2;omega) _;have O:=Row.other O ⟨L+2,0,none⟩ (by show L+1≠L+2;omega) (.int .i64 x.date);have T:=Row.other T ⟨L+2,0,none⟩ (by show L+3≠L+2;omega) (.int .i64 x.date);have Q:=Row.set Q 0 (.int .i64 x.date);refine jK hK aa ?_;clear hK K;obtain⟨U2,E⟩:=eX ((U1.setCell ⟨L+2,0,none⟩ (.int .i64 x.date)));replace aa:Row U2 a 43 x:=by rw[E];exact aa
   rw[<- E] at O;rw[<- E] at Q;rw[<- E] at T;change wpAnyH _ _ _ _ _ _ _ _ (U1.setCell ⟨L+2,0,none⟩ (.int .i64 x.date));rw[<- E];have a5:=Z1 E;clear c0 cf s9 E;refine rZ 6 fun K hK=>?_;have c0:=cr9 0 T;simp[shC,siC,foC] at c0;have cf:=fun j=>fr0 j T;have s9:=Vq T;go_simp;have ab:(fun W':World=>Row W' a 43 x) (U2.setCell ⟨L+3,0,none⟩ (.bool true)):=Row.other aa ⟨L+3,0,none⟩ (by show a≠L+3;omega) _;have O:=Row.other O ⟨L+3,0,none⟩ (by show L+1≠L+3;omega) (.bool true);have Q:=Row.other Q ⟨L+3,0,none⟩ (by show L+2≠L+3;omega) (.bool true);have T:=Row.set T 0 (.bool true);refine jK hK ab ?_;clear hK K;obtain⟨U3,I⟩:=eX ((U2.setCell ⟨L+3,0,none⟩ (.bool true)));replace ab:Row U3 a 43 x:=by rw[I];exact ab
   rw[<- I] at O;rw[<- I] at Q;rw[<- I] at T;change wpAnyH _ _ _ _ _ _ _ _ (U2.setCell ⟨L+3,0,none⟩ (.bool true));rw[<- I];have a6:=Z1 I;clear c0 cf s9 I;refine VF kR ?_ _
   try simp only[z]
   show Exit.inBlock 1 _ Exit.normal _ _;have g0:Row U3 L 3 #[d]:=by rw[a6,a5,a4];exact Row.other (Row.other (Row.other (show Row W.drew L _ _ from I6.out) ⟨L+1,0,none⟩ (by show L≠L+1;omega) _) ⟨L+2,0,none⟩ (by show L≠L+2;omega) _) ⟨L+3,0,none⟩ (by show L≠L+3;omega) _
   have ae:Below L w U3:=by rw[a6,a5,a4];exact(((Vw I4.out 1).setCell (p:=⟨L+1,0,none⟩) (by show L<=L+1;omega) _).setCell (p:=⟨L+2,0,none⟩) (by show L<=L+2;omega) _).setCell (p:=⟨L+3,0,none⟩) (by show L<=L+3;omega) _
   have am:(U3:Nat)=W:=by rw[a6,a5,a4];simp[World.setCell]
   have ag:KeepR (L+7) (L+1) (L+4) W U3:=fun b hb hL=>by
    rw[a6,a5,a4,VR _ _ _ _ (by show b≠L+3;omega),VR _ _ _ _ (by show b≠L+2;omega),VR _ _ _ _ (by show b≠L+1;omega)];rfl
   have af:KeepsFrom (L+7) W U3:=by
    have e1:KeepsFrom (L+7) W W.drew:=KeepsFrom.of_grownBy (a1t (Xx W none) 1) (fun j e=>by cases e);have e2:KeepsFrom (L+7) W.drew U1:=by rw[a4];exact KeepsFrom.of_grownBy (Xz (Xx W.drew (some (L+1))) 0 _) (fun j e=>by cases e;omega)
    have e3:KeepsFrom (L+7) U1 U2:=by rw[a5];exact KeepsFrom.of_grownBy (Xz (Xx U1 (some (L+2))) 0 _) (fun j e=>by cases e;omega)
    have e4:KeepsFrom (L+7) U2 U3:=by rw[a6];exact KeepsFrom.of_grownBy (Xz (Xx U2 (some (L+3))) 0 _) (fun j e=>by cases e;omega)
    exact((e1.trans e2).trans e3).trans e4
   gi_wp2
   exact⟨af,⟨ag,oM⟩,by rw[HS,HN];exact O,by rw[HS,HN];exact Q,by rw[HS,HN];exact T,ae,oM,g0⟩
  |some y =>
   simp at y1 y2 y3
   by_cases hy:y.2<x.date
   case neg =>
    have HN:Hid (Hd.see d (some y) x=some y):=by show _=_;unfold Hd.see Hd.later;simp[hy]
    have k0:decide (x.date > y.2)=false:=sO
    gi_wp2
    exact⟨KeepsFrom.of_grownBy (Xx W none) (fun j e=>by cases e),⟨KeepR.refl _ _ _ _,lR⟩,by rw[HS,HN];exact I1.out,by rw[HS,HN];exact I2.out,by rw[HS,HN];exact I3.out,I4.out,i5,I6.out⟩
   have HN:Hid (Hd.see d (some y) x=some (x.shr,x.date)):=by show _=_;unfold Hd.see Hd.later;simp[hd,hy]
   have k0:decide (x.date > y.2):=sO
   gi_wp2
   refine a1D (S:=fun W':World=>Row W' a 43 x) kR (a6e kR) ?_;change wpAnyH _ _ _ _ _ _ _ _ (World.drew W);have hS:(fun W':World=>Row W' a 43 x) W.drew:=K2.out;refine jT 0 hS ?_;refine jT 1 hS ?_ (v:=.int .i64 x.shr) (hy:=(.inl ⟨by rfl,fun W' a7=>by have c0:=cr9 3 a7;simp at c0;have c9:=Vq a7;go_simp⟩));refine jT 2 hS ?_;refine jT 3 hS ?_ (v:=.int .i64 x.date) (hy:=(.inl ⟨by rfl,fun W' a7=>by have c0:=cr9 2 a7;simp at c0;have c9:=Vq a7;go_simp⟩));have O:Row W.drew (L+1) 3 (shC (some y)):=I1.out;have Q:Row W.drew (L+2) 3 (siC (some y)):=I2.out;have T:Row W.drew (L+3) 4 (foC (some y)):=I3.out;refine rZ 4 fun K hK=>?_;have c0:=cr9 0 O;simp[shC,siC,foC] at c0;have cf:=fun j=>fr0 j O;have s9:=Vq O;go_simp;have a9:(fun W':World=>Row W' a 43 x) (W.drew.setCell ⟨L+1,0,none⟩ (.int .i64 x.shr)):=Row.other hS ⟨L+1,0,none⟩ (by show a≠L+1;omega) _;have Q:=Row.other Q ⟨L+1,0,none⟩ (by show L+2≠L+1;omega) (.int .i64 x.shr);have T:=Row.other T ⟨L+1,0,none⟩ (by show L+3≠L+1;omega) (.int .i64 x.shr);have O:=Row.set O 0 (.int .i64 x.shr);refine jK hK a9 ?_;clear hK K;obtain⟨U1,i⟩:=eX ((W.drew.setCell ⟨L+1,0,none⟩ (.int .i64 x.shr)));replace a9:Row U1 a 43 x:=by rw[i];exact a9
   rw[<- i] at O;rw[<- i] at Q;rw[<- i] at T;change wpAnyH _ _ _ _ _ _ _ _ (W.drew.setCell ⟨L+1,0,none⟩ (.int .i64 x.shr));rw[<- i];have a4:=Z1 i;clear c0 cf s9 i;refine rZ 5 fun K hK=>?_;have c0:=cr9 0 Q;simp[shC,siC,foC] at c0;have cf:=fun j=>fr0 j Q;have s9:=Vq Q;go_simp;have aa:(fun W':World=>Row W' a 43 x) (U1.setCell ⟨L+2,0,none⟩ (.int .i64 x.date)):=Row.other a9 ⟨L+2,0,none⟩ (by show a≠L+2;omega) _;have O:=Row.other O ⟨L+2,0,none⟩ (by show L+1≠L+2;omega) (.int .i64 x.date);have T:=Row.other T ⟨L+2,0,none⟩ (by show L+3≠L+2;omega) (.int .i64 x.date);have Q:=Row.set Q 0 (.int .i64 x.date);refine jK hK aa ?_;clear hK K;obtain⟨U2,E⟩:=eX ((U1.setCell ⟨L+2,0,none⟩ (.int .i64 x.date)));replace aa:Row U2 a 43 x:=by rw[E];exact aa
   rw[<- E] at O;rw[<- E] at Q;rw[<- E] at T;change wpAnyH _ _ _ _ _ _ _ _ (U1.setCell ⟨L+2,0,none⟩ (.int .i64 x.date));rw[<- E];have a5:=Z1 E;clear c0 cf s9 E;refine rZ 6 fun K hK=>?_;have c0:=cr9 0 T;simp[shC,siC,foC] at c0;have cf:=fun j=>fr0 j T;have s9:=Vq T;go_simp;have ab:(fun W':World=>Row W' a 43 x) (U2.setCell ⟨L+3,0,none⟩ (.bool true)):=Row.other aa ⟨L+3,0,none⟩ (by show a≠L+3;omega) _;have O:=Row.other O ⟨L+3,0,none⟩ (by show L+1≠L+3;omega) (.bool true);have Q:=Row.other Q ⟨L+3,0,none⟩ (by show L+2≠L+3;omega) (.bool true);have T:=Row.set T 0 (.bool true);refine jK hK ab ?_;clear hK K;obtain⟨U3,I⟩:=eX ((U2.setCell ⟨L+3,0,none⟩ (.bool true)));replace ab:Row U3 a 43 x:=by rw[I];exact ab
   rw[<- I] at O;rw[<- I] at Q;rw[<- I] at T;change wpAnyH _ _ _ _ _ _ _ _ (U2.setCell ⟨L+3,0,none⟩ (.bool true));rw[<- I];have a6:=Z1 I;clear c0 cf s9 I;refine VF kR ?_ _
   try simp only[z]
   show Exit.inBlock 1 _ Exit.normal _ _;have g0:Row U3 L 3 #[d]:=by rw[a6,a5,a4];exact Row.other (Row.other (Row.other (show Row W.drew L _ _ from I6.out) ⟨L+1,0,none⟩ (by show L≠L+1;omega) _) ⟨L+2,0,none⟩ (by show L≠L+2;omega) _) ⟨L+3,0,none⟩ (by show L≠L+3;omega) _
   have ae:Below L w U3:=by rw[a6,a5,a4];exact(((Vw I4.out 1).setCell (p:=⟨L+1,0,none⟩) (by show L<=L+1;omega) _).setCell (p:=⟨L+2,0,none⟩) (by show L<=L+2;omega) _).setCell (p:=⟨L+3,0,none⟩) (by show L<=L+3;omega) _
   have am:(U3:Nat)=W:=by rw[a6,a5,a4];simp[World.setCell]
   have ag:KeepR (L+7) (L+1) (L+4) W U3:=fun b hb hL=>by
    rw[a6,a5,a4,VR _ _ _ _ (by show b≠L+3;omega),VR _ _ _ _ (by show b≠L+2;omega),VR _ _ _ _ (by show b≠L+1;omega)];rfl
   have af:KeepsFrom (L+7) W U3:=by
    have e1:KeepsFrom (L+7) W W.drew:=KeepsFrom.of_grownBy (a1t (Xx W none) 1) (fun j e=>by cases e);have e2:KeepsFrom (L+7) W.drew U1:=by rw[a4];exact KeepsFrom.of_grownBy (Xz (Xx W.drew (some (L+1))) 0 _) (fun j e=>by cases e;omega)
    have e3:KeepsFrom (L+7) U1 U2:=by rw[a5];exact KeepsFrom.of_grownBy (Xz (Xx U1 (some (L+2))) 0 _) (fun j e=>by cases e;omega)
    have e4:KeepsFrom (L+7) U2 U3:=by rw[a6];exact KeepsFrom.of_grownBy (Xz (Xx U2 (some (L+3))) 0 _) (fun j e=>by cases e;omega)
    exact((e1.trans e2).trans e3).trans e4
   gi_wp2
   exact⟨af,⟨ag,oM⟩,by rw[HS,HN];exact O,by rw[HS,HN];exact Q,by rw[HS,HN];exact T,ae,oM,g0⟩
 case done =>
  rintro D ys W hD rfl ⟨i1,i2,i3,i4,i5,i6⟩ hK;have sL:L+1<W:=oM;obtain⟨sh,ai⟩:=eX (Hd.at_ hs h e d);have ad:((List.foldl (Hd.see d) none (hs.filter (Hd.pair h e))).getD (0,0)).1=sh:=by rw[ai];rfl
  have an:=Z1 ai;have z0:W.cell? ⟨L+1,0,none⟩=some (.int .i64 sh):=by rw[<- ad];have:=cr9 0 i1;simpa[shC] using this
  clear ai ad
  gi_wp2
  refine⟨sP,.inl ⟨_,_,rfl,run_takeDeferred hK,⟨_,by simp[results,results125];rfl,by rw[<- an],?_⟩⟩⟩;rw[a0];exact i4.trans (belowK_b (w:=ws) oM _ D _ _ oM hK rfl rfl)
 case stop =>
  rintro D c' J W _ _ hx _;exact hx.elim
open Go.Maps
namespace Hd
theorem a4J:∀(n:Nat) (l:LI),l.length<=n->l.eraseDups.Nodup
 |_,[],_=>sP
 |0,a::l,h=>by simp at h
 |n+1,a::l,h=>by
  rw[KN,KB];refine⟨fun i=>?_,a4J n _ ?_⟩
  ·rw[List.mem_eraseDups,Yw] at i
   simp at i
  ·have:=XY (fun b=>!b==a) l
   simp at h;omega
theorem nodup_keys (l:LI):(keys l).Nodup:=a4J _ l lR
theorem a8e:∀(n:Nat) (l:LI),l.length<=n->l.eraseDups.length<=l.length
 |_,[],_=>sP
 |0,a::l,h=>by simp at h
 |n+1,a::l,h=>by
  rw[KN];have i:=XY (fun b=>!b==a) l;simp at h;have:=a8e n (l.filter (fun b=>!b==a)) oM;simp;omega
theorem keys_len (l:LI):(keys l).length<=l.length:=a8e _ l lR
theorem mem_keys {x:Int} {l:LI}:x∈keys l ↔ x∈l:=List.mem_eraseDups
theorem sum_perm {l a:LI} (h:l.Perm a):l.sum=a.sum:=by
 induction h with
 |nil=>rfl
 |cons x _ s=>simp[s]
 |swap x y l=>simp;omega
 |trans _ _ i o=>rw[i,o]
end Hd
def KeysIs (D:DataW Value) (l:LI):Prop :=
 IsMap D/\(∀x,(Lit.int .i64 x).wf->has D (.int .i64 x)=l.contains x)
def KeysAt (w:World) (b:Nat) (l:LI):Prop:=∃D:DataW Value,w.ownsMap prog 3 (plainElem prog 4) b l.length D/\KeysIs D l
theorem KeysAt.lt {w:World} {b:Nat} {l:LI} (h:KeysAt w b l):b<w:=by obtain⟨D,h,_⟩:=h;exact h.lt
theorem KeysAt.kept {w w':World} {b:Nat} {l:LI} {row:Option Nat} (h:KeysAt w b l) (i:w.grownBy w' row) (a:some b≠row):KeysAt w' b l:=by
 obtain⟨D,h,r⟩:=h;exact⟨D,h.kept i a,r⟩
theorem a4v {w w':World} {b n B:Nat} {D:DataW Value} (h:w.ownsMap prog 3 (plainElem prog 4) b n D) (s:Below B w w') (o:b<B):w'.ownsMap prog 3 (plainElem prog 4) b n D:=by
 obtain⟨i,a,E,r⟩:=h;exact⟨i,a,(s.block b o).trans E,r⟩
theorem KeysAt.below {w w':World} {b B:Nat} {l:LI} (h:KeysAt w b l) (i:Below B w w') (a:b<B):KeysAt w' b l:=by
 obtain⟨D,h,r⟩:=h;exact⟨D,a4v h i a,r⟩
theorem KeysAt.made (w:World):KeysAt (w.alloc (.map #[] 0)) w [] :=
 ⟨_,World.ownsMap_made w prog 3 (plainElem prog 4),isMap_empty,fun _ _=>rfl⟩
theorem keyZ {x:Int} (h:(Lit.int .i64 x).wf):keyOf prog 3 (.int .i64 x)=some (.int .i64 x):=keyOf_int_mk YM h
theorem KeysIs.put {D:DataW Value} {l:LI} (h:KeysIs D l) {c:Int} (s:(Lit.int .i64 c).wf):KeysIs (D.put (.int .i64 c) (.lit (.bool true))) (l++[c]):=by
 obtain⟨a,i⟩:=h;have E:=intLaw.key (keyZ s);refine⟨a.put _ _,fun x I=>?_⟩
 have o:(l++[c]).contains x=(l.contains x||decide (x=c)):=by
  rw[XX];simp
 rw[o]
 by_cases e:x=c
 ·subst e
  rw[has_put_same a E];simp
 ·rw[has_put_other (by simp[e]),i x I]
  simp[e]
theorem a1R {w:World} {b:Nat} {l:LI} {E:Array Oper} {i:List Oper} {o:Oper} {a:Act} {Q:Exit->Act->World->Prop}
  (W:o.guard=none) (m x v:Operand) (J:o.op=Op.mapUpdate 209 m x v) (h:KeysAt w b l) (X:a.eval m=.map (some b)) (hn:l.length<maxLen) (c:Int) (L:(Lit.int .i64 c).wf)
  (hx:a.eval x=c) (hv:a.eval v=.bool true)
  (S:∀w',KeysAt w' b (l++[c])->w.grownBy w' (some b)->wpList prog E Q i (a.put o.dst undef) w') :
  wpList prog E Q (o::i) a w:=by
 refine Jt W fun K' I=>?_;obtain⟨D,O,T⟩:=h;obtain⟨w',s,r1,r2⟩:=O.update intLaw JQ hn (keyZ L) (plainElem_bool underlying4 true);unfold Oper.wp;simp[execOp,J,X,hx,hv,s,Result.andThen];exact I _ _ (S w' ⟨_,by rw[Vc];exact r1,T.put L⟩ r2)
theorem a1Q {w:World} {S:Array Oper} {I:List Oper} {o:Oper} {a:Act} {Q:Exit->Act->World->Prop} (hg:o.guard=none) (it:Operand) (a5:o.op=Op.next it false)
  (b r n:Nat) (D:DataW Value) (i:Lit->Bool) (J:Nat) (X:a.eval it=.pointer (some ⟨r,0,none⟩)) (h:w.ranges prog 3 (plainElem prog 4) b r n D i J)
  (L:J=0->(∀kl,i kl=false)->wpList prog S Q I (a.put o.dst (.tuple #[false])) w)
  (O:∀(x:Int) (v:Value) (w':World) (s:Nat),(Lit.int .i64 x).wf->i (.int .i64 x)->has D (.int .i64 x)->w'.ranges prog 3 (plainElem prog 4) b r n D (fun z=>i z&&!z.sameKey (.int .i64 x)) s->s<J ->
   w.grownBy w' (some r)->w'.heap.size=w.heap.size->(Instr.entry (.pointer (some ⟨r,0,none⟩))).run prog w'=.ok (.tuple #[x,v]) w'->wpList prog S Q I (a.put o.dst (.tuple #[true,x,v])) w') :
  wpList prog S Q (o::I) a w :=
 wpList_next_ranges w hg it a5 3 intLaw (plainElem prog 4) (Value.int .i64) Value.bool (fun a9 kl E=>by obtain⟨x,rfl,_⟩:=Maps.keyOf_int_inv YM E;exact⟨x,rfl⟩) (fun v y hv=>by cases v <;> simp[plainElem,underlying4] at hv;exact⟨_,rfl⟩)
  b r n D i J X h L (fun x c kl y w' s E a0 hv hat a6 a4 W a7 T=>by
   obtain⟨x',ex,rfl,a8⟩:=Maps.keyOf_int_inv YM E
   cases ex
   exact O x _ w' s a8 a0 (has_true_of_atKey hat) a6 a4 W a7 T)
theorem a6m (a b:Int):(Lit.int .i64 a).sameKey (.int .i64 b)=decide (a=b):=by
 by_cases h:a=b
 ·subst h;rw[VT rfl];simp[Lit.sameKey]
 ·rw[Vr h];exact sameKey_ne (by simp[h])
structure KMet (l:List Int) (left:Lit->Bool) (ss:List Int):Prop where
 gone:∀x∈l,left (.int .i64 x)=false->x∈ss
 good:∀x∈ss,x∈l/\left (.int .i64 x)=false
 nodup:ss.Nodup
theorem KMet.step {l:LI} {i:Lit->Bool} {ss:LI} {x:Int} (h:KMet l i ss) (W:x∈l) (S:i (.int .i64 x)):KMet l (fun z=>i z&&!z.sameKey (.int .i64 x)) (ss++[x]):=by
 have o:∀y,(i (.int .i64 y)&&!(Lit.int .i64 y).sameKey (.int .i64 x))=false->y=x∨i (.int .i64 y)=false:=by
  intro y s;rw[a6m] at s
  by_cases e:y=x
  ·exact .inl e
  ·right;simpa[e] using s
 have I:x ∉ ss:=fun T=>by have:=(h.good x T).2;rw[S] at this;cases this
 refine⟨fun y s E=>?_,fun y s=>?_,?_⟩
 ·rcases o y E with rfl|E
  ·simp
  ·exact KW _ (h.gone y s E)
 ·rw[V9,VY] at s
  rcases s with s|rfl
  ·obtain⟨L,O⟩:=h.good y s
   exact⟨L,by rw[O];rfl⟩
  ·exact⟨W,by rw[a6m];simp⟩
 ·rw[List.nodup_append]
  exact⟨h.nodup,sP,fun a Q b J=>by rw[VY] at J;subst J;exact fun e=>I (e ▸ Q)⟩
theorem KMet.end_ {l:LI} {a:Lit->Bool} {o:LI} (h:KMet l a o) (s:∀kl,a kl=false):o.Perm (Hd.keys l) :=
 (List.perm_ext_iff_of_nodup h.nodup (Hd.nodup_keys l)).2 fun x=>⟨fun i=>Hd.mem_keys.2 (h.good x i).1,fun i=>h.gone x (Hd.mem_keys.1 i) (s _)⟩
theorem a9C:∀(a l:LI),a.Nodup->(∀x∈a,x∈l)->a.length<=l.length
 |[],_,_,_=>Vb _
 |x::a,l,hn,hs=>by
  have i:=hs x (XN);have s:=a9C a (l.erase x) (KB.1 hn).2 (fun y o=>(List.mem_erase_of_ne (fun(e:y=x)=>(KB.1 hn).1 (by rw[<- e];exact o))).2 (hs y (XZ _ o)));rw[List.length_erase_of_mem i] at s;have E:0<l.length:=Jc i;simp only[Xl];omega
theorem KMet.len {l:LI} {a:Lit->Bool} {i:LI} (h:KMet l a i):i.length<=l.length:=by
 exact a9C i l h.nodup fun x o=>(h.good x o).1
namespace Hd
def firstH (l:List Hld) (i:Nat):Bool:=!(l.take i).any (fun y=>decide (y.hdr=(hat l i).hdr))
def totalR (l:List Hld) (e d:Int):Nat->Int
 |0=>0
 |k+1=>if firstH l k then totalR l e d k+at_ l (hat l k).hdr e d else totalR l e d k
theorem hat_lt {l:List Hld} {i:Nat} (h:i<l.length):hat l i=l[i]:=by unfold hat;simp[h]
theorem b0G (l:LI) (x:Int):keys (l++[x])=if x∈l then keys l else keys l++[x]:=by
 unfold keys;rw[List.eraseDups_append]
 by_cases h:x∈l
 ·rw[Vt h]
  have:List.removeAll [x] l=[]:=by simp[List.removeAll,h]
  rw[this];simp
 ·rw[VB h]
  have:List.removeAll [x] l=[x]:=by simp[List.removeAll,h]
  rw[this];simp[KN]
theorem a5L (l:List Hld) (e d:Int):∀k,k<=l.length->totalR l e d k=((keys ((l.take k).map (·.hdr))).map (fun h=>at_ l h e d)).sum
 |0,_=>by simp[totalR,keys]
 |k+1,hk=>by
  unfold totalR;rw[a5L l e d k oM,tse (by omega:k<l.length),Xn,X5,ZB,b0G,hat_lt (by omega:k<l.length)]
  have i:firstH l k ↔ ¬ (l[k].hdr∈(l.take k).map (·.hdr)):=by
   unfold firstH;rw[hat_lt (by omega:k<l.length),J9,Z9,Yg]
   constructor
   ·rintro h ⟨x,a,e⟩;exact h x a (by simpa using e)
   ·intro h x a e;exact h ⟨x,a,by simpa using e⟩
  by_cases h:firstH l k
  ·rw[Vt h,VB (i.1 h)]
   simp
  ·rw[VB h,Vt (by by_cases g:l[k].hdr∈(l.take k).map (·.hdr);exact g;exact absurd (i.2 g) h)]
theorem a5K (l:List Hld) (e d:Int):totalR l e d l.length=total l e d:=by
 rw[a5L l e d _ lR,Xs];rfl
theorem a2b (d a:Int):∀(l:List Hld) (s:Option (Int × Int)),(∀x∈l,(x.date<=d ↔ x.date<=a))->l.foldl (see d) s=l.foldl (see a) s
 |[],_,_=>rfl
 |x::l,s,h=>by
  show l.foldl (see d) (see d s x)=l.foldl (see a) (see a s x)
  have i:see d s x=see a s x:=by
   unfold see;have:=h x (XN);have e:decide (x.date<=d)=decide (x.date<=a):=by rw[XX];simpa using this
   rw[e]
  rw[i];exact a2b d a l _ fun y o=>h y (XZ _ o)
theorem b3o (l:List Hld) (h e d a:Int) (o:∀x∈l,x.ent=e->(x.date<=d ↔ x.date<=a)):at_ l h e d=at_ l h e a:=by
 unfold at_ last;rw[a2b d a];intro x i;rw[Yw] at i;refine o x i.1 ?_;have:=i.2;unfold pair at this;simp at this;exact this.2
theorem a6V (l:List Hld) (e d a:Int) (i:∀x∈l,x.ent=e->(x.date<=d ↔ x.date<=a)):total l e d=total l e a:=by
 unfold total
 congr 1
 exact ZH fun h _=>b3o l h e d a i
theorem a6p (d:Int):∀(l:List Hld),(∀x∈l,¬ x.date<=d)->l.foldl (see d) none=none
 |[],_=>rfl
 |x::l,h=>by
  show l.foldl (see d) (see d none x)=none;have a:see d none x=none:=by unfold see;rw[VB];simp[h x (XN)]
  rw[a];exact a6p d l fun y i=>h y (XZ _ i)
theorem a7J {α:Type} (f:α->Int):∀(l:List α),(∀x∈l,f x=0)->(l.map f).sum=0
 |[],_=>rfl
 |x::l,h=>by rw[X5,QS,h x (XN),a7J f l fun y a=>h y (XZ _ a)];rfl
theorem a8o (l:List Hld) (e d:Int) (i:∀x∈l,x.ent=e->¬ x.date<=d):total l e d=0:=by
 unfold total;refine a7J _ _ fun h _=>?_;unfold at_ last;rw[a6p]
 ·rfl
 ·intro x a
  rw[Yw] at a;refine i x a.1 ?_;have:=a.2;unfold pair at this;simp at this;exact this.2
theorem latest (e d:Int):∀(l:List Hld),(∃x∈l,x.ent=e/\x.date<=d)->∃x∈l,x.ent=e/\x.date<=d/\∀y∈l,y.ent=e->y.date<=d->y.date<=x.date
 |[],h=>by obtain⟨x,E,_⟩:=h;cases E
 |a::l,h=>by
  by_cases O:∃x∈l,x.ent=e/\x.date<=d
  ·obtain⟨x,E,I,J,Q⟩:=latest e d l O
   by_cases L:a.ent=e/\a.date<=d/\x.date<a.date
   ·refine⟨a,XN,L.1,L.2.1,fun y s i o=>?_⟩
    rcases Yt.1 s with rfl|s
    ·exact J7 _
    ·have:=Q y s i o;omega
   ·refine⟨x,XZ _ E,I,J,fun y s i o=>?_⟩
    rcases Yt.1 s with rfl|s
    ·have:¬ x.date<y.date:=fun q=>L ⟨i,o,q⟩
     omega
    ·exact Q y s i o
  ·obtain⟨x,E,I,J⟩:=h
   rcases Yt.1 E with rfl|E
   ·refine⟨x,XN,I,J,fun y s i o=>?_⟩
    rcases Yt.1 s with rfl|s
    ·exact J7 _
    ·exact absurd ⟨y,s,i,o⟩ O
   ·exact absurd ⟨x,E,I,J⟩ O
theorem b0w {l:List Hld} {d:Int}:d∈dates l ↔ ∃x∈l,x.date=d:=by
 unfold dates;rw[Qq,mem_keys,Yg]
def okAll (n:Nat) (l:List Hld):Bool:=(List.range l.length).all (keyAt n l)
def lowAt (l:List Hld) (i:Nat):Bool:=decide (totalR l (hat l i).ent (hat l i).date l.length<=10000)
def validR (n:Nat) (l:List Hld):Bool :=
 decide (1<=n/\n<=12)&&decide (l.length<=200)&&okAll n l&&(List.range l.length).all (lowAt l)
theorem b4C {n:Nat} {l:List Hld} (h:okAll n l):∀x∈l,0<=x.ent/\x.ent<n:=by
 intro x E;obtain⟨i,s,rfl⟩:=XD E;unfold okAll at h;rw[Xb] at h;have a:=h i (XK.2 s);unfold keyAt at a;rw[hat_lt s] at a;simp only[Vp] at a;have o:=a.1;unfold proper at o;simp only[Vp,Xm] at o;omega
theorem valid_eq (n:Nat) (l:List Hld):valid n l=validR n l:=by
 unfold valid validR;have X:(List.range l.length).all (keyAt n l)=okAll n l:=rfl;rw[X]
 cases ho:okAll n l with
 |false=>simp
 |true =>
  congr 1
  rw[XX,Xb,Xb];have E:=b4C ho
  constructor
  ·intro h i O
   have J:=XK.1 O;have o:=Vm J;have a:=h l[i].date (b0w.2 ⟨_,o,rfl⟩);unfold most at a;rw[Xb] at a;have T:=E _ o;have s:=a l[i].ent.toNat (XK.2 oM);unfold lowAt;rw[a5K,hat_lt J];rw[KM T.1] at s;exact s
  ·intro h d hd
   unfold most;rw[Xb];intro e T
   have L:∀x∈l,total l x.ent x.date<=10000:=by
    intro x o;obtain⟨i,O,rfl⟩:=XD o;have a:=h i (XK.2 O);unfold lowAt at a;rw[a5K,hat_lt O] at a;simpa using a
   by_cases I:∃x∈l,x.ent=e/\x.date<=d
   ·obtain⟨x,o,a,s,W⟩:=latest e d l I
    have S:=L x o;rw[a] at S;rw[a6V l e d x.date]
    ·simpa using S
    ·intro y hy Q
     constructor
     ·exact fun q=>W y hy Q q
     ·intro q;omega
   ·rw[a8o l e d fun x o a s=>I ⟨x,o,a,s⟩]
    decide
def BestIs (l:List Hld) (h e d:Int) (i:Nat) (b:Int):Prop :=
 (b=-1/\((l.take i).filter (pair h e)).foldl (see d) none=none)∨∃k,∃a:k<l.length,k<i/\b=k/\((l.take i).filter (pair h e)).foldl (see d) none=some (l[k].shr,l[k].date)
theorem BestIs.skip {l:List Hld} {h e d:Int} {i:Nat} {b:Int} (L:BestIs l h e d i b) (O:i<l.length) (a:see d (((l.take i).filter (pair h e)).foldl (see d) none) l[i]=((l.take i).filter (pair h e)).foldl (see d) none∨pair h e l[i]=false):BestIs l h e d (i+1) b:=by
 have I:((l.take (i+1)).filter (pair h e)).foldl (see d) none=((l.take i).filter (pair h e)).foldl (see d) none:=by
  rw[tse O,Yq,YH]
  cases s:pair h e l[i] with
  |false=>simp[s]
  |true =>
   rcases a with a|a
   ·simp[s,a]
   ·rw[s] at a;cases a
 rcases L with⟨E,o⟩|⟨k,Q,E,o,J⟩
 ·exact .inl ⟨E,by rw[I];exact o⟩
 ·exact .inr ⟨k,Q,oM,o,by rw[I];exact J⟩
theorem BestIs.take {l:List Hld} {h e d:Int} {i:Nat} {b:Int} (_:BestIs l h e d i b) (a:i<l.length) (s:pair h e l[i]) (o:see d (((l.take i).filter (pair h e)).foldl (see d) none) l[i]=some (l[i].shr,l[i].date)):BestIs l h e d (i+1) i:=by
 refine .inr ⟨i,a,oM,rfl,?_⟩;rw[tse a,Yq,YH];simp[s,o]
end Hd
theorem HldsAt.four {w:World} {B:Nat} {A:OA} {l:List Hld} (h:RowsAt Hld.cells 4 w B A l) {k:Nat} (s:k<l.length):∃b o,A=some ⟨b,o,none⟩/\b<B/\w.cell? ⟨b,o+k*4,none⟩=some (.int .i64 l[k].hdr)/\w.cell? ⟨b,o+k*4+1,none⟩=some (.int .i64 l[k].ent)/\w.cell? ⟨b,o+k*4+2,none⟩=some (.int .i64 l[k].date)/\w.cell? ⟨b,o+k*4+3,none⟩=some (.int .i64 l[k].shr):=by
 obtain⟨b,o,e,i,a⟩:=RowsAt.look h s;exact⟨b,o,e,i,a 0 _ rfl,a 1 _ rfl,a 2 _ rfl,a 3 _ rfl⟩
theorem a3a:(prog.info? 43).map (·.size)=some 4:=kR
theorem b3u (f:Int->Int) (a:∀x,0<=f x/\f x<=10000):∀l:LI,0<=(l.map f).sum/\(l.map f).sum<=10000*l.length
 |[]=>sP
 |x::l=>by
  have i:=b3u f a l;have o:=a x;simp only[X5,QS,Xl];omega
theorem a9x (A:OA) (n c:Nat) (l:List Hld) (e d:Int) (hl:l.length=n) (hn:n<=1000) (hw:∀x∈l,(Lit.int .i64 x.hdr).wf) (hs:∀x∈l,0<=x.shr/\x.shr<=10000) (hA:RowsAt Hld.cells 4 w w A l) :
  CL 69 #[.slice A n c,e,d] w (Hd.total l e d):=by
 obtain⟨HA,Hl,HS,HW,a8,a6⟩:=Z6 hA hl hs hw (KeysAt.made w) ((VM w w).alloc lR (.map #[] 0));have bc:=@ZS prog;clear hA hl hs hw;go_enter func69,ntmps69;go_wp2
 go_loopw [15] (fun i wr=>∃k:Nat,k<=n/\i=k/\KeysAt wr w ((l.take k).map (·.hdr))/\Below w w wr) (fun i _=>n-(intOf i).toNat)
 case atStart=>exact⟨0,Vb _,rfl,a8,a6⟩
 case round =>
  obtain⟨k,hk,rfl,hm,T⟩:=hrel;have Hm:=Z1 hm;have b0:=hm.lt;clear hm
  by_cases bb:k<n
  ·have ah:k<l.length:=by have:=Hl.out;omega
   obtain⟨b,o,rfl,b7,hr⟩:=RowsAt.look (RowsAt.below HA T lR) ah;obtain⟨x,hx⟩:=eX (l[k]);rw[<- hx] at hr;have J:=HW.out x (by rw[hx];exact Vm _);have b9:b<wr:=by have:=T.size;omega
   have s:Hid ((l.take (k+1)).map (·.hdr)=(l.take k).map (·.hdr)++[x.hdr]):=by show _=_;rw[tse ah,<- hx];simp
   obtain⟨h,hh⟩:=eX x.hdr;rw[<- hh] at s J;have hcells:x.cells=[.int .i64 h,.int .i64 x.ent,.int .i64 x.date,.int .i64 x.shr]:=by rw[hh];rfl
   rw[hcells] at hr;have Hr:=Z1 hr;have ae:=(VM wr wr).alloc lR (.cells #[h,x.ent,x.date,x.shr] 43);have av:=Z1 (Hm.below ae b0);have b1:((l.take k).map (·.hdr)).length<maxLen:=by rw[Xt,XF];unfold maxLen;omega
   have aw:=Z1 J;have ar:=Z1 (T.alloc T.size (.cells #[h,x.ent,x.date,x.shr] 43));have hq:=T.size;clear hr hx hh hcells ae J;go_wp2_with (first|(refine VH rfl 43 (.tmp 17) rfl b (o+k*4) rfl [h,x.ent,x.date,x.shr] _ Hr ZN rfl a3a ?_)|(at_mapUpdate;refine a1R rfl _ _ _ rfl av rfl b1 h aw rfl rfl ?_;intro w7 aj az));rw[<- s] at aj;have ay:=ar.out.grown az sO (fun j hj=>by cases hj;exact lR);go_wp2;go_roundw
   case rel=>exact⟨k+1,oM,by go_num,aj,ay⟩
   case measure=>exact mS
  obtain rfl:k=n:=oM;have an:l.take k=l:=Vg (by have:=Hl.out;omega);have hm:=Hm.out;rw[an] at hm;obtain⟨D,hD,hS⟩:=hm;obtain⟨nn,ak⟩:=eX ((l.map (·.hdr)).length);rw[<- ak] at hD;have HD:=Z1 hD;have a7:=Z1 hS;have b8:=hD.lt;clear ak an hD hS a8 a6 Hm;have au:Hid ((l.map (·.hdr)).length=k):=by show _=_;rw[Xt];exact Hl
  go_wp2_with (at_range;refine wpList_range_own _ rfl _ 209 rfl 3 4 intLaw JQ _ w nn _ rfl HD ?_;intro w0 a0 af b2);obtain⟨wo,rfl⟩:=eX wr
  go_frame
  go_loopw [10] (fun v ws=>∃(L:Lit->Bool) (ac:Nat) (Q:LI),ws.ranges prog 3 (plainElem prog 4) w wo nn D L ac /\
    KMet (l.map (·.hdr)) L Q/\v=.int .i64 ((Q.map (fun h=>Hd.at_ l h e d)).sum)/\Below w w ws/\(wo:Nat)<=ws)
   (fun _ ws=>ws.rangeLeft w wo)
  case atStart =>
   refine⟨_,_,[],a0,⟨fun x hx E=>?_,sP,List.nodup_nil⟩,rfl,T.grown af T.size (fun j hj=>by cases hj),oM⟩;obtain⟨y,hy,e0⟩:=Yg.1 hx;rw[a7.2 x (by rw[<- e0];exact HW y hy)] at E;simp at E;exact absurd e0 (E y hy)
  case round =>
   obtain⟨ws,rfl⟩:=eX wr;obtain⟨L,ac,Q,al,hC,rfl,a5,bg⟩:=hrel;have HC:=Z1 hC;have aa:=Z1 al;clear hC al a0 b2 af;go_upto_region 10 with(at_next;refine a1Q rfl _ rfl w wo nn _ _ _ rfl aa ?_ ?_)
   ·skip
    intro _ E
    have HV:Hid ((Q.map (fun h=>Hd.at_ l h e d)).sum=Hd.total l e d):=by
     show _=_;exact Hd.sum_perm ((HC.end_ E).map _)
    clear E HC;go_wp2;go_ret;exact⟨by rw[HV];rfl,a5⟩
   ·skip
    intro x cc w2 ad J ai I a4 X ag b3 ba;rw[a7.2 x J] at I;have ao:x∈l.map (·.hdr):=by simpa using I
    have aq:=Z1 (HC.step ao ai);have ab:=Z1 a4;have O:=a5.grown ag a5.size (fun j hj=>by cases hj;exact T.size);have ax:=Z1 (RowsAt.more (RowsAt.below HA O lR) O.size);have Ha:=Z1 (a4N w2 A k c l x e d Hl hn ax.out);have am:=b3u (fun h=>Hd.at_ l h e d) (fun h=>Hd.at_bd l h e d HS) Q;have b4:=HC.out.len;rw[au] at b4;have ap:=Hd.at_bd l x e d HS;have s:Hid (((Q++[x]).map (fun h=>Hd.at_ l h e d)).sum=(Q.map (fun h=>Hd.at_ l h e d)).sum+Hd.at_ l x e d):=by show _=_;simp
    obtain⟨t,ht⟩:=eX ((Q.map (fun h=>Hd.at_ l h e d)).sum);obtain⟨y,hy⟩:=eX (Hd.at_ l x e d);rw[<- ht] at am s⊢;rw[<- hy] at ap s Ha;have be:-9223372036854775808<=t+y:=oM;have bf:t+y<=9223372036854775807:=oM;have a9:=Z1 X;have b5:(wo:Nat)<=w2:=oM;clear b3 I ao ai a4 ag ht hy am ap X;go_wp2_with (fail);refine Ha.mono ?_;rintro ev w3 ⟨rfl,a⟩;have b6:=a.size;have W:w2.grownBy w3 none:=⟨a.os,a.tape,a.output,a.size,fun i hi _=>a.block i hi⟩;have S:=Z1 (ab.kept W sP sP);clear W;go_wp2;go_roundw
    case rel=>exact⟨_,ad,Q++[x],S,aq,by rw[s],O.trans (a.mono O.size),oM⟩
    case measure=>rw[S.left_eq,aa.left_eq];exact a9
open Go.Sort
theorem sortsZ (m:Nat):AnyZI.SortsIn prog Tryz.sortedA_ren Fence.wide m :=
 ⟨fun o off a I W E i s=>XL.2 (AnyM.slices_Sort_int Tryz.sortA o off a I W E i s),
  fun p a W=>XL.2 (AnyM.slices_Sort_int_none Tryz.sortA p a W)⟩
theorem KeysIs.keys {w:World} {b n:Nat} {D:DataW Value} {l:LI} (h:KeysIs D l) (s:w.ownsMap prog 3 (plainElem prog 4) b n D) (O:∀x∈l,(Lit.int .i64 x).wf):(intKeys D).Perm (Hd.keys l):=by
 have I:CollectedI D (fun _=>false) (Hd.keys l):=by
  refine⟨Hd.nodup_keys l,fun x=>?_⟩;rw[Hd.mem_keys]
  constructor
  ·intro a
   refine⟨?_,rfl⟩;rw[h.2 x (O x a)];simpa using a
  ·rintro⟨a,_⟩
   have o:(Lit.int .i64 x).wf:=by
    obtain⟨S,rfl,i⟩:=s.keysOf;rw[has_eq,YY] at a;obtain⟨p,L,E⟩:=a;obtain⟨v,hv⟩:=i p L;obtain⟨y,_,Q,J⟩:=Maps.keyOf_i64 YM hv;rw[Q] at E;have:y=x:=by simpa[Lit.sameKey] using E
    rw[<- this];exact J
   have:=h.2 x o;rw[a] at this;simpa using this.symm
 exact(I.perm s intLaw YM (fun _=>rfl)).symm
def DatesPost (l:LI) (w:World) (e:Ending) (w':World):Prop :=
 Below w w w'/\∃A c,Fresh w A/\e=.returned (.slice A l.length c)/\RowsAt icell 1 w' w' A l
def DatesTy (l:LI) (w:World) (e:Ending) (w':World):Prop :=
 Below w w w'/\∃A c,(Fresh w A/\RowsTy 3 w' A l)/\e=.returned (.slice A l.length c)/\RowsAt icell 1 w' w' A l
theorem b0F (mb:Option Nat):Calls prog 124 #[.map mb] w fun e w'=>e=.returned (.func (.func 177) #[] #[.pointer (some ⟨w,0,none⟩)])/\w'=w.alloc (.cells #[.map mb] 209) :=
 (XL (n:=5)).1 (AnyZI.keys_in Tryz.keysA Fence.wide 5 trivial rfl mb w)
theorem a6Z (b L:Nat) (D:DataW Value) (E:w.ownsMap prog 3 (plainElem prog 4) b L D) (hn:Maps.size D<=1000) :
  Calls prog 123 #[.func (.func 177) #[] #[.pointer (some ⟨w,0,none⟩)]] (w.alloc (.cells #[.map (some b)] 209)) fun e w'=>∃(v:Value) (o:LI),e=.returned v/\o.Perm (intKeys D) /\
   w'.ownsRow (w+1) 3 1 v o.length ((o.mergeSort (fun x y=>decide (x<=y))).map (Value.int .i64))/\Below (w+1) (w.alloc (.cells #[.map (some b)] 209)) w':=by
 have J:=E.lt
 have s:SeqGives Fence.wide 2 prog 177 #[.pointer (some ⟨w,0,none⟩)] encZ (fun o=>o.Perm (intKeys D)) (Maps.size D) (w.alloc (.cells #[.map (some b)] 209)) :=
  AnyZI.keys_gives (ρ:=Tryz.keysA_ren) { Tryz.keysA with} Fence.wide _ trivial rfl oM w b L _ _ sP sP (by
   obtain⟨T,i,I,O,X,E⟩:=E;exact⟨T,i,(VD _ _ b J).trans I,O,X,E⟩)
 have Q:=AnyZI.sorted_in Tryz.sortedA Fence.wide 5 trivial trivial trivial trivial rfl oM (sortsZ _) (enters_of func176 kR rfl) 177 #[.pointer (some ⟨w,0,none⟩)] trivial (enters_of func177 kR rfl) _ _ (by unfold maxLen;omega) oM _ s;refine((XL (n:=5)).1 Q).mono ?_;rintro e w' ⟨v,o,rfl,W,a,_,I⟩;have S:(w.alloc (.cells #[.map (some b)] 209)).heap.size=w.heap.size+1:=sP;rw[S] at a I;exact⟨v,o,rfl,W,a,I⟩
theorem a4h (A:OA) (n c:Nat) (l:List Hld) (hl:l.length=n) (hn:n<=1000) (hw:∀x∈l,(Lit.int .i64 x.date).wf) (hA:RowsAt Hld.cells 4 w w A l) :
  Calls prog 68 #[.slice A n c] w (DatesTy (Hd.dates l) w):=by
 obtain⟨HA,Hl,HW,T,S⟩:=Z5 hA hl hw (KeysAt.made w) ((VM w w).alloc lR (.map #[] 0));have av:=@ZS prog;clear hA hl hw;go_enter func68,ntmps68;go_wp2
 go_loopw [9] (fun i wr=>∃k:Nat,k<=n/\i=k/\KeysAt wr w ((l.take k).map (·.date))/\Below w w wr) (fun i _=>n-(intOf i).toNat)
 case atStart=>exact⟨0,Vb _,rfl,T,S⟩
 case round =>
  obtain⟨k,hk,rfl,O,I⟩:=hrel;have Hm:=Z1 O;have an:=O.lt;clear O
  by_cases au:k<n
  ·have a7:k<l.length:=by have:=Hl.out;omega
   obtain⟨b,o,rfl,aq,hr⟩:=RowsAt.look (RowsAt.below HA I lR) a7;obtain⟨x,Q⟩:=eX (l[k]);rw[<- Q] at hr;have L:=HW.out x (by rw[Q];exact Vm _);have ar:b<wr:=by have:=I.size;omega
   have X:Hid ((l.take (k+1)).map (·.date)=(l.take k).map (·.date)++[x.date]):=by show _=_;rw[tse a7,<- Q];simp
   obtain⟨h,hh⟩:=eX x.date;rw[<- hh] at X L;have hcells:x.cells=[.int .i64 x.hdr,.int .i64 x.ent,.int .i64 h,.int .i64 x.shr]:=by rw[hh];rfl
   rw[hcells] at hr;have Hr:=Z1 hr;have a4:=(VM wr wr).alloc lR (.cells #[x.hdr,x.ent,h,x.shr] 43);have ah:=Z1 (Hm.below a4 an);have ao:((l.take k).map (·.date)).length<maxLen:=by rw[Xt,XF];unfold maxLen;omega
   have ai:=Z1 L;have af:=Z1 (I.alloc I.size (.cells #[x.hdr,x.ent,h,x.shr] 43));have hq:=I.size;clear hr Q hh hcells a4 L;go_wp2_with (first|(refine VH rfl 43 (.tmp 11) rfl b (o+k*4) rfl [x.hdr,x.ent,h,x.shr] _ Hr ZN rfl a3a ?_)|(at_mapUpdate;refine a1R rfl _ _ _ rfl ah rfl ao h ai rfl rfl ?_;intro w7 a8 am));rw[<- X] at a8;have aj:=af.out.grown am sO (fun j hj=>by cases hj;exact lR);go_wp2;go_roundw
   case rel=>exact⟨k+1,oM,by go_num,a8,aj⟩
   case measure=>exact mS
  obtain rfl:k=n:=oM;have a9:l.take k=l:=Vg (by have:=Hl.out;omega);have O:=Hm.out;rw[a9] at O;obtain⟨D,hD,hS⟩:=O;have al:(l.map (·.date)).length=k:=by rw[Xt];exact Hl
  have ap:=hD.size_le;have Hk:=Z1 (b0F wr (some w));have Hs:=Z1 (a6Z wr w _ D hD oM);have E:=Z1 (hS.keys hD (fun x Q=>by obtain⟨y,hy,rfl⟩:=Yg.1 Q;exact HW y hy));have ak:=I.size;clear a9 hD hS T S Hm ap al;go_wp2_with (fail);refine Hk.mono ?_;rintro e W2 ⟨rfl,rfl⟩;go_wp2_with (fail);refine Hs.mono ?_;rintro e W3 ⟨v,ss,rfl,hS,a,a5⟩;have J:ss.mergeSort (fun x y=>decide (x<=y))=Hd.dates l:=mergeSort_of_perm_i (hS.trans E);have s:ss.length=(Hd.dates l).length:=by rw[<- J,Kn]
  rw[J] at a
  have a6:(Hd.dates l).map (Value.int .i64)=(Hd.dates l).flatMap icell:=by
   have:∀m:LI,m.map (Value.int .i64)=m.flatMap icell:=fun m=>by induction m with|nil=>rfl|cons x m ih=>rw[X5,XB,ih];rfl
   exact this _
  rw[a6] at a;obtain⟨A',c',e',a0⟩:=Xw (f:=icell) dC (fun _=>rfl) a s
  have ag:Hid (Fresh w A'):=by
   rw[e'] at a;exact Z1 (fun ad h=>by have:=a0K a ad h;omega)
  have ab:=Z1 a0;have aa:RowsTy 3 W3 A' (Hd.dates l):=by rw[e'] at a;exact a3j a s
  have ae:=Z1 aa;clear aa;have ac:Hid (Below w w W3):=Z1 ((I.alloc ak _).trans (a5.mono oM));have W:=Z1 s;subst e';clear a J a6 a0 a5 hS s;go_wp2;go_ret;exact⟨ac,A',c',⟨ag,ae⟩,by first|rfl|(rw[W];rfl),ab⟩
theorem b1f (A:OA) (n c:Nat) (l:List Hld) (J:l.length=n) (L:n<=1000) (O:∀x∈l,(Lit.int .i64 x.date).wf) (s:RowsAt Hld.cells 4 w w A l) :
  Calls prog 68 #[.slice A n c] w (DatesPost (Hd.dates l) w) :=
 (a4h w A n c l J L O s).mono fun _ _ ⟨h,i,o,I,E,a⟩=>⟨h,i,o,I.1,E,a⟩
end Go.Proofs.YtbhdekahdnenjaaGreatDoor
