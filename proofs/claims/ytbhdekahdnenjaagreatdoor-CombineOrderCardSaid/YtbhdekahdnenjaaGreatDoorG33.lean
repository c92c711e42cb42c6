/- Lemmas. -/
import Derived.WalkSmall
import Derived.Test.YtbhdekahdnenjaaGreatDoorG32
set_option linter.unusedVariables false
set_option linter.unusedSimpArgs false
set_option maxRecDepth 100000
set_option maxHeartbeats 16000000
namespace Go.Proofs.YtbhdekahdnenjaaGreatDoor
open Go.Proofs.Tryz Go.RowKit Go.Shelf
variable (w:World)
attribute [local go_sem] Oper.semAt_some
theorem bit16z (set q:Nat) (i:set<65536):(bits .and .u16 ((set:Int) / 2 ^ q) 1==0)=!set.testBit q:=by
 have e:((set:Int) / 2 ^ q)=((set / 2 ^ q:Nat):Int):=by rw[Int.natCast_ediv,QW];rfl
 have h:=a2Q (set / 2 ^ q) 1 (Jd (Nat.div_le_self _ _) i) oM;have a:((1:Nat):Int)=1:=rfl;rw[a] at h;rw[e,h,Nat.and_one_is_mod,Kj,XX];simp;omega
theorem a2e (a b:Nat) (s:a<65536) (E:b<65536):bits .or .u16 (a:Int) (b:Int)=((a ||| b:Nat):Int):=by
 have I:a ||| b<2 ^ 16:=Kv oM oM
 have i:(BitVec.ofInt 16 (a:Int)).toNat=a:=by
  rw[JW,JL];exact Jb oM
 have o:(BitVec.ofInt 16 (b:Int)).toNat=b:=by
  rw[JW,JL];exact Jb oM
 show IntKind.u16.wrap ((BitVec.ofInt 16 (a:Int) ||| BitVec.ofInt 16 (b:Int)).toNat:Int)=_;rw[BitVec.toNat_or,i,o,a3E];omega
theorem a5w (m:List (List Int)) (a:Nat):∀k,Ct.fresh m a k<2 ^ k
 |0=>by simp[Ct.fresh]
 |k+1=>by
  have h:=a5w m a k;have i:2 ^ k<2 ^ (k+1):=Nat.pow_lt_pow_right oM oM;unfold Ct.fresh
  split
  ·exact Kv oM i
  ·omega
theorem a4a (m:List (List Int)) (a e:Nat):∀k,(Ct.fresh m a k).testBit e->a.testBit e=false
 |0,h=>by simp[Ct.fresh] at h
 |k+1,h=>by
  unfold Ct.fresh at h
  split at h
  case isTrue hc =>
   rw[QM,QK] at h
   rcases h with h|h
   ·exact a4a m a e k h
   ·rw[Nat.testBit_two_pow] at h
    have:k=e:=by simpa using h
    rw[<- this];exact hc.1
  ·exact a4a m a e k h
theorem a9f (m:List (List Int)) (a k:Nat) (h:Ct.fresh m a k≠0):a<a ||| Ct.fresh m a k:=by
 have E:a<=a ||| Ct.fresh m a k:=Nat.left_le_or
 rcases Nat.lt_or_eq_of_le E with i|i
 ·exact i
 ·obtain⟨e,s⟩:=Nat.exists_testBit_of_ne_zero h
  have o:=a4a m a e k s;rw[i,QM,s] at o;simp at o
theorem MatI.keepR {w w':World} {B n lo E:Nat} {A:OA} {r k:Nat} {m:List IRow} (h:MatI w B A r k m) (s:KeepR n lo E w w') (i:B<=n) (o:B<=lo):MatI w' B A r k m :=
 ⟨h.hl,h.hA.keepR s i o,fun x a=>⟨⟨(h.hx x a).1.hl,(h.hx x a).1.hA.keepR s i o⟩,(h.hx x a).2⟩⟩
theorem MatI.more {w:World} {B C:Nat} {A:OA} {r k:Nat} {m:List IRow} (h:MatI w B A r k m) (a:B<=C):MatI w C A r k m :=
 ⟨h.hl,h.hA.more a,fun x i=>⟨(h.hx x i).1.more a,(h.hx x i).2⟩⟩
theorem MatI.below {w w':World} {B C:Nat} {A:OA} {r k:Nat} {m:List IRow} (h:MatI w B A r k m) (i:Below C w w') (a:B<=C):MatI w' B A r k m :=
 ⟨h.hl,RowsAt.below h.hA i a,fun x o=>⟨(h.hx x o).1.below i a,(h.hx x o).2⟩⟩
def encS (x:Nat × Nat):Array Value:=#[.int .i64 x.1,.int .u16 ((x.2 % 4096:Nat):Int)]
theorem a5O (A:OA) (n c:Nat) :
  Calls prog 271 #[.slice A n c] w fun ev w' =>
   ev=.returned (.func (.func 290) #[] #[.pointer (some ⟨w,0,none⟩)])/\w'=w.alloc (.cells #[.slice A n c] 222):=by
 go_enter func271,ntmps271;go_wp2;go_ret;exact⟨rfl,rfl⟩
theorem a9D (m:Nat) (hm:1<=m) (l n₀ lo hi:Nat) (T:Nat) (A:OA) (n c:Nat) (M:List IRow) (hn:n<=12)
  (q:Nat) (hq:q<=n₀) (an:q<=lo) (ao:T<n₀) (ap:T<lo∨hi<=T) (a8:∀r∈M,∀x∈r.l,0<=x/\x<=10000)
  (J Jx:List (Nat × Nat)->World->Prop) (W:World) (hW:n₀<=W)
  (hY:∀pre x W1,J pre W1->pre.length<5000->YieldAt Fence.wide (m-1) prog l (encS x) W1 fun e W' =>
   (e=.returned (.bool true)/\J (pre++[x]) W'/\(KeepR n₀ lo hi W1 W'/\(W1:Nat)<=W'))∨(e=.returned (.bool false)/\Jx (pre++[x]) W'))
  (c0:W.cell? ⟨T,0,none⟩=some (.slice A n c)) (hM:MatI W q A n n M) (h0:J [] W) :
  CallsIn Fence.wide m prog 290 #[.func (.yield l) #[] #[],.pointer (some ⟨T,0,none⟩)] W fun e W'=>(∃v,e=.returned v) /\
   ((∃ys:List (Nat × Nat),ys.map (fun x=>x.2 % 4096)=Ct.steps (matL M)/\J ys W')∨(∃pre,True/\Jx pre W')):=by
 refine Qr func290 rfl trivial ?_ rfl;simp only[ntmps290,Yn,Xl,Y8,Nat.reduceAdd,Nat.reduceSub,Yr,Yl,YT,YW,Xr,XM];have HM:=Z1 hM;have ai:=Z1 a8;have ae:(matL M).length=n:=by simp[matL,hM.hl]
 have a0:=Z1 ae;clear hM a8 ae
 gi_wp2
 gi_loopw [3,4,5] (fun va vf vi wr=>∃(a f i K:Nat) (pre:List (Nat × Nat)),va=.int .u16 a/\vf=.int .u16 f/\vi=i/\a<4096/\f<4096/\(f≠0->4097<=K+a) /\
   Hid (pre.map (fun x=>x.2 % 4096)++Ct.sets (matL M) K a f=Ct.steps (matL M))/\pre.length=i/\i+K<=4100/\J pre wr/\KeepR n₀ lo hi W wr/\(W:Nat)<=wr)
  (fun va vf _ _=>if(intOf vf).toNat=0 then 0 else 4100-(intOf va).toNat)
 case atStart=>exact⟨1,1,0,4100,[],rfl,rfl,rfl,oM,oM,oM,Z1 rfl,rfl,oM,h0,KeepR.refl _ _ _ _,lR⟩
 case round =>
  obtain⟨a,f,i,K,pre,rfl,rfl,rfl,ha,hf,ab,HS,au,b1,Q,a6,b3⟩:=hrel
  by_cases hz:f=0
  ·have hS:=HS.out
   have L:Ct.sets (matL M) K a f=[]:=by cases K <;> simp[Ct.sets,hz]
   rw[L,XG] at hS;have O:=Z1 hS;subst hz;clear hS L hY
   gi_wp2
   refine⟨fun _ _=>trivial,?_⟩
   gi_wp2
   go_end0
   exact⟨⟨_,rfl⟩,.inl ⟨_,O,Q⟩⟩
  have b5:((f:Int) != 0):=sO;have aw:=ab hz;obtain⟨fn,ay,ah,av,hy,hR⟩:=hY pre (i,f) wr Q oM;have aa:f % 4096=f:=Jb hf;unfold encS at hy;simp only[aa] at hy
  gi_wp2
  refine hR.mono ?_;rintro ev W3 (⟨rfl,a4,ad,b2⟩|⟨rfl,a5⟩)
  case inr =>
   gi_wp2
   go_end0
   exact⟨⟨_,rfl⟩,.inr ⟨_,trivial,a5⟩⟩
  have E:=a6.trans ad;have a7:=(HM.keepR E hq an).more (show q<=W3 by omega);have e1:=(E.cell ao ap 0).trans c0;have f1:T<W3:=oM;obtain⟨al,aj,ak⟩:=Z3 a7 a4 E;have af:(W:Nat)<=W3:=oM;clear a7 hy hR hY a4 ad E Q a6 c0
  gi_wp2
  gi_loop [4,20] (fun vf vk=>∃k:Nat,k<=n/\vk=k/\vf=.int .u16 (Ct.fresh (matL M) a k)) (fun _ vk=>n-(intOf vk).toNat)
  case atStart=>exact⟨0,Vb _,rfl,rfl⟩
  case round =>
   obtain⟨k,hk,rfl,rfl⟩:=hrel
   by_cases aq:k<n
   case neg =>
    obtain rfl:k=n:=oM;obtain⟨fr,o⟩:=eX (Ct.fresh (matL M) a k);have a9:fr<4096:=by rw[o];exact Xg (a5w _ _ _) (Nat.pow_le_pow_right (n:=2) oM hn)
    have ac:fr≠0->a<a ||| fr:=by rw[o];exact a9f _ _ _
    obtain⟨X,rfl⟩:∃X,K=X+1:=⟨K-1,oM⟩
    have O:Hid ((pre++[(i,f)]).map (fun x=>x.2 % 4096)++Ct.sets (matL M) X (a ||| fr) fr=Ct.steps (matL M)):=by
     have hS:=HS.out
     have L:Ct.sets (matL M) (X+1) a f=f::Ct.sets (matL M) X (a ||| fr) fr:=by
      rw[o,<- a0];simp[Ct.sets,hz]
     rw[L] at hS;show _=_;rw[<- hS,Xn];simp[aa]
    rw[<- o];have I:=a2e a fr oM oM;have ar:a ||| fr<4096:=Kv (n:=12) oM oM;have b0:(i:Int)+1<=9223372036854775807:=oM;have az:-9223372036854775808<=(i:Int)+1:=oM;clear o HS ab
    gi_wp2
    go_roundw
    case rel=>exact⟨a ||| fr,fr,i+1,X,pre++[(i,f)],rfl,rfl,by go_num,ar,a9,fun h=>by have:=ac h;omega,O,by simp[au],oM,aj,ak,af⟩
    case measure =>
     simp[intOf]
     by_cases h:fr=0
     ·simp[h,hz];omega
     ·have:=ac h;simp[h,hz];omega
   have hb:=bit16z a k oM
   have s:Hid (Ct.fresh (matL M) a (k+1)=if a.testBit k=false/\5000<Ct.votes (matL M) a k n then Ct.fresh (matL M) a k ||| 2 ^ k else Ct.fresh (matL M) a k):=by
    show _=_;rw[<- a0];rfl
   obtain⟨fr,o⟩:=eX (Ct.fresh (matL M) a k);have a9:fr<2 ^ k:=by rw[o];exact a5w _ _ _
   have ax:2 ^ k<=2048:=Nat.pow_le_pow_right (n:=2) oM (show k<=11 by omega);rw[<- o] at s⊢
   cases ht:a.testBit k with
   |true =>
    rw[ht] at hb;have H2:Hid (Ct.fresh (matL M) a (k+1)=fr):=by show _=_;rw[s,ht];simp
    clear ht o s;replace hb:_=false:=hb
    gi_wp2
    refine⟨trivial,?_⟩
    gi_wp2
    go_round
    case rel=>exact⟨k+1,oM,by go_num,by rw[H2]⟩
    case measure=>exact mS
   |false =>
    rw[ht] at hb;replace hb:_=true:=hb;have Hv:=Z1 (a5H W3 A n c n M a k al hn aq oM ai);obtain⟨vt,ag⟩:=eX (Ct.votes (matL M) a k n);rw[<- ag] at Hv s;rw[ht] at s;clear ht o ag
    gi_wp2
    refine⟨trivial,XL.2 (Hv.mono ?_)⟩;rintro ev w7 ⟨rfl,rfl⟩
    by_cases hv:5000<vt
    case neg =>
     have H2:Hid (Ct.fresh (matL M) a (k+1)=fr):=by show _=_;rw[s];simp[hv]
     have hd:decide (vt > 5000)=false:=sO;clear s
     gi_wp2
     go_round
     case rel=>exact⟨k+1,oM,by go_num,by rw[H2]⟩
     case measure=>exact mS
    have H2:Hid (Ct.fresh (matL M) a (k+1)=fr ||| 2 ^ k):=by show _=_;rw[s];simp[hv]
    have hd:decide (vt > 5000):=sO;have I:=a2e fr (2 ^ k) oM oM;have S:((2 ^ k:Nat):Int)=(2:Int) ^ k:=by rw[QW];rfl
    have b4:IntKind.u16.wrap ((2:Int) ^ k)=(2:Int) ^ k:=by rw[a3E,<- S];omega
    rw[S] at I;have am:=Z1 I;clear S I;clear s
    gi_wp2
    go_round
    case rel=>exact⟨k+1,oM,by go_num,by rw[H2,<- am]⟩
    case measure=>exact mS
attribute [local go_sem] Oper.semAt_some
theorem a1B {F:Fence} {nn:Nat} {P:Program} {w:World} {O:Array Oper} {I:List Oper} {o:Oper} {a:Act} {Q:Exit->Act->World->Prop} (hg:o.guard=none) (l c:Operand) (t:TypeId) (J:o.op=Op.makeSlice t l c)
  (K:IK) (e:TypeId) (i:TypeInfo) (s:Nat) (h1:P.underlying t=some (.slice e)) (S:P.info? e=some i) (h3:i.zero=some (.int K 0)) (h4:i.size=1) (h5:i.bytes=s)
  (kl X:IK) (L C:Int) (n m:Nat) (hl:a.eval l=.int kl L) (hc:a.eval c=.int X C) (hL:L=(n:Int)) (hC:C=(m:Int)) (a0:n<=m) (b1:s<=100) (b2:m<=10000000)
  (hK:∀w',Hid (w'=w.alloc (.cells ((List.replicate m (0:Int)).map (Value.int K)).toArray e))->wpListIn F nn P O Q I (a.put o.dst (.slice (some ⟨w,0,none⟩) n m)) w') :
  wpListIn F nn P O Q (o::I) a w:=by
 refine wpListIn_plain hg fun K' T=>?_;subst hL hC
 have hb:(i.bytes:Int)*(m:Int)<=281474976710656:=by
  rw[h5];have:s*m<=100*10000000:=ZL b1 b2;have S:((s*m:Nat):Int)<=1000000000:=oM;rw[KG] at S;omega
 have E:=run_make (P:=P) w t e i (.int K 0) h1 S h3 kl X (n:Int) (m:Int) oM oM hb oM;rw[h4,Nat.mul_one,ZZ,ZZ] at E;have hz:madeCells (Value.int K 0).cells m=((List.replicate m (0:Int)).map (Value.int K)).toArray:=a2t K m;rw[hz] at E;unfold Oper.wpIn;refine⟨?_,?_⟩
 ·simp[Oper.about,J]
 ·rw[Oper.semAt_plain F _ _ (by rw[J];intro c W;cases W)]
  simp[execOp,J,hl,hc,E,Result.andThen];have:=hK _ (Z1 rfl);simp at this;exact T _ _ this
def fillTo (n k:Nat):List Int:=List.replicate k (-1)++List.replicate (n-k) 0
theorem a9h {n k:Nat} (h:k<n):(fillTo n k).set k (-1)=fillTo n (k+1):=by
 unfold fillTo;rw[Yv _ _ sP];obtain⟨j,a⟩:∃j,n-k=j+1:=⟨n-k-1,oM⟩;rw[a,show n-(k+1)=j by omega,JF (n:=k)];simp[Yj]
theorem a4P {n k:Nat} (h:k<=n):(fillTo n k).length=n:=by simp[fillTo];omega
def markTo (F:LI) (x:Nat × Nat) (k:Nat):List Int:=(List.range F.length).map fun e=>if e<k/\(x.2 % 4096).testBit e then(x.1:Int) else F.getD e 0
def mark (F:LI) (x:Nat × Nat):List Int:=markTo F x F.length
def marks (n:Nat) (a:List (Nat × Nat)):List Int:=a.foldl mark (fillTo n n)
theorem a4K (F:LI) (x:Nat × Nat) (k:Nat):(markTo F x k).length=F.length:=by simp[markTo]
theorem a7n (F:LI) (x:Nat × Nat):markTo F x 0=F:=by
 apply Zl (by simp[markTo]);intro i o a;simp[markTo,a]
theorem a8W (F:LI) (x:Nat × Nat) (k e:Nat) (a:e<F.length):(markTo F x k).getD e 0=if e<k/\(x.2 % 4096).testBit e then(x.1:Int) else F.getD e 0:=by
 simp[markTo,a]
theorem a8V (F:LI) (x:Nat × Nat) (k:Nat) (E:k<F.length) (h:(x.2 % 4096).testBit k):(markTo F x k).set k (x.1:Int)=markTo F x (k+1):=by
 apply Zl (by simp[markTo]);intro i o a;have s:i<F.length:=by simpa[markTo] using a
 rw[Kl]
 by_cases e:k=i
 ·subst e;simp[markTo,h]
 ·simp only[VB e,markTo,Zw,Jn]
  have:(i<k+1) ↔ (i<k):=oM;simp[this]
theorem a7o (F:LI) (x:Nat × Nat) (k:Nat) (h:(x.2 % 4096).testBit k=false):markTo F x k=markTo F x (k+1):=by
 unfold markTo;apply ZH;intro i _
 by_cases e:i=k
 ·subst e;simp[h]
 ·have:(i<k+1) ↔ (i<k):=oM
  simp[this]
theorem a3V (n:Nat):∀pre,(marks n pre).length=n:=by
 intro pre;unfold marks
 have:∀(l:List (Nat × Nat)) (F:LI),(l.foldl mark F).length=F.length:=by
  intro l
  induction l with
  |nil=>intro F;rfl
  |cons x l a=>intro F;rw[Zt,a];simp[mark,a4K]
 rw[this,a4P lR]
theorem a6k (n:Nat) (a:List (Nat × Nat)) (x:Nat × Nat):marks n (a++[x])=mark (marks n a) x:=by
 unfold marks;rw[YH];rfl
theorem a9v (l:List Nat) (e:Nat):(Ct.union l).testBit e=l.any (fun s=>s.testBit e):=by
 unfold Ct.union
 have:∀(l:List Nat) (a:Nat),(l.foldl (· ||| ·) a).testBit e=(a.testBit e||l.any (fun s=>s.testBit e)):=by
  intro l
  induction l with
  |nil=>intro a;simp
  |cons x l i=>intro a;rw[Zt,i,QM,List.any_cons,Bool.or_assoc]
 rw[this];simp
theorem b0x (n:Nat) (e:Nat) (o:e<n):∀pre:List (Nat × Nat),decide (0<=(marks n pre).getD e 0)=(pre.map (fun x=>x.2 % 4096)).any (fun s=>s.testBit e):=by
 intro pre;obtain⟨k,i⟩:=eX pre.length
 induction k generalizing pre with
 |zero =>
  have:pre=[]:=List.length_eq_zero_iff.1 i.symm;subst this;have:(fillTo n n).getD e 0=-1:=by simp[fillTo,o]
  unfold marks;simp only[QB,this];simp
 |succ k ih =>
  obtain⟨p,x,rfl⟩:∃p x,pre=p++[x]:=by
   have a:pre≠[]:=by intro h;rw[h] at i;simp at i
   exact⟨pre.dropLast,pre.getLast a,(KH a).symm⟩
  have E:=ih p (by simpa using i);have I:=a3V n p;rw[a6k,mark,a8W _ _ _ _ oM,Xn,YD,<- E];simp only[I,o,Jl,X5,ZB,List.any_cons,List.any_nil,Bool.or_false]
  cases J:(x.2 % 4096).testBit e with
  |true=>simp
  |false=>simp
def RankPost (n:Nat) (L:List (List Int)) (w:World) (a:Ending) (w':World):Prop :=
 Below w w w'/\∃A c l,a=.returned (.tuple #[.slice A n c,()])/\l.length=n/\RowsAt icell 1 w' w' A l/\∀e,e<n->decide (0<=l.getD e 0)=(Ct.ctrl L).testBit e
def cellsI (F:LI):Array Value:=(F.map (Value.int .i64)).toArray
theorem a3M (i:World) (g o a m:Nat) (hm:1<=m) (A:OA) (n c:Nat) (M:List IRow) (hn:n<=12) (E:∀r∈M,∀x∈r.l,0<=x/\x<=10000) (a0:i.heap.size=o) (Q:g+1<=a) (S:a<o)
  (L:i.cell? ⟨a,0,none⟩=some (.slice A n c)) (T:MatI i g A n n M) :
  SeqStopsK Fence.wide m prog 290 #[.pointer (some ⟨a,0,none⟩)] encS
   (fun W W'=>KeepR o g (g+1) W W'/\(W:Nat)<=W') (fun ys=>ys.map (fun x=>x.2 % 4096)=Ct.steps (matL M)) (fun _=>True) 5000 i:=fun l J I W s _ _ X O =>
 a9D m hm l o g (g+1) a A n c M hn g oM lR S (.inr Q) E J I W (by have:=s.size;omega) X
  ((s.cell (p:=⟨a,0,none⟩) (by show a<i;omega)).trans L) (T.below s oM) O
theorem Hd.matrix_bd (n:Nat) (l:List Hld) (d:Int) (I:∀x∈l,0<=x.shr/\x.shr<=10000) (M:List IRow) (s:matL M=Hd.matrix n l d):∀r∈M,∀x∈r.l,0<=x/\x<=10000:=by
 intro r E x i;have a:r.l∈matL M:=Yg.2 ⟨r,E,rfl⟩;rw[s] at a;unfold Hd.matrix at a;obtain⟨h,_,e⟩:=Yg.1 a;rw[<- e] at i;obtain⟨J,_,o⟩:=Yg.1 i;rw[<- o];exact Hd.at_bd l _ _ d I
theorem b1W (A:OA) (n c m:Nat) (l:List Hld) (d:Int) (hl:l.length=n) (hn:n<=200) (hw:∀x∈l,x.wf) (hA:RowsAt Hld.cells 4 w w A l) (hv:Hd.valid m l) (hd:-25567<=d/\d<=84005) :
  Calls prog 270 #[m,.slice A n c,d] w (RankPost m (Hd.matrix m l d) w):=by
 have hm:1<=m/\m<=12:=by have:=hv;unfold Hd.valid at this;simp at this;omega
 have Hm:=Z1 (a2Z w A n c m l d hl hn hw hA hv hd);obtain⟨i0,hi,bj,bk,bl⟩:=XW intInfo;have b2:=fun M=>Z1 (Hd.matrix_bd m l d (Hd.valid_shr hv) M);clear hA hl hw hd hv hn;refine XL.1 (callsIn_of_wp_marks (F:=Fence.wide) (n:=8) func270 rfl trivial ?_ rfl);simp only[ntmps270,Yn,Xl,Y8,Nat.reduceAdd,Nat.reduceSub,Yr,Yl,YT,YW,Xr,XM]
 gi_wp2
 refine⟨trivial,XL.2 (Hm.mono ?_)⟩;rintro ev w1 ⟨al,S,X,M,rfl,hM,ao⟩;obtain⟨HM,ag,ai⟩:=Z3 hM al ao;clear hM al ao;obtain⟨g,hg⟩:=eX w1.heap.size;have Hg:=Z1 hg;clear hg
 gi_wp2_with (gi_at_make;refine a1B rfl _ _ 108 rfl .i64 3 i0 8 ZT hi bj bk bl _ _ _ _ m m rfl rfl rfl rfl lR oM oM ?_;intro w2 a6)
 have ab:Hid (w2.heap.size=g+1):=by show _=_;rw[a6.out,Hg];simp
 have a:Arr .i64 3 w2 g (fillTo m 0):=by
  have:=Vh w1 (.cells ((List.replicate m (0:Int)).map (Value.int .i64)).toArray 3);unfold Arr;rw[Hg,a6.out];simpa[fillTo] using this
 obtain⟨w3,J⟩:=eX (w2.alloc (.cells #[.slice (some ⟨g,0,none⟩) m m] 108));have az:Hid (Arr .i64 3 w3 g (fillTo m 0)):=Z1 (by rw[J];exact a.alloc _);have b1:Hid (w3.heap[g+1]?=some (.cells #[.slice (some ⟨g,0,none⟩) m m] 108 (0,0))):=Z1 (by have:=Vh w2 (.cells #[.slice (some ⟨g,0,none⟩) m m] 108);rw[ab,<- J] at this;exact this);have b5:Hid (w3.heap.size=g+2):=Z1 (by rw[J];simp[ab.out])
 have au:Hid (Below g w1 w3):=Z1 (by
  rw[J,a6.out];exact((VM g w1).alloc (by rw[Hg];exact lR) _).alloc (by rw[Hg];simp) _)
 have ay:=Z1 J;rw[<- Hg,ab,<- ay];clear a6 a J;have bs:=hm.1;have bg:=hm.2;clear hm
 gi_loopw [29] (fun i wr=>∃k:Nat,k<=m/\i=k/\Arr .i64 3 wr g (fillTo m k)/\wr.heap[g+1]?=some (.cells #[.slice (some ⟨g,0,none⟩) m m] 108 (0,0))/\Below g w1 wr/\Hid (wr.heap.size=g+2)) (fun i _=>m-(intOf i).toNat)
 case atStart=>exact⟨0,Vb _,rfl,az,b1,au,b5⟩
 case round =>
  obtain⟨k,hk,rfl,a,I,a0,T⟩:=hrel;have z0:=cr9 0 I;simp at z0;have sb:=Vq I
  by_cases aq:k<m
  case neg =>
   obtain rfl:k=m:=oM;obtain⟨L,hL⟩:∃L,g+3=L:=⟨_,rfl⟩;have HL:=Z1 hL;have bi:=T.out;obtain⟨HA,b3,aw⟩:=Z3 a I a0;clear a I a0 hL bi
   gi_wp2
   refine⟨trivial,XL.2 ((a5O _ _ _ _).mono ?_)⟩;rintro ev w5 ⟨rfl,rfl⟩
   gi_wp2
   obtain⟨ws,E⟩:=eX (wr.alloc (.cells #[.slice S k X] 222));have a4:wr.heap.size=g+2:=T;rw[<- E,a4];have a9:ws.heap.size=g+3:=by rw[E];simp[a4]
   have r0:Row ws g 3 (cellsI (marks k [])):=by rw[E];exact Row.alloc (show Row wr g 3 (cellsI (fillTo k k)) from HA) _
   have r1:Row ws (g+1) 108 #[.slice (some ⟨g,0,none⟩) k k]:=by rw[E];exact Row.alloc b3 _
   have c2:ws.cell? ⟨g+2,0,none⟩=some (.slice S k X):=by
    have:=Vh wr (.cells #[.slice S k X] 222);rw[<- E,a4] at this;have:=cr9 0 this;simpa using this
   have am:Below g w1 ws:=by rw[E];exact aw.alloc oM _
   have an:MatI ws g S k k M:=MatI.below (by rw[Hg];exact HM) am lR;have ax:=Z1 an;have bb:=(b2 M).out ai;clear E a4 T an;have bo:g<=w1:=X6 Hg;have be:w<=g:=by have:=ag.out.size;rw[Hg];exact this
   refine wpIn_rangeFunc_ownH rfl (by omega:1<=8) (gf:=290) (lb:=#[.pointer (some ⟨g+2,0,none⟩)]) rfl trivial (enters_of func290 kR rfl)
    (a3M ws g (g+3) (g+2) 7 oM S k X M bg bb a9 oM oM c2 ax)
    (fun h k=>⟨h.1.trans k.1,Vn h.2 k.2⟩) (fun W l o o' h1 h2 h3 h4=>⟨KeepR.putObj (n:=g+3) (w:=ws) oM W l o o' h1 h2 h3 h4,by simp[World.putObj]⟩) bR (fun _=>rfl)
    (fun s W=>Row W g 3 (cellsI (marks k s))/\Row W (g+1) 108 #[.slice (some ⟨g,0,none⟩) k k]/\Below g w1 W/\g+3<=W) (fun _ _ _=>False)
    (OwnFrom.and (Own.from (a1T g 3 (fun s:List (Nat × Nat)=>cellsI (marks k s))) _) (OwnFrom.and (Own.from (a1T (g+1) 108 (fun _:List (Nat × Nat)=>#[.slice (some ⟨g,0,none⟩) k k])) _) (OwnFrom.and (ownFrom_below oM oM) (fun _ _ _ _ hs hg _=>Vn hs hg.size)))) (fun _ _ _ _ _ hs _ _=>hs)
    ⟨r0,r1,am,oM⟩
    (fun x a' W=>a'={ tmps:=#[.int .i64 k,.slice A n c,.int .i64 d,undef,undef,undef,.slice none 0 0,.int .i64 0,.slice S k X,.int .i64 0,.pointer (some ⟨g+1,0,none⟩),u11,.int .i64 x.1,.int .u16 ((x.2 % 4096:Nat):Int),undef,
     .tuple #[.slice S k X,()],.int .i64 k,.slice A n c,.int .i64 d,.tuple #[.slice S k X,()],.slice S k X,.int .i64 0,.int .i64 0,.bool false,undef,.int .i64 k,.slice (some ⟨g,0,none⟩) k k,.slice (some ⟨g,0,none⟩) k k,
     .int .i64 k,.int .i64 k,.bool false,u31,u32,u33,u34,u35,.slice S k X,.func (.func 290) #[] #[.pointer (some ⟨g+2,0,none⟩)],.int .i64 x.1,.int .u16 ((x.2 % 4096:Nat):Int),
     undef,undef,undef,undef,undef,undef,undef,undef,undef,undef,undef,undef,undef,undef,undef,undef],defers:=[] })
    ?hAx ?assign ?body ?done ?stop
   case hAx=>exact fun _ _ _ _ _ _ h _ _=>h
   case assign =>
    rintro l s x W K ⟨i1,i2,i3,i4⟩ hK;dsimp only[encS]
    gi_wp2
    exact hK _ _ (KeepsFrom.of_grownBy (Xx W none) (fun j e=>by cases e)) ⟨KeepR.refl _ _ _ _,lR⟩ ⟨i1,i2,i3,i4⟩ rfl
   case body =>
    rintro l s x a' W bf ⟨r,bh⟩ ⟨i1,i2,i3,i4⟩ rfl aq;have z1:=cr9 0 i2;simp at z1;have s2:=Vq i2;obtain⟨F,hF⟩:=eX (marks k s);rw[<- hF] at i1;have ad:F.length=k:=by rw[hF];exact a3V k s
    have Hn:Hid (marks k (s++[x])=markTo F x k):=by show _=_;rw[a6k,<- hF,mark,ad]
    have ah:=Z1 ad;have I1:Hid (Row W g 3 (cellsI (markTo F x 0))):=Z1 (by rw[a7n];exact i1);have I2:=Z1 i2;have I3:=Z1 i3;have aa:x.2 % 4096<65536:=oM;obtain⟨sx,a5⟩:=eX (x.2 % 4096);obtain⟨ix,af⟩:=eX ((x.1:Int):Int);have ak:=Z1 a5;have b4:=Z1 af;rw[<- a5] at aa;rw[<- a5,<- af];clear hF ad i1 i2 i3 a5 af bf bh
    gi_wp2
    gi_loopw [42] (fun i O=>∃q:Nat,q<=k/\i=q/\Row O g 3 (cellsI (markTo F x q))/\Row O (g+1) 108 #[.slice (some ⟨g,0,none⟩) k k]/\Below g w1 O/\KeepR (g+3) g (g+1) W O/\KeepsFrom (g+3) W O/\(W:Nat)<=O) (fun i _=>k-(intOf i).toNat)
    case atStart=>exact⟨0,Vb _,rfl,I1.out,I2.out,I3.out,KeepR.refl _ _ _ _,KeepsFrom.of_grownBy (Xx W none) (fun j e=>by cases e),lR⟩
    case round =>
     obtain⟨O,rfl⟩:=eX wr;obtain⟨q,hq,rfl,j1,j2,j3,j4,j5,j6⟩:=hrel;obtain⟨J1,J2,J3,J4,J5⟩:=Z5 j1 j2 j3 j4 j5;have y1:=cr9 0 j2;simp at y1;have t2:=Vq j2;have t1:=Vq j1;clear j1 j2 j3 j4 j5
     by_cases ar:q<k
     case neg =>
      obtain rfl:q=k:=oM
      gi_wp2
      exact⟨by rw[a9];exact J5.out,⟨J4.out,j6⟩,by rw[Hn];exact J1.out,J2.out,J3.out,oM⟩
     have hb:=bit16 sx q aa;have bt:(0:Int)<=(q:Int):=oM;have bu:(q:Int)<(k:Int):=oM
     cases ht:sx.testBit q with
     |false =>
      rw[ht] at hb;have Q:=a7o F x q (by rw[<- ak];exact ht);have ac:Hid (Row O g 3 (cellsI (markTo F x (q+1)))):=Z1 (by rw[<- Q];exact J1.out);clear ht Q
      gi_wp2
      go_roundw
      case rel=>exact⟨q+1,oM,by go_num,ac.out,J2.out,J3.out,J4.out,J5.out,j6⟩
      case measure=>exact mS
     |true =>
      rw[ht] at hb;have Q:=a8V F x q (by rw[ah];exact ar) (by rw[<- ak];exact ht);have bm:(markTo F x q).length=k:=by rw[a4K,ah]
      have hj:=Row.set J1.out q (.int .i64 ix)
      have ap:(cellsI (markTo F x q)).setIfInBounds q (.int .i64 ix)=cellsI (markTo F x (q+1)):=by
       rw[<- Q,b4];unfold cellsI;simp[ZM]
      rw[ap] at hj;have ac:=Z1 hj;have b6:=Z1 (Row.other J2.out ⟨g,q,none⟩ (by show g+1≠g;omega) (.int .i64 ix));have b7:=Z1 (J3.out.setCell (p:=⟨g,q,none⟩) lR (.int .i64 ix))
      have b8:Hid (KeepR (g+3) g (g+1) W (O.setCell ⟨g,q,none⟩ (.int .i64 ix))):=Z1 (fun b ba hL=>by
       rw[VR _ _ _ _ (by show b≠g;omega)];exact J4.out b ba hL)
      have b9:Hid (KeepsFrom (g+3) W (O.setCell ⟨g,q,none⟩ (.int .i64 ix))):=Z1 (J5.out.trans (KeepsFrom.of_grownBy (Xz (Xx O (some g)) q _) (fun j e=>by cases e;omega)));have c0:O.cell? ⟨g,q,none⟩=some (.int .i64 ((markTo F x q)[q])):=by rw[cr9 q J1.out];simp[cellsI]
      have f0:=fr0 q J1.out;clear ht Q hj ap
      gi_wp2
      go_roundw
      case rel=>exact⟨q+1,oM,by go_num,ac.out,b6.out,b7.out,b8.out,b9.out,by simpa[World.setCell] using j6⟩
      case measure=>exact mS
   case done =>
    rintro D ys W hD hS ⟨i1,i2,i3,i4⟩ hK;have z1:=cr9 0 i2;simp at z1;have s2:=Vq i2;obtain⟨HS,I1,I3,HK⟩:=Z4 hS i1 i3 hK;clear i1 i3 hS hK
    gi_wp2
    refine⟨sP,.inl ⟨_,_,rfl,run_takeDeferred HK,⟨_,by simp[results,results270];rfl,?_,?_⟩⟩⟩
    ·exact ag.out.trans ((I3.out.trans ((belowK_b (w:=ws) lR _ D _ _ oM HK rfl rfl).mono oM)).mono be)
    ·have bc:=belowK_b (w:=ws) lR W D _ (.deferred none) oM HK rfl rfl
     have a8:=(bc.block g oM).trans I1.out;refine⟨some ⟨g,0,none⟩,k,marks k ys,rfl,a3V k ys,.inr ⟨g,0,rfl,Vq a8,fun j hj i v hv=>?_⟩,fun e he=>?_⟩
     ·have bp:i<1:=(List.getElem?_eq_some_iff.1 hv).1
      obtain rfl:i=0:=oM;have:=Jv _ _ (0+j*1+0) _ _ _ a8;rw[this];simp[icell] at hv;rw[<- hv];unfold cellsI;simp[hj]
     ·rw[b0x k e he,HS,<- ai]
      unfold Ct.ctrl;rw[a9v]
   case stop =>
    rintro D c' s W _ _ hx _;exact hx.elim
  have bn:(fillTo m k).length=m:=a4P hk;have c0:=a.cell (k:=k) oM;have f0:=a.free k;have ae:=a.set k (-1);rw[a9h aq] at ae;have b0:=Z1 ae;have a7:=(VR wr ⟨g,k,none⟩ (.int .i64 (-1)) (g+1) (by show g+1≠g;omega)).trans I;have aj:=Z1 a7;have av:=Z1 (a0.setCell (p:=⟨g,k,none⟩) lR (.int .i64 (-1)));have sg:=a.lt;have br:(k:Int)<(m:Int):=oM;have bq:(0:Int)<=(k:Int):=oM;clear ae a7 a0 I
  gi_wp2
  go_roundw
  case rel=>exact⟨k+1,oM,by go_num,b0,aj,av,by show _=_;simpa[World.setCell] using T.out⟩
  case measure=>exact mS
theorem b0z {α:Type} (f:α->List Value) (sz:Nat) (x:α) (o:(f x).length=sz) (E:0<sz) (m:Nat):madeCells (f x).toArray (m*sz)=((List.replicate m x).flatMap f).toArray:=by
 have s:∀m,((List.replicate m x).flatMap f).length=m*sz:=by
  intro m;induction m with
  |zero=>simp
  |succ m X=>rw[Yj,XB,Vc,X,o,Jq];omega
 apply Array.ext
 ·rw[size_madeCells];simp only[Yn,s]
 ·intro i L O
  rw[size_madeCells] at L;have T:i / sz<(List.replicate m x).length:=by rw[List.length_replicate];exact Nat.div_lt_of_lt_mul (by rwa [K5])
  have W:=QJ i E;have S:i / sz*sz+i % sz=i:=Nat.div_add_mod' i sz;have e:=a1x f sz (List.replicate m x) (fun a Q=>by rw[Jj Q];exact o) (i / sz) T (i % sz) W;rw[S] at e;have J:(List.replicate m x)[i / sz]=x:=sP;rw[J] at e;have I:i % sz<(f x).length:=oM;rw[List.getElem?_eq_getElem I,List.getElem?_eq_getElem (by simpa using O)] at e;simp only[Option.some.injEq] at e;simp only[List.getElem_toArray];rw[e];unfold madeCells;simp[o];rw[List.getElem?_eq_getElem I];rfl
theorem a3h {α:Type} (f:α->List Value) (sz:Nat) (x:α) {P:Program} {w:World} {o:Oper} {a:Act} {K:Act->World->Prop} {Q:Exit->Act->World->Prop} (l c:Operand) (t:TypeId) (I:o.op=Op.makeSlice t l c)
  (e:TypeId) (i:TypeInfo) (z:Value) (hf:(f x).length=sz) (J:0<sz) (W:P.underlying t=some (.slice e)) (E:P.info? e=some i) (X:i.zero=some z) (hz:z.cells=(f x).toArray) (h4:i.size=sz) (h5:i.bytes<=100)
  (S O:IK) (L C:Int) (m:Nat) (hl:a.eval l=.int S L) (hc:a.eval c=.int O C) (hL:L=(m:Int)) (hC:C=(m:Int)) (T:m<=10000000)
  (hK:∀w',Hid (w'=w.alloc (.cells ((List.replicate m x).flatMap f).toArray e))->K (a.put o.dst (.slice (some ⟨w,0,none⟩) m m)) w'):o.wp P a w K Q:=by
 subst hL hC
 have hb:(i.bytes:Int)*(m:Int)<=281474976710656:=by
  have:i.bytes*m<=100*10000000:=ZL h5 T;have E:((i.bytes*m:Nat):Int)<=1000000000:=oM;rw[KG] at E;omega
 have s:=run_make (P:=P) w t e i z W E X S O (m:Int) (m:Int) oM oM hb oM;rw[ZZ,hz,h4,b0z f sz x hf J] at s;unfold Oper.wp;simp[execOp,I,hl,hc,s,Result.andThen];exact hK _ (Z1 rfl)
theorem a0D {α:Type} (f:α->List Value) (sz:Nat) (x:α) {P:Program} {w:World} {E:Array Oper} {s:List Oper} {o:Oper} {a:Act} {Q:Exit->Act->World->Prop} (hg:o.guard=none) (l c:Operand) (t:TypeId) (J:o.op=Op.makeSlice t l c)
  (e:TypeId) (i:TypeInfo) (z:Value) (hf:(f x).length=sz) (O:0<sz) (X:P.underlying t=some (.slice e)) (h2:P.info? e=some i) (h3:i.zero=some z) (hz:z.cells=(f x).toArray) (h4:i.size=sz) (h5:i.bytes<=100)
  (T S:IK) (L C:Int) (m:Nat) (hl:a.eval l=.int T L) (hc:a.eval c=.int S C) (hL:L=(m:Int)) (hC:C=(m:Int)) (W:m<=10000000)
  (hK:∀w',Hid (w'=w.alloc (.cells ((List.replicate m x).flatMap f).toArray e))->wpList P E Q s (a.put o.dst (.slice (some ⟨w,0,none⟩) m m)) w') :
  wpList P E Q (o::s) a w :=
 Jt hg fun _ I=>a3h f sz x l c t J e i z hf O X h2 h3 hz h4 h5 T S L C m hl hc hL hC W fun w' h=>I _ _ (hK w' h)
def boolcell (x:Bool):List Value:=[.bool x]
def ListPost {α:Type} (f:α->List Value) (sz:Nat) (l:List α) (w:World) (a:Ending) (w':World):Prop :=
 Below w w w'/\∃A c,a=.returned (.tuple #[.slice A l.length c,()])/\RowsAt f sz w' w' A l
def upTo {α:Type} (f:Nat->α) (z:α) (n k:Nat):List α:=(List.range k).map f++List.replicate (n-k) z
theorem a5g {α:Type} (f:Nat->α) (z:α) {n k:Nat} (h:k<n):(upTo f z n k).set k (f k)=upTo f z n (k+1):=by
 unfold upTo;rw[Yv _ _ sP,Ym,Xn];obtain⟨j,a⟩:∃j,n-k=j+1:=⟨n-k-1,oM⟩;rw[a,show n-(k+1)=j by omega];simp[Yj]
theorem a5h {α:Type} (f:Nat->α) (z:α) {n k:Nat} (h:k<=n):(upTo f z n k).length=n:=by simp[upTo];omega
theorem a3r {α:Type} (f:Nat->α) (z:α) (n:Nat):upTo f z n n=(List.range n).map f:=by simp[upTo]
theorem a3I {α:Type} (f:Nat->α) (z:α) (n:Nat):upTo f z n 0=List.replicate n z:=by simp[upTo]
def cellsB (F:List Bool):Array Value:=(F.map Value.bool).toArray
theorem a3v {α:Type} (f:α->Value) {w:World} {g:Nat} {t:TypeId} {l:List α} (h:Row w g t (l.map f).toArray):RowsAt (fun x=>[f x]) 1 w w (some ⟨g,0,none⟩) l :=
 .inr ⟨g,0,rfl,Vq h,fun j o i v hv=>by
  have a:i<1:=(List.getElem?_eq_some_iff.1 hv).1;obtain rfl:i=0:=oM;rw[Jv _ _ (0+j*1+0) _ _ _ h];simp at hv;rw[<- hv];simp[o]⟩
theorem boolInfo:(prog.info? 4).map (fun i=>(i.zero,i.size,i.bytes))=some (some (.bool false),1,1):=kR
theorem a4z (A:OA) (n c m:Nat) (l:List Hld) (d:Int) (hl:l.length=n) (hn:n<=200) (hw:∀x∈l,x.wf) (hA:RowsAt Hld.cells 4 w w A l) (hv:Hd.valid m l) (hd:-25567<=d/\d<=84005) :
  Calls prog 231 #[m,.slice A n c,d] w (ListPost boolcell 1 ((List.range m).map (fun e=>(Ct.ctrl (Hd.matrix m l d)).testBit e)) w):=by
 have hm:1<=m/\m<=12:=by have:=hv;unfold Hd.valid at this;simp at this;omega
 have Hr:=Z1 (b1W w A n c m l d hl hn hw hA hv hd);obtain⟨i0,hi,a9,aa,ai⟩:=XW boolInfo;have ag:=hm.1;have ah:=hm.2;clear hA hl hw hd hv hn hm;obtain⟨f,hf⟩:=eX (fun e=>(Ct.ctrl (Hd.matrix m l d)).testBit e:Nat->Bool);rw[<- hf];have Hf:=Z1 hf;clear hf;go_enter func231,ntmps231;go_wp2_with (fail);refine Hr.mono ?_;rintro ev I ⟨O,A1,c1,R,rfl,S,hR,Q⟩;obtain⟨HR,J,a7⟩:=Z3 hR O S;have a5:Hid (∀e,e<m->decide (0<=R.getD e 0)=f e):=Z1 (by rw[Hf];exact Q);clear hR O Q S;go_wp2_with (at_make;refine a0D boolcell 1 false rfl _ _ 260 rfl 4 i0 (.bool false) rfl dC underlying260 hi a9 rfl aa oM _ _ _ _ m rfl rfl rfl rfl oM ?_;intro w2 E)
 have a:Row w2 I.heap.size 4 (cellsB (upTo f false m 0)):=by
  have:=Vh I (.cells ((List.replicate m false).flatMap boolcell).toArray 4);have e:∀k,((List.replicate k false).flatMap boolcell).toArray=cellsB (List.replicate k false):=fun k=>by unfold cellsB;congr 1;induction k with|zero=>rfl|succ k ih=>rw[Yj,XB,ih];rfl
  rw[a3I,<- e];unfold Row;rw[E.out];exact this
 obtain⟨g,X⟩:=eX I.heap.size;rw[<- X] at a⊢;have a4:Hid (Below g I w2):=Z1 (by rw[E.out];exact(VM g I).alloc (by rw[X];exact lR) _);have L:=Z1 a;have a8:w<=g:=by rw[X];exact J.size
 have a6:Hid (RowsAt icell 1 I g A1 R):=Z1 (by rw[X];exact HR);clear E a X HR
 go_loopw [27] (fun i wr=>∃k:Nat,k<=m/\i=k/\Row wr g 4 (cellsB (upTo f false m k))/\Below g I wr) (fun i _=>m-(intOf i).toNat)
 case atStart=>exact⟨0,Vb _,rfl,L,a4⟩
 case round =>
  obtain⟨k,hk,rfl,a,hb⟩:=hrel;have sg:=Vq a
  by_cases s:k<m
  case neg =>
   obtain rfl:k=m:=oM
   have HP:Hid (ListPost boolcell 1 ((List.range k).map f) w (.returned (.tuple #[.slice (some ⟨g,0,none⟩) k k,()])) wr):=by
    refine Z1 ⟨J.out.trans (hb.mono a8),some ⟨g,0,none⟩,k,sP,?_⟩;rw[a3r] at a;exact a3v Value.bool a
   clear a hb;go_wp2
   go_ret2
   exact HP
  have a0:k<R.length:=by rw[a7];exact s
  obtain⟨b,o,rfl,ac,hr⟩:=RowsAt.look (RowsAt.below a6 hb lR) a0;have c0:=hr 0 _ rfl;simp at c0;obtain⟨x,hx⟩:=eX (R[k]);rw[<- hx] at c0;have W:decide (0<=x)=f k:=by have:=a5.out k s;rw[List.getD_eq_getElem?_getD,List.getElem?_eq_getElem a0,<- hx] at this;exact this
  have ad:decide (x ≥ 0)=f k:=W;have hj:=Row.set a k (.bool (f k))
  have T:(cellsB (upTo f false m k)).setIfInBounds k (.bool (f k))=cellsB (upTo f false m (k+1)):=by
   rw[<- a5g f false s];unfold cellsB;simp[ZM]
  rw[T] at hj;have Hj:=Z1 hj;have Hb:=Z1 (hb.setCell (p:=⟨g,k,none⟩) lR (.bool (f k)));have ab:(upTo f false m k).length=m:=a5h f false hk;have y0:wr.cell? ⟨g,k,none⟩=some (.bool ((upTo f false m k)[k])):=by rw[cr9 k a];simp[cellsB]
  have y1:=fr0 k a;have ae:(0:Int)<=(k:Int):=oM;have af:(k:Int)<(m:Int):=oM;clear hj T hr hx W;go_wp2;go_roundw
  case rel=>exact⟨k+1,oM,by go_num,Hj,Hb⟩
  case measure=>exact mS
theorem RowsAt.base {α:Type} {f:α->List Value} {sz:Nat} {w:World} {B:Nat} {A:OA} {l:List α} (h:RowsAt f sz w B A l) (a:0<l.length):∃b o,A=some ⟨b,o,none⟩/\b<B/\∀k (h:k<l.length),w.rangeAt b (o+k*sz) (f l[k]):=by
 rcases h with h|h
 ·subst h;simp at a
 ·exact h
theorem b0h {α:Type} {f:α->Value} {w:World} {base n c:Nat} {e:TypeId} {A:OA} {l:List α} (h:w.ownsRow base e 1 (.slice A n c) n (l.flatMap fun x=>[f x])) (L:n=l.length) {k:Nat} (J:k<l.length):∃g,A=some ⟨g,0,none⟩/\g<w/\w.cell? ⟨g,k,none⟩=some (f l[k]):=by
 obtain⟨Q,S,i,E⟩:=Xw (f:=fun x=>[f x]) (sz:=1) dC (fun _=>rfl) h L
 cases i
 rcases h.2 with⟨q,T⟩|⟨g,a,cur,q,_,W,_⟩
 ·omega
 ·cases q
  obtain⟨b,o,s,I,O⟩:=RowsAt.look E J
  cases s
  have:=O 0 _ rfl;exact⟨g,rfl,I,by simpa using this⟩
theorem count_set (F:List Bool) (h:Nat) (s:h<F.length) (o:F[h]=false):(F.set h true).count false+1=F.count false:=by
 have:=List.count_set (a:=true) (b:=false) (l:=F) (i:=h) s;rw[o] at this;have E:1<=F.count false:=List.count_pos_iff.2 (by rw[<- o];exact Vm s);simp at this;omega
theorem a9q (F:List Bool) (h:Nat) (x:Bool):(cellsB F).setIfInBounds h (.bool x)=cellsB (F.set h x):=by unfold cellsB;simp[ZM]
def mi (L:List (List Int)) (h e:Nat):Int:=(L[h]?).elim 0 (fun r=>r.getD e 0)
def sel (p:Nat->Bool) (k:Nat):List Int:=((List.range k).filter (fun e=>decide (1<=e)&&p e)).map (fun e:Nat=>(e:Int))
theorem a9L {p:Nat->Bool} {k:Nat} (a:1<=k) (h:p k):sel p (k+1)=sel p k++[(k:Int)]:=by
 unfold sel;rw[Ym,Yq,Xn];simp[a,h]
theorem b3v {p:Nat->Bool} {k:Nat} (h:p k=false):sel p (k+1)=sel p k:=by
 unfold sel;rw[Ym,Yq];simp[h]
inductive Rch (n:Nat) (L:List (List Int)):List Bool->List Int->List Bool->Prop where
 |done (F:List Bool):Rch n L F [] F
 |old {F:List Bool} {ws:List Int} {h:Nat} {R:List Bool}:F.getD h true->Rch n L F ws R->Rch n L F (ws++[(h:Int)]) R
 |new {F:List Bool} {ws:List Int} {h:Nat} {R:List Bool}:F.getD h true=false->Rch n L (F.set h true) (ws++sel (fun e=>decide (mi L h e > 0)) n) R->Rch n L F (ws++[(h:Int)]) R
theorem Rch.one {n:Nat} {L:List (List Int)} {F:List Bool} {E:LI} {R s:List Bool} (h:Rch n L F E R) (i:Rch n L F E s):R=s:=by
 induction h generalizing s with
 |done F =>
  generalize a:([]:LI)=q at i
  cases i with
  |done=>rfl
  |old=>simp at a
  |new=>simp at a
 |@old F ws h R h1 _ ih =>
  generalize a:ws++[(h:Int)]=q at i
  cases i with
  |done=>simp at a
  |@old _ ws' k _ k1 k2 =>
   obtain⟨rfl,e⟩:=Kt a rfl;exact ih k2
  |@new _ ws' k _ k1 k2 =>
   obtain⟨rfl,e⟩:=Kt a rfl;have o:h=k:=by have q:=(Qd e).1;omega
   subst o;rw[h1] at k1;cases k1
 |@new F ws h R h1 _ ih =>
  generalize a:ws++[(h:Int)]=q at i
  cases i with
  |done=>simp at a
  |@old _ ws' k _ k1 k2 =>
   obtain⟨rfl,e⟩:=Kt a rfl;have o:h=k:=by have q:=(Qd e).1;omega
   subst o;rw[h1] at k1;cases k1
  |@new _ ws' k _ k1 k2 =>
   obtain⟨rfl,e⟩:=Kt a rfl;have o:h=k:=by have q:=(Qd e).1;omega
   subst o;exact ih k2
def Reach (n:Nat) (L:List (List Int)) (a:LI) (F:List Bool):Prop:=Rch n L (List.replicate n false) (sel (fun e=>decide (a.getD e 0 > 0)) n) F
theorem a7h (A:OA) (n c:Nat) (M:List IRow) (B:OA) (d:Nat) (dl:LI) (bi:1<=n) (hn:n<=12) (hM:MatI w w A n n M) (be:dl.length=n) (hB:RowsAt icell 1 w w B dl) :
  Calls prog 183 #[.slice A n c,.slice B n d] w fun ev w'=>Below w w w'/\∃g F,ev=.returned (.slice (some ⟨g,0,none⟩) n n)/\F.length=n/\Row w' g 4 (cellsB F)/\Reach n (M.map (·.l)) dl F:=by
 obtain⟨L,hL⟩:=eX (M.map (·.l));rw[<- hL];obtain⟨bA,oA,rfl,bz,b1⟩:=RowsAt.base hM.hA (by rw[hM.hl];omega);obtain⟨bB,oB,rfl,c1,b3⟩:=RowsAt.base hB oM;obtain⟨i0,hi,bm,bn,cf⟩:=XW boolInfo;have b9:=fun k (h:k<n)=>Z1 (show∃x,w.cell? ⟨bB,oB+k,none⟩=some (.int .i64 x)/\dl.getD k 0=x from⟨dl[k]' oM,by have:=b3 k oM 0 _ rfl;simpa using this,by rw[List.getD_eq_getElem?_getD,List.getElem?_eq_getElem oM];rfl⟩)
 have b8:=fun h e (hh:h<n) (he:e<n)=>Z1 (show∃b o m c x,w.cell? ⟨bA,oA+h,none⟩=some (.slice (some ⟨b,o,none⟩) m c)/\e<m/\b<w/\w.cell? ⟨b,o+e,none⟩=some (.int .i64 x)/\mi L h e=x from by
  have h1:h<M.length:=by rw[hM.hl];exact hh
  have c0:=b1 h h1 0 _ rfl;have hx:=hM.hx M[h] (Vm h1);have h2:e<M[h].l.length:=by rw[hx.1.hl,hx.2];exact he
  obtain⟨b,o,e1,I,hr⟩:=RowsAt.look hx.1.hA h2;have d0:=hr 0 _ rfl;rw[e1] at c0;exact⟨b,o,M[h].n,M[h].c,M[h].l[e],by simpa using c0,by rw[hx.2];exact he,I,by simpa using d0,by unfold mi;rw[hL,List.getElem?_map,List.getElem?_eq_getElem h1];show M[h].l.getD e 0=_;rw[List.getD_eq_getElem?_getD,List.getElem?_eq_getElem h2];rfl⟩)
 have ca:(n:Int)<=12:=oM;clear hM hB b1 b3 be hL;go_enter func183,ntmps183;go_wp2_with (at_make;refine a0D boolcell 1 false rfl _ _ 260 rfl 4 i0 (.bool false) rfl dC underlying260 hi bm rfl bn oM _ _ _ _ n rfl rfl rfl rfl oM ?_;intro w2 an);obtain⟨g,hg⟩:=eX w.heap.size;have Hg:=Z1 hg
 have af:Row w2 g 4 (cellsB (List.replicate n false)):=by
  have:=Vh w (.cells ((List.replicate n false).flatMap boolcell).toArray 4);have e:∀k,((List.replicate k false).flatMap boolcell).toArray=cellsB (List.replicate k false):=fun k=>by unfold cellsB;congr 1;induction k with|zero=>rfl|succ k ih=>rw[Yj,XB,ih];rfl
  rw[<- e];unfold Row;rw[hg,an.out];exact this
 have ap:=Z1 af;have ag:Hid (Below g w w2):=Z1 (by rw[an.out];exact(VM g w).alloc (by rw[hg];exact lR) _);rw[<- hg];have bf:w<=g:=X6 hg.symm;have aw:bA<g:=oM;have ax:bB<g:=oM;clear an af hg;go_wp2
 go_loopw [6,7] (fun v i wr=>∃(k:Nat) (wk:LI),1<=k/\k<=n/\i=k/\(∀x∈wk,0<=x/\x<n)/\wk.length<=k/\wr.ownsRow g 3 1 v wk.length (wk.flatMap icell)/\Row wr g 4 (cellsB (List.replicate n false))/\Below g w wr/\wk=sel (fun e=>decide (dl.getD e 0 > 0)) k) (fun _ i _=>n-(intOf i).toNat)
 case atStart=>exact⟨1,[],lR,bi,rfl,sP,sP,Xp _ _ _ _,ap,ag,rfl⟩
 case round =>
  obtain⟨k,wk,b0,bh,rfl,ae,bl,s,E,I,a9⟩:=hrel;have ai:=Z1 a9;clear a9;have bk:=Vq E;have c8:(0:Int)<=(k:Int):=oM;have c4:bB<wr:=by have:=I.size;omega
  by_cases a6:k<n
  ·obtain⟨x,hx,b4⟩:=(b9 k a6).out
   have au:=Z1 b4;clear b4;have c0:=(I.cell (p:=⟨bB,oB+k,none⟩) ax).trans hx;have bs:(k:Int)<(n:Int):=oM;clear hx
   by_cases T:x > 0
   ·have hd:decide (x > 0):=by simpa using T
    go_wp2_with (at_builtin;refine Hid.out ?_);show wpList _ _ _ _ _ _;refine a1o eltInt s [k] rfl rfl rfl rfl rfl oC oM (by have:=I.size;omega) ?_;intro v' w' a7 a4 a5;have am:=a5 4 dC _ _ _ E;have Ho:Hid (w'.ownsRow g 3 1 v' (wk++[(k:Int)]).length ((wk++[(k:Int)]).flatMap icell)):=Z1 (by rw[Vc,VL];exact a7);have ah:=Z1 (I.trans a4);have W:Hid (wk++[(k:Int)]=sel (fun e=>decide (dl.getD e 0 > 0)) (k+1)):=by show _=_;rw[a9L b0 (by show decide _=true;rw[au];exact hd),ai]
    clear a7 a4 a5 s E I;go_wp2;go_roundw
    case rel=>exact⟨k+1,wk++[(k:Int)],oM,oM,by go_num,fun x hx=>by rcases V9.1 hx with h|h;exact ae x h;rw[VY.1 h];omega,sO,Ho,am,ah,W⟩
    case measure=>exact mS
   ·have hd:decide (x > 0)=false:=by simpa using T
    have W:Hid (wk=sel (fun e=>decide (dl.getD e 0 > 0)) (k+1)):=by show _=_;rw[b3v (by show decide _=false;rw[au];exact hd),ai]
    go_wp2;go_roundw
    case rel=>exact⟨k+1,wk,oM,oM,by go_num,ae,oM,s,E,I,W⟩
    case measure=>exact mS
  obtain rfl:k=n:=oM;have ba:=Z1 ae;have b6:Hid (∀R,Rch k L (List.replicate k false) wk R->Reach k L dl R):=fun R h=>by unfold Reach;rw[<- ai];exact h
  obtain⟨aq,O,aa⟩:=Z3 s E I;clear ae s E I b0 bh a6;go_wp2
  go_loopg [6,8,9] (k*20+wk.length) (fun t v s8 s9 wr=>∃(F:List Bool) (Q:LI),F.length=k/\(∀x∈Q,0<=x/\x<k)/\t=F.count false*20+Q.length/\t<=300/\wr.ownsRow g 3 1 v Q.length (Q.flatMap icell)/\Row wr g 4 (cellsB F)/\Below g w wr/\∀R,Rch k L F Q R->Reach k L dl R)
  case atStart=>exact⟨List.replicate k false,wk,sP,ba,by simp[List.count_replicate],oM,aq,O,aa,b6⟩
  case round =>
   obtain⟨F,Q,hF,S,ht,cd,s,E,I,hR⟩:=hrel;have HR:=Z1 hR;clear hR;have bk:=Vq E;have c3:=I.size
   rcases JV Q with hz|⟨J,x,hz⟩
   ·subst hz
    obtain⟨A',c',rfl,_⟩:=Xw (l:=([]:LI)) (f:=icell) (sz:=1) dC (fun _=>rfl) s rfl;obtain⟨b5,O,HF⟩:=Z3 (I.mono bf) E hF;clear S s E I ht;go_wp2;go_ret;exact⟨b5,g,F,rfl,HF,O,HR F (.done F)⟩
   rw[JX] at hz;subst hz;rw[Vc,Zy] at s ht;obtain⟨g',cap,rfl⟩:=ownsRow_succ s;have ce:=S x sP;obtain⟨h,rfl⟩:∃h:Nat,x=h:=⟨x.toNat,oM⟩;obtain⟨bx,e9,c6,d0⟩:=b0h (l:=J++[(h:Int)]) s sP (k:=J.length) sP
   cases e9
   simp at d0;have a8:Hid (wr.ownsRow g 3 1 (.slice (some ⟨g',0,none⟩) J.length cap) J.length (J.flatMap icell)):=Z1 (ownsRow_pop (Xj (f:=icell) (sz:=1) (fun _=>rfl) J) (by rw[VL] at s;exact s));have bg:h<k:=oM;have al:h<F.length:=oM;have f0:wr.cell? ⟨g,h,none⟩=some (.bool F[h]):=by rw[cr9 h E];simp[cellsB,al]
   have f1:=fr0 h E;have bv:((J.length+1:Nat):Int)-1=(J.length:Int):=oM;have c7:(0:Int)<=(h:Int):=oM;have br:(h:Int)<(k:Int):=oM;have bl:J.length<=300:=oM
   have bq:J.length<=cap:=by
    rcases s.2 with⟨q,_⟩|⟨_,_,_,q,_,_,c9,_⟩
    ·cases q
    ·cases q;omega
   have HQ:Hid (∀x∈J,0<=x/\x<k):=Z1 fun x hx=>S x (KW _ hx);obtain⟨O,aa,HF,HT⟩:=Z4 E I hF ht;clear S s E I ht hF;have ay:F.getD h true=F[h]:=by rw[List.getD_eq_getElem?_getD,List.getElem?_eq_getElem al];rfl
   have ac:=Z1 ay;clear ay
   cases X:F[h] with
   |true =>
    rw[X] at f0;rw[X] at ac;have ab:Hid (∀R,Rch k L F J R->Reach k L dl R):=fun R q=>HR R (.old ac q);clear X;go_wp2
    go_roundg (F.count false*20+J.length)
    case rel=>exact⟨F,J,HF,HQ,rfl,by have:=HT.out;omega,a8.out,O,aa,ab⟩
    case measure=>have:=HT.out;omega
   |false =>
    rw[X] at f0;rw[X] at ac;have ab:Hid (∀R,Rch k L (F.set h true) (J++sel (fun e=>decide (mi L h e > 0)) k) R->Reach k L dl R):=fun R q=>HR R (.new ac q);have a0:=Z1 (count_set F h al X);have ad:=Row.set O h (.bool true);rw[a9q] at ad;obtain⟨V,hV⟩:=eX (wr.setCell ⟨g,h,none⟩ (.bool true));rw[<- hV] at ad;have ar:=Z1 ad
    have az:g'≠g:=fun e=>by
     rcases a8.out.2 with⟨q,_⟩|⟨g2,bo,cur,q,_,hq,_⟩
     ·cases q
     ·cases q
      rw[e,show wr.heap[g]?=_ from O] at hq
      cases hq
    have ag:Hid (Below g w V):=Z1 (by rw[hV];exact aa.setCell (p:=⟨g,h,none⟩) lR _)
    have bb:Hid (V.ownsRow g 3 1 (.slice (some ⟨g',0,none⟩) J.length cap) J.length (J.flatMap icell)):=Z1 (by
     rw[hV];exact Kd a8.out (a:=⟨g,h,none⟩) (fun q=>az (by simpa[Value.ownBlock] using q)) _)
    have HV:=Z1 hV;obtain⟨F',ak⟩:=eX (F.set h true);rw[<- ak] at ar a0 ab;have ao:Hid (F'.length=k):=Z1 (by rw[ak,Y9];exact HF);have c5:F'.count false<=k:=by have:=List.count_le_length (a:=false) (l:=F');rw[ao] at this;exact this
    clear X ad hV ak az;go_wp2;rw[<- HV]
    go_loopw [6,9] (fun v i wi=>∃(q:Nat) (Q:LI),1<=q/\q<=k/\i=q/\(∀x∈Q,0<=x/\x<k)/\Q.length<=J.length+q/\wi.ownsRow g 3 1 v Q.length (Q.flatMap icell)/\Row wi g 4 (cellsB F')/\Below g w wi/\Q=J++sel (fun e=>decide (mi L h e > 0)) q) (fun _ i _=>k-(intOf i).toNat)
    case atStart=>exact⟨1,J,lR,oM,rfl,HQ,oM,bb,ar,ag,(XG J).symm⟩
    case round =>
     obtain⟨wi,rfl⟩:=eX wr;obtain⟨q,Q,bj,cc,rfl,S,bw,s,E,I,a9⟩:=hrel;have aj:=Z1 a9;clear a9;have bu:=Vq E;have bp:=I.size;have cb:(0:Int)<=(q:Int):=oM
     by_cases a6:q<k
     case neg =>
      obtain rfl:q=k:=oM;have bc:=Z1 S;have b7:Hid (∀R,Rch q L F' Q R->Reach q L dl R):=fun R z=>ab R (by rw[<- aj];exact z);clear S a6;go_wp2
      go_roundg (F'.count false*20+Q.length)
      case rel=>exact⟨F',Q,ao,bc,rfl,by have:=HT.out;have:=a0.out;omega,s,E,I,b7⟩
      case measure=>have:=HT.out;have:=a0.out;omega
     obtain⟨b2,o2,m2,c2,x,y1,y2,y3,y4,y9⟩:=(b8 h q bg a6).out;have av:=Z1 y9;clear y9;have cg:=(I.cell (p:=⟨bA,oA+h,none⟩) aw).trans y1;have ch:=(I.cell (p:=⟨b2,o2+q,none⟩) (by show b2<g;omega)).trans y4;have y5:(q:Int)<(m2:Int):=oM;have y6:bA<wi:=oM;have y7:b2<wi:=oM;have bt:(q:Int)<(k:Int):=oM;clear y1 y4
     by_cases T:x > 0
     ·have hd:decide (x > 0):=by simpa using T
      go_wp2_with (at_builtin;refine Hid.out ?_);show wpList _ _ _ _ _ _;refine a1o eltInt s [q] rfl rfl rfl rfl rfl oC oM oM ?_;intro v' w' a7 a4 a5;have am:=a5 4 dC _ _ _ E;have Ho:Hid (w'.ownsRow g 3 1 v' (Q++[(q:Int)]).length ((Q++[(q:Int)]).flatMap icell)):=Z1 (by rw[Vc,VL];exact a7);have ah:=Z1 (I.trans a4);have W:Hid (Q++[(q:Int)]=J++sel (fun e=>decide (mi L h e > 0)) (q+1)):=by show _=_;rw[a9L bj (by show decide _=true;rw[av];exact hd),aj,XH]
      clear a7 a4 a5 s E I;go_wp2;go_roundw
      case rel=>exact⟨q+1,Q++[(q:Int)],oM,oM,by go_num,fun x hx=>by rcases V9.1 hx with h|h;exact S x h;rw[VY.1 h];omega,sO,Ho,am,ah,W⟩
      case measure=>exact mS
     ·have hd:decide (x > 0)=false:=by simpa using T
      have W:Hid (Q=J++sel (fun e=>decide (mi L h e > 0)) (q+1)):=by show _=_;rw[b3v (by show decide _=false;rw[av];exact hd),aj]
      go_wp2;go_roundw
      case rel=>exact⟨q+1,Q,oM,oM,by go_num,S,oM,s,E,I,W⟩
      case measure=>exact mS
attribute [local go_sem] Oper.semAt_some
def uni (a:List (Nat × Nat)):Nat:=Ct.union (a.map (fun x=>x.2 % 4096))
theorem b3L (a:List (Nat × Nat)) (x:Nat × Nat):uni (a++[x])=uni a ||| x.2 % 4096:=by unfold uni Ct.union;rw[Xn,YH];rfl
theorem b3t (i:List (Nat × Nat)):uni i<4096:=by
 unfold uni Ct.union
 have:∀(l:List (Nat × Nat)) (a:Nat),a<4096->(l.map (fun x=>x.2 % 4096)).foldl (· ||| ·) a<4096:=by
  intro l
  induction l with
  |nil=>intro a h;exact h
  |cons x l o=>intro a h;rw[X5,Zt];exact o _ (Kv (n:=12) h (QJ _ oM))
 exact this _ _ oM
theorem a5G (A:OA) (n c m:Nat) (l:List Hld) (d:Int) (hl:l.length=n) (hn:n<=200) (hw:∀x∈l,x.wf) (hA:RowsAt Hld.cells 4 w w A l) (hv:Hd.valid m l) (hd:-25567<=d/\d<=84005) :
  Calls prog 232 #[m,.slice A n c,d] w (ListPost icell 1 ((List.range m).map (fun e=>Ct.votes (Hd.matrix m l d) (Ct.ctrl (Hd.matrix m l d)) e m)) w):=by
 have hm:1<=m/\m<=12:=by have:=hv;unfold Hd.valid at this;simp at this;omega
 have Hm:=Z1 (a2Z w A n c m l d hl hn hw hA hv hd);obtain⟨i0,hi,b4,b5,b6⟩:=XW intInfo;have av:=fun M=>Z1 (Hd.matrix_bd m l d (Hd.valid_shr hv) M);clear hA hl hw hd hv hn;obtain⟨MM,X⟩:=eX (Hd.matrix m l d);rw[<- X] at Hm⊢;have aq:=Z1 X;clear X;have bc:=hm.1;have ak:=hm.2;clear hm;refine XL.1 (callsIn_of_wp_marks (F:=Fence.wide) (n:=8) func232 rfl trivial ?_ rfl);simp only[ntmps232,Yn,Xl,Y8,Nat.reduceAdd,Nat.reduceSub,Yr,Yl,YT,YW,Xr,XM]
 gi_wp2
 refine⟨trivial,XL.2 (Hm.mono ?_)⟩;rintro ev w1 ⟨ad,E,L,M,rfl,hM,af⟩;obtain⟨HM,ab,T⟩:=Z3 hM ad af;clear hM ad af;obtain⟨g,hg⟩:=eX w1.heap.size;have Hg:=Z1 hg;clear hg
 gi_wp2
 refine⟨trivial,XL.2 ((a5O _ _ _ _).mono ?_)⟩;rintro ev w5 ⟨rfl,rfl⟩
 gi_wp2
 obtain⟨ws,aa⟩:=eX ((w1.alloc (.cells #[.int .u16 0] 337)).alloc (.cells #[.slice E m L] 222));obtain⟨O,r0,r1,J⟩:=a1m w1 #[.int .u16 0] #[.slice E m L] 337 222;rw[<- aa] at O r0 r1 J;rw[<- aa,<- Hg];rw[<- Hg] at O r0 r1 J;have c2:ws.cell? ⟨g+1,0,none⟩=some (.slice E m L):=by have:=cr9 0 r1;simpa using this
 have ae:MatI ws g E m m M:=MatI.below (by rw[Hg];exact HM) O lR;have ap:=Z1 ae;have ah:=(av M).out (by rw[T,aq]);have b9:g<=w1:=X6 Hg;have az:w<=g:=by have:=ab.out.size;rw[Hg];exact this
 have ao:=Z1 ah;clear aa ae
 refine wpIn_rangeFunc_ownH rfl (by omega:1<=8) (gf:=290) (lb:=#[.pointer (some ⟨g+1,0,none⟩)]) rfl trivial (enters_of func290 kR rfl)
  (a3M ws g (g+2) (g+1) 7 oM E m L M ak ah J oM oM c2 ap)
  (fun h k=>⟨h.1.trans k.1,Vn h.2 k.2⟩) (fun W l o o' h1 h2 h3 h4=>⟨KeepR.putObj (n:=g+2) (w:=ws) oM W l o o' h1 h2 h3 h4,by simp[World.putObj]⟩) bR (fun _=>rfl)
  (fun s W=>Row W g 337 #[.int .u16 (uni s:Nat)]/\Below g w1 W/\g+2<=W) (fun _ _ _=>False)
  (OwnFrom.and (Own.from (a1T g 337 (fun s:List (Nat × Nat)=>#[.int .u16 (uni s:Nat)])) _) (OwnFrom.and (ownFrom_below oM oM) (fun _ _ _ _ hs hg _=>Vn hs hg.size))) (fun _ _ _ _ _ hs _ _=>hs)
  ⟨r0,O,oM⟩
  (fun x a' W=>a'={ tmps:=#[.int .i64 m,.slice A n c,.int .i64 d,undef,undef,undef,.slice none 0 0,.int .i64 0,.slice E m L,.int .i64 0,.pointer (some ⟨g,0,none⟩),undef,.int .u16 ((x.2 % 4096:Nat):Int),undef,undef,
   .tuple #[.slice E m L,()],.int .i64 m,.slice A n c,.int .i64 d,.tuple #[.slice E m L,()],.slice E m L,.int .i64 0,.int .i64 0,.bool false,undef,.slice E m L,
   .func (.func 290) #[] #[.pointer (some ⟨g+1,0,none⟩)],.int .i64 x.1,.int .u16 ((x.2 % 4096:Nat):Int),
   undef,undef,undef,undef,undef,undef,undef,undef,undef,undef,undef,undef,undef,undef,undef,undef,undef,undef,undef],defers:=[] })
  ?hAx ?assign ?body ?done ?stop
 case hAx=>exact fun _ _ _ _ _ _ h _ _=>h
 case assign =>
  rintro l s x W K ⟨I,S,i3⟩ hK;dsimp only[encS]
  gi_wp2
  exact hK _ _ (KeepsFrom.of_grownBy (Xx W none) (fun j e=>by cases e)) ⟨KeepR.refl _ _ _ _,lR⟩ ⟨I,S,i3⟩ rfl
 case body =>
  rintro l s x a' W b1 ⟨r,b3⟩ ⟨I,S,i3⟩ rfl a5;have z1:=cr9 0 I;simp at z1;have f1:=fr0 0 I;have s1:=Vq I;obtain⟨u,Q⟩:=eX (uni s);have am:u<4096:=by rw[Q];exact b3t s
  obtain⟨sx,a7⟩:=eX (x.2 % 4096);have be:sx<4096:=oM;have b2:=a2e u sx oM oM;have Hn:Hid (uni (s++[x])=u ||| sx):=by show _=_;rw[b3L,Q,a7]
  obtain⟨nu,a6⟩:=eX (((u ||| sx:Nat):Int):Int);rw[<- Q] at z1;rw[<- a6] at b2;rw[<- a7];have hj:=Row.set I 0 (.int .u16 nu);have Hj:Hid (Row (W.setCell ⟨g,0,none⟩ (.int .u16 nu)) g 337 #[.int .u16 nu]):=Z1 (by simpa using hj);have Hb:=Z1 (S.setCell (p:=⟨g,0,none⟩) lR (.int .u16 nu));have ax:=Z1 a6;clear Q a7 a6 hj I S b1 b3
  gi_wp2
  refine⟨KeepsFrom.of_grownBy (Xz (Xx W (some g)) 0 _) (fun j e=>by cases e;omega),⟨fun b b8 hL=>VR _ _ _ _ (by show b≠g;omega),by simp[World.setCell]⟩,by rw[Hn,<- ax];exact Hj,Hb,by simpa[World.setCell] using i3⟩
 case done =>
  rintro D ys W hD hS ⟨I,S,i3⟩ hK;have Q:uni ys=Ct.ctrl MM:=by unfold uni;rw[hS,T];rfl
  have am:Ct.ctrl MM<4096:=by rw[<- Q];exact b3t ys
  rw[Q] at I;obtain⟨u,a8⟩:=eX (Ct.ctrl MM);rw[<- a8] at I am;obtain⟨f,hf⟩:=eX (fun e=>Ct.votes MM (Ct.ctrl MM) e m:Nat->Int);have Hf:Hid (∀e,Ct.votes (matL M) u e m=f e):=Z1 (fun e=>by rw[T,hf,a8]);have aw:=Z1 hf;obtain⟨h,hh⟩:=eX W.heap.size;obtain⟨I1,I2,HK⟩:=Z3 I S hK;have ar:Hid (MatI W h E m m M):=Z1 (((show MatI w1 g E m m M by rw[Hg];exact HM).below S lR).more oM);have Hh:=Z1 hh;have b0:g<h:=oM;have ay:D<h:=by rw[hh];exact Vq hK
  clear Q a8 hf hK I S hS hh
  gi_wp2_with (gi_at_make;refine a1B rfl _ _ 108 rfl .i64 3 i0 8 ZT hi b4 b5 b6 _ _ _ _ m m rfl rfl rfl rfl lR oM oM ?_;intro w2 a9)
  have a:Row w2 h 3 (cellsI (upTo f 0 m 0)):=by
   have:=Vh W (.cells ((List.replicate m (0:Int)).map (Value.int .i64)).toArray 3);rw[a3I];unfold Row;rw[Hh,a9.out];exact this
  have an:Hid (Below h W w2):=Z1 (by rw[a9.out];exact(VM h W).alloc (by rw[Hh];exact lR) _);have ac:=Z1 a;rw[<- Hh];clear a9 a
  gi_loopw [36] (fun i wr=>∃k:Nat,k<=m/\i=k/\Row wr h 3 (cellsI (upTo f 0 m k))/\Below h W wr) (fun i _=>m-(intOf i).toNat)
  case atStart=>exact⟨0,Vb _,rfl,ac,an⟩
  case round =>
   obtain⟨k,hk,rfl,a,hb⟩:=hrel;have sg:=Vq a
   by_cases a5:k<m
   case neg =>
    obtain rfl:k=m:=oM;have a0:=(hb.block D ay).trans HK;have ai:=belowK_b (w:=ws) lR wr D _ (.deferred none) oM a0 rfl rfl
    have HP:Hid (ListPost icell 1 ((List.range k).map f) w (.returned (.tuple #[.slice (some ⟨h,0,none⟩) k k,()])) (wr.putObj D (.deferred none))):=by
     refine Z1 ⟨ab.out.trans (((I2.out.trans (hb.mono oM)).trans (ai.mono oM)).mono az),some ⟨h,0,none⟩,k,sP,?_⟩;rw[a3r] at a;have al:Row (wr.putObj D (.deferred none)) h 3 (cellsI ((List.range k).map f)):=(World.putObj_heap_other oM).trans a;exact a3v (Value.int .i64) al
    have au:=Z1 a0;rw[aw] at HP;clear a hb a0 ai
    gi_wp2
    exact⟨sP,.inl ⟨_,_,rfl,run_takeDeferred au,⟨_,by simp[results,results232],HP⟩⟩⟩
   have a4:=(hb.block g b0).trans I1.out;have z1:=cr9 0 a4;simp at z1;have s1:=Vq a4;have ag:=(ar.below hb lR).more (show h<=wr by omega);have hv:=a5H wr E m L m M u k ag ak a5 oM ao;rw[Hf] at hv;have Hv:=Z1 hv;have hj:=Row.set a k (.int .i64 (f k))
   have aj:(cellsI (upTo f 0 m k)).setIfInBounds k (.int .i64 (f k))=cellsI (upTo f 0 m (k+1)):=by
    rw[<- a5g f 0 a5];unfold cellsI;simp[ZM]
   rw[aj] at hj;have Hj:=Z1 hj;have Hb:=Z1 (hb.setCell (p:=⟨h,k,none⟩) lR (.int .i64 (f k)));have b7:(upTo f 0 m k).length=m:=a5h f 0 hk;have y0:wr.cell? ⟨h,k,none⟩=some (.int .i64 ((upTo f 0 m k)[k])):=by rw[cr9 k a];simp[cellsI]
   have y1:=fr0 k a;have ba:(0:Int)<=(k:Int):=oM;have bb:(k:Int)<(m:Int):=oM;clear hj aj ag hv a4
   gi_wp2
   refine⟨trivial,XL.2 (Hv.mono ?_)⟩;rintro ev w7 ⟨rfl,rfl⟩
   gi_wp2
   go_roundw
   case rel=>exact⟨k+1,oM,by go_num,Hj,Hb⟩
   case measure=>exact mS
 case stop =>
  rintro D c' s W _ _ hx _;exact hx.elim
end Go.Proofs.YtbhdekahdnenjaaGreatDoor
