/- My texts StepW, RankW, CtrlW, ReachW, VotesW. -/
import Derived.WalkSmall
import Derived.Test.YtniaimjknmhapaaGreatDoorG32
set_option linter.unusedVariables false
set_option linter.unusedSimpArgs false
set_option maxRecDepth 100000
set_option maxHeartbeats 16000000
namespace Go.Proofs.YtniaimjknmhapaaGreatDoor
open Go.Proofs.Tryz Go.RowKit Go.Shelf
attribute [local go_sem] Oper.semAt_some
theorem bit16z (set q:Nat) (hs:set<65536):(bits .and .u16 ((set:Int) / 2 ^ q) 1==0)=!set.testBit q:=by
 have e:((set:Int) / 2 ^ q)=((set / 2 ^ q:Nat):Int):=by rw [Int.natCast_ediv,Int.natCast_pow];rfl
 have h:=a2B (set / 2 ^ q) 1 (Nat.lt_of_le_of_lt (Nat.div_le_self _ _) hs) oM;have h1:((1:Nat):Int)=1:=rfl;rw [h1] at h;rw [e,h,Nat.and_one_is_mod,Nat.testBit_eq_decide_div_mod_eq,Bool.eq_iff_iff];simp;omega
theorem a1R (a b:Nat) (ha:a<65536) (hb:b<65536):bits .or .u16 (a:Int) (b:Int)=((a ||| b:Nat):Int):=by
 have hx:a ||| b<2 ^ 16:=Nat.or_lt_two_pow oM oM
 have h1:(BitVec.ofInt 16 (a:Int)).toNat=a:=by
  rw [BitVec.ofInt_natCast,BitVec.toNat_ofNat];exact Nat.mod_eq_of_lt oM
 have h2:(BitVec.ofInt 16 (b:Int)).toNat=b:=by
  rw [BitVec.ofInt_natCast,BitVec.toNat_ofNat];exact Nat.mod_eq_of_lt oM
 show IntKind.u16.wrap ((BitVec.ofInt 16 (a:Int) ||| BitVec.ofInt 16 (b:Int)).toNat:Int)=_;rw [BitVec.toNat_or,h1,h2,a3h];omega
theorem a5b (m:List (List Int)) (all:Nat):∀ k,Ct.fresh m all k<2 ^ k
 | 0=>by simp [Ct.fresh]
 | k+1=>by
  have h:=a5b m all k;have h2:2 ^ k<2 ^ (k+1):=Nat.pow_lt_pow_right oM oM;unfold Ct.fresh
  split
  ·exact Nat.or_lt_two_pow oM h2
  ·omega
theorem a3H (m:List (List Int)) (all e:Nat):∀ k,(Ct.fresh m all k).testBit e=true->all.testBit e=false
 | 0,h=>by simp [Ct.fresh] at h
 | k+1,h=>by
  unfold Ct.fresh at h
  split at h
  case isTrue hc =>
   rw [Nat.testBit_or,Bool.or_eq_true] at h
   rcases h with h | h
   ·exact a3H m all e k h
   ·rw [Nat.testBit_two_pow] at h
    have:k=e:=by simpa using h
    rw [<- this];exact hc.1
  ·exact a3H m all e k h
theorem a8k (m:List (List Int)) (all k:Nat) (h:Ct.fresh m all k≠0):all<all ||| Ct.fresh m all k:=by
 have h1:all<=all ||| Ct.fresh m all k:=Nat.left_le_or
 rcases Nat.lt_or_eq_of_le h1 with h2 | h2
 ·exact h2
 ·obtain⟨e,he⟩:=Nat.exists_testBit_of_ne_zero h
  have h3:=a3H m all e k he;rw [h2,Nat.testBit_or,he] at h3;simp at h3
theorem MatI.keepR {w w':World} {B n lo hi:Nat} {A:Option Addr} {r k:Nat} {m:List IRow} (h:MatI w B A r k m) (hb:KeepR n lo hi w w') (hB:B<=n) (hL:B<=lo):MatI w' B A r k m :=
 ⟨h.hl,h.hA.keepR hb hB hL,fun x hx=>⟨⟨(h.hx x hx).1.hl,(h.hx x hx).1.hA.keepR hb hB hL⟩,(h.hx x hx).2⟩⟩
theorem MatI.more {w:World} {B C:Nat} {A:Option Addr} {r k:Nat} {m:List IRow} (h:MatI w B A r k m) (hC:B<=C):MatI w C A r k m :=
 ⟨h.hl,h.hA.more hC,fun x hx=>⟨(h.hx x hx).1.more hC,(h.hx x hx).2⟩⟩
theorem MatI.below {w w':World} {B C:Nat} {A:Option Addr} {r k:Nat} {m:List IRow} (h:MatI w B A r k m) (hb:Below C w w') (hC:B<=C):MatI w' B A r k m :=
 ⟨h.hl,RowsAt.below h.hA hb hC,fun x hx=>⟨(h.hx x hx).1.below hb hC,(h.hx x hx).2⟩⟩
def encS (x:Nat × Nat):Array Value:=#[.int .i64 x.1,.int .u16 ((x.2 % 4096:Nat):Int)]
section
variable (w:World)
theorem a5s (A:Option Addr) (n c:Nat) :
  Calls prog 293 #[.slice A n c] w fun ev w' =>
   ev=.returned (.func (.func 317) #[] #[.pointer (some ⟨w,0,none⟩)])/\w'=w.alloc (.cells #[.slice A n c] 235):=by
 go_enter func293,ntmps293;go_wp2;go_ret;exact⟨rfl,rfl⟩
theorem a8E (m:Nat) (hm:1<=m) (l n₀ lo hi:Nat) (B0:Nat) (A:Option Addr) (n c:Nat) (M:List IRow) (hn:n<=12)
  (q:Nat) (hq:q<=n₀) (hLq:q<=lo) (hb0:B0<n₀) (hl0:B0<lo∨hi<=B0) (hbd:∀ r∈M,∀ x∈r.l,0<=x/\x<=10000)
  (J Jx:List (Nat × Nat)->World->Prop) (W:World) (hW:n₀<=W.heap.size)
  (hY:∀ pre x W1,J pre W1->pre.length<5000->YieldAt Fence.wide (m-1) prog l (encS x) W1 fun e W' =>
   (e=.returned (.bool true)/\J (pre++[x]) W'/\(KeepR n₀ lo hi W1 W'/\W1.heap.size<=W'.heap.size))∨(e=.returned (.bool false)/\Jx (pre++[x]) W'))
  (c0:W.cell? ⟨B0,0,none⟩=some (.slice A n c)) (hM:MatI W q A n n M) (h0:J [] W) :
  CallsIn Fence.wide m prog 317 #[.func (.yield l) #[] #[],.pointer (some ⟨B0,0,none⟩)] W fun e W'=>(∃ v,e=.returned v) /\
   ((∃ ys:List (Nat × Nat),ys.map (fun x=>x.2 % 4096)=Ct.steps (matL M)/\J ys W')∨(∃ pre,True/\Jx pre W')):=by
 refine callsIn_of_wp func317 rfl trivial ?_ rfl;simp only [ntmps317,List.size_toArray,List.length_cons,List.length_nil,Nat.reduceAdd,Nat.reduceSub,Array.replicate_succ,Array.replicate_zero,List.push_toArray,List.append_toArray,List.nil_append,List.cons_append];have HM:=Z1 hM;have HBd:=Z1 hbd;have hml:(matL M).length=n:=by simp [matL,hM.hl]
 have Hml:=Z1 hml;clear hM hbd hml
 gi_wp2
 gi_loopw [3,4,5] (fun va vf vi wr=>∃(all f i K:Nat) (pre:List (Nat × Nat)),va=.int .u16 all/\vf=.int .u16 f/\vi=.int .i64 i/\all<4096/\f<4096/\(f≠0->4097<=K+all) /\
   Hid (pre.map (fun x=>x.2 % 4096)++Ct.sets (matL M) K all f=Ct.steps (matL M))/\pre.length=i/\i+K<=4100/\J pre wr/\KeepR n₀ lo hi W wr/\W.heap.size<=wr.heap.size)
  (fun va vf _ _=>if (intOf vf).toNat=0 then 0 else 4100-(intOf va).toNat)
 case atStart=>exact⟨1,1,0,4100,[],rfl,rfl,rfl,oM,oM,oM,Z1 rfl,rfl,oM,h0,KeepR.refl _ _ _ _,lR⟩
 case round =>
  obtain⟨all,f,i,K,pre,rfl,rfl,rfl,ha,hf,hfu,HS,hpl,hiK,hJs,hKb,hsz⟩:=hrel
  by_cases hz:f=0
  ·have hS:=HS.out
   have hse:Ct.sets (matL M) K all f=[]:=by cases K <;> simp [Ct.sets,hz]
   rw [hse,List.append_nil] at hS;have HS2:=Z1 hS;subst hz;clear hS hse hY
   gi_wp2
   refine⟨fun _ _=>trivial,?_⟩
   gi_wp2
   go_end0
   exact⟨⟨_,rfl⟩,.inl ⟨_,HS2.out,hJs⟩⟩
  have hz2:((f:Int) != 0)=true:=sO;have hfu2:=hfu hz;obtain⟨fn,tmps,assign,body,hy,hR⟩:=hY pre (i,f) wr hJs oM;have hfm:f % 4096=f:=Nat.mod_eq_of_lt hf;unfold encS at hy;simp only [hfm] at hy
  gi_wp2
  refine hR.mono ?_;rintro ev W3 (⟨rfl,hJ3,hk3,hs3⟩ | ⟨rfl,hJx3⟩)
  case inr =>
   gi_wp2
   go_end0
   exact⟨⟨_,rfl⟩,.inr ⟨_,trivial,hJx3⟩⟩
  have hK3:=hKb.trans hk3;have hM3:=(HM.out.keepR hK3 hq hLq).more (show q<=W3.heap.size by omega);have e1:=(hK3.cell hb0 hl0 0).trans c0;have f1:B0<W3.heap.size:=oM;obtain⟨HM3,HJ3,HK3⟩:=Z3 hM3 hJ3 hK3;have hs3':W.heap.size<=W3.heap.size:=oM;clear hM3 hy hR hY hJ3 hk3 hK3 hJs hKb c0
  gi_wp2
  gi_loop [4,20] (fun vf vk=>∃ k:Nat,k<=n/\vk=.int .i64 k/\vf=.int .u16 (Ct.fresh (matL M) all k)) (fun _ vk=>n-(intOf vk).toNat)
  case atStart=>exact⟨0,Nat.zero_le _,rfl,rfl⟩
  case round =>
   obtain⟨k,hk,rfl,rfl⟩:=hrel
   by_cases hlt:k<n
   case neg =>
    obtain rfl:k=n:=oM;obtain⟨fr,hfr⟩:∃ fr,fr=Ct.fresh (matL M) all k:=⟨_,rfl⟩;have hfl:fr<4096:=by rw [hfr];exact Nat.lt_of_lt_of_le (a5b _ _ _) (Nat.pow_le_pow_right (n:=2) oM hn)
    have hgr:fr≠0->all<all ||| fr:=by rw [hfr];exact a8k _ _ _
    obtain⟨K',rfl⟩:∃ K',K=K'+1:=⟨K-1,oM⟩
    have HS2:Hid ((pre++[(i,f)]).map (fun x=>x.2 % 4096)++Ct.sets (matL M) K' (all ||| fr) fr=Ct.steps (matL M)):=by
     have hS:=HS.out
     have hse:Ct.sets (matL M) (K'+1) all f=f::Ct.sets (matL M) K' (all ||| fr) fr:=by
      rw [hfr,<- Hml.out];simp [Ct.sets,hz]
     rw [hse] at hS;show _=_;rw [<- hS,List.map_append];simp [hfm]
    rw [<- hfr];have hor:=a1R all fr oM oM;have hol:all ||| fr<4096:=Nat.or_lt_two_pow (n:=12) oM oM;have hi1:(i:Int)+1<=9223372036854775807:=oM;have hi0:-9223372036854775808<=(i:Int)+1:=oM;clear hfr HS hfu
    gi_wp2
    go_roundw
    case rel=>exact⟨all ||| fr,fr,i+1,K',pre++[(i,f)],rfl,rfl,by go_num,hol,hfl,fun h=>by have:=hgr h;omega,HS2,by simp [hpl],oM,HJ3.out,HK3.out,hs3'⟩
    case measure =>
     simp [intOf]
     by_cases h:fr=0
     ·simp [h,hz];omega
     ·have:=hgr h;simp [h,hz];omega
   have hb:=bit16z all k oM
   have Hst:Hid (Ct.fresh (matL M) all (k+1)=if all.testBit k=false/\5000<Ct.votes (matL M) all k n then Ct.fresh (matL M) all k ||| 2 ^ k else Ct.fresh (matL M) all k):=by
    show _=_;rw [<- Hml.out];rfl
   obtain⟨fr,hfr⟩:∃ fr,fr=Ct.fresh (matL M) all k:=⟨_,rfl⟩;have hfl:fr<2 ^ k:=by rw [hfr];exact a5b _ _ _
   have hk16:2 ^ k<=2048:=Nat.pow_le_pow_right (n:=2) oM (show k<=11 by omega);rw [<- hfr] at Hst ⊢
   cases ht:all.testBit k with
   | true =>
    rw [ht] at hb;have H2:Hid (Ct.fresh (matL M) all (k+1)=fr):=by show _=_;rw [Hst.out,ht];simp
    clear ht hfr Hst;replace hb:_=false:=hb
    gi_wp2
    refine⟨trivial,?_⟩
    gi_wp2
    go_round
    case rel=>exact⟨k+1,oM,by go_num,by rw [H2.out]⟩
    case measure=>simp [intOf];omega
   | false =>
    rw [ht] at hb;replace hb:_=true:=hb;have Hv:=Z1 (a5n W3 A n c n M all k HM3.out hn hlt oM HBd.out);obtain⟨vt,hvt⟩:∃ vt,vt=Ct.votes (matL M) all k n:=⟨_,rfl⟩;rw [<- hvt] at Hv Hst;rw [ht] at Hst;clear ht hfr hvt
    gi_wp2
    refine⟨trivial,callsIn_wide.2 (Hv.out.mono ?_)⟩;rintro ev w7 ⟨rfl,rfl⟩
    by_cases hv:5000<vt
    case neg =>
     have H2:Hid (Ct.fresh (matL M) all (k+1)=fr):=by show _=_;rw [Hst.out];simp [hv]
     have hd:decide (vt > 5000)=false:=sO;clear Hst
     gi_wp2
     go_round
     case rel=>exact⟨k+1,oM,by go_num,by rw [H2.out]⟩
     case measure=>simp [intOf];omega
    have H2:Hid (Ct.fresh (matL M) all (k+1)=fr ||| 2 ^ k):=by show _=_;rw [Hst.out];simp [hv]
    have hd:decide (vt > 5000)=true:=sO;have hor:=a1R fr (2 ^ k) oM oM;have he2:((2 ^ k:Nat):Int)=(2:Int) ^ k:=by rw [Int.natCast_pow];rfl
    have hwr:IntKind.u16.wrap ((2:Int) ^ k)=(2:Int) ^ k:=by rw [a3h,<- he2];omega
    rw [he2] at hor;have Hor:=Z1 hor;clear he2 hor;clear Hst
    gi_wp2
    go_round
    case rel=>exact⟨k+1,oM,by go_num,by rw [H2.out,<- Hor.out]⟩
    case measure=>simp [intOf];omega
end
open Go.Proofs.Tryz Go.RowKit Go.Shelf
attribute [local go_sem] Oper.semAt_some
theorem a1t {F:Fence} {nn:Nat} {P:Program} {w:World} {ops:Array Oper} {rest:List Oper} {o:Oper} {a:Act} {Q:Exit->Act->World->Prop} (hg:o.guard=none) (l c:Operand) (t:TypeId) (hop:o.op=Op.makeSlice t l c)
  (K:IntKind) (e:TypeId) (i:TypeInfo) (bytes:Nat) (h1:P.underlying t=some (.slice e)) (h2:P.info? e=some i) (h3:i.zero=some (.int K 0)) (h4:i.size=1) (h5:i.bytes=bytes)
  (kl kc:IntKind) (L C:Int) (n m:Nat) (hl:a.eval l=.int kl L) (hc:a.eval c=.int kc C) (hL:L=(n:Int)) (hC:C=(m:Int)) (hnm:n<=m) (b1:bytes<=100) (b2:m<=10000000)
  (hK:∀ w',Hid (w'=w.alloc (.cells ((List.replicate m (0:Int)).map (Value.int K)).toArray e))->wpListIn F nn P ops Q rest (a.put o.dst (.slice (some ⟨w,0,none⟩) n m)) w') :
  wpListIn F nn P ops Q (o::rest) a w:=by
 refine wpListIn_plain hg fun K' hK'=>?_;subst hL hC
 have hb:(i.bytes:Int)*(m:Int)<=281474976710656:=by
  rw [h5];have:bytes*m<=100*10000000:=Nat.mul_le_mul b1 b2;have h2:((bytes*m:Nat):Int)<=1000000000:=oM;rw [Int.natCast_mul] at h2;omega
 have hrun:=run_make (P:=P) w t e i (.int K 0) h1 h2 h3 kl kc (n:Int) (m:Int) oM oM hb oM;rw [h4,Nat.mul_one,Int.toNat_natCast,Int.toNat_natCast] at hrun;have hz:madeCells (Value.int K 0).cells m=((List.replicate m (0:Int)).map (Value.int K)).toArray:=a2d K m;rw [hz] at hrun;unfold Oper.wpIn;refine⟨?_,?_⟩
 ·simp [Oper.about,hop]
 ·rw [Oper.semAt_plain F _ _ (by rw [hop];intro c hc';cases hc')]
  simp [execOp,hop,hl,hc,hrun,Result.andThen];have:=hK _ (Z1 rfl);simp at this;exact hK' _ _ this
def fillTo (n k:Nat):List Int:=List.replicate k (-1)++List.replicate (n-k) 0
theorem a8m {n k:Nat} (h:k<n):(fillTo n k).set k (-1)=fillTo n (k+1):=by
 unfold fillTo;rw [List.set_append_right _ _ sP];obtain⟨j,hj⟩:∃ j,n-k=j+1:=⟨n-k-1,oM⟩;rw [hj,show n-(k+1)=j by omega,List.replicate_succ' (n:=k)];simp [List.replicate_succ]
theorem a4y {n k:Nat} (h:k<=n):(fillTo n k).length=n:=by simp [fillTo];omega
def markTo (F:List Int) (x:Nat × Nat) (k:Nat):List Int:=(List.range F.length).map fun e=>if e<k/\(x.2 % 4096).testBit e=true then (x.1:Int) else F.getD e 0
def mark (F:List Int) (x:Nat × Nat):List Int:=markTo F x F.length
def marks (n:Nat) (pre:List (Nat × Nat)):List Int:=pre.foldl mark (fillTo n n)
theorem a4t (F:List Int) (x:Nat × Nat) (k:Nat):(markTo F x k).length=F.length:=by simp [markTo]
theorem a6E (F:List Int) (x:Nat × Nat):markTo F x 0=F:=by
 apply List.ext_getElem (by simp [markTo]);intro i h1 h2;simp [markTo,h2]
theorem a8c (F:List Int) (x:Nat × Nat) (k e:Nat) (he:e<F.length):(markTo F x k).getD e 0=if e<k/\(x.2 % 4096).testBit e=true then (x.1:Int) else F.getD e 0:=by
 simp [markTo,he]
theorem a8b (F:List Int) (x:Nat × Nat) (k:Nat) (hk:k<F.length) (h:(x.2 % 4096).testBit k=true):(markTo F x k).set k (x.1:Int)=markTo F x (k+1):=by
 apply List.ext_getElem (by simp [markTo]);intro i h1 h2;have hi:i<F.length:=by simpa [markTo] using h2
 rw [List.getElem_set]
 by_cases e:k=i
 ·subst e;simp [markTo,h]
 ·simp only [if_neg e,markTo,List.getElem_map,List.getElem_range]
  have:(i<k+1) ↔ (i<k):=oM;simp [this]
theorem a6F (F:List Int) (x:Nat × Nat) (k:Nat) (h:(x.2 % 4096).testBit k=false):markTo F x k=markTo F x (k+1):=by
 unfold markTo;apply List.map_congr_left;intro i _
 by_cases e:i=k
 ·subst e;simp [h]
 ·have:(i<k+1) ↔ (i<k):=oM
  simp [this]
theorem a3y (n:Nat):∀ pre,(marks n pre).length=n:=by
 intro pre;unfold marks
 have:∀(l:List (Nat × Nat)) (F:List Int),(l.foldl mark F).length=F.length:=by
  intro l
  induction l with
  | nil=>intro F;rfl
  | cons x l ih=>intro F;rw [List.foldl_cons,ih];simp [mark,a4t]
 rw [this,a4y lR]
theorem a5M (n:Nat) (pre:List (Nat × Nat)) (x:Nat × Nat):marks n (pre++[x])=mark (marks n pre) x:=by
 unfold marks;rw [List.foldl_append];rfl
theorem a8x (l:List Nat) (e:Nat):(Ct.union l).testBit e=l.any (fun s=>s.testBit e):=by
 unfold Ct.union
 have:∀(l:List Nat) (a:Nat),(l.foldl (· ||| ·) a).testBit e=(a.testBit e||l.any (fun s=>s.testBit e)):=by
  intro l
  induction l with
  | nil=>intro a;simp
  | cons x l ih=>intro a;rw [List.foldl_cons,ih,Nat.testBit_or,List.any_cons,Bool.or_assoc]
 rw [this];simp
theorem a9s (n:Nat) (e:Nat) (he:e<n):∀ pre:List (Nat × Nat),decide (0<=(marks n pre).getD e 0)=(pre.map (fun x=>x.2 % 4096)).any (fun s=>s.testBit e):=by
 intro pre;obtain⟨k,hk⟩:∃ k,k=pre.length:=⟨_,rfl⟩
 induction k generalizing pre with
 | zero =>
  have:pre=[]:=List.length_eq_zero_iff.1 hk.symm;subst this;have:(fillTo n n).getD e 0=-1:=by simp [fillTo,he]
  unfold marks;simp only [List.foldl_nil,this];simp
 | succ k ih =>
  obtain⟨p,x,rfl⟩:∃ p x,pre=p++[x]:=by
   have hne:pre≠[]:=by intro h;rw [h] at hk;simp at hk
   exact⟨pre.dropLast,pre.getLast hne,(List.dropLast_concat_getLast hne).symm⟩
  have hi:=ih p (by simpa using hk);have hl:=a3y n p;rw [a5M,mark,a8c _ _ _ _ oM,List.map_append,List.any_append,<- hi];simp only [hl,he,true_and,List.map_cons,List.map_nil,List.any_cons,List.any_nil,Bool.or_false]
  cases hb:(x.2 % 4096).testBit e with
  | true=>simp
  | false=>simp
def RankPost (n:Nat) (L:List (List Int)) (w:World) (ev:Ending) (w':World):Prop :=
 Below w w w'/\∃ A c l,ev=.returned (.tuple #[.slice A n c,()])/\l.length=n/\RowsAt icell 1 w' w' A l/\∀ e,e<n->decide (0<=l.getD e 0)=(Ct.ctrl L).testBit e
def cellsI (F:List Int):Array Value:=(F.map (Value.int .i64)).toArray
theorem a3q (ws:World) (g n₀ B0 m:Nat) (hm:1<=m) (A:Option Addr) (n c:Nat) (M:List IRow) (hn:n<=12) (hbd:∀ r∈M,∀ x∈r.l,0<=x/\x<=10000) (hws:ws.heap.size=n₀) (h1:g+1<=B0) (h2:B0<n₀)
  (c0:ws.cell? ⟨B0,0,none⟩=some (.slice A n c)) (hM:MatI ws g A n n M) :
  SeqStopsK Fence.wide m prog 317 #[.pointer (some ⟨B0,0,none⟩)] encS
   (fun W W'=>KeepR n₀ g (g+1) W W'/\W.heap.size<=W'.heap.size) (fun ys=>ys.map (fun x=>x.2 % 4096)=Ct.steps (matL M)) (fun _=>True) 5000 ws:=fun l J Jx W hW _ _ hY h0 =>
 a8E m hm l n₀ g (g+1) B0 A n c M hn g oM lR h2 (.inr h1) hbd J Jx W (by have:=hW.size;omega) hY
  ((hW.cell (p:=⟨B0,0,none⟩) (by show B0<ws.heap.size;omega)).trans c0) (hM.below hW oM) h0
theorem Hd.matrix_bd (n:Nat) (l:List Hld) (d:Int) (hs:∀ x∈l,0<=x.shr/\x.shr<=10000) (M:List IRow) (hM:matL M=Hd.matrix n l d):∀ r∈M,∀ x∈r.l,0<=x/\x<=10000:=by
 intro r hr x hx;have h1:r.l∈matL M:=List.mem_map.2 ⟨r,hr,rfl⟩;rw [hM] at h1;unfold Hd.matrix at h1;obtain⟨h,_,e⟩:=List.mem_map.1 h1;rw [<- e] at hx;obtain⟨e2,_,e3⟩:=List.mem_map.1 hx;rw [<- e3];exact Hd.at_bd l _ _ d hs
section
variable (w:World)
theorem b0L (A:Option Addr) (n c m:Nat) (l:List Hld) (d:Int) (hl:l.length=n) (hn:n<=200) (hw:∀ x∈l,x.wf) (hA:RowsAt Hld.cells 4 w w A l) (hv:Hd.valid m l=true) (hd:-25567<=d/\d<=84005) :
  Calls prog 292 #[m,.slice A n c,d] w (RankPost m (Hd.matrix m l d) w):=by
 have hm:1<=m/\m<=12:=by have:=hv;unfold Hd.valid at this;simp at this;omega
 have Hm:=Z1 (a2H w A n c m l d hl hn hw hA hv hd);obtain⟨i0,hi,hz0,hz1,hz2⟩:=info_parts intInfo;have Hbd:=fun M=>Z1 (Hd.matrix_bd m l d (Hd.valid_shr hv) M);clear hA hl hw hd hv hn;refine callsIn_wide.1 (callsIn_of_wp_marks (F:=Fence.wide) (n:=8) func292 rfl trivial ?_ rfl);simp only [ntmps292,List.size_toArray,List.length_cons,List.length_nil,Nat.reduceAdd,Nat.reduceSub,Array.replicate_succ,Array.replicate_zero,List.push_toArray,List.append_toArray,List.nil_append,List.cons_append]
 gi_wp2
 refine⟨trivial,callsIn_wide.2 (Hm.out.mono ?_)⟩;rintro ev w1 ⟨hB1,A1,c1,M,rfl,hM,hML⟩;obtain⟨HM,HB1,HML⟩:=Z3 hM hB1 hML;clear hM hB1 hML;obtain⟨g,hg⟩:∃ g,g=w1.heap.size:=⟨_,rfl⟩;have Hg:=Z1 hg;clear hg
 gi_wp2_with (gi_at_make;refine a1t rfl _ _ 128 rfl .i64 3 i0 8 underlying128 hi hz0 hz1 hz2 _ _ _ _ m m rfl rfl rfl rfl lR oM oM ?_;intro w2 hw2)
 have Hs2:Hid (w2.heap.size=g+1):=by show _=_;rw [hw2.out,Hg.out];simp
 have harr:Arr .i64 3 w2 g (fillTo m 0):=by
  have:=heap_alloc_new w1 (.cells ((List.replicate m (0:Int)).map (Value.int .i64)).toArray 3);unfold Arr;rw [Hg.out,hw2.out];simpa [fillTo] using this
 obtain⟨w3,hw3⟩:∃ w3,w3=w2.alloc (.cells #[.slice (some ⟨g,0,none⟩) m m] 128):=⟨_,rfl⟩;have Ha3:Hid (Arr .i64 3 w3 g (fillTo m 0)):=Z1 (by rw [hw3];exact harr.alloc _);have Hb3:Hid (w3.heap[g+1]?=some (.cells #[.slice (some ⟨g,0,none⟩) m m] 128 (0,0))):=Z1 (by have:=heap_alloc_new w2 (.cells #[.slice (some ⟨g,0,none⟩) m m] 128);rw [Hs2.out,<- hw3] at this;exact this);have Hs3:Hid (w3.heap.size=g+2):=Z1 (by rw [hw3];simp [Hs2.out])
 have HB3:Hid (Below g w1 w3):=Z1 (by
  rw [hw3,hw2.out];exact((Below.refl g w1).alloc (by rw [Hg.out];exact lR) _).alloc (by rw [Hg.out];simp) _)
 have HW3:=Z1 hw3;rw [<- Hg.out,Hs2.out,<- HW3.out];clear hw2 harr hw3;have hm1:=hm.1;have hm2:=hm.2;clear hm
 gi_loopw [29] (fun i wr=>∃ k:Nat,k<=m/\i=.int .i64 k/\Arr .i64 3 wr g (fillTo m k)/\wr.heap[g+1]?=some (.cells #[.slice (some ⟨g,0,none⟩) m m] 128 (0,0))/\Below g w1 wr/\Hid (wr.heap.size=g+2)) (fun i _=>m-(intOf i).toNat)
 case atStart=>exact⟨0,Nat.zero_le _,rfl,Ha3.out,Hb3.out,HB3.out,Hs3⟩
 case round =>
  obtain⟨k,hk,rfl,harr,hbx,hBw,Hsz⟩:=hrel;have z0:=cr9 0 hbx;simp at z0;have sb:=Vq hbx
  by_cases hlt:k<m
  case neg =>
   obtain rfl:k=m:=oM;obtain⟨L,hL⟩:∃ L,g+3=L:=⟨_,rfl⟩;have HL:=Z1 hL;have hsz:=Hsz.out;obtain⟨HA,Hbx,HBw⟩:=Z3 harr hbx hBw;clear harr hbx hBw hL hsz
   gi_wp2
   refine⟨trivial,callsIn_wide.2 ((a5s _ _ _ _).mono ?_)⟩;rintro ev w5 ⟨rfl,rfl⟩
   gi_wp2
   obtain⟨ws,hws⟩:∃ ws,ws=wr.alloc (.cells #[.slice A1 k c1] 235):=⟨_,rfl⟩;have hs0:wr.heap.size=g+2:=Hsz.out;rw [<- hws,hs0];have hwsz:ws.heap.size=g+3:=by rw [hws];simp [hs0]
   have r0:Row ws g 3 (cellsI (marks k [])):=by rw [hws];exact Row.alloc (show Row wr g 3 (cellsI (fillTo k k)) from HA.out) _
   have r1:Row ws (g+1) 128 #[.slice (some ⟨g,0,none⟩) k k]:=by rw [hws];exact Row.alloc Hbx.out _
   have c2:ws.cell? ⟨g+2,0,none⟩=some (.slice A1 k c1):=by
    have:=heap_alloc_new wr (.cells #[.slice A1 k c1] 235);rw [<- hws,hs0] at this;have:=cr9 0 this;simpa using this
   have hBs:Below g w1 ws:=by rw [hws];exact HBw.out.alloc oM _
   have hM2:MatI ws g A1 k k M:=MatI.below (by rw [Hg.out];exact HM.out) hBs lR;have HM2:=Z1 hM2;have hbd:=(Hbd M).out HML.out;clear hws hs0 Hsz hM2;have hg1:g<=w1.heap.size:=Nat.le_of_eq Hg.out;have hg0:w.heap.size<=g:=by have:=HB1.out.size;rw [Hg.out];exact this
   refine wpIn_rangeFunc_ownH rfl (by omega:1<=8) (gf:=317) (lb:=#[.pointer (some ⟨g+2,0,none⟩)]) rfl trivial (enters_of func317 kR rfl)
    (a3q ws g (g+3) (g+2) 7 oM A1 k c1 M hm2 hbd hwsz oM oM c2 HM2.out)
    (fun h k=>⟨h.1.trans k.1,Nat.le_trans h.2 k.2⟩) (fun W l o o' h1 h2 h3 h4=>⟨KeepR.putObj (n:=g+3) (w:=ws) oM W l o o' h1 h2 h3 h4,by simp [World.putObj]⟩) bR (fun _=>rfl)
    (fun pre W=>Row W g 3 (cellsI (marks k pre))/\Row W (g+1) 128 #[.slice (some ⟨g,0,none⟩) k k]/\Below g w1 W/\g+3<=W.heap.size) (fun _ _ _=>False)
    (OwnFrom.and (Own.from (a1I g 3 (fun pre:List (Nat × Nat)=>cellsI (marks k pre))) _) (OwnFrom.and (Own.from (a1I (g+1) 128 (fun _:List (Nat × Nat)=>#[.slice (some ⟨g,0,none⟩) k k])) _) (OwnFrom.and (ownFrom_below oM oM) (fun _ _ _ _ hs hg _=>Nat.le_trans hs hg.size)))) (fun _ _ _ _ _ hs _ _=>hs)
    ⟨r0,r1,hBs,oM⟩
    (fun x a' W=>a'={ tmps:=#[.int .i64 k,.slice A n c,.int .i64 d,undef,undef,undef,.slice none 0 0,.int .i64 0,.slice A1 k c1,.int .i64 0,.pointer (some ⟨g+1,0,none⟩),u11,.int .i64 x.1,.int .u16 ((x.2 % 4096:Nat):Int),undef,
     .tuple #[.slice A1 k c1,()],.int .i64 k,.slice A n c,.int .i64 d,.tuple #[.slice A1 k c1,()],.slice A1 k c1,.int .i64 0,.int .i64 0,.bool false,undef,.int .i64 k,.slice (some ⟨g,0,none⟩) k k,.slice (some ⟨g,0,none⟩) k k,
     .int .i64 k,.int .i64 k,.bool false,u31,u32,u33,u34,u35,.slice A1 k c1,.func (.func 317) #[] #[.pointer (some ⟨g+2,0,none⟩)],.int .i64 x.1,.int .u16 ((x.2 % 4096:Nat):Int),
     undef,undef,undef,undef,undef,undef,undef,undef,undef,undef,undef,undef,undef,undef,undef,undef],defers:=[] })
    ?hAx ?assign ?body ?done ?stop
   case hAx=>exact fun _ _ _ _ _ _ h _ _=>h
   case assign =>
    rintro l pre x W K ⟨i1,i2,i3,i4⟩ hK;dsimp only [encS]
    gi_wp2
    exact hK _ _ (KeepsFrom.of_grownBy (Xq W none) (fun j e=>by cases e)) ⟨KeepR.refl _ _ _ _,lR⟩ ⟨i1,i2,i3,i4⟩ rfl
   case body =>
    rintro l pre x a' W hl' ⟨r,hr'⟩ ⟨i1,i2,i3,i4⟩ rfl hlt;have z1:=cr9 0 i2;simp at z1;have s2:=Vq i2;obtain⟨F,hF⟩:∃ F,F=marks k pre:=⟨_,rfl⟩;rw [<- hF] at i1;have hFl:F.length=k:=by rw [hF];exact a3y k pre
    have Hn:Hid (marks k (pre++[x])=markTo F x k):=by show _=_;rw [a5M,<- hF,mark,hFl]
    have HFl:=Z1 hFl;have I1:Hid (Row W g 3 (cellsI (markTo F x 0))):=Z1 (by rw [a6E];exact i1);have I2:=Z1 i2;have I3:=Z1 i3;have hx16:x.2 % 4096<65536:=oM;obtain⟨sx,hsx⟩:∃ sx,sx=x.2 % 4096:=⟨_,rfl⟩;obtain⟨ix,hix⟩:∃ ix:Int,ix=(x.1:Int):=⟨_,rfl⟩;have Hsx:=Z1 hsx;have Hix:=Z1 hix;rw [<- hsx] at hx16;rw [<- hsx,<- hix];clear hF hFl i1 i2 i3 hsx hix hl' hr'
    gi_wp2
    gi_loopw [42] (fun i wi=>∃ q:Nat,q<=k/\i=.int .i64 q/\Row wi g 3 (cellsI (markTo F x q))/\Row wi (g+1) 128 #[.slice (some ⟨g,0,none⟩) k k]/\Below g w1 wi/\KeepR (g+3) g (g+1) W wi/\KeepsFrom (g+3) W wi/\W.heap.size<=wi.heap.size) (fun i _=>k-(intOf i).toNat)
    case atStart=>exact⟨0,Nat.zero_le _,rfl,I1.out,I2.out,I3.out,KeepR.refl _ _ _ _,KeepsFrom.of_grownBy (Xq W none) (fun j e=>by cases e),lR⟩
    case round =>
     obtain⟨wi,rfl⟩:∃ wi,wi=wr:=⟨_,rfl⟩;obtain⟨q,hq,rfl,j1,j2,j3,j4,j5,j6⟩:=hrel;obtain⟨J1,J2,J3,J4,J5⟩:=Z5 j1 j2 j3 j4 j5;have y1:=cr9 0 j2;simp at y1;have t2:=Vq j2;have t1:=Vq j1;clear j1 j2 j3 j4 j5
     by_cases hlt2:q<k
     case neg =>
      obtain rfl:q=k:=oM
      gi_wp2
      exact⟨by rw [hwsz];exact J5.out,⟨J4.out,j6⟩,by rw [Hn.out];exact J1.out,J2.out,J3.out,oM⟩
     have hb:=bit16 sx q hx16;have hq0:(0:Int)<=(q:Int):=oM;have hqk:(q:Int)<(k:Int):=oM
     cases ht:sx.testBit q with
     | false =>
      rw [ht] at hb;have hm3:=a6F F x q (by rw [<- Hsx.out];exact ht);have J1':Hid (Row wi g 3 (cellsI (markTo F x (q+1)))):=Z1 (by rw [<- hm3];exact J1.out);clear ht hm3
      gi_wp2
      go_roundw
      case rel=>exact⟨q+1,oM,by go_num,J1'.out,J2.out,J3.out,J4.out,J5.out,j6⟩
      case measure=>simp [intOf];omega
     | true =>
      rw [ht] at hb;have hm3:=a8b F x q (by rw [HFl.out];exact hlt2) (by rw [<- Hsx.out];exact ht);have hlen:(markTo F x q).length=k:=by rw [a4t,HFl.out]
      have hj:=Row.set J1.out q (.int .i64 ix)
      have hce:(cellsI (markTo F x q)).setIfInBounds q (.int .i64 ix)=cellsI (markTo F x (q+1)):=by
       rw [<- hm3,Hix.out];unfold cellsI;simp [List.map_set]
      rw [hce] at hj;have J1':=Z1 hj;have J2':=Z1 (Row.other J2.out ⟨g,q,none⟩ (by show g+1≠g;omega) (.int .i64 ix));have J3':=Z1 (J3.out.setCell (p:=⟨g,q,none⟩) lR (.int .i64 ix))
      have J4':Hid (KeepR (g+3) g (g+1) W (wi.setCell ⟨g,q,none⟩ (.int .i64 ix))):=Z1 (fun b hb2 hL=>by
       rw [Below.heap_setCell _ _ _ _ (by show b≠g;omega)];exact J4.out b hb2 hL)
      have J5':Hid (KeepsFrom (g+3) W (wi.setCell ⟨g,q,none⟩ (.int .i64 ix))):=Z1 (J5.out.trans (KeepsFrom.of_grownBy (Xv (Xq wi (some g)) q _) (fun j e=>by cases e;omega)));have c0:wi.cell? ⟨g,q,none⟩=some (.int .i64 ((markTo F x q)[q])):=by rw [cr9 q J1.out];simp [cellsI]
      have f0:=fr0 q J1.out;clear ht hm3 hj hce
      gi_wp2
      go_roundw
      case rel=>exact⟨q+1,oM,by go_num,J1'.out,J2'.out,J3'.out,J4'.out,J5'.out,by simpa [World.setCell] using j6⟩
      case measure=>simp [intOf];omega
   case done =>
    rintro D ys W hD hS ⟨i1,i2,i3,i4⟩ hK;have z1:=cr9 0 i2;simp at z1;have s2:=Vq i2;obtain⟨HS,I1,I3,HK⟩:=Z4 hS i1 i3 hK;clear i1 i3 hS hK
    gi_wp2
    refine⟨sP,.inl ⟨_,_,rfl,run_takeDeferred HK.out,⟨_,by simp [results,results292];rfl,?_,?_⟩⟩⟩
    ·exact HB1.out.trans ((I3.out.trans ((belowK_b (w:=ws) lR _ D _ _ oM HK.out rfl rfl).mono oM)).mono hg0)
    ·have hbk:=belowK_b (w:=ws) lR W D _ (.deferred none) oM HK.out rfl rfl
     have hrow:=(hbk.block g oM).trans I1.out;refine⟨some ⟨g,0,none⟩,k,marks k ys,rfl,a3y k ys,.inr ⟨g,0,rfl,Vq hrow,fun j hj i v hv=>?_⟩,fun e he=>?_⟩
     ·have hi1:i<1:=(List.getElem?_eq_some_iff.1 hv).1
      obtain rfl:i=0:=oM;have:=cell_of_row _ _ (0+j*1+0) _ _ _ hrow;rw [this];simp [icell] at hv;rw [<- hv];unfold cellsI;simp [hj]
     ·rw [a9s k e he,HS.out,<- HML.out]
      unfold Ct.ctrl;rw [a8x]
   case stop =>
    rintro D c' pre W _ _ hx _;exact hx.elim
  have hfl:(fillTo m k).length=m:=a4y hk;have c0:=harr.cell (k:=k) oM;have f0:=harr.free k;have ha5:=harr.set k (-1);rw [a8m hlt] at ha5;have Ha5:=Z1 ha5;have hbx5:=(Below.heap_setCell wr ⟨g,k,none⟩ (.int .i64 (-1)) (g+1) (by show g+1≠g;omega)).trans hbx;have Hbx5:=Z1 hbx5;have HB5:=Z1 (hBw.setCell (p:=⟨g,k,none⟩) lR (.int .i64 (-1)));have sg:=harr.lt;have hkm:(k:Int)<(m:Int):=oM;have hk0:(0:Int)<=(k:Int):=oM;clear ha5 hbx5 hBw hbx
  gi_wp2
  go_roundw
  case rel=>exact⟨k+1,oM,by go_num,Ha5.out,Hbx5.out,HB5.out,by show _=_;simpa [World.setCell] using Hsz.out⟩
  case measure=>simp [intOf];omega
end
open Go.Proofs.Tryz Go.RowKit Go.Shelf
theorem a9u {α:Type} (f:α->List Value) (sz:Nat) (x:α) (hf:(f x).length=sz) (hsz:0<sz) (m:Nat):madeCells (f x).toArray (m*sz)=((List.replicate m x).flatMap f).toArray:=by
 have hfl:∀ m,((List.replicate m x).flatMap f).length=m*sz:=by
  intro m;induction m with
  | zero=>simp
  | succ m ih=>rw [List.replicate_succ,List.flatMap_cons,List.length_append,ih,hf,Nat.add_mul];omega
 apply Array.ext
 ·rw [size_madeCells];simp only [List.size_toArray,hfl]
 ·intro i h1 h2
  rw [size_madeCells] at h1;have hk:i / sz<(List.replicate m x).length:=by rw [List.length_replicate];exact Nat.div_lt_of_lt_mul (by rwa [Nat.mul_comm])
  have hm:=Nat.mod_lt i hsz;have hd:i / sz*sz+i % sz=i:=Nat.div_add_mod' i sz;have e:=a1s f sz (List.replicate m x) (fun a ha=>by rw [List.eq_of_mem_replicate ha];exact hf) (i / sz) hk (i % sz) hm;rw [hd] at e;have e1:(List.replicate m x)[i / sz]=x:=sP;rw [e1] at e;have h3:i % sz<(f x).length:=oM;rw [List.getElem?_eq_getElem h3,List.getElem?_eq_getElem (by simpa using h2)] at e;simp only [Option.some.injEq] at e;simp only [List.getElem_toArray];rw [e];unfold madeCells;simp [hf];rw [List.getElem?_eq_getElem h3];rfl
theorem a2O {α:Type} (f:α->List Value) (sz:Nat) (x:α) {P:Program} {w:World} {o:Oper} {a:Act} {K:Act->World->Prop} {Q:Exit->Act->World->Prop} (l c:Operand) (t:TypeId) (hop:o.op=Op.makeSlice t l c)
  (e:TypeId) (i:TypeInfo) (z:Value) (hf:(f x).length=sz) (hsz:0<sz) (h1:P.underlying t=some (.slice e)) (h2:P.info? e=some i) (h3:i.zero=some z) (hz:z.cells=(f x).toArray) (h4:i.size=sz) (h5:i.bytes<=100)
  (kl kc:IntKind) (L C:Int) (m:Nat) (hl:a.eval l=.int kl L) (hc:a.eval c=.int kc C) (hL:L=(m:Int)) (hC:C=(m:Int)) (b2:m<=10000000)
  (hK:∀ w',Hid (w'=w.alloc (.cells ((List.replicate m x).flatMap f).toArray e))->K (a.put o.dst (.slice (some ⟨w,0,none⟩) m m)) w'):o.wp P a w K Q:=by
 subst hL hC
 have hb:(i.bytes:Int)*(m:Int)<=281474976710656:=by
  have:i.bytes*m<=100*10000000:=Nat.mul_le_mul h5 b2;have h2:((i.bytes*m:Nat):Int)<=1000000000:=oM;rw [Int.natCast_mul] at h2;omega
 have hrun:=run_make (P:=P) w t e i z h1 h2 h3 kl kc (m:Int) (m:Int) oM oM hb oM;rw [Int.toNat_natCast,hz,h4,a9u f sz x hf hsz] at hrun;unfold Oper.wp;simp [execOp,hop,hl,hc,hrun,Result.andThen];exact hK _ (Z1 rfl)
theorem a0C {α:Type} (f:α->List Value) (sz:Nat) (x:α) {P:Program} {w:World} {ops:Array Oper} {rest:List Oper} {o:Oper} {a:Act} {Q:Exit->Act->World->Prop} (hg:o.guard=none) (l c:Operand) (t:TypeId) (hop:o.op=Op.makeSlice t l c)
  (e:TypeId) (i:TypeInfo) (z:Value) (hf:(f x).length=sz) (hsz:0<sz) (h1:P.underlying t=some (.slice e)) (h2:P.info? e=some i) (h3:i.zero=some z) (hz:z.cells=(f x).toArray) (h4:i.size=sz) (h5:i.bytes<=100)
  (kl kc:IntKind) (L C:Int) (m:Nat) (hl:a.eval l=.int kl L) (hc:a.eval c=.int kc C) (hL:L=(m:Int)) (hC:C=(m:Int)) (b2:m<=10000000)
  (hK:∀ w',Hid (w'=w.alloc (.cells ((List.replicate m x).flatMap f).toArray e))->wpList P ops Q rest (a.put o.dst (.slice (some ⟨w,0,none⟩) m m)) w') :
  wpList P ops Q (o::rest) a w :=
 wpList_plain hg fun _ hK'=>a2O f sz x l c t hop e i z hf hsz h1 h2 h3 hz h4 h5 kl kc L C m hl hc hL hC b2 fun w' h=>hK' _ _ (hK w' h)
def boolcell (x:Bool):List Value:=[.bool x]
def ListPost {α:Type} (f:α->List Value) (sz:Nat) (l:List α) (w:World) (ev:Ending) (w':World):Prop :=
 Below w w w'/\∃ A c,ev=.returned (.tuple #[.slice A l.length c,()])/\RowsAt f sz w' w' A l
def upTo {α:Type} (f:Nat->α) (z:α) (n k:Nat):List α:=(List.range k).map f++List.replicate (n-k) z
theorem a4N {α:Type} (f:Nat->α) (z:α) {n k:Nat} (h:k<n):(upTo f z n k).set k (f k)=upTo f z n (k+1):=by
 unfold upTo;rw [List.set_append_right _ _ sP,List.range_succ,List.map_append];obtain⟨j,hj⟩:∃ j,n-k=j+1:=⟨n-k-1,oM⟩;rw [hj,show n-(k+1)=j by omega];simp [List.replicate_succ]
theorem a4O {α:Type} (f:Nat->α) (z:α) {n k:Nat} (h:k<=n):(upTo f z n k).length=n:=by simp [upTo];omega
theorem a2Y {α:Type} (f:Nat->α) (z:α) (n:Nat):upTo f z n n=(List.range n).map f:=by simp [upTo]
theorem a3m {α:Type} (f:Nat->α) (z:α) (n:Nat):upTo f z n 0=List.replicate n z:=by simp [upTo]
def cellsB (F:List Bool):Array Value:=(F.map Value.bool).toArray
theorem a3c {α:Type} (f:α->Value) {w:World} {g:Nat} {t:TypeId} {l:List α} (h:Row w g t (l.map f).toArray):RowsAt (fun x=>[f x]) 1 w w (some ⟨g,0,none⟩) l :=
 .inr ⟨g,0,rfl,Vq h,fun j hj i v hv=>by
  have hi1:i<1:=(List.getElem?_eq_some_iff.1 hv).1;obtain rfl:i=0:=oM;rw [cell_of_row _ _ (0+j*1+0) _ _ _ h];simp at hv;rw [<- hv];simp [hj]⟩
section
variable (w:World)
theorem boolInfo:(prog.info? 4).map (fun i=>(i.zero,i.size,i.bytes))=some (some (.bool false),1,1):=kR
theorem a4g (A:Option Addr) (n c m:Nat) (l:List Hld) (d:Int) (hl:l.length=n) (hn:n<=200) (hw:∀ x∈l,x.wf) (hA:RowsAt Hld.cells 4 w w A l) (hv:Hd.valid m l=true) (hd:-25567<=d/\d<=84005) :
  Calls prog 250 #[m,.slice A n c,d] w (ListPost boolcell 1 ((List.range m).map (fun e=>(Ct.ctrl (Hd.matrix m l d)).testBit e)) w):=by
 have hm:1<=m/\m<=12:=by have:=hv;unfold Hd.valid at this;simp at this;omega
 have Hr:=Z1 (b0L w A n c m l d hl hn hw hA hv hd);obtain⟨i0,hi,hz0,hz1,hz2⟩:=info_parts boolInfo;have hm1:=hm.1;have hm2:=hm.2;clear hA hl hw hd hv hn hm;obtain⟨f,hf⟩:∃ f:Nat->Bool,f=fun e=>(Ct.ctrl (Hd.matrix m l d)).testBit e:=⟨_,rfl⟩;rw [<- hf];have Hf:=Z1 hf;clear hf;go_enter func250,ntmps250;go_wp2_with (fail);refine Hr.out.mono ?_;rintro ev w1 ⟨hB1,A1,c1,R,rfl,hRl,hR,hRb⟩;obtain⟨HR,HB1,HRl⟩:=Z3 hR hB1 hRl;have HRb:Hid (∀ e,e<m->decide (0<=R.getD e 0)=f e):=Z1 (by rw [Hf.out];exact hRb);clear hR hB1 hRb hRl;go_wp2_with (at_make;refine a0C boolcell 1 false rfl _ _ 284 rfl 4 i0 (.bool false) rfl dC underlying284 hi hz0 rfl hz1 oM _ _ _ _ m rfl rfl rfl rfl oM ?_;intro w2 hw2)
 have harr:Row w2 w1.heap.size 4 (cellsB (upTo f false m 0)):=by
  have:=heap_alloc_new w1 (.cells ((List.replicate m false).flatMap boolcell).toArray 4);have e:∀ k,((List.replicate k false).flatMap boolcell).toArray=cellsB (List.replicate k false):=fun k=>by unfold cellsB;congr 1;induction k with | zero=>rfl | succ k ih=>rw [List.replicate_succ,List.flatMap_cons,ih];rfl
  rw [a3m,<- e];unfold Row;rw [hw2.out];exact this
 obtain⟨g,hg⟩:∃ g,g=w1.heap.size:=⟨_,rfl⟩;rw [<- hg] at harr ⊢;have HB2:Hid (Below g w1 w2):=Z1 (by rw [hw2.out];exact(Below.refl g w1).alloc (by rw [hg];exact lR) _);have Harr:=Z1 harr;have hgw:w.heap.size<=g:=by rw [hg];exact HB1.out.size
 have HRg:Hid (RowsAt icell 1 w1 g A1 R):=Z1 (by rw [hg];exact HR.out);clear hw2 harr hg HR
 go_loopw [27] (fun i wr=>∃ k:Nat,k<=m/\i=.int .i64 k/\Row wr g 4 (cellsB (upTo f false m k))/\Below g w1 wr) (fun i _=>m-(intOf i).toNat)
 case atStart=>exact⟨0,Nat.zero_le _,rfl,Harr.out,HB2.out⟩
 case round =>
  obtain⟨k,hk,rfl,harr,hb⟩:=hrel;have sg:=Vq harr
  by_cases hlt:k<m
  case neg =>
   obtain rfl:k=m:=oM
   have HP:Hid (ListPost boolcell 1 ((List.range k).map f) w (.returned (.tuple #[.slice (some ⟨g,0,none⟩) k k,()])) wr):=by
    refine Z1 ⟨HB1.out.trans (hb.mono hgw),some ⟨g,0,none⟩,k,sP,?_⟩;rw [a2Y] at harr;exact a3c Value.bool harr
   clear harr hb;go_wp2
   go_ret2
   exact HP.out
  have hkl:k<R.length:=by rw [HRl.out];exact hlt
  obtain⟨b,o,rfl,hbB,hr⟩:=RowsAt.look (RowsAt.below HRg.out hb lR) hkl;have c0:=hr 0 _ rfl;simp at c0;obtain⟨x,hx⟩:∃ x,x=R[k]:=⟨_,rfl⟩;rw [<- hx] at c0;have hfx:decide (0<=x)=f k:=by have:=HRb.out k hlt;rw [List.getD_eq_getElem?_getD,List.getElem?_eq_getElem hkl,<- hx] at this;exact this
  have hge:decide (x ≥ 0)=f k:=hfx;have hj:=Row.set harr k (.bool (f k))
  have hce:(cellsB (upTo f false m k)).setIfInBounds k (.bool (f k))=cellsB (upTo f false m (k+1)):=by
   rw [<- a4N f false hlt];unfold cellsB;simp [List.map_set]
  rw [hce] at hj;have Hj:=Z1 hj;have Hb:=Z1 (hb.setCell (p:=⟨g,k,none⟩) lR (.bool (f k)));have hlen:(upTo f false m k).length=m:=a4O f false hk;have y0:wr.cell? ⟨g,k,none⟩=some (.bool ((upTo f false m k)[k])):=by rw [cr9 k harr];simp [cellsB]
  have y1:=fr0 k harr;have hk0:(0:Int)<=(k:Int):=oM;have hkm:(k:Int)<(m:Int):=oM;clear hj hce hr hx hfx;go_wp2;go_roundw
  case rel=>exact⟨k+1,oM,by go_num,Hj.out,Hb.out⟩
  case measure=>simp [intOf];omega
end
open Go.Proofs.Tryz Go.RowKit
theorem RowsAt.base {α:Type} {f:α->List Value} {sz:Nat} {w:World} {B:Nat} {A:Option Addr} {l:List α} (h:RowsAt f sz w B A l) (hl:0<l.length):∃ b o,A=some ⟨b,o,none⟩/\b<B/\∀ k (h:k<l.length),w.rangeAt b (o+k*sz) (f l[k]):=by
 rcases h with h | h
 ·subst h;simp at hl
 ·exact h
theorem a9c {α:Type} {f:α->Value} {w:World} {base n c:Nat} {e:TypeId} {A:Option Addr} {l:List α} (h:w.ownsRow base e 1 (.slice A n c) n (l.flatMap fun x=>[f x])) (hn:n=l.length) {k:Nat} (hk:k<l.length):∃ g,A=some ⟨g,0,none⟩/\g<w.heap.size/\w.cell? ⟨g,k,none⟩=some (f l[k]):=by
 obtain⟨A',c',e',hA⟩:=Xz (f:=fun x=>[f x]) (sz:=1) dC (fun _=>rfl) h hn
 cases e'
 rcases h.2 with⟨q,h0⟩ | ⟨g,cap,cur,q,_,hg,_⟩
 ·omega
 ·cases q
  obtain⟨b,o,e1,hb,hr⟩:=RowsAt.look hA hk
  cases e1
  have:=hr 0 _ rfl;exact⟨g,rfl,hb,by simpa using this⟩
theorem count_set (F:List Bool) (h:Nat) (hh:h<F.length) (hf:F[h]=false):(F.set h true).count false+1=F.count false:=by
 have:=List.count_set (a:=true) (b:=false) (l:=F) (i:=h) hh;rw [hf] at this;have h1:1<=F.count false:=List.count_pos_iff.2 (by rw [<- hf];exact List.getElem_mem hh);simp at this;omega
theorem a8t (F:List Bool) (h:Nat) (x:Bool):(cellsB F).setIfInBounds h (.bool x)=cellsB (F.set h x):=by unfold cellsB;simp [List.map_set]
section
variable (w:World)
theorem a6A (A:Option Addr) (n c:Nat) (M:List IRow) (B:Option Addr) (d:Nat) (dl:List Int) (hn0:1<=n) (hn:n<=12) (hM:MatI w w A n n M) (hdl:dl.length=n) (hB:RowsAt icell 1 w w B dl) :
  Calls prog 215 #[.slice A n c,.slice B n d] w fun ev w'=>Below w w w'/\∃ g F,ev=.returned (.slice (some ⟨g,0,none⟩) n n)/\F.length=n/\Row w' g 4 (cellsB F):=by
 obtain⟨bA,oA,rfl,hbA,hrA⟩:=RowsAt.base hM.hA (by rw [hM.hl];omega);obtain⟨bB,oB,rfl,hbB,hrB⟩:=RowsAt.base hB oM;obtain⟨i0,hi,hz0,hz1,hz2⟩:=info_parts boolInfo;have HRB:=fun k (h:k<n)=>Z1 (show ∃ x,w.cell? ⟨bB,oB+k,none⟩=some (.int .i64 x) from⟨_,by have:=hrB k oM 0 _ rfl;simpa using this⟩)
 have HRA:=fun h e (hh:h<n) (he:e<n)=>Z1 (show ∃ b o m c x,w.cell? ⟨bA,oA+h,none⟩=some (.slice (some ⟨b,o,none⟩) m c)/\e<m/\b<w.heap.size/\w.cell? ⟨b,o+e,none⟩=some (.int .i64 x) from by
  have h1:h<M.length:=by rw [hM.hl];exact hh
  have c0:=hrA h h1 0 _ rfl;have hx:=hM.hx M[h] (List.getElem_mem h1);have h2:e<M[h].l.length:=by rw [hx.1.hl,hx.2];exact he
  obtain⟨b,o,e1,hb,hr⟩:=RowsAt.look hx.1.hA h2;have d0:=hr 0 _ rfl;rw [e1] at c0;exact⟨b,o,M[h].n,M[h].c,M[h].l[e],by simpa using c0,by rw [hx.2];exact he,hb,by simpa using d0⟩)
 have hnn:(n:Int)<=12:=oM;clear hM hB hrA hrB hdl;go_enter func215,ntmps215;go_wp2_with (at_make;refine a0C boolcell 1 false rfl _ _ 284 rfl 4 i0 (.bool false) rfl dC underlying284 hi hz0 rfl hz1 oM _ _ _ _ n rfl rfl rfl rfl oM ?_;intro w2 hw2);obtain⟨g,hg⟩:∃ g,g=w.heap.size:=⟨_,rfl⟩;have Hg:=Z1 hg
 have harr:Row w2 g 4 (cellsB (List.replicate n false)):=by
  have:=heap_alloc_new w (.cells ((List.replicate n false).flatMap boolcell).toArray 4);have e:∀ k,((List.replicate k false).flatMap boolcell).toArray=cellsB (List.replicate k false):=fun k=>by unfold cellsB;congr 1;induction k with | zero=>rfl | succ k ih=>rw [List.replicate_succ,List.flatMap_cons,ih];rfl
  rw [<- e];unfold Row;rw [hg,hw2.out];exact this
 have Harr:=Z1 harr;have HB2:Hid (Below g w w2):=Z1 (by rw [hw2.out];exact(Below.refl g w).alloc (by rw [hg];exact lR) _);rw [<- hg];have hg2:w.heap.size<=g:=Nat.le_of_eq hg.symm;have hbA':bA<g:=oM;have hbB':bB<g:=oM;clear hw2 harr hg;go_wp2
 go_loopw [6,7] (fun v i wr=>∃(k:Nat) (wk:List Int),1<=k/\k<=n/\i=.int .i64 k/\(∀ x∈wk,0<=x/\x<n)/\wk.length<=k/\wr.ownsRow g 3 1 v wk.length (wk.flatMap icell)/\Row wr g 4 (cellsB (List.replicate n false))/\Below g w wr) (fun _ i _=>n-(intOf i).toNat)
 case atStart=>exact⟨1,[],lR,hn0,rfl,sP,sP,World.ownsRow_nil _ _ _ _,Harr.out,HB2.out⟩
 case round =>
  obtain⟨k,wk,hk1,hkn,rfl,hwk,hwl,hown,hrow,hb⟩:=hrel;have hsg:=Vq hrow;have hk0:(0:Int)<=(k:Int):=oM;have hbw:bB<wr.heap.size:=by have:=hb.size;omega
  by_cases hlt:k<n
  ·obtain⟨x,hx⟩:=(HRB k hlt).out
   have c0:=(hb.cell (p:=⟨bB,oB+k,none⟩) hbB').trans hx;have hkn2:(k:Int)<(n:Int):=oM;clear hx
   by_cases hpos:x > 0
   ·have hd:decide (x > 0)=true:=by simpa using hpos
    go_wp2_with (at_builtin;refine Hid.out ?_);show wpList _ _ _ _ _ _;refine a1j eltInt hown [k] rfl rfl rfl rfl rfl oC oM (by have:=hb.size;omega) ?_;intro v' w' ho' hb' hk';have hr':=hk' 4 dC _ _ _ hrow;have Ho:Hid (w'.ownsRow g 3 1 v' (wk++[(k:Int)]).length ((wk++[(k:Int)]).flatMap icell)):=Z1 (by rw [List.length_append,List.flatMap_append];exact ho');have HBn:=Z1 (hb.trans hb');clear ho' hb' hk' hown hrow hb;go_wp2;go_roundw
    case rel=>exact⟨k+1,wk++[(k:Int)],oM,oM,by go_num,fun x hx=>by rcases List.mem_append.1 hx with h | h;exact hwk x h;rw [List.mem_singleton.1 h];omega,sO,Ho.out,hr',HBn.out⟩
    case measure=>simp [intOf];omega
   ·have hd:decide (x > 0)=false:=by simpa using hpos
    go_wp2;go_roundw
    case rel=>exact⟨k+1,wk,oM,oM,by go_num,hwk,oM,hown,hrow,hb⟩
    case measure=>simp [intOf];omega
  obtain rfl:k=n:=oM;obtain⟨HW2,Hown,Hrow,HBl⟩:=Z4 hwk hown hrow hb;clear hwk hown hrow hb hk1 hkn hlt;go_wp2
  go_loopg [6,8,9] (k*20+wk.length) (fun t v s8 s9 wr=>∃(F:List Bool) (wq:List Int),F.length=k/\(∀ x∈wq,0<=x/\x<k)/\t=F.count false*20+wq.length/\t<=300/\wr.ownsRow g 3 1 v wq.length (wq.flatMap icell)/\Row wr g 4 (cellsB F)/\Below g w wr)
  case atStart=>exact⟨List.replicate k false,wk,sP,HW2.out,by simp [List.count_replicate],oM,Hown.out,Hrow.out,HBl.out⟩
  case round =>
   obtain⟨F,wq,hF,hwq,ht,ht3,hown,hrow,hb⟩:=hrel;have hsg:=Vq hrow;have hbs:=hb.size
   rcases List.eq_nil_or_concat wq with hz | ⟨ws,x,hz⟩
   ·subst hz
    obtain⟨A',c',rfl,_⟩:=Xz (l:=([]:List Int)) (f:=icell) (sz:=1) dC (fun _=>rfl) hown rfl;obtain⟨HBF,Hrow,HF⟩:=Z3 (hb.mono hg2) hrow hF;clear hwq hown hrow hb ht;go_wp2;go_ret;exact⟨HBF.out,g,F,rfl,HF.out,Hrow.out⟩
   rw [List.concat_eq_append] at hz;subst hz;rw [List.length_append,List.length_singleton] at hown ht;obtain⟨g',cap,rfl⟩:=ownsRow_succ hown;have hx0:=hwq x sP;obtain⟨h,rfl⟩:∃ h:Nat,x=h:=⟨x.toNat,oM⟩;obtain⟨g'',e9,hg9,d0⟩:=a9c (l:=ws++[(h:Int)]) hown sP (k:=ws.length) sP
   cases e9
   simp at d0;have hpop:Hid (wr.ownsRow g 3 1 (.slice (some ⟨g',0,none⟩) ws.length cap) ws.length (ws.flatMap icell)):=Z1 (ownsRow_pop (a0x (f:=icell) (sz:=1) (fun _=>rfl) ws) (by rw [List.flatMap_append] at hown;exact hown));have hhk:h<k:=oM;have hhF:h<F.length:=oM;have f0:wr.cell? ⟨g,h,none⟩=some (.bool F[h]):=by rw [cr9 h hrow];simp [cellsB,hhF]
   have f1:=fr0 h hrow;have hsub:((ws.length+1:Nat):Int)-1=(ws.length:Int):=oM;have hh0:(0:Int)<=(h:Int):=oM;have hhk2:(h:Int)<(k:Int):=oM;have hwl:ws.length<=300:=oM
   have hcap:ws.length<=cap:=by
    rcases hown.2 with⟨q,_⟩ | ⟨_,_,_,q,_,_,hle,_⟩
    ·cases q
    ·cases q;omega
   have HQ:Hid (∀ x∈ws,0<=x/\x<k):=Z1 fun x hx=>hwq x (List.mem_append_left _ hx);obtain⟨Hrow,HBl,HF,HT⟩:=Z4 hrow hb hF ht;clear hwq hown hrow hb ht hF
   cases hb0:F[h] with
   | true =>
    rw [hb0] at f0;clear hb0;go_wp2
    go_roundg (F.count false*20+ws.length)
    case rel=>exact⟨F,ws,HF.out,HQ.out,rfl,by have:=HT.out;omega,hpop.out,Hrow.out,HBl.out⟩
    case measure=>have:=HT.out;omega
   | false =>
    rw [hb0] at f0;have Hcnt:=Z1 (count_set F h hhF hb0);have hr2:=Row.set Hrow.out h (.bool true);rw [a8t] at hr2;obtain⟨V,hV⟩:∃ V,V=wr.setCell ⟨g,h,none⟩ (.bool true):=⟨_,rfl⟩;rw [<- hV] at hr2;have Hr2:=Z1 hr2
    have hgg:g'≠g:=fun e=>by
     rcases hpop.out.2 with⟨q,_⟩ | ⟨g2,cap2,cur,q,_,hq,_⟩
     ·cases q
     ·cases q
      rw [e,show wr.heap[g]?=_ from Hrow.out] at hq
      cases hq
    have HB2:Hid (Below g w V):=Z1 (by rw [hV];exact HBl.out.setCell (p:=⟨g,h,none⟩) lR _)
    have Hp2:Hid (V.ownsRow g 3 1 (.slice (some ⟨g',0,none⟩) ws.length cap) ws.length (ws.flatMap icell)):=Z1 (by
     rw [hV];exact ownsRow_setCell_other hpop.out (a:=⟨g,h,none⟩) (fun q=>hgg (by simpa [Value.ownBlock] using q)) _)
    have HV:=Z1 hV;obtain⟨F',hF'⟩:∃ F',F'=F.set h true:=⟨_,rfl⟩;rw [<- hF'] at Hr2 Hcnt;have HF':Hid (F'.length=k):=Z1 (by rw [hF',List.length_set];exact HF.out);have hcl:F'.count false<=k:=by have:=List.count_le_length (a:=false) (l:=F');rw [HF'.out] at this;exact this
    clear hb0 hr2 hV hF' hgg;go_wp2;rw [<- HV.out]
    go_loopw [6,9] (fun v i wi=>∃(q:Nat) (wq:List Int),1<=q/\q<=k/\i=.int .i64 q/\(∀ x∈wq,0<=x/\x<k)/\wq.length<=ws.length+q/\wi.ownsRow g 3 1 v wq.length (wq.flatMap icell)/\Row wi g 4 (cellsB F')/\Below g w wi) (fun _ i _=>k-(intOf i).toNat)
    case atStart=>exact⟨1,ws,lR,oM,rfl,HQ.out,oM,Hp2.out,Hr2.out,HB2.out⟩
    case round =>
     obtain⟨wi,rfl⟩:∃ wi,wi=wr:=⟨_,rfl⟩;obtain⟨q,wq,hq1,hqk,rfl,hwq,hwl2,hown,hrow,hb⟩:=hrel;have hsg2:=Vq hrow;have hbs2:=hb.size;have hq0:(0:Int)<=(q:Int):=oM
     by_cases hlt:q<k
     case neg =>
      obtain rfl:q=k:=oM;have Hwq:=Z1 hwq;clear hwq hlt;go_wp2
      go_roundg (F'.count false*20+wq.length)
      case rel=>exact⟨F',wq,HF'.out,Hwq.out,rfl,by have:=HT.out;have:=Hcnt.out;omega,hown,hrow,hb⟩
      case measure=>have:=HT.out;have:=Hcnt.out;omega
     obtain⟨b2,o2,m2,c2,x,y1,y2,y3,y4⟩:=(HRA h q hhk hlt).out;have y1':=(hb.cell (p:=⟨bA,oA+h,none⟩) hbA').trans y1;have y4':=(hb.cell (p:=⟨b2,o2+q,none⟩) (by show b2<g;omega)).trans y4;have y5:(q:Int)<(m2:Int):=oM;have y6:bA<wi.heap.size:=oM;have y7:b2<wi.heap.size:=oM;have hqk2:(q:Int)<(k:Int):=oM;clear y1 y4
     by_cases hpos:x > 0
     ·have hd:decide (x > 0)=true:=by simpa using hpos
      go_wp2_with (at_builtin;refine Hid.out ?_);show wpList _ _ _ _ _ _;refine a1j eltInt hown [q] rfl rfl rfl rfl rfl oC oM oM ?_;intro v' w' ho' hb' hk';have hr':=hk' 4 dC _ _ _ hrow;have Ho:Hid (w'.ownsRow g 3 1 v' (wq++[(q:Int)]).length ((wq++[(q:Int)]).flatMap icell)):=Z1 (by rw [List.length_append,List.flatMap_append];exact ho');have HBn:=Z1 (hb.trans hb');clear ho' hb' hk' hown hrow hb;go_wp2;go_roundw
      case rel=>exact⟨q+1,wq++[(q:Int)],oM,oM,by go_num,fun x hx=>by rcases List.mem_append.1 hx with h | h;exact hwq x h;rw [List.mem_singleton.1 h];omega,sO,Ho.out,hr',HBn.out⟩
      case measure=>simp [intOf];omega
     ·have hd:decide (x > 0)=false:=by simpa using hpos
      go_wp2;go_roundw
      case rel=>exact⟨q+1,wq,oM,oM,by go_num,hwq,oM,hown,hrow,hb⟩
      case measure=>simp [intOf];omega
end
open Go.Proofs.Tryz Go.RowKit Go.Shelf
attribute [local go_sem] Oper.semAt_some
def uni (pre:List (Nat × Nat)):Nat:=Ct.union (pre.map (fun x=>x.2 % 4096))
theorem b2u (pre:List (Nat × Nat)) (x:Nat × Nat):uni (pre++[x])=uni pre ||| x.2 % 4096:=by unfold uni Ct.union;rw [List.map_append,List.foldl_append];rfl
theorem b2h (pre:List (Nat × Nat)):uni pre<4096:=by
 unfold uni Ct.union
 have:∀(l:List (Nat × Nat)) (a:Nat),a<4096->(l.map (fun x=>x.2 % 4096)).foldl (· ||| ·) a<4096:=by
  intro l
  induction l with
  | nil=>intro a h;exact h
  | cons x l ih=>intro a h;rw [List.map_cons,List.foldl_cons];exact ih _ (Nat.or_lt_two_pow (n:=12) h (Nat.mod_lt _ oM))
 exact this _ _ oM
section
variable (w:World)
theorem a5l (A:Option Addr) (n c m:Nat) (l:List Hld) (d:Int) (hl:l.length=n) (hn:n<=200) (hw:∀ x∈l,x.wf) (hA:RowsAt Hld.cells 4 w w A l) (hv:Hd.valid m l=true) (hd:-25567<=d/\d<=84005) :
  Calls prog 251 #[m,.slice A n c,d] w (ListPost icell 1 ((List.range m).map (fun e=>Ct.votes (Hd.matrix m l d) (Ct.ctrl (Hd.matrix m l d)) e m)) w):=by
 have hm:1<=m/\m<=12:=by have:=hv;unfold Hd.valid at this;simp at this;omega
 have Hm:=Z1 (a2H w A n c m l d hl hn hw hA hv hd);obtain⟨i0,hi,hz0,hz1,hz2⟩:=info_parts intInfo;have Hbd:=fun M=>Z1 (Hd.matrix_bd m l d (Hd.valid_shr hv) M);clear hA hl hw hd hv hn;obtain⟨MM,hMM⟩:∃ MM,MM=Hd.matrix m l d:=⟨_,rfl⟩;rw [<- hMM] at Hm ⊢;have HMM:=Z1 hMM;clear hMM;have hm1:=hm.1;have hm2:=hm.2;clear hm;refine callsIn_wide.1 (callsIn_of_wp_marks (F:=Fence.wide) (n:=8) func251 rfl trivial ?_ rfl);simp only [ntmps251,List.size_toArray,List.length_cons,List.length_nil,Nat.reduceAdd,Nat.reduceSub,Array.replicate_succ,Array.replicate_zero,List.push_toArray,List.append_toArray,List.nil_append,List.cons_append]
 gi_wp2
 refine⟨trivial,callsIn_wide.2 (Hm.out.mono ?_)⟩;rintro ev w1 ⟨hB1,A1,c1,M,rfl,hM,hML⟩;obtain⟨HM,HB1,HML⟩:=Z3 hM hB1 hML;clear hM hB1 hML;obtain⟨g,hg⟩:∃ g,g=w1.heap.size:=⟨_,rfl⟩;have Hg:=Z1 hg;clear hg
 gi_wp2
 refine⟨trivial,callsIn_wide.2 ((a5s _ _ _ _).mono ?_)⟩;rintro ev w5 ⟨rfl,rfl⟩
 gi_wp2
 obtain⟨ws,hws⟩:∃ ws,ws=(w1.alloc (.cells #[.int .u16 0] 358)).alloc (.cells #[.slice A1 m c1] 235):=⟨_,rfl⟩;obtain⟨hBs,r0,r1,hwsz⟩:=a1g w1 #[.int .u16 0] #[.slice A1 m c1] 358 235;rw [<- hws] at hBs r0 r1 hwsz;rw [<- hws,<- Hg.out];rw [<- Hg.out] at hBs r0 r1 hwsz;have c2:ws.cell? ⟨g+1,0,none⟩=some (.slice A1 m c1):=by have:=cr9 0 r1;simpa using this
 have hM2:MatI ws g A1 m m M:=MatI.below (by rw [Hg.out];exact HM.out) hBs lR;have HM2:=Z1 hM2;have hbd:=(Hbd M).out (by rw [HML.out,HMM.out]);have hg1:g<=w1.heap.size:=Nat.le_of_eq Hg.out;have hg0:w.heap.size<=g:=by have:=HB1.out.size;rw [Hg.out];exact this
 have HBD:=Z1 hbd;clear hws hM2
 refine wpIn_rangeFunc_ownH rfl (by omega:1<=8) (gf:=317) (lb:=#[.pointer (some ⟨g+1,0,none⟩)]) rfl trivial (enters_of func317 kR rfl)
  (a3q ws g (g+2) (g+1) 7 oM A1 m c1 M hm2 hbd hwsz oM oM c2 HM2.out)
  (fun h k=>⟨h.1.trans k.1,Nat.le_trans h.2 k.2⟩) (fun W l o o' h1 h2 h3 h4=>⟨KeepR.putObj (n:=g+2) (w:=ws) oM W l o o' h1 h2 h3 h4,by simp [World.putObj]⟩) bR (fun _=>rfl)
  (fun pre W=>Row W g 358 #[.int .u16 (uni pre:Nat)]/\Below g w1 W/\g+2<=W.heap.size) (fun _ _ _=>False)
  (OwnFrom.and (Own.from (a1I g 358 (fun pre:List (Nat × Nat)=>#[.int .u16 (uni pre:Nat)])) _) (OwnFrom.and (ownFrom_below oM oM) (fun _ _ _ _ hs hg _=>Nat.le_trans hs hg.size))) (fun _ _ _ _ _ hs _ _=>hs)
  ⟨r0,hBs,oM⟩
  (fun x a' W=>a'={ tmps:=#[.int .i64 m,.slice A n c,.int .i64 d,undef,undef,undef,.slice none 0 0,.int .i64 0,.slice A1 m c1,.int .i64 0,.pointer (some ⟨g,0,none⟩),undef,.int .u16 ((x.2 % 4096:Nat):Int),undef,undef,
   .tuple #[.slice A1 m c1,()],.int .i64 m,.slice A n c,.int .i64 d,.tuple #[.slice A1 m c1,()],.slice A1 m c1,.int .i64 0,.int .i64 0,.bool false,undef,.slice A1 m c1,
   .func (.func 317) #[] #[.pointer (some ⟨g+1,0,none⟩)],.int .i64 x.1,.int .u16 ((x.2 % 4096:Nat):Int),
   undef,undef,undef,undef,undef,undef,undef,undef,undef,undef,undef,undef,undef,undef,undef,undef,undef,undef,undef],defers:=[] })
  ?hAx ?assign ?body ?done ?stop
 case hAx=>exact fun _ _ _ _ _ _ h _ _=>h
 case assign =>
  rintro l pre x W K ⟨i1,i2,i3⟩ hK;dsimp only [encS]
  gi_wp2
  exact hK _ _ (KeepsFrom.of_grownBy (Xq W none) (fun j e=>by cases e)) ⟨KeepR.refl _ _ _ _,lR⟩ ⟨i1,i2,i3⟩ rfl
 case body =>
  rintro l pre x a' W hl' ⟨r,hr'⟩ ⟨i1,i2,i3⟩ rfl hlt;have z1:=cr9 0 i1;simp at z1;have f1:=fr0 0 i1;have s1:=Vq i1;obtain⟨u,hu⟩:∃ u,u=uni pre:=⟨_,rfl⟩;have hul:u<4096:=by rw [hu];exact b2h pre
  obtain⟨sx,hsx⟩:∃ sx,sx=x.2 % 4096:=⟨_,rfl⟩;have hxl:sx<4096:=oM;have hor:=a1R u sx oM oM;have Hn:Hid (uni (pre++[x])=u ||| sx):=by show _=_;rw [b2u,hu,hsx]
  obtain⟨nu,hnu⟩:∃ nu:Int,nu=((u ||| sx:Nat):Int):=⟨_,rfl⟩;rw [<- hu] at z1;rw [<- hnu] at hor;rw [<- hsx];have hj:=Row.set i1 0 (.int .u16 nu);have Hj:Hid (Row (W.setCell ⟨g,0,none⟩ (.int .u16 nu)) g 358 #[.int .u16 nu]):=Z1 (by simpa using hj);have Hb:=Z1 (i2.setCell (p:=⟨g,0,none⟩) lR (.int .u16 nu));have Hnu:=Z1 hnu;clear hu hsx hnu hj i1 i2 hl' hr'
  gi_wp2
  refine⟨KeepsFrom.of_grownBy (Xv (Xq W (some g)) 0 _) (fun j e=>by cases e;omega),⟨fun b hb2 hL=>Below.heap_setCell _ _ _ _ (by show b≠g;omega),by simp [World.setCell]⟩,by rw [Hn.out,<- Hnu.out];exact Hj.out,Hb.out,by simpa [World.setCell] using i3⟩
 case done =>
  rintro D ys W hD hS ⟨i1,i2,i3⟩ hK;have hu:uni ys=Ct.ctrl MM:=by unfold uni;rw [hS,HML.out];rfl
  have hul:Ct.ctrl MM<4096:=by rw [<- hu];exact b2h ys
  rw [hu] at i1;obtain⟨u,hue⟩:∃ u,u=Ct.ctrl MM:=⟨_,rfl⟩;rw [<- hue] at i1 hul;obtain⟨f,hf⟩:∃ f:Nat->Int,f=fun e=>Ct.votes MM (Ct.ctrl MM) e m:=⟨_,rfl⟩;have Hf:Hid (∀ e,Ct.votes (matL M) u e m=f e):=Z1 (fun e=>by rw [HML.out,hf,hue]);have Hff:=Z1 hf;obtain⟨h,hh⟩:∃ h,h=W.heap.size:=⟨_,rfl⟩;obtain⟨I1,I2,HK⟩:=Z3 i1 i2 hK;have HMW:Hid (MatI W h A1 m m M):=Z1 (((show MatI w1 g A1 m m M by rw [Hg.out];exact HM.out).below i2 lR).more oM);have Hh:=Z1 hh;have hgh:g<h:=oM;have hDh:D<h:=by rw [hh];exact Vq hK
  clear hu hue hf hK i1 i2 hS hh
  gi_wp2_with (gi_at_make;refine a1t rfl _ _ 128 rfl .i64 3 i0 8 underlying128 hi hz0 hz1 hz2 _ _ _ _ m m rfl rfl rfl rfl lR oM oM ?_;intro w2 hw2)
  have harr:Row w2 h 3 (cellsI (upTo f 0 m 0)):=by
   have:=heap_alloc_new W (.cells ((List.replicate m (0:Int)).map (Value.int .i64)).toArray 3);rw [a3m];unfold Row;rw [Hh.out,hw2.out];exact this
  have HB2:Hid (Below h W w2):=Z1 (by rw [hw2.out];exact(Below.refl h W).alloc (by rw [Hh.out];exact lR) _);have Harr:=Z1 harr;rw [<- Hh.out];clear hw2 harr
  gi_loopw [36] (fun i wr=>∃ k:Nat,k<=m/\i=.int .i64 k/\Row wr h 3 (cellsI (upTo f 0 m k))/\Below h W wr) (fun i _=>m-(intOf i).toNat)
  case atStart=>exact⟨0,Nat.zero_le _,rfl,Harr.out,HB2.out⟩
  case round =>
   obtain⟨k,hk,rfl,harr,hb⟩:=hrel;have sg:=Vq harr
   by_cases hlt:k<m
   case neg =>
    obtain rfl:k=m:=oM;have hbD:=(hb.block D hDh).trans HK.out;have hbk:=belowK_b (w:=ws) lR wr D _ (.deferred none) oM hbD rfl rfl
    have HP:Hid (ListPost icell 1 ((List.range k).map f) w (.returned (.tuple #[.slice (some ⟨h,0,none⟩) k k,()])) (wr.putObj D (.deferred none))):=by
     refine Z1 ⟨HB1.out.trans (((I2.out.trans (hb.mono oM)).trans (hbk.mono oM)).mono hg0),some ⟨h,0,none⟩,k,sP,?_⟩;rw [a2Y] at harr;have hrow:Row (wr.putObj D (.deferred none)) h 3 (cellsI ((List.range k).map f)):=(World.putObj_heap_other oM).trans harr;exact a3c (Value.int .i64) hrow
    have HbD:=Z1 hbD;rw [Hff.out] at HP;clear harr hb hbD hbk
    gi_wp2
    exact⟨sP,.inl ⟨_,_,rfl,run_takeDeferred HbD.out,⟨_,by simp [results,results251],HP.out⟩⟩⟩
   have hbg:=(hb.block g hgh).trans I1.out;have z1:=cr9 0 hbg;simp at z1;have s1:=Vq hbg;have hMr:=(HMW.out.below hb lR).more (show h<=wr.heap.size by omega);have hv:=a5n wr A1 m c1 m M u k hMr hm2 hlt oM HBD.out;rw [Hf.out] at hv;have Hv:=Z1 hv;have hj:=Row.set harr k (.int .i64 (f k))
   have hce:(cellsI (upTo f 0 m k)).setIfInBounds k (.int .i64 (f k))=cellsI (upTo f 0 m (k+1)):=by
    rw [<- a4N f 0 hlt];unfold cellsI;simp [List.map_set]
   rw [hce] at hj;have Hj:=Z1 hj;have Hb:=Z1 (hb.setCell (p:=⟨h,k,none⟩) lR (.int .i64 (f k)));have hlen:(upTo f 0 m k).length=m:=a4O f 0 hk;have y0:wr.cell? ⟨h,k,none⟩=some (.int .i64 ((upTo f 0 m k)[k])):=by rw [cr9 k harr];simp [cellsI]
   have y1:=fr0 k harr;have hk0:(0:Int)<=(k:Int):=oM;have hkm:(k:Int)<(m:Int):=oM;clear hj hce hMr hv hbg
   gi_wp2
   refine⟨trivial,callsIn_wide.2 (Hv.out.mono ?_)⟩;rintro ev w7 ⟨rfl,rfl⟩
   gi_wp2
   go_roundw
   case rel=>exact⟨k+1,oM,by go_num,Hj.out,Hb.out⟩
   case measure=>simp [intOf];omega
 case stop =>
  rintro D c' pre W _ _ hx _;exact hx.elim
end
end Go.Proofs.YtniaimjknmhapaaGreatDoor
