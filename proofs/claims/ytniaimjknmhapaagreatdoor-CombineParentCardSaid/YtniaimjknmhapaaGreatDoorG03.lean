/- My texts RatePlain, QuotePlain. -/
import Derived.WalkKit
set_option linter.unusedVariables false
set_option linter.unusedSimpArgs false
set_option maxRecDepth 100000
set_option maxHeartbeats 16000000
namespace Go.Proofs.YtniaimjknmhapaaGreatDoor
structure Rt where
 cur:ByteArray
 kind:Int
 when_:Int
 val:Int

namespace Rt
def v (r:Rt):Value:=.agg #[.string r.cur,.int .i64 r.kind,.int .i64 r.when_,.int .i64 r.val]
def at_ (r:Rt) (c:ByteArray) (k d:Int):Bool:=r.cur.toList==c.toList&&r.kind==k&&r.when_==d
def same (a b:Rt):Bool:=a.at_ b.cur b.kind b.when_
def zero:Rt:=⟨ByteArray.empty,0,0,0⟩
theorem at_iff (r:Rt) (c:ByteArray) (k d:Int):r.at_ c k d=true ↔ (r.cur.toList=c.toList/\r.kind=k/\r.when_=d):=by
 simp [at_,and_assoc]
theorem toList_inj {a b:ByteArray} (h:a.toList=b.toList):a=b:=by
 rw [ByteArray.toList_eq,ByteArray.toList_eq] at h
 exact ByteArray.ext (Array.toList_inj.mp h)
end Rt

namespace Rates
def find (l:List Rt) (c:ByteArray) (k d:Int):Option Int:=(l.find? fun r=>r.at_ c k d).map (·.val)
def upper (b:UInt8):Bool:=decide (65<=(b.toNat:Int)/\(b.toNat:Int)<=90)
def allUp (s:ByteArray):Bool:=s.data.toList.all upper
def isCur (s:ByteArray):Bool:=allUp s&&s.size==3
def dateB (d:Int):Bool:=decide (-25567<=d/\d<=84005)
def proper (g:ByteArray) (r:Rt):Bool :=
 isCur r.cur&&!(r.cur.toList==g.toList)&&decide (1<=r.val/\r.val<=1000000000000) &&
  ((r.kind==1&&dateB r.when_)||(r.kind==2&&decide (0<=r.when_/\r.when_<120)))
def fresh:List Rt->Bool
 | []=>true
 | r::l=>l.all (fun x=>!(r.same x))&&fresh l
def valid (g:ByteArray) (l:List Rt):Bool:=l.all (proper g)&&fresh l&&isCur g&&decide (l.length<=1000)

def Fresh (l:List Rt):Prop:=l.Pairwise fun a b=>a.same b=false
theorem fresh_iff (l:List Rt):fresh l=true ↔ Fresh l:=by
 unfold Fresh
 induction l with
 | nil=>simp [fresh]
 | cons r l ih=>rw [List.pairwise_cons,fresh,Bool.and_eq_true,ih,List.all_eq_true];simp
def Pre (g:ByteArray) (l:List Rt) (k:Nat):Prop:=(l.take k).all (proper g)=true/\Fresh (l.take k)
theorem pre_zero (g:ByteArray) (l:List Rt):Pre g l 0:=⟨rfl,by simp [Fresh]⟩
theorem pre_succ (g:ByteArray) (l:List Rt) (k:Nat) (h:k<l.length) (hp:Pre g l k) (h1:proper g l[k]=true) (h2:(l.take k).any (fun r=>r.same l[k])=false):Pre g l (k+1):=by
 unfold Pre
 rw [List.take_succ_eq_append_getElem h]
 refine⟨?_,?_⟩
 ·rw [List.all_append,hp.1];simp [h1]
 ·unfold Fresh
  rw [List.pairwise_append]
  refine⟨hp.2,by simp,fun a ha b hb=>?_⟩
  simp only [List.mem_singleton] at hb
  subst hb
  rw [List.any_eq_false] at h2
  simpa using h2 a ha
theorem pre_end (g:ByteArray) (l:List Rt) (hp:Pre g l l.length):valid g l=(isCur g&&decide (l.length<=1000)):=by
 unfold Pre at hp
 rw [List.take_length] at hp
 unfold valid
 rw [hp.1,(fresh_iff l).2 hp.2];simp
theorem valid_improper (g:ByteArray) (l:List Rt) (k:Nat) (h:k<l.length) (h1:proper g l[k]=false):valid g l=false:=by
 have:l.all (proper g)=false:=by rw [List.all_eq_false];exact⟨l[k],List.getElem_mem h,by simp [h1]⟩
 unfold valid;rw [this];rfl
theorem valid_twice (g:ByteArray) (l:List Rt) (k j:Nat) (h:k<l.length) (hj:j<k) (h1:(l[j]'(by omega)).same l[k]=true):valid g l=false:=by
 have:fresh l=false:=by
  rw [Bool.eq_false_iff];intro hf
  rw [fresh_iff,Fresh,List.pairwise_iff_getElem] at hf
  rw [hf j k (by omega) h hj] at h1;cases h1
 unfold valid;rw [this];simp
theorem valid_twice' (g:ByteArray) (l:List Rt) (k:Nat) (h:k<l.length) (h1:(l.take k).any (fun r=>r.same l[k])=true):valid g l=false:=by
 rw [List.any_eq_true] at h1
 obtain⟨x,hx,hs⟩:=h1
 obtain⟨j,hj,e⟩:=List.mem_take_iff_getElem.1 hx
 subst e
 exact valid_twice g l k j h (by omega) hs
theorem any_take_succ (l:List Rt) (p:Rt->Bool) (j:Nat) (h:j<l.length):(l.take (j+1)).any p=((l.take j).any p||p l[j]):=by
 rw [List.take_succ_eq_append_getElem h,List.any_append];simp
theorem valid_iff (g:ByteArray) (l:List Rt):valid g l=true ↔ ((∀ r∈l,proper g r=true)/\Fresh l/\isCur g=true/\l.length<=1000):=by
 unfold valid
 simp only [Bool.and_eq_true,List.all_eq_true,fresh_iff,decide_eq_true_eq,and_assoc]

theorem find_take_succ (l:List Rt) (c:ByteArray) (k d:Int) (n:Nat) (h:n<l.length) :
  find (l.take (n+1)) c k d=((find (l.take n) c k d).or (if l[n].at_ c k d=true then some l[n].val else none)):=by
 unfold find
 rw [List.take_succ_eq_append_getElem h,List.find?_append]
 cases (l.take n).find? (fun r=>r.at_ c k d) with
 | some x=>simp
 | none=>by_cases hb:l[n].at_ c k d=true <;> simp [hb]
theorem find_hit (l:List Rt) (c:ByteArray) (k d:Int) (n:Nat) (h:n<l.length) (hno:find (l.take n) c k d=none) (ha:l[n].at_ c k d=true):find l c k d=some l[n].val:=by
 have e:l=l.take n++(l[n]::l.drop (n+1)):=by rw [List.getElem_cons_drop,List.take_append_drop]
 unfold find at hno ⊢
 rw [Option.map_eq_none_iff] at hno
 conv=>lhs;rw [e]
 rw [List.find?_append,hno]
 simp only [Option.none_or,List.find?_cons,ha]
 rfl
theorem find_miss (l:List Rt) (c:ByteArray) (k d:Int) (n:Nat) (h:n<l.length) (hno:find (l.take n) c k d=none) (ha:l[n].at_ c k d=false):find (l.take (n+1)) c k d=none:=by
 rw [find_take_succ l c k d n h,hno,ha];rfl
end Rates
end Go.Proofs.YtniaimjknmhapaaGreatDoor
namespace Go.Proofs.YtniaimjknmhapaaGreatDoor
namespace Rates

def sel (c:ByteArray) (a b:Int) (r:Rt):Bool:=r.cur.toList==c.toList&&r.kind==1&&decide (a<=r.when_)&&decide (r.when_<=b)
theorem sel_iff (c:ByteArray) (a b:Int) (r:Rt):sel c a b r=true ↔ (r.at_ c 1 r.when_=true/\a<=r.when_/\r.when_<=b):=by
 unfold sel Rt.at_;simp [and_assoc]
theorem at_when {c:ByteArray} {k d:Int} {r:Rt} (h:r.at_ c k d=true):r.when_=d:=((Rt.at_iff r c k d).1 h).2.2
theorem at_eq {c:ByteArray} {k d:Int} {r:Rt} (h:r.at_ c k d=true):r=⟨c,k,d,r.val⟩:=by
 obtain⟨h1,h2,h3⟩:=(Rt.at_iff r c k d).1 h
 obtain⟨a,b,e,f⟩:=r
 simp only at h1 h2 h3
 rw [Rt.toList_inj h1,h2,h3]

def see (acc:Option Rt) (r:Rt):Option Rt :=
 match acc with
 | none=>some r
 | some x=>if x.when_<r.when_ then some r else some x
def which (l:List Rt) (c:ByteArray) (d:Int):Option Rt:=(l.filter (sel c (d-40) d)).foldl see none
theorem find_some (l:List Rt) (c:ByteArray) (k d v:Int) (h:find l c k d=some v):∃ r∈l,r.at_ c k d=true/\r.val=v:=by
 unfold find at h
 rw [Option.map_eq_some_iff] at h
 obtain⟨r,hr,e⟩:=h
 exact⟨r,List.mem_of_find?_eq_some hr,List.find?_some (p:=fun r:Rt=>r.at_ c k d) hr,e⟩

theorem snoc_ind {P:List Rt->Prop} (h0:P []) (hs:∀ l r,P l->P (l++[r])) (l:List Rt):P l:=by
 rw [<- List.reverse_reverse l]
 induction l.reverse with
 | nil=>exact h0
 | cons a t ih=>rw [List.reverse_cons];exact hs _ _ ih

def daily (l:List Rt) (c:ByteArray) (a:Int):Nat->List Rt
 | 0=>[]
 | k+1=>daily l c a k++(match find l c 1 (a+k) with | some v=>[⟨c,1,a+k,v⟩] | none=>[])
def days (l:List Rt) (c:ByteArray) (a b:Int):List Rt:=daily l c a (b-a+1).toNat

theorem daily_bd (l:List Rt) (c:ByteArray) (a:Int):∀ k,(∀ r∈daily l c a k,a<=r.when_/\r.when_<a+k)/\(daily l c a k).length<=k
 | 0=>by simp [daily]
 | k+1=>by
  obtain⟨h,hl⟩:=daily_bd l c a k
  unfold daily
  refine⟨fun r hr=>?_,?_⟩
  ·rw [List.mem_append] at hr
   rcases hr with hr | hr
   ·have:=h r hr;omega
   ·cases hf:find l c 1 (a+k) with
    | none=>rw [hf] at hr;simp at hr
    | some v=>rw [hf] at hr;simp at hr;subst hr;simp;omega
  ·rw [List.length_append]
   cases hf:find l c 1 (a+k) <;> simp <;> omega
theorem daily_rising (l:List Rt) (c:ByteArray) (a:Int):∀ k,(daily l c a k).Pairwise (fun x y=>x.when_<y.when_)
 | 0=>List.Pairwise.nil
 | k+1=>by
  unfold daily
  rw [List.pairwise_append]
  refine⟨daily_rising l c a k,?_,fun x hx y hy=>?_⟩
  ·cases find l c 1 (a+k) <;> simp
  ·have:=(daily_bd l c a k).1 x hx
   cases hf:find l c 1 (a+k) with
   | none=>rw [hf] at hy;simp at hy
   | some v=>rw [hf] at hy;simp at hy;subst hy;simp;omega
theorem daily_mem (l:List Rt) (c:ByteArray) (a:Int) (r:Rt):∀ k,r∈daily l c a k ↔ ∃ j:Nat,j<k/\find l c 1 (a+j)=some r.val/\r=⟨c,1,a+j,r.val⟩
 | 0=>by simp [daily]
 | k+1=>by
  unfold daily
  rw [List.mem_append,daily_mem l c a r k]
  constructor
  ·rintro(⟨j,hj,h⟩ | h)
   ·exact⟨j,by omega,h⟩
   ·cases hf:find l c 1 (a+k) with
    | none=>rw [hf] at h;simp at h
    | some v=>rw [hf] at h;simp at h;subst h;exact⟨k,by omega,hf,rfl⟩
  ·rintro⟨j,hj,h1,h2⟩
   rcases Nat.lt_or_ge j k with hlt | hge
   ·exact .inl ⟨j,hlt,h1,h2⟩
   ·obtain rfl:j=k:=by omega
    right;rw [h1];simp only [List.mem_singleton];exact h2
theorem find_fresh (l:List Rt) (hf:Fresh l) (r:Rt) (c:ByteArray) (k d:Int) (hr:r∈l) (h:r.at_ c k d=true):find l c k d=some r.val:=by
 induction l with
 | nil=>cases hr
 | cons x l ih =>
  unfold Fresh at hf
  rw [List.pairwise_cons] at hf
  unfold find
  rw [List.find?_cons]
  cases hx:x.at_ c k d with
  | true =>
   simp only [Option.map_some,Option.some.injEq]
   rcases List.mem_cons.1 hr with rfl | hr
   ·rfl
   ·have:=hf.1 r hr
    obtain⟨a1,a2,a3⟩:=(Rt.at_iff _ _ _ _).1 hx
    obtain⟨b1,b2,b3⟩:=(Rt.at_iff _ _ _ _).1 h
    rw [Bool.eq_false_iff] at this
    exact absurd ((Rt.at_iff x r.cur r.kind r.when_).2 ⟨a1.trans b1.symm,a2.trans b2.symm,a3.trans b3.symm⟩) this
  | false =>
   rcases List.mem_cons.1 hr with rfl | hr
   ·rw [h] at hx;cases hx
   ·exact ih hf.2 hr
theorem days_mem (l:List Rt) (hf:Fresh l) (c:ByteArray) (a b:Int) (r:Rt):r∈days l c a b ↔ r∈l.filter (sel c a b):=by
 unfold days
 rw [daily_mem,List.mem_filter,sel_iff]
 constructor
 ·rintro⟨j,hj,h1,h2⟩
  obtain⟨x,hx,hat,hv⟩:=find_some _ _ _ _ _ h1
  have e:x=r:=by rw [at_eq hat,h2,hv]
  subst e
  have hw:=at_when hat
  exact⟨hx,by rw [hw];exact hat,by omega,by omega⟩
 ·rintro⟨hr,hat,ha,hb⟩
  refine⟨(r.when_-a).toNat,by omega,?_,?_⟩
  ·rw [show a+((r.when_-a).toNat:Int)=r.when_ by omega];exact find_fresh l hf r c 1 r.when_ hr hat
  ·rw [show a+((r.when_-a).toNat:Int)=r.when_ by omega];exact at_eq hat
theorem filter_nodup (l:List Rt) (hf:Fresh l) (p:Rt->Bool):(l.filter p).Nodup:=by
 have h2:(l.filter p).Pairwise (fun a b=>a.same b=false):=List.Pairwise.filter p hf
 exact h2.imp fun {a b} h e=>by subst e;rw [Bool.eq_false_iff] at h;exact h ((Rt.at_iff _ _ _ _).2 ⟨rfl,rfl,rfl⟩)
theorem rising_unique:∀(a b:List Rt),a.Pairwise (fun x y=>x.when_<y.when_)->b.Pairwise (fun x y=>x.when_<y.when_)->(∀ r,r∈a ↔ r∈b)->a=b
 | [],[],_,_,_=>rfl
 | [],y::b,_,_,h=>by have:=(h y).2 (by simp);cases this
 | x::a,[],_,_,h=>by have:=(h x).1 (by simp);cases this
 | x::a,y::b,ha,hb,h=>by
  rw [List.pairwise_cons] at ha hb
  have e:x=y:=by
   have h1:=(h x).1 (by simp)
   have h2:=(h y).2 (by simp)
   rcases List.mem_cons.1 h1 with e | h1
   ·exact e
   ·rcases List.mem_cons.1 h2 with e | h2
    ·exact e.symm
    ·have:=ha.1 y h2;have:=hb.1 x h1;omega
  subst e
  rw [rising_unique a b ha.2 hb.2 (fun r=>?_)]
  constructor
  ·intro hr
   rcases List.mem_cons.1 ((h r).1 (List.mem_cons_of_mem _ hr)) with e | hr'
   ·subst e;have:=ha.1 r hr;omega
   ·exact hr'
  ·intro hr
   rcases List.mem_cons.1 ((h r).2 (List.mem_cons_of_mem _ hr)) with e | hr'
   ·subst e;have:=hb.1 r hr;omega
   ·exact hr'
theorem sorted_days (l:List Rt) (hf:Fresh l) (c:ByteArray) (a b:Int) (s:List Rt) (hp:s.Perm (l.filter (sel c a b))) (hs:s.Pairwise (fun x y=>x.when_<=y.when_)):s=days l c a b:=by
 refine rising_unique _ _ ?_ (daily_rising _ _ _ _) (fun r=>by rw [hp.mem_iff,days_mem l hf])
 have hn:s.Nodup:=hp.nodup_iff.2 (filter_nodup l hf _)
 have hboth:=hs.and hn
 refine List.Pairwise.imp_of_mem (fun {x y} hx hy h=>?_) hboth
 obtain⟨hle,hne⟩:=h
 rcases Int.lt_or_eq_of_le hle with hlt | he
 ·exact hlt
 ·exfalso
  have hx':=hp.mem_iff.1 hx
  have hy':=hp.mem_iff.1 hy
  rw [List.mem_filter,sel_iff] at hx' hy'
  have f1:=find_fresh l hf x c 1 x.when_ hx'.1 hx'.2.1
  have f2:=find_fresh l hf y c 1 y.when_ hy'.1 hy'.2.1
  rw [he,f2] at f1
  apply hne
  rw [at_eq hx'.2.1,at_eq hy'.2.1,he]
  simp at f1;rw [f1]
theorem days_len (l:List Rt) (c:ByteArray) (a b:Int):((days l c a b).length:Int)<=max 0 (b-a+1):=by
 have:=(daily_bd l c a (b-a+1).toNat).2
 unfold days;omega
end Rates
end Go.Proofs.YtniaimjknmhapaaGreatDoor
