/- My texts DecP, TextS. -/
import Derived.Lib.ItoaNum
import Derived.Test.YtniaimjknmhapaaGreatDoorG00
set_option linter.unusedVariables false
set_option linter.unusedSimpArgs false
set_option maxRecDepth 100000
set_option maxHeartbeats 16000000
namespace Go.Proofs.YtniaimjknmhapaaGreatDoor
namespace Dec
def pad:Nat->Nat->List UInt8
 | 0,_=>[]
 | k+1,u=>pad k (u / 10)++[UInt8.ofNat (48+u % 10)]
theorem pad_length:∀(k u:Nat),(pad k u).length=k
 | 0,_=>rfl
 | k+1,u=>by rw [pad,List.length_append,pad_length k];rfl
theorem digits_small {u:Nat} (h:u<10):Lib.decDigits u=[UInt8.ofNat (48+u)]:=by rw [Lib.decDigits,dif_pos h]
theorem digits_big {u:Nat} (h:¬ u<10):Lib.decDigits u=Lib.decDigits (u / 10)++[UInt8.ofNat (48+u % 10)]:=by rw [Lib.decDigits,dif_neg h]
theorem digits_pad:∀(k a b:Nat),0<a->b<10 ^ k->Lib.decDigits (a*10 ^ k+b)=Lib.decDigits a++pad k b
 | 0,a,b,_,hb=>by simp at hb;subst hb;simp [pad]
 | k+1,a,b,ha,hb=>by
  have e:10 ^ (k+1)=10*10 ^ k:=by rw [Nat.pow_succ,Nat.mul_comm]
  have hp:0<10 ^ k:=Nat.pow_pos (by omega)
  have h1:10 ^ k<=a*10 ^ k:=Nat.le_mul_of_pos_left _ ha
  have hlt:¬ a*10 ^ (k+1)+b<10:=by rw [e,Nat.mul_left_comm];omega
  have hd:(a*10 ^ (k+1)+b) / 10=a*10 ^ k+b / 10:=by rw [e,Nat.mul_left_comm];omega
  have hm:(a*10 ^ (k+1)+b) % 10=b % 10:=by rw [e,Nat.mul_left_comm];omega
  rw [digits_big hlt,hd,hm,digits_pad k a (b / 10) ha (by rw [e] at hb;omega),pad,List.append_assoc]
theorem pad_fill:∀(k u:Nat),0<k->u<10 ^ k->pad k u=List.replicate (k-(Lib.decDigits u).length) 48++Lib.decDigits u/\(Lib.decDigits u).length<=k
 | 1,u,_,hu=>by
  have h:u<10:=by simpa using hu
  rw [digits_small h]
  simp [pad,Nat.mod_eq_of_lt h]
 | k+2,u,_,hu=>by
  have e:10 ^ (k+2)=10*10 ^ (k+1):=by rw [Nat.pow_succ 10 (k+1),Nat.mul_comm]
  obtain⟨h1,h2⟩:=pad_fill (k+1) (u / 10) (by omega) (by rw [e] at hu;omega)
  by_cases h:u<10
  ·have hz:u / 10=0:=by omega
   have hz2:u % 10=u:=by omega
   rw [hz,digits_small (by omega)] at h1
   rw [pad,hz,h1,digits_small h,hz2]
   refine⟨?_,by simp⟩
   show List.replicate (k+1-1) 48++[UInt8.ofNat (48+0)]++[UInt8.ofNat (48+u)]=List.replicate (k+2-1) 48++[UInt8.ofNat (48+u)]
   rw [show k+1-1=k by omega,show k+2-1=k+1 by omega,List.replicate_succ']
   rfl
  ·rw [digits_big h,pad,h1]
   refine⟨?_,by simp;omega⟩
   rw [List.append_assoc,List.length_append]
   congr 2
   simp
def text (k:Nat):List Nat->List UInt8
 | []=>[]
 | [a]=>Lib.decDigits a
 | a::l=>text k l++pad k a
theorem text_cons (k a b:Nat) (l:List Nat):text k (a::b::l)=text k (b::l)++pad k a:=rfl
def num (k:Nat):List Nat->Nat
 | []=>0
 | a::l=>a+10 ^ k*num k l
theorem text_num (k:Nat):∀(l:List Nat),l≠[]->(∀ a∈l,a<10 ^ k)->l.getLast?≠some 0->text k l=Lib.decDigits (num k l)/\0<num k l
 | [],h,_,_=>absurd rfl h
 | [a],_,_,h=>by
  have:a≠0:=fun e=>h (by rw [e];rfl)
  simp [text,num];omega
 | a::b::l,_,hb,h=>by
  obtain⟨h1,h2⟩:=text_num k (b::l) (by simp) (fun x hx=>hb x (List.mem_cons_of_mem _ hx)) (by simpa using h)
  have e:num k (a::b::l)=num k (b::l)*10 ^ k+a:=by rw [num,Nat.mul_comm];omega
  rw [text_cons,h1,e,digits_pad k _ a h2 (hb a List.mem_cons_self)]
  exact⟨rfl,by have:=Nat.le_mul_of_pos_right (num k (b::l)) (show 0<10 ^ k from Nat.pow_pos (by omega));omega⟩
def top (j a:Nat):List UInt8:=if a / 10 ^ j=0 then Lib.decDigits a else pad j a
theorem top_zero {a:Nat} (h:0<a):top 0 a=[]:=by
 unfold top;rw [if_neg (by simp;omega)];rfl
def low (k:Nat):List Nat->List UInt8
 | []=>[]
 | a::l=>low k l++pad k a
theorem num_val {k:Nat} {B:Int} (hB:B=((10 ^ k:Nat):Int)):∀ {l:List Int},Big.Lim B l->((num k (l.map Int.toNat):Nat):Int)=Big.val B l
 | [],_=>rfl
 | a::l,h=>by
  rw [Big.Lim.cons] at h
  rw [List.map_cons,num,Big.val_cons,Int.natCast_add,Int.natCast_mul,num_val hB h.2,<- hB]
  omega
theorem text_val {k:Nat} {B:Int} (hB:B=((10 ^ k:Nat):Int)) {l:List Int} (hL:Big.Lim B l) (hN:Big.Norm l) (h0:0<l.length):text k (l.map Int.toNat)=Lib.decDigits (Big.val B l).toNat:=by
 have hne:l≠[]:=List.length_pos_iff.1 h0
 have h1:=(text_num k (l.map Int.toNat) (by simpa using hne) (fun a ha=>by
  rw [List.mem_map] at ha
  obtain⟨b,hb,rfl⟩:=ha
  have:=hL b hb
  rw [hB] at this
  omega) (by
  rw [List.getLast?_map,List.getLast?_eq_some_getLast hne]
  intro e
  have h2:=hN hne
  have h3:=hL _ (List.getLast_mem hne)
  simp only [Option.map_some,Option.some.injEq] at e
  omega)).1
 rw [h1,<- num_val hB hL,Int.toNat_natCast]
theorem text_len (k:Nat):∀(l:List Nat),(∀ a∈l,a<10 ^ k)->0<k->(text k l).length<=k*l.length
 | [],_,_=>Nat.zero_le _
 | [a],h,hk=>by
  have:=(pad_fill k a hk (h a (by simp))).2
  simpa [text] using this
 | a::b::l,h,hk=>by
  have:=text_len k (b::l) (fun x hx=>h x (List.mem_cons_of_mem _ hx)) hk
  rw [text_cons,List.length_append,pad_length,List.length_cons,Nat.mul_succ]
  omega
def frac (n d:Nat):List UInt8:=if d=1 then Lib.decDigits n else Lib.decDigits n++47::Lib.decDigits d
end Dec
end Go.Proofs.YtniaimjknmhapaaGreatDoor
namespace Go.Proofs.YtniaimjknmhapaaGreatDoor
theorem str_app (l m:List UInt8):(⟨l.toArray⟩:ByteArray)++⟨m.toArray⟩=⟨(l++m).toArray⟩:=by
 apply ByteArray.ext
 rw [ByteArray.data_append]
 simp
end Go.Proofs.YtniaimjknmhapaaGreatDoor
