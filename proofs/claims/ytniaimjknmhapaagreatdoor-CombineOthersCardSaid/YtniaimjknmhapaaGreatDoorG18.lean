/- My texts GroupA, GroupB, AccD, EntD, EntDV, GrpD. -/
import Derived.StringKeys
import Derived.Test.YtniaimjknmhapaaGreatDoorG14
set_option linter.unusedVariables false
set_option linter.unusedSimpArgs false
set_option maxRecDepth 100000
set_option maxHeartbeats 16000000
namespace Go.Proofs.YtniaimjknmhapaaGreatDoor
open Go.Proofs.Tryz Go.RowKit

section
variable (w:World)
theorem b0k (a:Acc):CL 237 #[a] w (Gr.based a):=by
 have hB0:=(Below.refl w w).alloc lR (.cells a 87)
 by_cases k1:a.kind=1
 ·have kb:(a.kind==1)=true:=by simp [k1]
  have HK:=Z1 k1;clear k1
  by_cases hb:a.basis=1
  ·have hbb:(a.basis==1)=true:=by simp [hb]
   have HV:Hid (Gr.based a=true):=by show _=_;simp [Gr.based,HK.out,hb]
   clear hb HK;go_enter func237,ntmps237;go_wp2;go_ret;exact⟨by rw [HV.out];rfl,hB0⟩
  have hb1:(a.basis==1)=false:=by simp [hb]
  by_cases hb3:a.basis=3
  ·have hbb:(a.basis==3)=true:=by simp [hb3]
   have HV:Hid (Gr.based a=true):=by show _=_;simp [Gr.based,HK.out,hb3]
   clear hb hb3 HK;go_enter func237,ntmps237;go_wp2;go_ret;exact⟨by rw [HV.out];rfl,hB0⟩
  ·have hbb:(a.basis==3)=false:=by simp [hb3]
   have HV:Hid (Gr.based a=false):=by show _=_;simp [Gr.based,HK.out,hb,hb3]
   clear hb hb3 HK;go_enter func237,ntmps237;go_wp2;go_ret;exact⟨by rw [HV.out];rfl,hB0⟩
 have kb1:(a.kind==1)=false:=by simp [k1]
 by_cases k2:a.kind=2
 ·have kb:(a.kind==2)=true:=by simp [k2]
  have HK:=Z1 k2;clear k1 k2
  by_cases hb:a.basis=1
  ·have hbb:(a.basis==1)=true:=by simp [hb]
   have HV:Hid (Gr.based a=true):=by show _=_;simp [Gr.based,HK.out,hb]
   clear hb HK;go_enter func237,ntmps237;go_wp2;go_ret;exact⟨by rw [HV.out];rfl,hB0⟩
  have hb1:(a.basis==1)=false:=by simp [hb]
  by_cases hb3:a.basis=3
  ·have hbb:(a.basis==3)=true:=by simp [hb3]
   have HV:Hid (Gr.based a=true):=by show _=_;simp [Gr.based,HK.out,hb3]
   clear hb hb3 HK;go_enter func237,ntmps237;go_wp2;go_ret;exact⟨by rw [HV.out];rfl,hB0⟩
  ·have hbb:(a.basis==3)=false:=by simp [hb3]
   have HV:Hid (Gr.based a=false):=by show _=_;simp [Gr.based,HK.out,hb,hb3]
   clear hb hb3 HK;go_enter func237,ntmps237;go_wp2;go_ret;exact⟨by rw [HV.out];rfl,hB0⟩
 have kb2:(a.kind==2)=false:=by simp [k2]
 by_cases k3:a.kind=3
 ·have kb:(a.kind==3)=true:=by simp [k3]
  have HK:=Z1 k3;clear k1 k2 k3
  by_cases hb:a.basis=3
  ·have hbb:(a.basis==3)=true:=by simp [hb]
   have HV:Hid (Gr.based a=true):=by show _=_;simp [Gr.based,HK.out,hb]
   clear hb HK;go_enter func237,ntmps237;go_wp2;go_ret;exact⟨by rw [HV.out];rfl,hB0⟩
  ·have hbb:(a.basis==3)=false:=by simp [hb]
   have HV:Hid (Gr.based a=false):=by show _=_;simp [Gr.based,HK.out,hb]
   clear hb HK;go_enter func237,ntmps237;go_wp2;go_ret;exact⟨by rw [HV.out];rfl,hB0⟩
 have kb3:(a.kind==3)=false:=by simp [k3]
 have HK:=Z1 (show ¬ (a.kind=1∨a.kind=2)/\¬ a.kind=3 from⟨oM,k3⟩);clear k1 k2 k3
 by_cases hb:a.basis=2
 ·have hbb:(a.basis==2)=true:=by simp [hb]
  have HV:Hid (Gr.based a=true):=by show _=_;simp [Gr.based,HK.out.1,HK.out.2,hb]
  clear hb HK;go_enter func237,ntmps237;go_wp2;go_ret;exact⟨by rw [HV.out];rfl,hB0⟩
 ·have hbb:(a.basis==2)=false:=by simp [hb]
  have HV:Hid (Gr.based a=false):=by show _=_;simp [Gr.based,HK.out.1,HK.out.2,hb]
  clear hb HK;go_enter func237,ntmps237;go_wp2;go_ret;exact⟨by rw [HV.out];rfl,hB0⟩
theorem a2Q (a:Acc):CL 236 #[a] w (.bool (!Gr.based a)):=by
 have hB0:=(Below.refl w w).alloc lR (.cells a 87);go_enter func236,ntmps236;go_wp2_with (fail);refine(b0k _ a).mono ?_;rintro e w1 ⟨rfl,hB1⟩;go_wp2;go_ret;exact⟨rfl,hB0.trans (hB1.mono sP)⟩
theorem a7t {α:Type} {l:List α} {P:α->Bool} {k:Nat} (hk:k<l.length) (h:(l.take k).all P=true) (hp:P l[k]=true):(l.take (k+1)).all P=true:=by
 rw [tse hk,List.all_append,h];simp [hp]
theorem a7u {α:Type} {l:List α} {P:α->Bool} {k:Nat} (hk:k<l.length) (hp:P l[k]=false):l.all P=false:=by
 rw [List.all_eq_false];exact⟨l[k],List.getElem_mem hk,by simp [hp]⟩
theorem a5Q (A:Option Addr) (n c:Nat) (l:List Acc) (hl:l.length=n) (hn:n<=100000) (h:AccsAt w w A l) :
  Calls prog 182 #[.slice A n c,.func (.func 236) #[] #[]] w fun e w'=>∃ i:Int,e=.returned (.int .i64 i)/\(0<=i ↔ l.all Gr.based=false)/\Below w w w':=by
 subst hl;go_enter func182,ntmps182;go_wp2
 go_loopw [8] (fun i wr=>∃ k:Nat,k<=l.length/\i=.int .i64 k/\(l.take k).all Gr.based=true/\Below w w wr) (fun i _=>l.length-(intOf i).toNat)
 case atStart=>exact⟨0,Nat.zero_le _,rfl,rfl,bR⟩
 case round =>
  obtain⟨k,hk,rfl,ha,hb⟩:=hrel;have Ha:=Z1 ha;clear ha
  by_cases hlt:k<l.length
  ·obtain⟨b,o,rfl,hbB,c0,c1,c2,c3⟩:=AccsAt.four (RowsAt.below h hb lR) hlt
   have hbw:b<wr.heap.size:=Nat.lt_of_lt_of_le hbB hb.size
   by_cases h1:Gr.based l[k]=true
   ·have hf:=Z1 (a7t hlt Ha.out h1)
    go_wp2_with (fail);refine(a2Q wr l[k]).mono ?_;rw [h1];rintro e w4 ⟨rfl,hB4⟩;clear h1;go_wp2;go_roundw
    case rel=>exact⟨k+1,oM,by go_num,hf.out,hb.trans (hB4.mono hb.size)⟩
    case measure=>simp [intOf];omega
   ·have h1':Gr.based l[k]=false:=by simpa using h1
    have hf:=Z1 (a7u (P:=Gr.based) hlt h1');go_wp2_with (fail);refine(a2Q wr l[k]).mono ?_;rw [h1'];rintro e w4 ⟨rfl,hB4⟩;clear h1 h1';go_wp2;go_ret;exact⟨_,rfl,⟨fun _=>hf.out,fun _=>oM⟩,hb.trans (hB4.mono hb.size)⟩
  ·obtain rfl:k=l.length:=oM
   clear h;go_wp2;go_ret;refine⟨_,rfl,⟨fun h=>oM,fun h=>?_⟩,hb⟩;have h':=Ha.out;rw [List.take_length] at h';rw [h'] at h;cases h
theorem a6e (A:Option Addr) (n c:Nat) (l:List Acc) (hl:l.length=n) (hn:n<=100000) (h:AccsAt w w A l) :
  CL 235 #[.slice A n c,.func (.func 236) #[] #[]] w (.bool (!l.all Gr.based)):=by
 go_enter func235,ntmps235;go_wp2_with (fail);refine(a5Q w A n c l hl hn h).mono ?_;rintro e w1 ⟨i,rfl,hi,hB⟩;have Hi:=Z1 hi;clear hi;go_wp2;go_ret;refine⟨VZ ?_,hB⟩;have:=Hi.out;rw [Bool.eq_iff_iff];simp [this]
theorem a4z (a:Acc) (x:Int) (b:Nat) (hb:b<w.heap.size) (hx:w.cell? ⟨b,0,none⟩=some (.int .i64 x)):CL 183 #[a,.pointer (some ⟨b,0,none⟩)] w (.bool (a.code==x)):=by
 have hB0:=(Below.refl w w).alloc lR (.cells a 87);go_enter func183,ntmps183;go_wp2;go_ret;exact⟨rfl,hB0⟩
def IdxPost (l:List Acc) (x:Int) (w:World) (e:Ending) (w':World):Prop :=
 Below w w w'/\((e=.returned (.int .i64 (-1))/\Ch.find l x=none)∨∃(k:Nat) (h:k<l.length),e=.returned (.int .i64 k)/\Ch.find l x=some l[k])
theorem a6J (A:Option Addr) (n c:Nat) (l:List Acc) (x:Int) (p:Nat) (hl:l.length=n) (hn:n<=100000) (hp:p<w.heap.size) (hx:w.cell? ⟨p,0,none⟩=some (.int .i64 x)) (h:AccsAt w w A l) :
  Calls prog 182 #[.slice A n c,.func (.func 183) #[] #[.pointer (some ⟨p,0,none⟩)]] w (IdxPost l x w):=by
 subst hl;have Hx:=Z1 hx;clear hx;go_enter func182,ntmps182;go_wp2
 go_loopw [8] (fun i wr=>∃ k:Nat,k<=l.length/\i=.int .i64 k/\Ch.find (l.take k) x=none/\Below w w wr) (fun i _=>l.length-(intOf i).toNat)
 case atStart=>exact⟨0,Nat.zero_le _,rfl,rfl,bR⟩
 case round =>
  obtain⟨k,hk,rfl,ha,hb⟩:=hrel;have Ha:=Z1 ha;clear ha
  by_cases hlt:k<l.length
  ·obtain⟨b,o,rfl,hbB,c0,c1,c2,c3⟩:=AccsAt.four (RowsAt.below h hb lR) hlt
   have hbw:b<wr.heap.size:=Nat.lt_of_lt_of_le hbB hb.size;have hpw:p<wr.heap.size:=Nat.lt_of_lt_of_le hp hb.size;have hxr:=(hb.cell (p:=⟨p,0,none⟩) hp).trans Hx.out
   by_cases h1:l[k].code=x
   ·have hf:=Z1 (Ch.find_hit hlt Ha.out h1)
    have hbe:(l[k].code==x)=true:=by simp [h1]
    clear h1;go_wp2_with (fail);refine(a4z wr l[k] x p hpw hxr).mono ?_;rw [hbe];rintro e w4 ⟨rfl,hB4⟩;go_wp2;go_ret;exact⟨hb.trans (hB4.mono hb.size),.inr ⟨k,hlt,rfl,hf.out⟩⟩
   ·have hf:Hid (Ch.find (l.take (k+1)) x=none):=by show _=_;rw [Ch.find_take hlt Ha.out,if_neg h1]
    have hbe:(l[k].code==x)=false:=by simp [h1]
    clear h1;go_wp2_with (fail);refine(a4z wr l[k] x p hpw hxr).mono ?_;rw [hbe];rintro e w4 ⟨rfl,hB4⟩;go_wp2;go_roundw
    case rel=>exact⟨k+1,oM,by go_num,hf.out,hb.trans (hB4.mono hb.size)⟩
    case measure=>simp [intOf];omega
  ·obtain rfl:k=l.length:=oM
   have hf:Hid (Ch.find l x=none):=by show _=_;have:=Ha.out;rwa [List.take_length] at this
   clear h;go_wp2;go_ret;exact⟨hb,.inl ⟨rfl,hf.out⟩⟩
end
open Go.Proofs.Tryz Go.RowKit

section
variable (w:World)
theorem a3Y (g:Grp) (x:Int) (hg:g.At w w) :
  CL 126 #[g,x] w (.tuple #[(Ch.found g.chart x),.bool (Ch.has g.chart x)]):=by
 obtain⟨hB0,hb0,hb1,hb2,hz⟩:=a3d w g #[x] #[(),(),(),()] 29 3 87;obtain⟨W1,hW1⟩:∃ W1,W1=(((w.alloc (.cells g 29)).alloc (.cells #[x] 3)).alloc (.cells #[(),(),(),()] 87)):=⟨_,rfl⟩;rw [<- hW1] at hB0 hb0 hb1 hb2 hz;have HW:=Z1 hW1;have hA1:=RowsAt.at_ hg.hc hB0;have x4:=cr9 4 hb0;have y0:=cr9 0 hb1;simp at x4 y0;have s1:w.heap.size<W1.heap.size:=oM;have s2:w.heap.size+1<W1.heap.size:=oM;have s3:w.heap.size+2<W1.heap.size:=oM;obtain⟨Hb0,Hb2,Hcl⟩:=Z3 hb0 hb2 hg.hcl;have hcn:=hg.hcn;clear hW1 hz hb0 hb1 hb2 hg;go_enter func126,ntmps126;go_upto_region 1 with(fail);rw [<- HW.out];go_wp2_with (fail);refine(a6J W1 g.cA g.cn g.cc g.chart x (w.heap.size+1) Hcl.out hcn s2 y0 hA1).mono ?_;rintro e W2 ⟨hB2,h⟩;have hB02:=hB0.trans (hB2.mono hB0.size);have hd2:=gbox Hb2.out hB2 s3;have Hd2:=Z1 hd2;have hx2:=gbox Hb0.out hB2 s1;have hA2:=RowsAt.at_ hA1 hB2;clear x4 y0
 rcases h with⟨rfl,hf⟩ | ⟨k,hk,rfl,hf⟩
 ·have HF:Hid (Ch.found g.chart x=Acc.zero):=by show _=_;simp [Ch.found,hf]
  have HH:Hid (Ch.has g.chart x=false):=by show _=_;simp [Ch.has,hf]
  have Ho:=Z1 (accOne 0 0 0 0);have hR:=setRow_heap W2 (w.heap.size+2) _ #[(),(),(),()] _ _ hd2;have hload:=Z1 (run_loadVar_row (P:=prog) _ _ _ 87 _ _ _ hR underlying87 rfl a0W);have hBF:=Z1 (below_setRow hB02 (show w.heap.size<=w.heap.size+2 by omega) #[(),(),(),()]);clear hf hR hd2 hx2 hA1 hA2;go_wp2_with (refine Vx rfl 87 (.tmp 4) (.tmp 13) none rfl rfl (w.heap.size+2) 87 _ #[(),(),(),()] rfl rfl Hd2.out rfl a0W Ho.out ?_);exact bodyPost_ret (v:=.tuple #[.agg #[(),(),(),()],false]) (by simp [results,results126,asAddr,Act.put,hload.out]) rfl ⟨by rw [HF.out,HH.out];rfl,hBF.out⟩
 ·have HF:Hid (Ch.found g.chart x=g.chart[k]):=by show _=_;simp [Ch.found,hf]
  have HH:Hid (Ch.has g.chart x=true):=by show _=_;simp [Ch.has,hf]
  obtain⟨b,o,hAe,hbB,c0,c1,c2,c3⟩:=AccsAt.four hA2 hk;have x4:=cr9 4 hx2;simp at x4;rw [hAe] at x4;have t1:w.heap.size<W2.heap.size:=Vq hx2;have Ho:=Z1 (accOne g.chart[k].code g.chart[k].kind g.chart[k].basis g.chart[k].parent);have hR:=setRow_heap W2 (w.heap.size+2) _ (g.chart[k]) _ _ hd2;have hload:=Z1 (run_loadVar_row (P:=prog) _ _ _ 87 _ _ _ hR underlying87 rfl a0W);have hBF:=Z1 (below_setRow hB02 (show w.heap.size<=w.heap.size+2 by omega) (g.chart[k]));have hkn:(k:Int)<(g.cn:Int):=by have:=Hcl.out;omega
  have hk0:(0:Int)<=(k:Int):=oM;have hkl:k<g.cn:=oM;clear hf hR hd2 hx2 hA1 hA2 hAe;go_wp2_with (refine Vx rfl 87 (.tmp 4) (.tmp 18) none rfl rfl (w.heap.size+2) 87 _ (g.chart[k]) rfl rfl Hd2.out rfl a0W Ho.out ?_);exact bodyPost_ret (v:=.tuple #[(g.chart[k]),true]) (by simp [results,results126,asAddr,Act.put,hload.out]) rfl ⟨by rw [HF.out,HH.out],hBF.out⟩
end
open Go.Proofs.Tryz Go.RowKit

abbrev RolesAt:=RowsAt Role.cells 5
theorem RolesAt.five {w:World} {B:Nat} {A:Option Addr} {l:List Role} (h:RolesAt w B A l) {k:Nat} (hk:k<l.length):∃ b o,A=some ⟨b,o,none⟩/\b<B/\w.cell? ⟨b,o+k*5,none⟩=some (.string l[k].name)/\w.cell? ⟨b,o+k*5+1,none⟩=some (.int .i64 l[k].code)/\w.cell? ⟨b,o+k*5+2,none⟩=some (.int .i64 l[k].kind)/\w.cell? ⟨b,o+k*5+3,none⟩=some (.int .i64 l[k].basis)/\w.cell? ⟨b,o+k*5+4,none⟩=some (.bool l[k].mapped):=by
 obtain⟨b,o,e,hb,hr⟩:=RowsAt.look h hk;exact⟨b,o,e,hb,hr 0 _ rfl,hr 1 _ rfl,hr 2 _ rfl,hr 3 _ rfl,hr 4 _ rfl⟩
theorem a5E (g:Grp):(Gr.roles g).length=15:=rfl
theorem b2m {l:List Role} {i:Nat} (h:i<l.length):Gr.rat l i=l[i]:=by simp [Gr.rat,h]
theorem a5k {l:List Role} {k:Nat} {x:Int}:(l.take k).any (fun y=>decide (y.code=x))=decide (x∈(l.take k).map Role.code):=by
 rw [Bool.eq_iff_iff,List.any_eq_true,decide_eq_true_eq,List.mem_map]
 constructor
 ·rintro⟨y,h1,h2⟩;exact⟨y,h1,by simpa using h2⟩
 ·rintro⟨y,h1,h2⟩;exact⟨y,h1,by simpa using h2⟩
theorem a3s {w:World} {b:Nat} {g:Grp} {t:TypeId} {fr:Nat × Nat} (h:w.heap[b]?=some (.cells g t fr)):w.rangeAt b 5 [g.r0,g.r1,g.r2,g.r3,g.r4,g.r5,g.r6,g.r7,g.r8,g.r9,g.r10,g.r11,g.r12,g.r13,g.r14]:=by
 intro j v hj;rw [cr9 _ h];have hl:=(List.getElem?_eq_some_iff.1 hj).1;simp at hl
 match j,hl with
 | 0,_=>simpa using hj
 | 1,_=>simpa using hj
 | 2,_=>simpa using hj
 | 3,_=>simpa using hj
 | 4,_=>simpa using hj
 | 5,_=>simpa using hj
 | 6,_=>simpa using hj
 | 7,_=>simpa using hj
 | 8,_=>simpa using hj
 | 9,_=>simpa using hj
 | 10,_=>simpa using hj
 | 11,_=>simpa using hj
 | 12,_=>simpa using hj
 | 13,_=>simpa using hj
 | 14,_=>simpa using hj
section
variable (w:World)
theorem b2f (g:Grp) (hg:g.At w w) :
  CL 196 #[g] w (Gr.accounts g):=by
 obtain⟨W1,hW1,hB0,hb0,hz⟩:=nw1 w g 29;have HW:=Z1 hW1;have hA1:=RowsAt.at_ hg.hc hB0;have x4:=cr9 4 hb0;simp at x4;have s1:w.heap.size<W1.heap.size:=oM;have Hb0:=Z1 hb0;have Hcl:=Z1 hg.hcl;have hcn:=hg.hcn;have Hcw:=Z1 hg.hcw;have Hr:=Z1 hg.hr;have hmm:=@run_makeMap prog;clear hW1 hz hb0 hg;go_enter func196,ntmps196;go_upto_region 1 with(fail);rw [<- HW.out];go_wp2_with (fail);refine(a2F W1 g.cA g.cn g.cc g.chart true Hcl.out hcn Hcw.out hA1).mono ?_;rintro e W2 ⟨rfl,hB2⟩;have hB02:=hB0.trans (hB2.mono hB0.size);have hb2:=gbox Hb0.out hB2 s1;have hA2:=RowsAt.at_ hA1 hB2;clear x4
 by_cases h1:Ch.valid true g.chart=true
 case neg =>
  have h1':Ch.valid true g.chart=false:=by simpa using h1
  have HV:Hid (Gr.accounts g=false):=by show _=_;rw [Gr.accounts,h1'];simp
  rw [h1'];clear h1 h1' hb2 hA1 hA2;go_wp2;go_ret;exact⟨by rw [HV.out];rfl,hB02⟩
 have x4:=cr9 4 hb2;simp at x4;have s2:w.heap.size<W2.heap.size:=Vq hb2;have Hb2:=Z1 hb2;have H1:=Z1 h1;rw [h1];clear h1 hb2;go_wp2_with (fail);refine(a6e W2 g.cA g.cn g.cc g.chart Hcl.out hcn hA2).mono ?_;rintro e W3 ⟨rfl,hB3⟩;have hB03:=hB02.trans (hB3.mono hB02.size);have hb3:=gbox Hb2.out hB3 s2;have hA3:=RowsAt.at_ hA2 hB3;clear x4 hA1 hA2
 by_cases h2:g.chart.all Gr.based=true
 case neg =>
  have h2':g.chart.all Gr.based=false:=by simpa using h2
  have HV:Hid (Gr.accounts g=false):=by show _=_;rw [Gr.accounts,h2'];simp
  rw [h2'];clear h2 h2' hb3 hA3;go_wp2;go_ret;exact⟨by rw [HV.out];rfl,hB03⟩
 have HV:Hid (Gr.accounts g=(List.range (Gr.roles g).length).all (Gr.roleAt g.chart (Gr.roles g))):=by show _=_;rw [Gr.accounts,H1.out,h2];rfl
 rw [h2];have s3:w.heap.size<W3.heap.size:=Vq hb3;have hb4:=(Below.heap_alloc W3 (.map #[] 0) _ s3).trans hb3;have hset0:=Z1 (SetAt.made W3);have hB04:=hB03.alloc hB03.size (.map #[] 0);obtain⟨W4,hW4⟩:∃ W4,W4=W3.alloc (.map #[] 0):=⟨_,rfl⟩;have hz4:W4.heap.size=W3.heap.size+1:=by rw [hW4];simp
 have hA4:=(RowsAt.below hA3 ((Below.refl W3 W3).alloc lR (.map #[] 0)) lR).more (C:=W4.heap.size) oM;rw [<- hW4] at hb4 hset0 hB04 hA4;obtain⟨HW4,Hb4,hrr,Hb3,HA3⟩:=Z5 hW4 hb4 (a3s hb4) hb3 hA3;clear h2 hb3 hA3 hW4 hb4;go_upto_region 4 with(fail);rw [<- HW4.out];have s4:w.heap.size<W4.heap.size:=oM;go_wp2_with (refine wpList_load_mid rfl 26 (.tmp 18) rfl w.heap.size 5 rfl [g.r0,g.r1,g.r2,g.r3,g.r4,g.r5,g.r6,g.r7,g.r8,g.r9,g.r10,g.r11,g.r12,g.r13,g.r14] _ hrr.out underlying26 rfl a2q ?_);refine(a4k W4 g).mono ?_;rintro e W5 ⟨hB5,rb,rfl,hrb,hrows⟩;have hB05:=hB04.trans (hB5.mono hB04.size);have hq5:=hB5.size;have hb5:=gbox Hb4.out hB5 s4;have Hb5:=Z1 hb5;have hA5:=RowsAt.at_ hA4 hB5;have hset5:=Z1 (hset0.out.below hB5 hset0.out.lt);have hrl:=a5E g;obtain⟨L,hL⟩:∃ L,L=Gr.roles g:=⟨_,rfl⟩;rw [<- hL] at hrl hrows HV;have Hr2:Hid (∀ r∈L,(Lit.int .i64 r.code).wf=true):=by show ∀ r∈L,_;rw [hL];exact Hr.out
 have HL:=Z1 hL;have HR:=Z1 hrows;have hb35:=Z1 ((show Below W3 W3 W4 by rw [HW4.out];exact bR.alloc lR _).trans (hB5.mono oM));have hrb3:W3.heap.size<rb:=oM;have Hrl:=Z1 hrl;have s5:w.heap.size<W5.heap.size:=oM;have s5':W3.heap.size<W5.heap.size:=oM;clear hL hrows hrl hb5 hrr;go_wp2
 go_loopw [22] (fun i wr=>∃ k:Nat,k<=15/\i=.int .i64 k/\(List.range k).all (Gr.roleAt g.chart L)=true/\SetAt wr W3 ((L.take k).map Role.code)/\RolesAt wr wr (some ⟨rb,0,none⟩) L/\Below W3 W3 wr) (fun i _=>15-(intOf i).toNat)
 case atStart=>exact⟨0,Nat.zero_le _,rfl,rfl,hset5.out,HR.out,hb35.out⟩
 case round =>
  obtain⟨k,hk,rfl,hall,hset,hrr,hbr⟩:=hrel;have HRr:=Z1 hrr;have Hall:=Z1 hall;have hq:=hbr.size;have hbF:=hB03.trans (hbr.mono hB03.size);have hlt3:=hset.lt;clear hall hmm hrr
  by_cases hlt:k<15
  ·have hkl:k<L.length:=by have:=Hrl.out;omega
   obtain⟨b,o,hAe,hbB,c0,c1,c2,c3,c4⟩:=RolesAt.five HRr.out hkl
   cases hAe
   have hbw:rb<wr.heap.size:=oM;obtain⟨hBa,hra,hza⟩:=a0T wr (L[k]) 310;have hbx:=gbox Hb3.out hbr s3;have hbx2:=gbox hbx hBa (Vq hbx);have hset2:=hset.alloc (.cells (L[k]) 310);obtain⟨Wa,hWa⟩:∃ Wa,Wa=(wr.alloc (.cells (L[k]) 310)):=⟨_,rfl⟩;rw [<- hWa] at hBa hra hza hbx2 hset2;have HWa:=Z1 hWa;have hba:=hbr.trans (hBa.mono hq);have hAa:=RowsAt.below HA3.out hba lR;have hAa2:=RowsAt.more hAa hba.size;obtain⟨Hrt,Hra,Hbx2⟩:=Z3 (b2m hkl) hra hbx2;have hwf:=Hr2.out _ (List.getElem_mem hkl);have hbFa:=hB03.trans (hba.mono hB03.size);simp only [Nat.zero_add] at c0 c1 c2 c3 c4;clear hWa hbx hset;go_upto_region 7 with(fail);rw [<- HWa.out];have y1:=cr9 1 hra;have x4:=cr9 4 hbx2;simp at y1 x4;have t1:wr.heap.size<Wa.heap.size:=Vq hra;have t2:w.heap.size<Wa.heap.size:=Vq hbx2;clear c0 c1 c2 c3 c4 hra hbx2 hAa;go_wp2_with (fail);refine(a0M Wa g.cA g.cn g.cc g.chart L[k].code Hcl.out hcn hAa2).mono ?_;rintro e Wb ⟨rfl,hBb⟩;obtain⟨q,hqq⟩:∃ q,q=Ch.found g.chart L[k].code:=⟨_,rfl⟩;rw [<- hqq];have Hq:=Z1 hqq;obtain⟨hBc,hrc,hzc⟩:=a0T Wb q 87;have hr1:=gbox Hra.out hBb t1;have hr1':=gbox hr1 hBc (Vq hr1);have hset3:=(hset2.below hBb hset2.lt).alloc (.cells q 87);have hbc:=(hba.trans (hBb.mono hba.size)).trans (hBc.mono (hba.trans (hBb.mono hba.size)).size);obtain⟨Wc,hWc⟩:∃ Wc,Wc=(Wb.alloc (.cells q 87)):=⟨_,rfl⟩;rw [<- hWc] at hBc hrc hzc hr1' hset3 hbc;have HWc:=Z1 hWc;have hRc:=Z1 (RowsAt.at_ (RowsAt.at_ (RowsAt.at_ HRr.out hBa) hBb) hBc);have hlk:=hset3.look L[k].code hwf;have hbFc:=hB03.trans (hbc.mono hB03.size);clear y1 x4 hqq hWc hr1 hset2;go_upto_region 8 with(fail);rw [<- HWc.out];have y1:=cr9 1 hr1';have y2:=cr9 2 hr1';have y3:=cr9 3 hr1';have q1:=cr9 1 hrc;have q2:=cr9 2 hrc;simp at y1 y2 y3 q1 q2;have t3:wr.heap.size<Wc.heap.size:=Vq hr1';have t4:Wb.heap.size<Wc.heap.size:=Vq hrc;have Hwf:=Z1 hwf;have hbad:Gr.roleAt g.chart L k=false->Hid (Gr.accounts g=false):=fun h=>Z1 (by rw [HV.out];exact Ch.all_not hkl h);clear hr1' hrc hAa2 hwf
   by_cases g1:Ch.has g.chart L[k].code=true
   case neg =>
    have g1':Ch.has g.chart L[k].code=false:=by simpa using g1
    have HV2:=hbad (by rw [Gr.roleAt,Hrt.out,g1'];rfl);rw [g1'];clear g1 g1' hbad hset3 hlk;go_wp2;go_ret;exact⟨by rw [HV2.out];rfl,hbFc⟩
   by_cases g2:L[k].code∈(L.take k).map Role.code
   case pos =>
    have gd:decide (L[k].code∈(L.take k).map Role.code)=true:=decide_eq_true g2;rw [gd] at hlk;have HV2:=hbad (by rw [Gr.roleAt,Hrt.out,a5k,gd];simp);rw [g1];clear g1 g2 gd hbad hset3;go_wp2;go_ret;exact⟨by rw [HV2.out];rfl,hbFc⟩
   have gd:decide (L[k].code∈(L.take k).map Role.code)=false:=decide_eq_false g2;rw [gd] at hlk;have Gd:=Z1 gd;clear g2 gd
   by_cases g3:q.kind=L[k].kind
   case neg =>
    have g3b:(q.kind != L[k].kind)=true:=by simp [g3]
    have HV2:=hbad (by rw [Gr.roleAt,Hrt.out,<- Hq.out,decide_eq_false g3];simp);rw [g1];clear g1 g3 hbad hset3;go_wp2;go_ret;exact⟨by rw [HV2.out];rfl,hbFc⟩
   have g3b:(q.kind != L[k].kind)=false:=by simp [g3]
   by_cases g4:q.basis=L[k].basis
   case neg =>
    have g4b:(q.basis != L[k].basis)=true:=by simp [g4]
    have HV2:=hbad (by rw [Gr.roleAt,Hrt.out,<- Hq.out,decide_eq_false g4];simp);rw [g1];clear g1 g3 g4 hbad hset3;go_wp2;go_ret;exact⟨by rw [HV2.out];rfl,hbFc⟩
   have g4b:(q.basis != L[k].basis)=false:=by simp [g4]
   have Hall2:=Z1 (Gr.range_all Hall.out (show Gr.roleAt g.chart L k=true by rw [Gr.roleAt,Hrt.out,a5k,Gd.out,g1,<- Hq.out,decide_eq_true g3,decide_eq_true g4];rfl));rw [g1];obtain⟨f,hfm,hff⟩:=hset3;have hkl2:=Maps.keyOf_int_mk (P:=prog) underlying3 Hwf.out;have Hff:=Z1 (a7b hff L[k].code);have Htk:Hid (((L.take k).map Role.code).length=k):=by show _=_;rw [List.length_map,List.length_take];omega
   have hqc:=hbc.size;have Htl:Hid (((L.take k).map Role.code).length<maxLen):=by show _<_;rw [Htk.out];unfold maxLen;omega
   clear g1 g3 g4 hbad hff;go_wp2_with (at_mapUpdate;refine Xk rfl _ _ _ rfl hfm intLaw underlying224 rfl Htl.out _ _ _ rfl rfl hkl2 ?_;intro w7 hm7 hg7);have hb7:=hbc.grown hg7 hqc (fun j e=>by cases e;exact lR)
   have hset7:SetAt w7 W3 ((L.take (k+1)).map Role.code):=by
    rw [tse hkl,List.map_append];exact⟨_,by rw [List.length_append];exact hm7,Hff.out⟩
   have Hs7:=Z1 hset7;have HR7:=Z1 (RowsAt.kept hRc.out hg7 (fun b o e=>by cases e;intro e2;cases e2;omega));clear hset7;go_roundw
   case rel=>exact⟨k+1,oM,by go_num,Hall2.out,Hs7.out,HR7.out,hb7⟩
   case measure=>simp [intOf];omega
  ·obtain rfl:k=15:=oM
   have HV2:Hid (Gr.accounts g=true):=by show _=_;rw [HV.out,Hrl.out];exact Hall.out
   clear hset;go_wp2;go_ret;exact⟨by rw [HV2.out];rfl,hbF⟩
end
open Go.Proofs.Tryz Go.RowKit

def closedOf (l:List Role) (x:Int):Option Bool:=(l.reverse.find? (fun r=>decide (r.code=x))).map (fun r=>!r.mapped)
theorem a2z (l:List Role) (r:Role) (x:Int):closedOf (l++[r]) x=if r.code=x then some (!r.mapped) else closedOf l x:=by
 unfold closedOf;rw [List.reverse_append,List.reverse_cons,List.reverse_nil,List.nil_append,List.singleton_append,List.find?_cons]
 by_cases h:r.code=x
 ·simp [h]
 ·simp [h]
def Distinct (l:List Role):Prop:=∀ k (h:k<l.length),l[k].code ∉ (l.take k).map Role.code
theorem a4H:∀(n:Nat) (l:List Role),Distinct l->n<=l.length->∀ x,(closedOf (l.take n) x).getD false=(l.take n).any (fun y=>decide (y.code=x)&&!y.mapped)
 | 0,l,_,_,x=>by simp [closedOf]
 | n+1,l,hd,hn,x=>by
  have ih:=a4H n l hd oM x;rw [tse oM,a2z,List.any_append]
  by_cases h:(l[n]' oM).code=x
  ·have hno:(l.take n).any (fun y=>decide (y.code=x)&&!y.mapped)=false:=by
    rw [List.any_eq_false];intro y hy;have:y.code≠x:=fun e=>hd n oM (by rw [h,<- e];exact List.mem_map_of_mem hy);simp [this]
   rw [hno];simp [h]
  ·rw [if_neg h,ih];simp [h]
theorem a2N {g:Grp} (h:Gr.accounts g=true):Distinct (Gr.roles g):=by
 intro k hk;unfold Gr.accounts at h;simp only [Bool.and_eq_true] at h;have:=List.all_eq_true.1 h.2 k (List.mem_range.2 hk);unfold Gr.roleAt at this;simp only [Bool.and_eq_true] at this;rw [b2m hk,a5k] at this;simpa using this.2
def ClosedAt (w:World) (b:Nat) (l:List Role) (k:Nat):Prop :=
 ∃ f,MapAt w prog 3 b k f/\∀ x,f (.int .i64 x)=(closedOf (l.take k) x).map Value.bool
section
variable {w w':World} {b B:Nat} {l:List Role} {k:Nat}
theorem ClosedAt.lt (h:ClosedAt w b l k):b<w.heap.size:=by obtain⟨f,h,_⟩:=h;exact h.lt
theorem ClosedAt.below (h:ClosedAt w b l k) (hb:Below B w w') (hB:b<B):ClosedAt w' b l k:=by obtain⟨f,h,r⟩:=h;exact⟨f,h.below hb hB,r⟩
theorem ClosedAt.alloc (h:ClosedAt w b l k) (o:Obj):ClosedAt (w.alloc o) b l k:=by obtain⟨f,h,r⟩:=h;exact⟨f,h.alloc o,r⟩
theorem ClosedAt.made (w:World) (l:List Role):ClosedAt (w.alloc (.map #[] 0)) w l 0:=⟨_,MapAt.made w _ _,fun x=>by simp [closedOf]⟩
open Go.Maps in
theorem ClosedAt.look (h:ClosedAt w b l k) (x:Int) (hx:(Lit.int .i64 x).wf=true):(Instr.lookup 224 (.map (some b)) (.int .i64 x) false).run prog w=.ok (.bool ((closedOf (l.take k) x).getD false)) w:=by
 obtain⟨f,hm,hf⟩:=h;have hz:(zeroValue 4).run prog w=.ok (.bool false) w:=kR;rw [hm.lookup intLaw underlying224 hz (keyOf_int_mk underlying3 hx),hf]
 cases closedOf (l.take k) x <;> rfl
open Classical in
theorem a6T {f:Value->Option Value} (hk:k<l.length) (hf:∀ x,f (.int .i64 x)=(closedOf (l.take k) x).map Value.bool) :
  ∀ x,(fun v=>if v=.int .i64 l[k].code then some (Value.bool (!l[k].mapped)) else f v) (.int .i64 x)=(closedOf (l.take (k+1)) x).map Value.bool:=by
 intro x;show(if _ then _ else f _)=_;rw [tse hk,a2z]
 by_cases h:l[k].code=x
 ·rw [if_pos (by rw [h]),if_pos h];rfl
 ·rw [if_neg (by simp;exact fun e=>h e.symm),if_neg h,hf]
end
section
variable (w:World)
theorem a3S (x:Lnk) (p m:Nat) (l:List Role) (hd:Distinct l) (hx:(Lit.int .i64 x.to).wf=true) (hp:p<w.heap.size) (hpc:w.cell? ⟨p,0,none⟩=some (.map (some m))) (hm:ClosedAt w m l l.length) :
  CL 242 #[x,.pointer (some ⟨p,0,none⟩)] w (.bool (!Gr.openTo l x)):=by
 have hB0:=(Below.refl w w).alloc lR (.cells x 150);have hlk:=(hm.alloc (.cells x 150)).look x.to hx;have hc:=a4H l.length l hd lR x.to;rw [List.take_length] at hlk hc;rw [hc] at hlk;clear hc;go_enter func242,ntmps242;go_wp2;go_ret;exact⟨by rw [Gr.openTo,Bool.not_not];rfl,hB0⟩
theorem a4Z (A:Option Addr) (n c:Nat) (ls:List Lnk) (p m:Nat) (l:List Role) (hl:ls.length=n) (hn:n<=100000) (hw:∀ x∈ls,x.wf) (hd:Distinct l) (hp:p<w.heap.size) (hpc:w.cell? ⟨p,0,none⟩=some (.map (some m))) (hm:ClosedAt w m l l.length) (h:LnksAt w w A ls) :
  Calls prog 282 #[.slice A n c,.func (.func 242) #[] #[.pointer (some ⟨p,0,none⟩)]] w fun e w'=>∃ i:Int,e=.returned (.int .i64 i)/\(0<=i ↔ ls.all (Gr.openTo l)=false)/\Below w w w':=by
 subst hl;obtain⟨Hpc,Hw,Hm⟩:=Z3 hpc hw hm;have hml:=hm.lt;clear hpc hw hm;go_enter func282,ntmps282;go_wp2
 go_loopw [8] (fun i wr=>∃ k:Nat,k<=ls.length/\i=.int .i64 k/\(ls.take k).all (Gr.openTo l)=true/\Below w w wr) (fun i _=>ls.length-(intOf i).toNat)
 case atStart=>exact⟨0,Nat.zero_le _,rfl,rfl,bR⟩
 case round =>
  obtain⟨k,hk,rfl,ha,hb⟩:=hrel;have Ha:=Z1 ha;clear ha
  by_cases hlt:k<ls.length
  ·obtain⟨b,o,rfl,hbB,c0,c1,c2⟩:=LnksAt.three (RowsAt.below h hb lR) hlt
   have hbw:b<wr.heap.size:=Nat.lt_of_lt_of_le hbB hb.size;have hpw:p<wr.heap.size:=Nat.lt_of_lt_of_le hp hb.size;have hpr:=(hb.cell (p:=⟨p,0,none⟩) hp).trans Hpc.out;have hmr:=Hm.out.below hb hml;have hwk:=(Hw.out _ (List.getElem_mem hlt)).2.1
   by_cases h1:Gr.openTo l ls[k]=true
   ·have hf:=Z1 (a7t hlt Ha.out h1)
    go_wp2_with (fail);refine(a3S wr ls[k] p m l hd hwk hpw hpr hmr).mono ?_;rw [h1];rintro e w4 ⟨rfl,hB4⟩;clear h1 hpr;go_wp2;go_roundw
    case rel=>exact⟨k+1,oM,by go_num,hf.out,hb.trans (hB4.mono hb.size)⟩
    case measure=>simp [intOf];omega
   ·have h1':Gr.openTo l ls[k]=false:=by simpa using h1
    have hf:=Z1 (a7u (P:=Gr.openTo l) hlt h1');go_wp2_with (fail);refine(a3S wr ls[k] p m l hd hwk hpw hpr hmr).mono ?_;rw [h1'];rintro e w4 ⟨rfl,hB4⟩;clear h1 h1' hpr;go_wp2;go_ret;exact⟨_,rfl,⟨fun _=>hf.out,fun _=>oM⟩,hb.trans (hB4.mono hb.size)⟩
  ·obtain rfl:k=ls.length:=oM
   clear h;go_wp2;go_ret;refine⟨_,rfl,⟨fun h=>oM,fun h=>?_⟩,hb⟩;have h':=Ha.out;rw [List.take_length] at h';rw [h'] at h;cases h
theorem a5h (A:Option Addr) (n c:Nat) (ls:List Lnk) (p m:Nat) (l:List Role) (hl:ls.length=n) (hn:n<=100000) (hw:∀ x∈ls,x.wf) (hd:Distinct l) (hp:p<w.heap.size) (hpc:w.cell? ⟨p,0,none⟩=some (.map (some m))) (hm:ClosedAt w m l l.length) (h:LnksAt w w A ls) :
  CL 241 #[.slice A n c,.func (.func 242) #[] #[.pointer (some ⟨p,0,none⟩)]] w (.bool (!ls.all (Gr.openTo l))):=by
 have Hpc:=Z1 hpc;clear hpc;go_enter func241,ntmps241;go_wp2_with (fail);refine(a4Z w A n c ls p m l hl hn hw hd hp Hpc.out hm h).mono ?_;rintro e w1 ⟨i,rfl,hi,hB⟩;have Hi:=Z1 hi;clear hi;go_wp2;go_ret;refine⟨VZ ?_,hB⟩;have:=Hi.out;rw [Bool.eq_iff_iff];simp [this]
end
open Go.Proofs.Tryz Go.RowKit

section
variable (w:World)
theorem b1I (g:Grp) (x:Ent) (hg:g.At w w) (hx:x.At w w) (hac:Gr.accounts g=true) :
  CL 197 #[g,x] w (Gr.entity g x):=by
 obtain⟨W1,hW1,hB0,hb0,hb1,hz⟩:=nw2 w g x 29 102;have HW:=Z1 hW1;have hA1:=RowsAt.at_ hg.hc hB0;have hx1:=hx.at_ hB0;have x4:=cr9 4 hb0;have y0:=cr9 0 hb1;have y1:=cr9 1 hb1;have y2:=cr9 2 hb1;have y3:=cr9 3 hb1;have y4:=cr9 4 hb1;simp at x4 y0 y1 y2 y3 y4;have s1:w.heap.size<W1.heap.size:=oM;have s1':w.heap.size+1<W1.heap.size:=oM;obtain⟨Hb0,Hb1,Hcl⟩:=Z3 hb0 hb1 hg.hcl;have hcn:=hg.hcn;obtain⟨Hcw,Hr,Hnm,Hcu,Hd⟩:=Z5 hg.hcw hg.hr hx.hn hx.hu (a2N hac);have hmm:=@run_makeMap prog;clear hW1 hz hb0 hb1 hg hx hac;go_enter func197,ntmps197;go_upto_region 1 with(fail);rw [<- HW.out];go_wp2_with (fail);refine(a9k W1 x.name Hnm.out).mono ?_;rintro e W2 ⟨rfl,rfl⟩
 by_cases h1:Gr.isName x.name=true
 case neg =>
  have h1':Gr.isName x.name=false:=by simpa using h1
  have HV:Hid (Gr.entity g x=false):=by show _=_;rw [Gr.entity,h1'];rfl
  rw [h1'];clear h1 h1' hA1 hx1;go_wp2;go_ret;exact⟨by rw [HV.out];rfl,hB0⟩
 have H1:=Z1 h1;rw [h1];clear h1;go_wp2_with (fail);refine(a7r W1 x.cur Hcu.out).mono ?_;rintro e W2 ⟨rfl,rfl⟩
 by_cases h2:Gr.isCur x.cur=true
 case neg =>
  have h2':Gr.isCur x.cur=false:=by simpa using h2
  have HV:Hid (Gr.entity g x=false):=by show _=_;rw [Gr.entity,h2'];simp
  rw [h2'];clear h2 h2' hA1 hx1;go_wp2;go_ret;exact⟨by rw [HV.out];rfl,hB0⟩
 have H2:=Z1 h2;rw [h2];clear h2;go_wp2_with (fail);refine(b1h W1 x g.cA g.cn g.cc g.chart Hcl.out hcn Hcw.out hx1 hA1).mono ?_;rintro e W3 ⟨rfl,hB3⟩;have hB03:=hB0.trans (hB3.mono hB0.size);have hb3:=gbox Hb0.out hB3 s1;have he3:=gbox Hb1.out hB3 s1';have hx3:=hx1.at_ hB3
 by_cases h3:Gr.mapping x.chart g.chart x.links=true
 case neg =>
  have h3':Gr.mapping x.chart g.chart x.links=false:=by simpa using h3
  have HV:Hid (Gr.entity g x=false):=by show _=_;rw [Gr.entity,h3'];simp
  rw [h3'];clear h3 h3' hA1 hx1 x4 y0 y1 y2 y3 y4 hx3 hb3 he3;go_wp2;go_ret;exact⟨by rw [HV.out];rfl,hB03⟩
 have HV:Hid (Gr.entity g x=x.links.all (Gr.openTo (Gr.roles g))):=by show _=_;rw [Gr.entity,H1.out,H2.out,h3];rfl
 rw [h3];have s3:w.heap.size<W3.heap.size:=Vq hb3;obtain⟨W4,hW4⟩:∃ W4,W4=(W3.alloc (.map #[] 0)).alloc (.cells #[.map (some W3)] 224):=⟨_,rfl⟩;have hz4:W4.heap.size=W3.heap.size+2:=by rw [hW4];simp
 have hBB:Below W3 W3 W4:=by rw [hW4];exact(bR.alloc lR _).alloc sP _
 have hcl0:ClosedAt W4 W3 (Gr.roles g) 0:=by rw [hW4];exact(ClosedAt.made W3 _).alloc _
 have hmp4:W4.heap[W3.heap.size+1]?=some (.cells #[.map (some W3)] 224 (0,0)):=by
  rw [hW4];have:=heap_alloc_new (W3.alloc (.map #[] 0)) (.cells #[.map (some W3)] 224)
  rwa [show(W3.alloc (.map #[] 0)).heap.size=W3.heap.size+1 by simp] at this
 have hb4:=gbox hb3 hBB s3;have HW4:=Z1 hW4;have hrr:=Z1 (a3s hb4);have s4:w.heap.size<W4.heap.size:=oM;obtain⟨Hcl0,Hmp4,Hb4,Hb3,He3,HBB,Hx3⟩:=Z7 hcl0 hmp4 hb4 hb3 he3 hBB hx3;clear h3 x4 y0 y1 y2 y3 y4 hW4 hb4 hb3 he3 hcl0 hmp4 hA1 hx1 hx3;go_upto_region 4 with(fail);rw [<- HW4.out];go_wp2_with (refine wpList_load_mid rfl 26 (.tmp 26) rfl w.heap.size 5 rfl [g.r0,g.r1,g.r2,g.r3,g.r4,g.r5,g.r6,g.r7,g.r8,g.r9,g.r10,g.r11,g.r12,g.r13,g.r14] _ hrr.out underlying26 rfl a2q ?_);refine(a4k W4 g).mono ?_;rintro e W5 ⟨hB5,rb,rfl,hrb,hrows⟩;have hq5:=hB5.size;have hrl:=a5E g;obtain⟨L,hL⟩:∃ L,L=Gr.roles g:=⟨_,rfl⟩;have Hr2:Hid (∀ r∈L,(Lit.int .i64 r.code).wf=true):=by show ∀ r∈L,_;rw [hL];exact Hr.out
 have Hdd:Hid (Distinct L):=by show Distinct L;rw [hL];exact Hd.out
 have hcl5:=Hcl0.out.below hB5 Hcl0.out.lt;rw [<- hL] at hrl hrows HV hcl5;obtain⟨Hcl5,HR,Hrl⟩:=Z3 hcl5 hrows hrl;have hb35:=bT HBB hB5;have Hmp5:=gS Hmp4 hB5;have hrb3:W3.heap.size+1<rb:=oM;clear hL hrows hrl hcl5 hrr;go_wp2
 go_loopw [30] (fun i wr=>∃ k:Nat,k<=15/\i=.int .i64 k/\ClosedAt wr W3 L k/\RolesAt wr wr (some ⟨rb,0,none⟩) L/\wr.heap[W3.heap.size+1]?=some (.cells #[.map (some W3)] 224 (0,0))/\Below W3 W3 wr) (fun i _=>15-(intOf i).toNat)
 case atStart=>exact⟨0,Nat.zero_le _,rfl,Hcl5.out,HR.out,Hmp5.out,hb35.out⟩
 case round =>
  obtain⟨k,hk,rfl,hset,hrr,hmp,hbr⟩:=hrel;have HRr:=Z1 hrr;have Hmp:=Z1 hmp;have hq:=hbr.size;have hbF:=hB03.trans (hbr.mono hB03.size);have hlt3:=hset.lt;clear hmm hrr hmp
  by_cases hlt:k<15
  ·have hkl:k<L.length:=by have:=Hrl.out;omega
   obtain⟨b,o,hAe,hbB,c0,c1,c2,c3,c4⟩:=RolesAt.five HRr.out hkl
   cases hAe
   have hbw:rb<wr.heap.size:=oM;obtain⟨hBa,hra,hza⟩:=a0T wr (L[k]) 310;have hset2:=hset.alloc (.cells (L[k]) 310);have hmp2:=gbox Hmp.out hBa (Vq Hmp.out);obtain⟨Wa,hWa⟩:∃ Wa,Wa=(wr.alloc (.cells (L[k]) 310)):=⟨_,rfl⟩;rw [<- hWa] at hBa hra hza hset2 hmp2;have HWa:=Z1 hWa;have hba:=hbr.trans (hBa.mono hq);have hwf:=Hr2.out _ (List.getElem_mem hkl);simp only [Nat.zero_add] at c0 c1 c2 c3 c4;have hRa:=Z1 (RowsAt.at_ HRr.out hBa);clear hWa hset;go_upto_region 7 with(fail);rw [<- HWa.out];have y1:=cr9 1 hra;have y4:=cr9 4 hra;have m0:=cr9 0 hmp2;simp at y1 y4 m0;have t1:wr.heap.size<Wa.heap.size:=Vq hra;have t2:W3.heap.size+1<Wa.heap.size:=Vq hmp2;obtain⟨f,hfm,hff⟩:=hset2;have hkl2:=Maps.keyOf_int_mk (P:=prog) underlying3 hwf;have Hff:=Z1 (a6T hkl hff);have Hmp2:=Z1 hmp2;have hqa:=hba.size;clear c0 c1 c2 c3 c4 hra hff hmp2 hwf;go_wp2_with (at_mapUpdate;refine Xk rfl _ _ _ rfl hfm intLaw underlying224 rfl (by unfold maxLen;omega) _ _ _ rfl rfl hkl2 ?_;intro w7 hm7 hg7);have hb7:=hba.grown hg7 hqa (fun j e=>by cases e;exact lR);have HR7:=Z1 (RowsAt.kept hRa.out hg7 (fun b o e=>by cases e;intro e2;cases e2;omega));have Hmp7:=Z1 ((hg7.block (W3.heap.size+1) t2 (fun e=>by simp at e)).trans Hmp2.out);have Hs7:Hid (ClosedAt w7 W3 L (k+1)):=⟨_,hm7,Hff.out⟩;go_roundw
   case rel=>exact⟨k+1,oM,by go_num,Hs7.out,HR7.out,Hmp7.out,hb7⟩
   case measure=>simp [intOf];omega
  ·obtain rfl:k=15:=oM
   have he:=gbox He3.out hbr (Vq He3.out);have y3:=cr9 3 he;have m0:=cr9 0 Hmp.out;simp at y3;simp at m0;have t1:w.heap.size+1<wr.heap.size:=Vq he;have t2:W3.heap.size+1<wr.heap.size:=Vq Hmp.out;have hxr:=(Hx3.out.below hbr lR).more hq;have hset':ClosedAt wr W3 L L.length:=by rw [Hrl.out];exact hset
   have M0:=Z1 m0;clear he hset m0;go_wp2_with (fail);refine(a5h wr x.lA x.ln x.lc x.links (W3.heap.size+1) W3 L hxr.hll hxr.hln hxr.hlw Hdd.out t2 M0.out hset' hxr.hl).mono ?_;rintro e W8 ⟨rfl,hB8⟩;clear hxr hset';go_wp2;go_ret;exact⟨by rw [HV.out];rfl,hbF.trans (hB8.mono hbF.size)⟩
end
open Go.Proofs.Tryz Go.RowKit

theorem Vk {P:Program} {ops:Array Oper} {rest:List Oper} {op:Oper} {a:Act} {w:World} {Q:Exit->Act->World->Prop} (hw:Region.wanted op (yielded ops a.tmps)=true) (ty:TypeId) (x:Operand) (ho:op.op=.load ty x)
  (b o:Nat) (hx:a.eval x=.pointer (some ⟨b,o,none⟩)) (cs:List Value) (d:TypeDesc) (hc:w.rangeAt b o cs)
  (hu:P.underlying ty=some d) (hd:d.isRow=true) (hi:(P.info? ty).map (·.size)=some cs.length)
  (h:wpList P ops Q rest (a.put op.dst (.agg cs.toArray)) w):wpList P ops Q (op::rest) a w :=
 BigFrame.wpList_want hw fun _ hK=>wp_load_mid ty x ho b o hx cs d hc hu hd hi (hK _ _ h)
open Go.Maps in
theorem strLaw:Maps.Keyed prog 9:=string_keyed underlying9
def SeenN (w:World) (b:Nat) (l:List Ent) (k:Nat):Prop :=
 ∃ f,MapAt w prog 9 b k f/\∀ s,f (.string s)=if (l.take k).any (fun y=>decide (y.name=s))=true then some (.bool true) else none
section
variable {w w':World} {b B:Nat} {l:List Ent} {k:Nat}
theorem SeenN.lt (h:SeenN w b l k):b<w.heap.size:=by obtain⟨f,h,_⟩:=h;exact h.lt
theorem SeenN.below (h:SeenN w b l k) (hb:Below B w w') (hB:b<B):SeenN w' b l k:=by obtain⟨f,h,r⟩:=h;exact⟨f,h.below hb hB,r⟩
theorem SeenN.alloc (h:SeenN w b l k) (o:Obj):SeenN (w.alloc o) b l k:=by obtain⟨f,h,r⟩:=h;exact⟨f,h.alloc o,r⟩
theorem SeenN.made (w:World) (l:List Ent):SeenN (w.alloc (.map #[] 0)) w l 0:=⟨_,MapAt.made w _ _,fun x=>sP⟩
open Go.Maps in
theorem SeenN.look (h:SeenN w b l k) (s:ByteArray) (hs:s.size<=maxLen):(Instr.lookup 266 (.map (some b)) (.string s) false).run prog w=.ok (.bool ((l.take k).any (fun y=>decide (y.name=s)))) w:=by
 obtain⟨f,hm,hf⟩:=h;have hz:(zeroValue 4).run prog w=.ok (.bool false) w:=kR;rw [hm.lookup strLaw underlying266 hz (WideMaps.keyOf_string_mk underlying9 hs),hf]
 cases (l.take k).any (fun y=>decide (y.name=s)) <;> rfl
open Classical in
theorem a7E {f:Value->Option Value} (hk:k<l.length) (hf:∀ s,f (.string s)=if (l.take k).any (fun y=>decide (y.name=s))=true then some (.bool true) else none) :
  ∀ s,(fun v=>if v=.string l[k].name then some (Value.bool true) else f v) (.string s)=if (l.take (k+1)).any (fun y=>decide (y.name=s))=true then some (.bool true) else none:=by
 intro s;show(if _ then _ else f _)=_;rw [tse hk,List.any_append]
 by_cases h:l[k].name=s
 ·rw [if_pos (by rw [h]),if_pos (by simp [h])]
 ·rw [if_neg (by simp;exact fun e=>h e.symm),hf];simp [h]
end
abbrev EntsAt:=RowsAt Ent.cells 5
theorem EntsAt.five {w:World} {B:Nat} {A:Option Addr} {l:List Ent} (h:EntsAt w B A l) {k:Nat} (hk:k<l.length):∃ b o,A=some ⟨b,o,none⟩/\b<B/\w.cell? ⟨b,o+k*5,none⟩=some (.string l[k].name)/\w.cell? ⟨b,o+k*5+1,none⟩=some (.string l[k].cur)/\w.cell? ⟨b,o+k*5+2,none⟩=some (.slice l[k].cA l[k].cn l[k].cc)/\w.cell? ⟨b,o+k*5+3,none⟩=some (.slice l[k].lA l[k].ln l[k].lc)/\w.cell? ⟨b,o+k*5+4,none⟩=some (.bool l[k].joint):=by
 obtain⟨b,o,e,hb,hr⟩:=RowsAt.look h hk;exact⟨b,o,e,hb,hr 0 _ rfl,hr 1 _ rfl,hr 2 _ rfl,hr 3 _ rfl,hr 4 _ rfl⟩
theorem a9T {l:List Ent} {i:Nat} (h:i<l.length):Gr.eat l i=l[i]:=by simp [Gr.eat,h]
theorem a3F {w:World} {b:Nat} {g:Grp} {t:TypeId} {fr:Nat × Nat} (h:w.heap[b]?=some (.cells g t fr)):w.rangeAt b 0 g:=a0R (cs:=g) h
section
variable (w:World)
theorem a5a (g:Grp) (hg:g.At w w) :
  CL 150 #[g] w (Gr.valid g):=by
 obtain⟨W1,hW1,hB0,hb0,hz⟩:=nw1 w g 29;have HW:=Z1 hW1;have hg1:=hg.at_ hB0;have x0:=cr9 0 hb0;have x1:=cr9 1 hb0;have x2:=cr9 2 hb0;have x3:=cr9 3 hb0;simp at x0 x1 x2 x3;have s1:w.heap.size<W1.heap.size:=oM;have Hb0:=Z1 hb0;have Hnm:=Z1 hg.hn;have hmm:=@run_makeMap prog;have Hel:=Z1 hg.hel;have hen:=hg.hen;clear hW1 hz hb0 hg;go_enter func150,ntmps150;go_upto_region 1 with(fail);rw [<- HW.out];go_wp2_with (fail);refine(a7r W1 g.cur Hnm.out).mono ?_;rintro e W2 ⟨rfl,rfl⟩
 by_cases h1:Gr.isCur g.cur=true
 case neg =>
  have h1':Gr.isCur g.cur=false:=by simpa using h1
  have HV:Hid (Gr.valid g=false):=by show _=_;rw [Gr.valid,Gr.books,h1'];rfl
  rw [h1'];clear h1 h1' hg1;go_wp2;go_ret;exact⟨by rw [HV.out];rfl,hB0⟩
 have H1:=Z1 h1;rw [h1];clear h1;go_wp2_with (fail);refine(a0U g.Y g.M g.N W1).mono ?_;rintro e W2 ⟨rfl,hB2⟩;have hB02:=hB0.trans (hB2.mono hB0.size);have hb2:=gbox Hb0.out hB2 s1;have hg2:=hg1.at_ hB2;clear x0 x1 x2 x3 hg1
 by_cases h2:Cal.ok g.Y g.M g.N=true
 case neg =>
  have h2':Cal.ok g.Y g.M g.N=false:=by simpa using h2
  have HV:Hid (Gr.valid g=false):=by show _=_;rw [Gr.valid,Gr.books,h2'];simp
  rw [h2'];clear h2 h2' hg2 hb2;go_wp2;go_ret;exact⟨by rw [HV.out];rfl,hB02⟩
 have H2:=Z1 h2;have hrg:=Z1 (a3F hb2);rw [h2];have Hb2:=Z1 hb2;have s2:w.heap.size<W2.heap.size:=Vq hb2;clear h2 hb2;go_wp2_with (refine Vk (by rfl) 29 (.tmp 1) rfl w.heap.size 0 rfl _ _ hrg.out underlying29 rfl VJ ?_);refine(b2f W2 g hg2).mono ?_;rintro e W3 ⟨rfl,hB3⟩;have hB03:=hB02.trans (hB3.mono hB02.size);have hb3:=gbox Hb2.out hB3 s2;have hg3:=hg2.at_ hB3;clear hg2 hrg
 by_cases h3:Gr.accounts g=true
 case neg =>
  have h3':Gr.accounts g=false:=by simpa using h3
  have HV:Hid (Gr.valid g=false):=by show _=_;rw [Gr.valid,Gr.books,h3'];simp
  rw [h3'];clear h3 h3' hg3 hb3;go_wp2;go_ret;exact⟨by rw [HV.out];rfl,hB03⟩
 have H3:=Z1 h3;rw [h3];clear h3;have x20:=cr9 20 hb3;simp at x20;have s3:w.heap.size<W3.heap.size:=Vq hb3;have Hb3:=Z1 hb3;have Hg3:=Z1 hg3;clear hb3 hg3
 by_cases h4:g.en<1
 ·have h4':(g.en:Int)<1:=oM
  have HV:Hid (Gr.valid g=false):=by show _=_;rw [Gr.valid,decide_eq_false (show ¬ 1<=g.ents.length by have:=Hel.out;omega)];simp
  clear h4;go_wp2;go_ret;exact⟨by rw [HV.out];rfl,hB03⟩
 have h4':¬ (g.en:Int)<1:=oM
 by_cases h5:12<g.en
 ·have h5':(12:Int)<(g.en:Int):=oM
  have HV:Hid (Gr.valid g=false):=by show _=_;rw [Gr.valid,decide_eq_false (show ¬ g.ents.length<=12 by have:=Hel.out;omega)];simp
  clear h5;go_wp2;go_ret;exact⟨by rw [HV.out];rfl,hB03⟩
 have h5':¬ (12:Int)<(g.en:Int):=oM;have h0l:0<g.ents.length:=by have:=Hel.out;omega
 obtain⟨b,o,hAe,hbB,c0,c1,c2,c3,c4⟩:=EntsAt.five Hg3.out.he h0l;simp only [Nat.zero_mul,Nat.add_zero] at c4;have hen0:(0:Int)<(g.en:Int):=oM;have HAe:=Z1 hAe;have Hj:=Z1 (a9T h0l);obtain⟨j,hj⟩:∃ j,j=(Gr.eat g.ents 0).joint:=⟨_,rfl⟩;have hc4:W3.cell? ⟨b,o+4,none⟩=some (.bool j):=by rw [hj,Hj.out];exact c4
 have HJ:=Z1 hj;rw [hAe] at x20;clear c0 c1 c2 c3 c4 hj hAe
 cases j
 case true =>
  have HV:Hid (Gr.valid g=false):=by show _=_;rw [Gr.valid,<- HJ.out];simp
  go_wp2;go_ret;exact⟨by rw [HV.out];rfl,hB03⟩
 have HV:Hid (Gr.valid g=(List.range g.ents.length).all (Gr.entAt g)):=by
  show _=_;rw [Gr.valid,Gr.books,H1.out,H2.out,H3.out,<- HJ.out,decide_eq_true (show 1<=g.ents.length by omega),decide_eq_true (show g.ents.length<=12 by have:=Hel.out;omega)];rfl
 have hset0:=Z1 (SeenN.made W3 g.ents);have hb4:=(Below.heap_alloc W3 (.map #[] 0) _ s3).trans Hb3.out;have x204:=cr9 20 hb4;simp at x204;rw [HAe.out] at x204;clear hb4 h4 h5;go_wp2
 go_loopw [44] (fun i wr=>∃ k:Nat,k<=g.en/\i=.int .i64 k/\(List.range k).all (Gr.entAt g)=true/\SeenN wr W3 g.ents k/\Below W3 W3 wr) (fun i _=>g.en-(intOf i).toNat)
 case atStart=>exact⟨0,Nat.zero_le _,rfl,rfl,hset0.out,bR.alloc lR _⟩
 case round =>
  obtain⟨k,hk,rfl,hall,hseen,hbr⟩:=hrel;have Hall:=Z1 hall;have hq3:=hbr.size;have hlt3:=hseen.lt;have hbw:=hB03.trans (hbr.mono hB03.size);clear hall hmm x20 x204 hc4
  by_cases hlt:k<g.en
  ·have hkl:k<g.ents.length:=by have:=Hel.out;omega
   obtain⟨b',o',hA',hbB',c0,c1,c2,c3,c4⟩:=EntsAt.five (RowsAt.below Hg3.out.he hbr lR) hkl;rw [HAe.out] at hA'
   cases hA'
   have hbwr:b<wr.heap.size:=oM;obtain⟨hBa,hra,hza⟩:=a0T wr (g.ents[k]) 102;have hbx:=gbox Hb3.out hbr s3;have hbx2:=gbox hbx hBa (Vq hbx);have hseen2:=hseen.alloc (.cells (g.ents[k]) 102);obtain⟨Wa,hWa⟩:∃ Wa,Wa=(wr.alloc (.cells (g.ents[k]) 102)):=⟨_,rfl⟩;rw [<- hWa] at hBa hra hza hbx2 hseen2;have HWa:=Z1 hWa;have hba:=hbr.trans (hBa.mono hq3);have hea:=Hg3.out.hea _ (List.getElem_mem hkl);have Hnk:=Z1 hea.hn;have hlk:=hseen2.look g.ents[k].name hea.hn;have Heat:=Z1 (a9T hkl);have hrg:=Z1 (a3F hbx2);have hbF:=hB03.trans (hba.mono hB03.size);clear hbx hWa hea;go_upto_region 7 with(fail);rw [<- HWa.out];have y0:=cr9 0 hra;have y1:=cr9 1 hra;have y2:=cr9 2 hra;have y3:=cr9 3 hra;have y4:=cr9 4 hra;simp at y0 y1 y2 y3 y4;have t1:wr.heap.size<Wa.heap.size:=Vq hra;have t2:w.heap.size<Wa.heap.size:=Vq hbx2;have Hra:=Z1 hra;have hbad:Gr.entAt g k=false->Hid (Gr.valid g=false):=fun h=>Z1 (by rw [HV.out];exact Ch.all_not hkl h);clear hra hbx2 c0 c1 c2 c3 c4 hseen
   by_cases hs:(g.ents.take k).any (fun y=>decide (y.name=g.ents[k].name))=true
   ·rw [hs] at hlk
    have HV2:=hbad (by rw [Gr.entAt,Heat.out,hs];simp);clear hs hbad;go_wp2;go_ret;exact⟨by rw [HV2.out];rfl,hbF⟩
   ·have hs':(g.ents.take k).any (fun y=>decide (y.name=g.ents[k].name))=false:=by simpa using hs
    rw [hs'] at hlk;have Hs:=Z1 hs';have hgA:=(Hg3.out.below hba lR).more hba.size;have heA:=hgA.hea _ (List.getElem_mem hkl);clear hs hs';go_wp2_with (refine Vk (by rfl) 29 (.tmp 1) rfl w.heap.size 0 rfl _ _ hrg.out underlying29 rfl VJ ?_);refine(b1I Wa g g.ents[k] hgA heA H3.out).mono ?_;rintro e W5 ⟨rfl,hB5⟩;have hba5:=hba.trans (hB5.mono hba.size);have hbF5:=hbF.trans (hB5.mono hbF.size);have hseen5:=hseen2.below hB5 hseen2.lt;have hr5:=gbox Hra.out hB5 t1;clear y0 y1 y2 y3 y4 hlk heA hgA
    by_cases ho:Gr.entity g g.ents[k]=true
    ·rw [ho]
     have y0:=cr9 0 hr5;simp at y0;have t5:wr.heap.size<W5.heap.size:=Vq hr5;have Hall2:=Z1 (Gr.range_all Hall.out (show Gr.entAt g k=true by rw [Gr.entAt,Heat.out,Hs.out,ho];rfl));obtain⟨f,hm,hf⟩:=hseen5;have hkl5:=WideMaps.keyOf_string_mk (P:=prog) underlying9 Hnk.out;have Hstep:=Z1 (a7E hkl hf);have hq5:=hba5.size;clear ho hr5 hf hbad;go_wp2_with (at_mapUpdate;refine Xk rfl _ _ _ rfl hm strLaw underlying266 rfl (by unfold maxLen;omega) _ _ _ rfl rfl hkl5 ?_;intro w7 hm7 hg7);have hb7:=hba5.grown hg7 hba5.size (fun j e=>by cases e;exact lR);go_roundw
     case rel=>exact⟨k+1,oM,by go_num,Hall2.out,⟨_,hm7,Hstep.out⟩,hb7⟩
     case measure=>simp [intOf];omega
    ·have ho':Gr.entity g g.ents[k]=false:=by simpa using ho
     rw [ho'];have HV2:=hbad (by rw [Gr.entAt,Heat.out,ho'];rfl);clear ho ho' hr5 hseen5 hbad;go_wp2;go_ret;exact⟨by rw [HV2.out];rfl,hbF5⟩
  ·obtain rfl:k=g.en:=oM
   have HV2:Hid (Gr.valid g=true):=by show _=_;rw [HV.out,Hel.out];exact Hall.out
   clear hseen;go_wp2;go_ret;exact⟨by rw [HV2.out];rfl,hbw⟩
end
end Go.Proofs.YtniaimjknmhapaaGreatDoor
