/- My texts EntF, PlaceW, ConvW, EntC. -/
import Derived.Test.YtniaimjknmhapaaGreatDoorG18
set_option linter.unusedVariables false
set_option linter.unusedSimpArgs false
set_option maxRecDepth 100000
set_option maxHeartbeats 16000000
namespace Go.Proofs.YtniaimjknmhapaaGreatDoor
open Go.Proofs.Tryz Go.RowKit
def FinePost (b:Bool) (w:World) (e:Ending) (w':World):Prop:=(∃ n,e=.returned (.int .i64 n)/\(n=0 ↔ b=true))/\Below w w w'
theorem FinePost.bad {b:Bool} {w w':World} {n:Int} (hb:b=false) (hn:n≠0) (h:Below w w w'):FinePost b w (.returned (.int .i64 n)) w':=⟨⟨n,rfl,by simp [hb,hn]⟩,h⟩
theorem FinePost.good {b:Bool} {w w':World} (hb:b=true) (h:Below w w w'):FinePost b w (.returned (.int .i64 0)) w':=⟨⟨0,rfl,by simp [hb]⟩,h⟩
section
variable (w:World)
theorem a1a (n:Int):Calls prog 123 #[n] w fun e w'=>e=.returned (.bool (Jr.okAmt n))/\w=w':=by
 rcases(show n < -1000000000000∨(-1000000000000<=n/\n<=1000000000000)∨1000000000000<n by omega) with h | ⟨h1,h2⟩ | h
 all_goals
  have HV:Hid (Jr.okAmt n=decide (-1000000000000<=n/\n<=1000000000000)):=by show _=_;rfl
  go_enter func123,ntmps123;go_wp2;go_ret;exact⟨VZ (by rw [HV.out,Bool.eq_iff_iff];simp;omega),rfl⟩
theorem Jr.formed_shape {g:Grp} {x:EtC} (h:Jr.shape g.ents.length x=false):Jr.formed g x=false:=by unfold Jr.formed;rw [h];simp
theorem Jr.formed_line {g:Grp} {x:EtC} {k:Nat} (hk:k<x.lines.length) (h:Jr.lineOk g.ents.length x.ent x.lines[k]=false):Jr.formed g x=false:=by
 have:x.lines.all (Jr.lineOk g.ents.length x.ent)=false:=by rw [List.all_eq_false];exact⟨_,List.getElem_mem hk,by simp [h]⟩
 unfold Jr.formed;rw [this];simp
theorem a8l (g:Grp) (c:EtC) (A:Option Addr) (n kc:Nat) (hg:g.At w w) (hx:(⟨c,A,n,kc⟩:Etr).At w w) :
  Calls prog 201 #[g,.agg (TE c A n kc)] w (FinePost (Jr.formed g c) w):=by
 obtain⟨W1,hW1,hB0,hb0,hb1,hz⟩:=nw2 w g (TE c A n kc) 29 71;obtain⟨HW,hg1,Hel⟩:=Z3 hW1 (hg.at_ hB0) hg.hel;have hen:=hg.hen;have Hll:Hid (c.lines.length=n):=hx.hl;have hln:n<=60:=by have h1:c.lines.length<=60:=hx.hw.hln;have h2:c.lines.length=n:=hx.hl;omega
 have Htx:Hid (c.text.size<=maxLen):=hx.hw.htx;have hA:Hid (LinsAt W1 W1 A c.lines):=RowsAt.at_ hx.hA hB0;have x20:=cr9 20 hb0;simp at x20;have s1:w.heap.size<W1.heap.size:=oM;have s1':w.heap.size+1<W1.heap.size:=oM;have Hb0:=Z1 hb0;have Hb1:=Z1 hb1;clear hW1 hz hb0 hb1 hg hx;go_enter func201,ntmps201;go_upto_region 1 with(fail);rw [<- HW.out];go_upto_region 2 with(fail);go_wp2_with (refine wpList_load_row rfl 29 _ rfl _ rfl _ _ _ _ Hb0.out underlying29 rfl VJ ?_);refine(a5a W1 g hg1.out).mono ?_;rintro e W2 ⟨rfl,hB2⟩;have hB02:=hB0.trans (hB2.mono hB0.size);have Hb2:=gB Hb1 hB2 s1';have y0:=cr9 0 Hb2.out;have y1:=cr9 1 Hb2.out;have y3:=cr9 3 Hb2.out;have y4:=cr9 4 Hb2.out;have y5:=cr9 5 Hb2.out;have y6:=cr9 6 Hb2.out;simp at y0 y1 y3 y4 y5 y6;have s2:w.heap.size+1<W2.heap.size:=Vq Hb2.out;have hA2:=Z1 (RowsAt.below hA.out hB2 lR);have hz2:=hB2.size;clear x20
 by_cases h1:Gr.valid g=true
 case neg =>
  have h1':Gr.valid g=false:=by simpa using h1
  have HV:Hid (Jr.formed g c=false):=by show _=_;unfold Jr.formed;rw [h1'];rfl
  rw [h1'];clear h1 h1';go_wp2;go_ret;exact FinePost.bad HV.out dC hB02
 have H1:=Z1 h1;rw [h1];clear h1
 by_cases hs:Jr.shape g.ents.length c=true
 case neg =>
  have HV:=Z1 (Jr.formed_shape (g:=g) (x:=c) (by simpa using hs))
  have hd:c.id<1∨(1<=c.id/\c.ent<0)∨(1<=c.id/\0<=c.ent/\(g.en:Int)<=c.ent)∨(1<=c.id/\0<=c.ent/\c.ent<g.en/\c.kind<1)∨(1<=c.id/\0<=c.ent/\c.ent<g.en/\3<c.kind) ∨
    (1<=c.id/\0<=c.ent/\c.ent<g.en/\1<=c.kind/\c.kind<=3/\c.kind=3/\c.of_<1)∨(1<=c.id/\0<=c.ent/\c.ent<g.en/\1<=c.kind/\c.kind<=3/\c.kind≠3/\c.of_≠0):=by
   simp only [Jr.shape,decide_eq_true_eq,Hel.out] at hs;omega
  clear hs
  rcases hd with h | h | h | h | h | ⟨h,h2,h3,h4,h5,h6,h7⟩ | ⟨h,h2,h3,h4,h5,h6,h7⟩
  case inr.inr.inr.inr.inr.inl =>
   have k3:(c.kind==3)=true:=by simp [h6]
   clear h6;go_wp2;go_ret;exact FinePost.bad HV.out dC hB02
  case inr.inr.inr.inr.inr.inr =>
   have k3:(c.kind==3)=false:=by simp [h6]
   have k4:(c.kind != 3)=true:=by simp [h6]
   have k5:(c.of_ != 0)=true:=by simp [h7]
   clear h6 h7;go_wp2;go_ret;exact FinePost.bad HV.out dC hB02
  all_goals
   go_wp2;go_ret;exact FinePost.bad HV.out dC hB02
 have Hs:=Z1 hs;simp only [Jr.shape,decide_eq_true_eq,Hel.out] at hs;obtain⟨q1,q2,q3,q4,q5,q6,q7⟩:=hs
 rcases(show(c.kind=3/\1<=c.of_)∨(c.kind≠3/\c.of_=0) by by_cases h:c.kind=3 <;> omega) with⟨h,h'⟩ | ⟨h,h'⟩
 focus
  have k3:(c.kind==3)=true:=by simp [h]
  have k4:(c.kind != 3)=false:=by simp [h]
  clear h q6 q7;go_upto_region 12 with(fail)
 rotate_left
 focus
  have k3:(c.kind==3)=false:=by simp [h]
  have k4:(c.kind != 3)=true:=by simp [h]
  have k5:(c.of_ != 0)=false:=by simp [h']
  clear h h' q6 q7;go_upto_region 12 with(fail)
 all_goals
  go_wp2_with (fail);refine(a8Z _ c.text Htx.out).mono ?_;rintro e W3 ⟨rfl,rfl⟩
  by_cases hp:Jr.plain c.text=true
  case neg =>
   have hp':Jr.plain c.text=false:=by simpa using hp
   have HV:Hid (Jr.formed g c=false):=by show _=_;unfold Jr.formed;rw [hp'];simp
   rw [hp'];clear hp hp';go_wp2;go_ret;exact FinePost.bad HV.out dC hB02
  have Hp:=Z1 hp;rw [hp];clear hp
  by_cases hc:2<=n/\n<=40
  case neg =>
   have HV:Hid (Jr.formed g c=false):=by show _=_;unfold Jr.formed;rw [decide_eq_false (by have:=Hll.out;omega)];simp
   rcases(show n<2∨(2<=n/\40<n) by omega) with h | ⟨h,h'⟩
   all_goals
    clear hc;go_wp2;go_ret;exact FinePost.bad HV.out dC hB02
  obtain⟨hc1,hc2⟩:=hc
  have HVa:Hid (Jr.formed g c=c.lines.all (Jr.lineOk g.ents.length c.ent)):=by
   show _=_;unfold Jr.formed;rw [H1.out,Hs.out,Hp.out,decide_eq_true (by have:=Hll.out;omega)];rfl
  go_upto_region 17 with(fail)
  go_loopw [64] (fun i wr=>∃ k:Nat,k<=n/\i=.int .i64 k/\(c.lines.take k).all (Jr.lineOk g.ents.length c.ent)=true/\Below W2 W2 wr) (fun i _=>n-(intOf i).toNat)
  case atStart=>exact⟨0,Nat.zero_le _,rfl,rfl,bR⟩
  case round =>
   obtain⟨k,hk,rfl,hall,hb⟩:=hrel;have Hall:=Z1 hall;have hB0r:=hB02.trans (hb.mono hB02.size);clear hall
   by_cases hlt:k<n
   ·have hkl:k<c.lines.length:=by have:=Hll.out;omega
    obtain⟨b,o,rfl,hbB,hr⟩:=LinsAt.three (RowsAt.below hA2.out hb hz2) hkl;obtain⟨l,hl⟩:∃ l,l=c.lines[k]:=⟨_,rfl⟩;have Hbad:=Z1 (Jr.formed_line (g:=g) (x:=c) hkl)
    have Hst:Hid ((c.lines.take (k+1)).all (Jr.lineOk g.ents.length c.ent)=Jr.lineOk g.ents.length c.ent l):=by
     show _=_;rw [tse hkl,List.all_append,Hall.out,hl];simp
    rw [<- hl] at hr Hbad;have Hr:=Z1 hr;have hbw:b<wr.heap.size:=by have:=hb.size;omega
    have hra:=gbox Hb2.out hb s2;have z1:=cr9 1 hra;have z6:=cr9 6 hra;simp at z1 z6;have sr:w.heap.size+1<wr.heap.size:=Vq hra;have hBF:=hB0r.alloc hB0r.size (.cells l 68);have hbF:=hb.alloc hb.size (.cells l 68);clear hr hl y0 y1 y3 y4 y5 y6 hra
    by_cases ha:l.amt=0
    ·have k9:(l.amt==0)=true:=by simp [ha]
     have HV:=Z1 (Hbad.out (by unfold Jr.lineOk;simp [ha]));clear ha;go_wp2_with (refine wpList_load_mid rfl 68 (.tmp 66) rfl b (o+k*3) rfl l _ Hr.out underlying68 rfl a1o ?_);go_ret;exact FinePost.bad HV.out dC hBF
    ·have k9:(l.amt==0)=false:=by simp [ha]
     have Ha:=Z1 ha;clear ha
     by_cases hlo:Jr.lineOk g.ents.length c.ent l=true
     ·have hlo2:=hlo
      simp only [Jr.lineOk,Bool.and_eq_true,decide_eq_true_eq,Hel.out] at hlo2;obtain⟨⟨⟨⟨_,ho⟩,p1⟩,p2⟩,p3⟩:=hlo2;have k10:(l.prt==c.ent)=false:=by simp [p3]
      have HS:Hid ((c.lines.take (k+1)).all (Jr.lineOk g.ents.length c.ent)=true):=by show _=_;rw [Hst.out,hlo]
      clear hlo p3;go_wp2_with (first | (refine wpList_load_mid rfl 68 (.tmp 66) rfl b (o+k*3) rfl l _ Hr.out underlying68 rfl a1o ?_) | (go_at_call 123;refine(a1a _ _).mono ?_;rw [ho];rintro e w' ⟨rfl,rfl⟩));go_roundw
      case rel=>exact⟨k+1,oM,by go_num,HS.out,hbF⟩
      case measure=>simp [intOf];omega
     ·have HV:=Z1 (Hbad.out (by simpa using hlo))
      have hd:Jr.okAmt l.amt=false∨(Jr.okAmt l.amt=true/\l.prt < -1)∨(Jr.okAmt l.amt=true/\-1<=l.prt/\(g.en:Int)<=l.prt)∨(Jr.okAmt l.amt=true/\-1<=l.prt/\l.prt<g.en/\l.prt=c.ent):=by
       have ha:=Ha.out
       cases ho:Jr.okAmt l.amt
       ·exact .inl rfl
       ·right
        simp [Jr.lineOk,Hel.out,ho,ha] at hlo;simp only [true_and]
        by_cases a1:-1<=l.prt
        ·by_cases a2:l.prt<g.en
         ·exact .inr (.inr ⟨a1,a2,hlo a1 a2⟩)
         ·exact .inr (.inl ⟨a1,oM⟩)
        ·exact .inl oM
      clear hlo
      rcases hd with ho | ⟨ho,h⟩ | ⟨ho,h,h2⟩ | ⟨ho,h,h2,h3⟩
      case inr.inr.inr =>
       have k10:(l.prt==c.ent)=true:=by simp [h3]
       clear h3;go_wp2_with (first | (refine wpList_load_mid rfl 68 (.tmp 66) rfl b (o+k*3) rfl l _ Hr.out underlying68 rfl a1o ?_) | (go_at_call 123;refine(a1a _ _).mono ?_;rw [ho];rintro e w' ⟨rfl,rfl⟩));go_ret;exact FinePost.bad HV.out dC hBF
      all_goals
       go_wp2_with (first | (refine wpList_load_mid rfl 68 (.tmp 66) rfl b (o+k*3) rfl l _ Hr.out underlying68 rfl a1o ?_) | (go_at_call 123;refine(a1a _ _).mono ?_;rw [ho];rintro e w' ⟨rfl,rfl⟩));go_ret;exact FinePost.bad HV.out dC hBF
   ·obtain rfl:k=n:=oM
    have hall:=Hall.out;rw [List.take_of_length_le (by have:=Hll.out;omega),<- HVa.out] at hall;have HV:=Z1 hall;clear hall;go_wp2;go_ret;exact FinePost.good HV.out hB0r
end
open Go.Proofs.Tryz Go.RowKit
theorem Gr.cal_ok {g:Grp} (hv:Gr.valid g=true):Cal.ok g.Y g.M g.N=true:=by
 unfold Gr.valid Gr.books at hv;simp only [Bool.and_eq_true] at hv;exact hv.1.1.1.1.1.2
section
variable (w:World)
theorem a4T (g:Grp) (x:Int) (hg:g.At w w) :
  CL 107 #[g,x] w (Gr.isResult g x):=by
 obtain⟨W1,hW1,hB0,hb0,hz⟩:=nw1 w g 29;have HW:=Z1 hW1;have hg1:=Z1 (hg.at_ hB0);have s1:w.heap.size<W1.heap.size:=oM;have Hb0:=Z1 hb0;clear hW1 hz hb0 hg;go_enter func107,ntmps107;go_upto_region 1 with(fail);rw [<- HW.out];go_wp2_with (refine wpList_load_row rfl 29 _ rfl _ rfl _ _ _ _ Hb0.out underlying29 rfl VJ ?_);refine(a3Y W1 g x hg1.out).mono ?_;rintro e W2 ⟨rfl,hB2⟩;have hB02:=hB0.trans (hB2.mono hB0.size);obtain⟨q,hq⟩:∃ q,q=Ch.found g.chart x:=⟨_,rfl⟩;rw [<- hq];have Hq:Hid (Gr.kind g x=q.kind):=by show _=_;unfold Gr.kind;rw [hq]
 obtain⟨W3,hW3,hBa,hra,hza⟩:=nw1 W2 q 87;have HW3:=Z1 hW3;have hBF:=hB02.trans (hBa.mono hB02.size);have q1:=cr9 1 hra;simp at q1;have s3:W2.heap.size<W3.heap.size:=Vq hra;clear hW3 hq hra hza;go_upto_region 2 with(fail);rw [<- HW3.out]
 by_cases h4:q.kind=4
 ·have b4:(q.kind==4)=true:=by simp [h4]
  have HV:Hid (Gr.isResult g x=true):=by show _=_;unfold Gr.isResult;rw [Hq.out];simp [h4]
  clear h4;go_wp2;go_ret;exact⟨by rw [HV.out];rfl,hBF⟩
 ·have b4:(q.kind==4)=false:=by simp [h4]
  by_cases h5:q.kind=5
  ·have b5:(q.kind==5)=true:=by simp [h5]
   have HV:Hid (Gr.isResult g x=true):=by show _=_;unfold Gr.isResult;rw [Hq.out];simp [h5]
   clear h4 h5;go_wp2;go_ret;exact⟨by rw [HV.out];rfl,hBF⟩
  ·have b5:(q.kind==5)=false:=by simp [h5]
   have HV:Hid (Gr.isResult g x=false):=by show _=_;unfold Gr.isResult;rw [Hq.out];simp [h4,h5]
   clear h4 h5;go_wp2;go_ret;exact⟨by rw [HV.out];rfl,hBF⟩
theorem b2M (g:Grp) (x:Int) (hg:g.At w w) :
  CL 106 #[g,x] w (Gr.isEquity g x):=by
 obtain⟨W1,hW1,hB0,hb0,hz⟩:=nw1 w g 29;have HW:=Z1 hW1;have hg1:=Z1 (hg.at_ hB0);have s1:w.heap.size<W1.heap.size:=oM;have Hb0:=Z1 hb0;clear hW1 hz hb0 hg;go_enter func106,ntmps106;go_upto_region 1 with(fail);rw [<- HW.out];go_wp2_with (refine wpList_load_row rfl 29 _ rfl _ rfl _ _ _ _ Hb0.out underlying29 rfl VJ ?_);refine(a3Y W1 g x hg1.out).mono ?_;rintro e W2 ⟨rfl,hB2⟩;have hB02:=hB0.trans (hB2.mono hB0.size);obtain⟨q,hq⟩:∃ q,q=Ch.found g.chart x:=⟨_,rfl⟩;rw [<- hq];have Hq:Hid (Gr.kind g x=q.kind):=by show _=_;unfold Gr.kind;rw [hq]
 obtain⟨W3,hW3,hBa,hra,hza⟩:=nw1 W2 q 87;have HW3:=Z1 hW3;have hBF:=hB02.trans (hBa.mono hB02.size);have q1:=cr9 1 hra;simp at q1;have s3:W2.heap.size<W3.heap.size:=Vq hra;clear hW3 hq hra hza;go_upto_region 2 with(fail);rw [<- HW3.out];have HV:Hid (Gr.isEquity g x=(q.kind==3)):=by show _=_;unfold Gr.isEquity;rw [Hq.out];by_cases h:q.kind=3 <;> simp [h]
 go_wp2;go_ret;exact⟨by rw [HV.out];rfl,hBF⟩
theorem a8u (g:Grp) (p:Int) (hg:g.At w w) (hv:Gr.valid g=true) (hp:0<=p/\p<g.N) :
  CL 125 #[g,p] w (.tuple #[(Cal.begin_ g.Y g.M p),()]):=by
 obtain⟨W1,hW1,hB0,hb0,hz⟩:=nw1 w g 29;have HW:=Z1 hW1;have hg1:=Z1 (hg.at_ hB0);have s1:w.heap.size<W1.heap.size:=oM;have Hb0:=Z1 hb0;have Hok:Hid (Cal.err g.Y g.M g.N p=0):=(Cal.err_zero _ _ _ _).2 ⟨Gr.cal_ok hv,hp.1,hp.2⟩;clear hW1 hz hb0 hg hp;go_enter func125,ntmps125;go_upto_region 1 with(fail);rw [<- HW.out];go_wp2_with (refine wpList_load_row rfl 29 _ rfl _ rfl _ _ _ _ Hb0.out underlying29 rfl VJ ?_);refine(a5a W1 g hg1.out).mono ?_;rintro e W2 ⟨rfl,hB2⟩;have hB02:=hB0.trans (hB2.mono hB0.size);have hb2:=gbox Hb0.out hB2 s1;have x1:=cr9 1 hb2;have x2:=cr9 2 hb2;have x3:=cr9 3 hb2;simp at x1 x2 x3;have s2:w.heap.size<W2.heap.size:=Vq hb2;rw [hv];clear hv hb2;go_wp2_with (fail);refine(a4F g.Y g.M g.N p W2 Hok.out).mono ?_;rintro e W3 ⟨rfl,hB3⟩;have hBF:=hB02.trans (hB3.mono hB02.size);clear x1 x2 x3;go_wp2
 go_ret2
 exact⟨rfl,hBF⟩
theorem a8K (g:Grp) (a d b:Int) (hg:g.At w w) :
  CL 127 #[g,a,d,b] w (Tr.shown g a d b):=by
 obtain⟨W1,hW1,hB0,hb0,hz⟩:=nw1 w g 29;have HW:=Z1 hW1;have hg1:=Z1 (hg.at_ hB0);have s1:w.heap.size<W1.heap.size:=oM;have Hb0:=Z1 hb0;clear hW1 hz hb0 hg;go_enter func127,ntmps127;go_upto_region 1 with(fail);rw [<- HW.out]
 by_cases h:d<b
 case neg =>
  have HV:Hid (Tr.shown g a d b=a):=by show _=_;unfold Tr.shown;rw [if_neg (fun q=>h q.1)]
  go_wp2;go_ret;exact⟨by rw [HV.out];rfl,hB0⟩
 have Hh:=Z1 h;have hrg:=Z1 (Xx Hb0.out);go_wp2_with (refine Vk (by rfl) 29 (.tmp 4) rfl w.heap.size 0 rfl _ _ hrg.out underlying29 rfl VJ ?_);refine(a4T W1 g a hg1.out).mono ?_;rintro e W2 ⟨rfl,hB2⟩;have hBF:=hB0.trans (hB2.mono hB0.size);have hb2:=gbox Hb0.out hB2 s1;have x11:=cr9 11 hb2;simp at x11;have s2:w.heap.size<W2.heap.size:=Vq hb2;clear hb2
 cases hr:Gr.isResult g a with
 | true =>
  have HV:Hid (Tr.shown g a d b=g.r6):=by show _=_;unfold Tr.shown;rw [if_pos ⟨Hh.out,hr⟩]
  clear hr;go_wp2;go_ret;exact⟨by rw [HV.out];rfl,hBF⟩
 | false =>
  have HV:Hid (Tr.shown g a d b=a):=by show _=_;unfold Tr.shown;rw [if_neg (fun q=>by rw [hr] at q;exact absurd q.2 dC)]
  clear hr;go_wp2;go_ret;exact⟨by rw [HV.out];rfl,hBF⟩
theorem a9a (g:Grp) (a d p:Int) (hg:g.At w w) (hv:Gr.valid g=true) (hp:0<=p/\p<g.N) (ha:Ch.has g.chart a=true) :
  CL 64 #[g,a,d,p] w (.tuple #[(Tr.shown g a d (Cal.begin_ g.Y g.M p):Int),()]):=by
 obtain⟨W1,hW1,hB0,hb0,hz⟩:=nw1 w g 29;have HW:=Z1 hW1;have hg1:=Z1 (hg.at_ hB0);have s1:w.heap.size<W1.heap.size:=oM;have Hb0:=Z1 hb0;have hc:=Z1 (a8u W1 g p hg1.out hv hp);clear hW1 hz hb0 hg hp hv;go_enter func64,ntmps64;go_upto_region 1 with(fail);rw [<- HW.out];go_wp2_with (refine wpList_load_row rfl 29 _ rfl _ rfl _ _ _ _ Hb0.out underlying29 rfl VJ ?_);refine hc.out.mono ?_;rintro e W2 ⟨rfl,hB2⟩;have hB02:=hB0.trans (hB2.mono hB0.size);have Hb2:=gB Hb0 hB2 s1;have s2:w.heap.size<W2.heap.size:=Vq Hb2.out;have hg2:=Z1 (hg1.out.at_ hB2);obtain⟨bg,hbg⟩:∃ bg,bg=Cal.begin_ g.Y g.M p:=⟨_,rfl⟩;rw [<- hbg];have Hbg:=Z1 hbg;clear hbg;go_upto_region 4 with(fail);go_wp2_with (refine wpList_load_row rfl 29 _ rfl _ rfl _ _ _ _ Hb2.out underlying29 rfl VJ ?_);refine(a3Y W2 g a hg2.out).mono ?_;rintro e W3 ⟨rfl,hB3⟩;obtain⟨q,hq⟩:∃ q,q=Ch.found g.chart a:=⟨_,rfl⟩;rw [<- hq,ha];clear hq ha;obtain⟨W4,hW4,hBa,hra,hza⟩:=nw1 W3 q 87;have HW4:=Z1 hW4;have hB24:Below W2 W2 W4:=hB3.trans (hBa.mono hB3.size);have hB04:=hB02.trans (hB24.mono hB02.size);have Hb4:=gB Hb2 hB24 s2;have s4:w.heap.size<W4.heap.size:=Vq Hb4.out;have hg4:=Z1 (hg2.out.at_ hB24);clear hW4 hra hza hB3 hBa hB24;go_upto_region 5 with(fail);rw [<- HW4.out];go_wp2_with (refine wpList_load_row rfl 29 _ rfl _ rfl _ _ _ _ Hb4.out underlying29 rfl VJ ?_);refine(a8K W4 g a d bg hg4.out).mono ?_;rintro e W5 ⟨rfl,hB5⟩;have hBF:=hB04.trans (hB5.mono hB04.size);go_wp2
 go_ret2
 exact⟨by rw [Hbg.out];rfl,hBF⟩
end
open Go.Proofs.Tryz Go.RowKit
def OptPost (o:Option Int) (w:World) (e:Ending) (w':World):Prop:=(∃ v m,e=.returned (.tuple #[.int .i64 v,.int .i64 m])/\(m=0 ↔ o.isSome=true)/\∀ x,o=some x->v=x)/\Below w w w'
theorem OptPost.none {w w':World} {v m:Int} {o:Option Int} (ho:o=none) (hm:m≠0) (h:Below w w w'):OptPost o w (.returned (.tuple #[.int .i64 v,.int .i64 m])) w':=⟨⟨v,m,rfl,by simp [ho,hm],fun x h=>by rw [ho] at h;cases h⟩,h⟩
theorem OptPost.some {w w':World} {v:Int} {o:Option Int} (ho:o=Option.some v) (h:Below w w w'):OptPost o w (.returned (.tuple #[v,()])) w':=⟨⟨v,0,rfl,by simp [ho],fun x h=>by rw [ho] at h;cases h;rfl⟩,h⟩
section
variable (w:World)
theorem a3U (n:Int):Calls prog 181 #[n] w (OptPost (if Jr.okAmt n=true then some n else none) w):=by
 cases h:Jr.okAmt n with
 | true =>
  go_enter func181,ntmps181;go_wp2_with (go_at_call 123;refine(a1a _ _).mono ?_;rw [h];rintro e w' ⟨rfl,rfl⟩)
  go_ret2
  exact OptPost.some sP bR
 | false =>
  go_enter func181,ntmps181;go_wp2_with (go_at_call 123;refine(a1a _ _).mono ?_;rw [h];rintro e w' ⟨rfl,rfl⟩)
  go_ret2
  exact OptPost.none sP dC bR
theorem Tr.conv_some {n r:Int} (h:Jr.okAmt n=true) (h1:1<=r) (h2:r<=1000000000000) (h3:¬ (0<r / 1000000/\1000000000000 / (r / 1000000)<Tr.nat n)) :
  Tr.conv n r=if Jr.okAmt (if n<0 then -(Tr.out n r) else Tr.out n r)=true then some (if n<0 then -(Tr.out n r) else Tr.out n r) else none:=by
 have hn:0<=Tr.nat n:=by unfold Tr.nat;split <;> omega
 have h0:0<=Tr.out n r:=by
  unfold Tr.out;have a:=Int.mul_nonneg hn (Int.ediv_nonneg (show 0<=r by omega) (show(0:Int)<=1000000 by decide));have b:=Int.mul_nonneg (Int.mul_nonneg (show(0:Int)<=2 by decide) hn) (Int.emod_nonneg r (show(1000000:Int)≠0 by decide));have c:0<=(2*Tr.nat n*(r % 1000000)+1000000) / 2000000:=Int.ediv_nonneg oM dC;omega
 unfold Tr.conv
 by_cases hle:Tr.out n r<=1000000000000
 ·rw [if_pos ⟨h,h1,h2,h3,hle⟩]
  by_cases h5:n<0
  ·rw [if_pos h5,if_pos (by simp [Jr.okAmt];omega)]
  ·rw [if_neg h5,if_pos (by simp [Jr.okAmt];omega)]
 ·rw [if_neg (fun q=>hle q.2.2.2.2)]
  by_cases h5:n<0
  ·rw [if_pos h5,if_neg (by simp [Jr.okAmt];omega)]
  ·rw [if_neg h5,if_neg (by simp [Jr.okAmt];omega)]
theorem a6C (n r:Int) (hn:Jr.okAmt n=true) (h1:1<=r) (h2:r<=1000000000000) :
  Calls prog 124 #[n,r,(1000000:Int)] w (OptPost (Tr.conv n r) w):=by
 have hb:-1000000000000<=n/\n<=1000000000000:=by simpa [Jr.okAmt] using hn
 obtain⟨hb1,hb2⟩:=hb;have hC:=Z1 (fun h3=>Tr.conv_some hn h1 h2 h3);have HN:Hid (0<r / 1000000/\1000000000000 / (r / 1000000)<Tr.nat n->Tr.conv n r=none):=Z1 fun h=>by unfold Tr.conv;rw [if_neg (fun q=>q.2.2.2.1 h)]
 have ha:Hid (Tr.nat n=if n<0 then -n else n):=rfl;have HO:Hid (Tr.out n r=Tr.nat n*(r / 1000000)+(2*Tr.nat n*(r % 1000000)+1000000) / 2000000):=rfl;obtain⟨q,hq⟩:∃ q,q=r / 1000000:=⟨_,rfl⟩;obtain⟨s,hs⟩:∃ s,s=r % 1000000:=⟨_,rfl⟩;obtain⟨a,haa⟩:∃ a,a=Tr.nat n:=⟨_,rfl⟩;have e1:Int.tdiv r 1000000=q:=by rw [hq,Int.tdiv_eq_ediv_of_nonneg oM]
 have e2:Int.tmod r 1000000=s:=by rw [hs,Int.tmod_eq_emod_of_nonneg oM]
 have q0:0<=q:=oM;have q1:q<=1000000:=oM;have s0:0<=s:=oM;have s9:s<1000000:=oM;have a0:0<=a:=by rw [haa,ha.out];split <;> omega
 have a1:a<=1000000000000:=by rw [haa,ha.out];split <;> omega
 rw [<- hq,<- haa] at HN;rw [<- hq,<- hs,<- haa] at HO
 have hC':Hid (¬ (0<q/\1000000000000 / q<a)->Tr.conv n r=if Jr.okAmt (if n<0 then -(Tr.out n r) else Tr.out n r)=true then some (if n<0 then -(Tr.out n r) else Tr.out n r) else none):=by
  have:=hC.out;rw [<- hq,<- haa] at this;exact Z1 this
 have p1:0<=a*s:=Int.mul_nonneg a0 s0
 have p2:a*s<=1000000000000000000:=by
  have:=Int.mul_le_mul a1 (show s<=1000000 by omega) s0 (show(0:Int)<=1000000000000 by decide);omega
 have Hmx:Hid (max n (-n)=a):=by show _=_;rw [haa,ha.out];split <;> omega
 have E1:=Z1 e1;have E2:=Z1 e2;clear hC hq hs haa ha e1 e2;go_enter func124,ntmps124;go_upto_region 2 with(fail)
 try rw [Hmx.out]
 have hS:Below w w w.drew:=Vw bR 1;refine wp_region_held (S:=Below w w) kR ?_;change wpAnyH _ _ _ _ _ _ _ _ (World.drew w);obtain⟨W_0,hWd⟩:∃ W0,W0=w.drew:=⟨_,rfl⟩;rw [<- hWd] at hS ⊢;clear hWd;refine jT 0 hS ?_;refine jT 1 hS ?_;refine jT 2 hS ?_ (v:=.int .i64 q) (hy:=(.inl ⟨by rfl,fun W' hS'=>by have e1:=E1.out;(go_simp;rw [IntKind.wrap_i64];omega)⟩));refine jT 3 hS ?_;refine jT 4 hS ?_;refine jT 5 hS ?_ (v:=.int .i64 s) (hy:=(.inl ⟨by rfl,fun W' hS'=>by have e2:=E2.out;go_simp⟩));refine rZ 6 fun K hK=>?_;go_simp;refine jK hK hS ?_;clear hK K;refine rZ 7 fun K hK=>?_;go_simp;refine jK hK hS ?_;clear hK K;refine wpAnyH_done kR ?_ _
 try simp only [z]
 have HB:=Z1 hS;clear hS;have m1:0<=2*a*s/\2*a*s<=2000000000000000000:=by rw [Int.mul_assoc];omega
 obtain⟨m1a,m1b⟩:=m1;obtain⟨x,hx⟩:∃ x,x=(2*a*s+1000000) / 2000000:=⟨_,rfl⟩;have ex:Int.tdiv (2*a*s+1000000) 2000000=x:=by rw [hx,Int.tdiv_eq_ediv_of_nonneg oM]
 have x0:0<=x/\x<=1000000000001:=oM;obtain⟨x0,x1⟩:=x0;rw [<- hx] at HO;clear hx p1 p2
 have fin:∀(hno:¬ (0<q/\1000000000000 / q<a)),0<=a*q/\a*q<=1000000000000:=fun hno=>by
  refine⟨Int.mul_nonneg a0 q0,?_⟩
  by_cases hg:0<q
  ·have h2:a<=1000000000000 / q:=by have:=fun h=>hno ⟨hg,h⟩;omega
   have:=(Int.le_ediv_iff_mul_le hg).1 h2;exact this
  ·have:q=0:=oM
   subst this;simp
 have Fin:=Z1 fin;clear fin
 by_cases hno:¬ (0<q/\1000000000000 / q<a)
 case neg =>
  have hyes:0<q/\1000000000000 / q<a:=Classical.not_not.1 hno;have HV:=Z1 (HN.out hyes);obtain⟨hg,hg2⟩:=hyes;have ed:Int.tdiv 1000000000000 q=1000000000000 / q:=Int.tdiv_eq_ediv_of_nonneg dC;obtain⟨y,hy⟩:∃ y,y=1000000000000 / q:=⟨_,rfl⟩;rw [<- hy] at ed hg2;have y0:0<=y:=by rw [hy];exact Int.ediv_nonneg dC q0
  have hq0:q≠0:=oM;clear hno hy;go_wp2
  go_ret2
  exact OptPost.none HV.out dC HB.out
 obtain⟨n1,n2⟩:=Fin.out hno;have HV:=Z1 (hC'.out hno);have hnn:=Z1 hno
 by_cases hg:0<q
 all_goals
  have ed:Int.tdiv 1000000000000 q=1000000000000 / q:=Int.tdiv_eq_ediv_of_nonneg dC;obtain⟨y,hy⟩:∃ y,y=1000000000000 / q:=⟨_,rfl⟩;have hg2:0<q->¬ (y<a):=fun h h2=>hnn.out ⟨h,by rw [<- hy];exact h2⟩;rw [<- hy] at ed;have y0:0<=y:=by rw [hy];exact Int.ediv_nonneg dC q0
  have y1:y<=1000000000000:=by rw [hy];exact Int.ediv_le_self _ dC
  clear hno hy
  by_cases hng:n<0
  ·have HV2:Hid (Tr.conv n r=if Jr.okAmt (-(a*q+x))=true then some (-(a*q+x)) else none):=by show _=_;rw [HV.out,if_pos hng,HO.out]
   go_wp2_with (fail);refine(a3U _ (-(a*q+x))).mono ?_;rintro e w3 ⟨⟨v,m,rfl,h1,h2⟩,hB3⟩;have HP:Hid (OptPost (Tr.conv n r) w (.returned (.tuple #[v,m])) w3):=by rw [HV2.out];exact⟨⟨v,m,rfl,h1,h2⟩,HB.out.trans (hB3.mono HB.out.size)⟩
   clear h1 h2;go_wp2
   go_ret2
   exact HP.out
  ·have HV2:Hid (Tr.conv n r=if Jr.okAmt (a*q+x)=true then some (a*q+x) else none):=by show _=_;rw [HV.out,if_neg hng,HO.out]
   go_wp2_with (fail);refine(a3U _ (a*q+x)).mono ?_;rintro e w3 ⟨⟨v,m,rfl,h1,h2⟩,hB3⟩;have HP:Hid (OptPost (Tr.conv n r) w (.returned (.tuple #[v,m])) w3):=by rw [HV2.out];exact⟨⟨v,m,rfl,h1,h2⟩,HB.out.trans (hB3.mono HB.out.size)⟩
   clear h1 h2;go_wp2
   go_ret2
   exact HP.out
theorem b1Y (n r:Int):Calls prog 63 #[n,r] w (OptPost (Tr.conv n r) w):=by
 rcases(show Jr.okAmt n=false∨(Jr.okAmt n=true/\r<1)∨(Jr.okAmt n=true/\1<=r/\1000000000000<r)∨(Jr.okAmt n=true/\1<=r/\r<=1000000000000) by cases Jr.okAmt n <;> simp <;> omega) with h | ⟨h,h1⟩ | ⟨h,h1,h2⟩ | ⟨h,h1,h2⟩
 case inr.inr.inr =>
  have HP:=Z1 (a6C w n r h h1 h2);go_enter func63,ntmps63;go_wp2_with (first | (go_at_call 123;refine(a1a _ _).mono ?_;rw [h];rintro e w' ⟨rfl,rfl⟩));refine HP.out.mono ?_;rintro e w3 ⟨⟨v,m,rfl,h3,h4⟩,hB3⟩;have HQ:Hid (OptPost (Tr.conv n r) w (.returned (.tuple #[v,m])) w3):=Z1 ⟨⟨v,m,rfl,h3,h4⟩,hB3⟩;clear h3 h4;go_wp2
  go_ret2
  exact HQ.out
 all_goals
  have HV:Hid (Tr.conv n r=none):=by show _=_;unfold Tr.conv;rw [if_neg (by rintro⟨q1,q2,q3,_⟩;first | omega | (rw [h] at q1;cases q1))]
  go_enter func63,ntmps63;go_wp2_with (go_at_call 123;refine(a1a _ _).mono ?_;rw [h];rintro e w' ⟨rfl,rfl⟩)
  go_ret2
  exact OptPost.none HV.out dC bR
end
open Go.Proofs.Tryz Go.RowKit
section
variable (w:World)
theorem Jr.charted_bad {g:Grp} {x:EtC} {k:Nat} (hk:k<x.lines.length) (h:Ch.has (Jr.chartOf g x.ent) x.lines[k].acct=false):Jr.charted g x=false:=by
 unfold Jr.charted;rw [List.all_eq_false];exact⟨_,List.getElem_mem hk,by simp [h]⟩
theorem Jr.chartOf_eq {g:Grp} {e:Int} {k:Nat} (he:e=k) (hk:k<g.ents.length):Jr.chartOf g e=g.ents[k].chart:=by
 unfold Jr.chartOf Gr.eat;subst he;simp [hk]
theorem a6U (g:Grp) (c:EtC) (A:Option Addr) (n kc ke:Nat) (hg:g.At w w) (hx:(⟨c,A,n,kc⟩:Etr).At w w) (hke:c.ent=ke) (hkl:ke<g.en) :
  Calls prog 202 #[g,.agg (TE c A n kc)] w (FinePost (Jr.charted g c) w):=by
 obtain⟨W1,hW1,hB0,hb0,hb1,hz⟩:=nw2 w g (TE c A n kc) 29 71;obtain⟨HW,hg1,Hel⟩:=Z3 hW1 (hg.at_ hB0) hg.hel;have hen:=hg.hen;have Hll:Hid (c.lines.length=n):=hx.hl;have hln:n<=60:=by have h1:c.lines.length<=60:=hx.hw.hln;have h2:c.lines.length=n:=hx.hl;omega
 have hA:Hid (LinsAt W1 W1 A c.lines):=RowsAt.at_ hx.hA hB0;have y6:=cr9 6 hb1;simp at y6;have s1:w.heap.size<W1.heap.size:=oM;have s1':w.heap.size+1<W1.heap.size:=oM;obtain⟨Hb0,Hb1,Hke⟩:=Z3 hb0 hb1 hke;have HkL:Hid (ke<g.ents.length):=by show _<_;have:=hg.hel;omega
 clear hW1 hz hb0 hb1 hg hx hke;go_enter func202,ntmps202;go_upto_region 1 with(fail);rw [<- HW.out];go_wp2
 go_loopw [12] (fun i wr=>∃ k:Nat,k<=n/\i=.int .i64 k/\(c.lines.take k).all (fun l=>Ch.has (Jr.chartOf g c.ent) l.acct)=true/\Below W1 W1 wr) (fun i _=>n-(intOf i).toNat)
 case atStart=>exact⟨0,Nat.zero_le _,rfl,rfl,bR⟩
 case round =>
  obtain⟨k,hk,rfl,hall,hb⟩:=hrel;have Hall:=Z1 hall;have hB0r:=hB0.trans (hb.mono hB0.size);clear hall y6
  by_cases hlt:k<n
  case neg =>
   obtain rfl:k=n:=oM;have hall:=Hall.out;rw [List.take_of_length_le (by have:=Hll.out;omega)] at hall;have HV:Hid (Jr.charted g c=true):=Z1 hall;clear hall;go_wp2;go_ret;exact FinePost.good HV.out hB0r
  have hkl':k<c.lines.length:=by have:=Hll.out;omega
  obtain⟨b,o,rfl,hbB,hr⟩:=LinsAt.three (RowsAt.below hA.out hb lR) hkl';obtain⟨l,hl⟩:∃ l,l=c.lines[k]:=⟨_,rfl⟩;have Hbad:=Z1 (Jr.charted_bad (g:=g) (x:=c) hkl')
  have Hst:Hid ((c.lines.take (k+1)).all (fun l=>Ch.has (Jr.chartOf g c.ent) l.acct)=Ch.has (Jr.chartOf g c.ent) l.acct):=by
   show _=_;rw [tse hkl',List.all_append,Hall.out,hl];simp
  rw [<- hl] at hr Hbad;obtain⟨e,he⟩:∃ e,e=g.ents[ke]'HkL.out:=⟨_,rfl⟩;have hCe:=Jr.chartOf_eq Hke.out HkL.out;rw [<- he] at hCe;rw [hCe] at Hbad Hst;have HCe:=Z1 hCe;have Hr:=Z1 hr;have hbw:b<wr.heap.size:=by have:=hb.size;omega
  obtain⟨V,hV,hBa,hra,hza⟩:=nw1 wr l 68;have HV:=Z1 hV;have hbV:=hb.trans (hBa.mono hb.size);have hgV:=Z1 ((hg1.out.below hbV lR).more hbV.size);obtain⟨be,oe,hAe,hbe,hre⟩:=RowsAt.look hgV.out.he HkL.out;rw [<- he] at hre;have Hre:=Z1 hre;have Heo:=Z1 (hgV.out.hea e (by rw [he];exact List.getElem_mem _));have hVr:=gbox Hb1.out hbV s1';have hVg:=gbox Hb0.out hbV s1;have e1:=cr9 1 hVr;have g4:=cr9 20 hVg;have l0:=cr9 0 hra;simp at e1 g4 l0;rw [Hke.out] at e1;rw [hAe] at g4;have e2:=a7Q Hre.out 2 _ rfl;have s2:w.heap.size+1<V.heap.size:=Vq hVr;have s3:w.heap.size<V.heap.size:=Vq hVg;have s4:wr.heap.size<V.heap.size:=Vq hra;have hBV:=hB0r.trans (hBa.mono hB0r.size);have hken:(ke:Int)<(g.en:Int):=oM;clear hr hl hV hVr hVg hra hza he hCe hAe hre;go_upto_region 4 with(refine wpList_load_mid rfl 68 (.tmp 14) rfl b (o+k*3) rfl l _ Hr.out underlying68 rfl a1o ?_);rw [<- HV.out];have hS:Below V.heap.size V V.drew:=Vw bR 1;refine wp_region_held (S:=Below V.heap.size V) kR ?_;change wpAnyH _ _ _ _ _ _ _ _ (World.drew V);obtain⟨W_0,hWd⟩:∃ W0,W0=V.drew:=⟨_,rfl⟩;rw [<- hWd] at hS ⊢;clear hWd;refine jT 0 hS ?_;refine jT 1 hS ?_ (v:=.slice (some ⟨be,oe,none⟩) g.en g.ec) (hy:=(.inl ⟨by rfl,fun W' hS'=>by have c0:=(hS'.cell (p:=⟨w,20,none⟩) (by show _<_;omega)).trans g4;go_simp⟩));refine jT 2 hS ?_;refine jT 3 hS ?_ (v:=.int .i64 ke) (hy:=(.inl ⟨by rfl,fun W' hS'=>by have c0:=(hS'.cell (p:=⟨w.heap.size+1,1,none⟩) (by show _<_;omega)).trans e1;go_simp⟩));refine jT 4 hS ?_;refine jT 5 hS ?_;refine jT 6 hS ?_ (v:=.slice e.cA e.cn e.cc) (hy:=(.inl ⟨by rfl,fun W' hS'=>by have c0:=(hS'.cell (p:=⟨be,oe+ke*5+2,none⟩) (by show _<_;omega)).trans e2;go_simp⟩));refine jT 7 hS ?_;refine jT 8 hS ?_ (v:=.int .i64 l.acct) (hy:=(.inl ⟨by rfl,fun W' hS'=>by have c0:=(hS'.cell (p:=⟨wr,0,none⟩) (by show _<_;omega)).trans l0;go_simp⟩));have hV0:=hS.size;refine a0E fun md' ops' Q' a' hlm hlo hlq hla=>?_;obtain⟨RG,hRG⟩:∃ R:World->Prop,R=Below V.heap.size V:=⟨_,rfl⟩;rw [<- hRG] at hS ⊢
  have n1:∀(m:Nat) (W:World) (bf:Bool) (vf:Value) (pf:Nat),2+cond bf 0 1<=m->RG W->W_0.heap.size<=W.heap.size->Mk W_0 W bf vf pf #[(),(),(),()] 87->wpAnyH prog md' ops' Q' RG m #[true,true,true,true,true,true,true,true,true,true,true,true,true,bf,false,false] (((((a'.put (some 26) (.tuple #[(Ch.found e.chart l.acct),.bool (Ch.has e.chart l.acct)])).put (some 16) (.tuple #[(Ch.found e.chart l.acct),.bool (Ch.has e.chart l.acct)])).put (some 27) ((Ch.found e.chart l.acct))).put (some 28) (.bool (Ch.has e.chart l.acct))).put (some 7) vf) W:=by
   intro m
   induction m with
   | zero=>intros;omega
   | succ m ih =>
   intro W bf vf pf hm hS hz Hf;subst hlm hlo hlq hla hRG
   try simp only [z]
   by_cases hb:bf=true
   rotate_left
   ·refine wpAnyH_ready (rs:=(cond bf [] [13]++[])) (by revert hb;cases bf <;> intro hb <;> first | exact absurd dC hb | kernel_rfl) (by revert hb;cases bf <;> decide) (ropt (fun hf=>.cons rfl (fun K hK=>?_) .nil) .nil)
    ·subst hf
     obtain⟨W',hWn,hB,hrow,_⟩:=nw1 W #[(),(),(),()] 87;go_simp;rw [<- hWn];clear hWn;have hS':=hS.trans (hB.mono hS.size);refine jK hK hS' ?_;clear hK K;have hn:=ih W' true (.pointer (some ⟨W,0,none⟩)) W (by simp only [cond_true,cond_false] at hm ⊢;omega) hS' (Nat.le_trans hz hB.size) (fun _=>⟨rfl,hz,hrow⟩) 
     try simp only [z] at hn
     exact hn
   subst hb;obtain⟨rfl,gf,hf⟩:=Hf rfl;obtain⟨m,rfl⟩:∃ k,m=k+1:=⟨m-1,by simp only [cond_true] at hm;omega⟩;clear ih hm;obtain⟨q,hq⟩:∃ q,q=Ch.found e.chart l.acct:=⟨_,rfl⟩;rw [<- hq];clear hq;refine rZ 14 fun K hK=>?_;rw [if_pos (by rfl)];refine VX 87 _ _ none rfl rfl pf 87 _ q rfl rfl hf rfl a0W oC ?_;have hS2:=below_setRow hS (Nat.le_trans (show V.heap.size<=W_0.heap.size from hV0) gf) q;refine jK hK hS2 ?_;clear hK K;refine rZ 15 fun K hK=>?_;go_simp;refine jK hK hS2 ?_;clear hK K;refine wpAnyH_done kR ?_ _
   try simp only [z]
   obtain⟨V4,hWn⟩:∃ W6,W6=W.setRow pf q:=⟨_,rfl⟩;rw [<- hWn] at hS2 ⊢;clear hWn hS hf hz gf;have hbF:=hbV.trans (hS2.mono hbV.size);have hBF:=hBV.trans (hS2.mono hBV.size);clear e1 g4 l0 e2
   cases hh:Ch.has e.chart l.acct with
   | true =>
    have HS:Hid ((c.lines.take (k+1)).all (fun l=>Ch.has (Jr.chartOf g c.ent) l.acct)=true):=by show _=_;rw [HCe.out,Hst.out,hh]
    clear hh;go_wp2;go_roundw
    case rel=>exact⟨k+1,oM,by go_num,HS.out,hbF⟩
    case measure=>simp [intOf];omega
   | false =>
    have HV:=Z1 (Hbad.out hh);clear hh;go_wp2;go_ret;exact FinePost.bad HV.out dC hBF
  have n0:∀(m:Nat) (W:World) (bf:Bool) (vf:Value) (pf:Nat),6+cond bf 0 1<=m->RG W->W_0.heap.size<=W.heap.size->Mk W_0 W bf vf pf #[(),(),(),()] 87->wpAnyH prog md' ops' Q' RG m #[true,true,true,true,true,true,true,true,true,false,false,false,false,bf,false,false] (a'.put (some 7) vf) W:=by
   intro m
   induction m with
   | zero=>intros;omega
   | succ m ih =>
   intro W bf vf pf hm hS hz Hf;subst hlm hlo hlq hla hRG
   try simp only [z]
   refine wpAnyH_ready (rs:=9::(cond bf [] [13]++[])) (by cases bf <;> kernel_rfl) sP (.cons rfl (fun K hK=>?_) (ropt (fun hf=>.cons rfl (fun K hK=>?_) .nil) .nil))
   ·clear ih
    have HFd:=Z1 (a0M W e.cA e.cn e.cc e.chart l.acct Heo.out.hcl Heo.out.hcn (RowsAt.at_ Heo.out.hc hS));go_simp;refine HFd.out.mono ?_;rintro r W' ⟨rfl,hB⟩;have hS':=hS.trans (hB.mono hS.size);refine jK hK hS' ?_;clear hK K;obtain⟨m,rfl⟩:∃ k,m=k+3:=⟨m-3,oM⟩;refine wpAnyH_take (i:=10) (v:=.tuple #[(Ch.found e.chart l.acct),.bool (Ch.has e.chart l.acct)]) rfl kR (by cases bf <;> kernel_rfl) (by cases bf <;> kernel_rfl) (fun _ _ _ h=>h) (.inl ⟨by rfl,fun W' hS'=>by go_simp⟩) hS' ?_
    try simp only [z]
    refine wpAnyH_take (i:=11) (v:=(Ch.found e.chart l.acct)) rfl kR (by cases bf <;> kernel_rfl) (by cases bf <;> kernel_rfl) (fun _ _ _ h=>h) (.inl ⟨by rfl,fun W' hS'=>by go_simp⟩) hS' ?_
    try simp only [z]
    refine wpAnyH_take (i:=12) (v:=.bool (Ch.has e.chart l.acct)) rfl kR (by cases bf <;> kernel_rfl) (by cases bf <;> kernel_rfl) (fun _ _ _ h=>h) (.inl ⟨by rfl,fun W' hS'=>by go_simp⟩) hS' ?_
    try simp only [z]
    have hn:=n1 m W' bf vf pf oM hS' (Nat.le_trans hz hB.size) (Hf.step hB)
    try simp only [z] at hn
    exact hn
   ·subst hf
    obtain⟨W',hWn,hB,hrow,_⟩:=nw1 W #[(),(),(),()] 87;go_simp;rw [<- hWn];clear hWn;have hS':=hS.trans (hB.mono hS.size);refine jK hK hS' ?_;clear hK K;have hn:=ih W' true (.pointer (some ⟨W,0,none⟩)) W (by simp only [cond_true,cond_false] at hm ⊢;omega) hS' (Nat.le_trans hz hB.size) (fun _=>⟨rfl,hz,hrow⟩) 
    try simp only [z] at hn
    exact hn
  have hn:=n0 _ W_0 false u7 0 lR hS lR  (fun h=>nomatch h);subst hlm hlo hlq hla hRG;exact hn
theorem a9Y (g:Grp) (c:EtC) (A:Option Addr) (n kc:Nat) (hv:Gr.valid g=true) :
  Calls prog 203 #[g,.agg (TE c A n kc)] w (FinePost (Jr.dated g c) w):=by
 obtain⟨W1,hW1,hB0,hb0,hb1,hz⟩:=nw2 w g (TE c A n kc) 29 71;have HW:=Z1 hW1
 have hok:Cal.ok g.Y g.M g.N=true:=by
  unfold Gr.valid Gr.books at hv;simp only [Bool.and_eq_true] at hv;exact hv.1.1.1.1.1.2
 have Hok:=Z1 hok;have x1:=cr9 1 hb0;have x2:=cr9 2 hb0;have x3:=cr9 3 hb0;have y2:=cr9 2 hb1;simp at x1 x2 x3 y2;have s1:w.heap.size<W1.heap.size:=oM;have s1':w.heap.size+1<W1.heap.size:=oM;clear hW1 hz hb0 hb1 hok hv;go_enter func203,ntmps203;go_upto_region 1 with(fail);rw [<- HW.out];go_wp2_with (fail);refine(a3P g.Y g.M g.N c.date W1 Hok.out).mono ?_;rintro e W2 ⟨rfl,hB2⟩;have hBF:=hB0.trans (hB2.mono hB0.size)
 have HV:Hid (Jr.dated g c=true ↔ Cal.perE g.Y g.M g.N c.date=0):=by
  show _ ↔ _;unfold Jr.dated Cal.perE;by_cases h:Cal.per g.Y g.M g.N c.date<0 <;> simp [h];omega
 obtain⟨pv,hpv⟩:∃ pv,pv=Cal.perV g.Y g.M g.N c.date:=⟨_,rfl⟩;obtain⟨pe,hpe⟩:∃ pe,pe=Cal.perE g.Y g.M g.N c.date:=⟨_,rfl⟩;rw [<- hpe] at HV;rw [<- hpv,<- hpe];clear hpv hpe x1 x2 x3 y2
 by_cases h:pe=0
 ·have h':(pe != 0)=false:=by simp [h]
  have HV:=Z1 (HV.out.2 h);clear h;go_wp2;go_ret;exact FinePost.good HV.out hBF
 ·have h':(pe != 0)=true:=by simp [h]
  have HV:Hid (Jr.dated g c=false):=by show _=_;have:=HV.out;cases hd:Jr.dated g c;rfl;exact absurd (this.1 hd) h
  clear h;go_wp2;go_ret;exact FinePost.bad HV.out dC hBF
theorem a6k (g:Grp) (c:EtC) (A:Option Addr) (n kc:Nat) (hx:(⟨c,A,n,kc⟩:Etr).At w w) :
  Calls prog 204 #[g,.agg (TE c A n kc)] w (FinePost (decide (Jr.total c.lines=0)) w):=by
 obtain⟨W1,hW1,hB0,hb0,hb1,hz⟩:=nw2 w g (TE c A n kc) 29 71;have HW:=Z1 hW1;have Hs:=Z1 (b1G W1 A n kc c.lines hx.hl (by have h1:c.lines.length<=60:=hx.hw.hln;have h2:c.lines.length=n:=hx.hl;omega) hx.hw.hlw (RowsAt.at_ hx.hA hB0));have y6:=cr9 6 hb1;simp at y6;have s1':w.heap.size+1<W1.heap.size:=oM;clear hW1 hz hb0 hb1 hx;go_enter func204,ntmps204;go_upto_region 1 with(fail);rw [<- HW.out];go_wp2_with (fail);refine Hs.out.mono ?_;rintro e W2 ⟨rfl,hB2⟩;have hBF:=hB0.trans (hB2.mono hB0.size);obtain⟨s,hs⟩:∃ s,s=Jr.total c.lines:=⟨_,rfl⟩;rw [<- hs];have HS:=Z1 hs;clear hs y6
 by_cases h:s=0
 ·have h':(s != 0)=false:=by simp [h]
  have HV:Hid (decide (Jr.total c.lines=0)=true):=Z1 (decide_eq_true (HS.out.symm.trans h));clear h;go_wp2;go_ret;exact FinePost.good HV.out hBF
 ·have h':(s != 0)=true:=by simp [h]
  have HV:Hid (decide (Jr.total c.lines=0)=false):=Z1 (decide_eq_false (fun e=>h (HS.out.trans e)));clear h;go_wp2;go_ret;exact FinePost.bad HV.out dC hBF
theorem Jr.fine_parts {g:Grp} {c:EtC} (h:Jr.formed g c=true):Gr.valid g=true/\∃ ke:Nat,c.ent=ke/\ke<g.ents.length:=by
 unfold Jr.formed Jr.shape at h;simp only [Bool.and_eq_true,decide_eq_true_eq] at h;exact⟨h.1.1.1.1,c.ent.toNat,oM,oM⟩
end
end Go.Proofs.YtniaimjknmhapaaGreatDoor
