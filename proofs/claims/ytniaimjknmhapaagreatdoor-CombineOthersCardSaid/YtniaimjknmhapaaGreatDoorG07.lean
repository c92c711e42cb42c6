/- My texts Date, Date2, Date3, Rates, Curr, Date4. -/
import Derived.Test.YtniaimjknmhapaaGreatDoorG01
import Derived.Test.YtniaimjknmhapaaGreatDoorG56
set_option linter.unusedVariables false
set_option linter.unusedSimpArgs false
set_option maxRecDepth 100000
set_option maxHeartbeats 16000000
namespace Go.Proofs.YtniaimjknmhapaaGreatDoor
open Tryz Go.RowKit

section
variable (y m d:Int) (w:World)

theorem a7l (y:Int):Cal.leapB y=(y % 4==0&&(y % 100 != 0||y % 400==0)):=by
 rw [Bool.eq_iff_iff,Cal.leap_iff];simp

theorem b1m (h0:0<=y):Calls prog 162 #[y] w fun e w'=>e=.returned (.bool (Cal.leapB y))/\w=w':=by
 rw [a7l];go_enter func162,ntmps162;go_wp2
 all_goals (go_ret;exact⟨VZ (by simp [*]),rfl⟩)

theorem a2r (h0:0<=y):Calls prog 142 #[y] w fun e w'=>e=.returned (.bool (Cal.leapB y))/\w=w':=by
 rw [a7l];go_enter func142,ntmps142;go_wp2
 all_goals (go_ret;exact⟨VZ (by simp [*]),rfl⟩)

theorem a0P:Calls prog 101 #[d] w fun e w'=>e=.returned (.bool (decide (-25567<=d/\d<=84005)))/\w=w':=by
 go_enter func101,ntmps101;go_wp2
 all_goals (go_ret;exact⟨VZ sO,rfl⟩)

theorem a7K:Calls prog 132 #[d] w fun e w'=>e=.returned (.bool (decide (-25567<=d/\d<=84005)))/\w=w':=by
 go_enter func132,ntmps132;go_wp2
 all_goals (go_ret;exact⟨VZ sO,rfl⟩)

theorem a2C (h0:1<=y) (h1:y<=100000):Calls prog 161 #[y] w fun e w'=>e=.returned (.int .i64 (Cal.byear y))/\w=w':=by
 go_enter func161,ntmps161;go_wp2;go_ret;exact⟨a1y (by unfold Cal.byear;simp),rfl⟩

theorem b2Z (h1:1<=m) (h2:m<=12):([Value.int .i64 31,Value.int .i64 28,Value.int .i64 31,Value.int .i64 30,Value.int .i64 31,Value.int .i64 30,Value.int .i64 31,Value.int .i64 31,Value.int .i64 30,Value.int .i64 31,Value.int .i64 30,Value.int .i64 31]:List Value)[m.toNat-1]?=some (.int .i64 (Cal.tab m)):=by
 have hm:m=1∨m=2∨m=3∨m=4∨m=5∨m=6∨m=7∨m=8∨m=9∨m=10∨m=11∨m=12:=oM
 rcases hm with rfl | rfl | rfl | rfl | rfl | rfl | rfl | rfl | rfl | rfl | rfl | rfl <;> rfl
theorem b0F (w:World):(Instr.index 230 (.agg #[(31:Int),(28:Int),(31:Int),(30:Int),(31:Int),(30:Int),(31:Int),(31:Int),(30:Int),(31:Int),(30:Int),(31:Int)]) (.int .i64 0)).run prog w=.ok (.int .i64 31) w:=kR
theorem a7c (w:World):(Instr.index 230 (.agg #[(31:Int),(28:Int),(31:Int),(30:Int),(31:Int),(30:Int),(31:Int),(31:Int),(30:Int),(31:Int),(30:Int),(31:Int)]) (.int .i64 1)).run prog w=.ok (.int .i64 28) w:=kR
theorem b0E (w:World):(Instr.index 230 (.agg #[(31:Int),(28:Int),(31:Int),(30:Int),(31:Int),(30:Int),(31:Int),(31:Int),(30:Int),(31:Int),(30:Int),(31:Int)]) (.int .i64 2)).run prog w=.ok (.int .i64 31) w:=kR
theorem b0D (w:World):(Instr.index 230 (.agg #[(31:Int),(28:Int),(31:Int),(30:Int),(31:Int),(30:Int),(31:Int),(31:Int),(30:Int),(31:Int),(30:Int),(31:Int)]) (.int .i64 3)).run prog w=.ok (.int .i64 30) w:=kR
theorem b0C (w:World):(Instr.index 230 (.agg #[(31:Int),(28:Int),(31:Int),(30:Int),(31:Int),(30:Int),(31:Int),(31:Int),(30:Int),(31:Int),(30:Int),(31:Int)]) (.int .i64 4)).run prog w=.ok (.int .i64 31) w:=kR
theorem b0B (w:World):(Instr.index 230 (.agg #[(31:Int),(28:Int),(31:Int),(30:Int),(31:Int),(30:Int),(31:Int),(31:Int),(30:Int),(31:Int),(30:Int),(31:Int)]) (.int .i64 5)).run prog w=.ok (.int .i64 30) w:=kR
theorem b0A (w:World):(Instr.index 230 (.agg #[(31:Int),(28:Int),(31:Int),(30:Int),(31:Int),(30:Int),(31:Int),(31:Int),(30:Int),(31:Int),(30:Int),(31:Int)]) (.int .i64 6)).run prog w=.ok (.int .i64 31) w:=kR
theorem b0z (w:World):(Instr.index 230 (.agg #[(31:Int),(28:Int),(31:Int),(30:Int),(31:Int),(30:Int),(31:Int),(31:Int),(30:Int),(31:Int),(30:Int),(31:Int)]) (.int .i64 7)).run prog w=.ok (.int .i64 31) w:=kR
theorem b0y (w:World):(Instr.index 230 (.agg #[(31:Int),(28:Int),(31:Int),(30:Int),(31:Int),(30:Int),(31:Int),(31:Int),(30:Int),(31:Int),(30:Int),(31:Int)]) (.int .i64 8)).run prog w=.ok (.int .i64 30) w:=kR
theorem b0x (w:World):(Instr.index 230 (.agg #[(31:Int),(28:Int),(31:Int),(30:Int),(31:Int),(30:Int),(31:Int),(31:Int),(30:Int),(31:Int),(30:Int),(31:Int)]) (.int .i64 9)).run prog w=.ok (.int .i64 31) w:=kR
theorem a8P (w:World):(Instr.index 230 (.agg #[(31:Int),(28:Int),(31:Int),(30:Int),(31:Int),(30:Int),(31:Int),(31:Int),(30:Int),(31:Int),(30:Int),(31:Int)]) (.int .i64 10)).run prog w=.ok (.int .i64 30) w:=kR
theorem a8O (w:World):(Instr.index 230 (.agg #[(31:Int),(28:Int),(31:Int),(30:Int),(31:Int),(30:Int),(31:Int),(31:Int),(30:Int),(31:Int),(30:Int),(31:Int)]) (.int .i64 11)).run prog w=.ok (.int .i64 31) w:=kR
theorem b2x (h1:1<=m) (h2:m<=12) (w:World):(Instr.index 230 (.agg #[(31:Int),(28:Int),(31:Int),(30:Int),(31:Int),(30:Int),(31:Int),(31:Int),(30:Int),(31:Int),(30:Int),(31:Int)]) (.int .i64 (m-1))).run prog w=.ok (.int .i64 (Cal.tab m)) w:=by
 have hm:m=1∨m=2∨m=3∨m=4∨m=5∨m=6∨m=7∨m=8∨m=9∨m=10∨m=11∨m=12:=oM
 rcases hm with rfl | rfl | rfl | rfl | rfl | rfl | rfl | rfl | rfl | rfl | rfl | rfl
 ·exact b0F w
 ·exact a7c w
 ·exact b0E w
 ·exact b0D w
 ·exact b0C w
 ·exact b0B w
 ·exact b0A w
 ·exact b0z w
 ·exact b0y w
 ·exact b0x w
 ·exact a8P w
 ·exact a8O w

theorem a2x (hv:1900<=y/\y<=2199/\1<=m/\m<=12):CL 97 #[y,m] w (Cal.mlen y m):=by
 obtain⟨h1,h2,h3,h4⟩:=hv;have hc:=b2Z m h3 h4
 by_cases hm:m=2
 ·subst hm
  clear hc;go_enter func97,ntmps97;go_wp2_with (go_at_call 162;refine(b1m _ _ oM).mono ?_;rintro e w' ⟨rfl,rfl⟩)
  all_goals (go_ret;exact⟨a1y (by simp [Cal.mlen,Cal.tab, *]),bR.alloc lR _⟩)
 ·have hm2:(m==2)=false:=by simpa using hm
  have hr:Hid (Cal.mlen y m=Cal.tab m):=by show Cal.mlen y m=Cal.tab m;simp [Cal.mlen,hm]
  go_enter func97,ntmps97;go_wp2;go_ret;exact⟨a1y hr.symm,bR.alloc lR _⟩

theorem a2t (hv:1900<=y/\y<=2199/\1<=m/\m<=12):Calls prog 141 #[y,m] w fun e w'=>e=.returned (.int .i64 (Cal.mlen y m))/\w=w':=by
 obtain⟨h1,h2,h3,h4⟩:=hv;have hi:=b2x m h3 h4
 by_cases hm:m=2
 ·subst hm
  clear hi;have hi:=a7c w;go_enter func141,ntmps141;go_wp2_with (go_at_call 142;refine(a2r _ _ oM).mono ?_;rintro e w' ⟨rfl,rfl⟩)
  all_goals (go_ret;exact⟨a1y (by simp [Cal.mlen,Cal.tab, *]),rfl⟩)
 ·have hm2:(m==2)=false:=by simpa using hm
  have hr:Hid (Cal.mlen y m=Cal.tab m):=by show Cal.mlen y m=Cal.tab m;simp [Cal.mlen,hm]
  go_enter func141,ntmps141;go_wp2;go_ret;exact⟨a1y hr.symm,rfl⟩

theorem a9W (hv:¬ (1900<=y/\y<=2199/\1<=m/\m<=12)):CL 97 #[y,m] w (.int .i64 0):=by
 rcases(show y<1900∨(1900<=y/\2199<y)∨(1900<=y/\y<=2199/\m<1)∨(1900<=y/\y<=2199/\1<=m/\12<m) by omega) with h | ⟨h1,h2⟩ | ⟨h1,h2,h3⟩ | ⟨h1,h2,h3,h4⟩
 all_goals
  clear hv;go_enter func97,ntmps97;go_wp2;go_ret;exact⟨rfl,bR⟩

theorem a8V (hv:¬ (1900<=y/\y<=2199/\1<=m/\m<=12)):Calls prog 141 #[y,m] w fun e w'=>e=.returned (.int .i64 0)/\w=w':=by
 rcases(show m<1∨(1<=m/\12<m)∨(1<=m/\m<=12/\y<1900)∨(1<=m/\m<=12/\1900<=y/\2199<y) by omega) with h | ⟨h1,h2⟩ | ⟨h1,h2,h3⟩ | ⟨h1,h2,h3,h4⟩
 all_goals
  clear hv;go_enter func141,ntmps141;go_wp2;go_ret;exact⟨rfl,rfl⟩

theorem a5Y:CL 97 #[y,m] w (Cal.days y m):=by
 by_cases h:1900<=y/\y<=2199/\1<=m/\m<=12
 ·rw [Cal.days_in y m h];exact a2x y m w h
 ·rw [Cal.days_out y m h];exact a9W y m w h
theorem a5H:Calls prog 141 #[y,m] w fun e w'=>e=.returned (.int .i64 (Cal.days y m))/\w=w':=by
 by_cases h:1900<=y/\y<=2199/\1<=m/\m<=12
 ·rw [Cal.days_in y m h];exact a2t y m w h
 ·rw [Cal.days_out y m h];exact a8V y m w h

theorem a3e (k:Nat) (y:Int) (h1:1<=k) (h2:k<=12):Cal.cum y ((k:Int)+1)=Cal.cum y k+Cal.mlen y k:=Cal.cum_succ y k oM oM

theorem b2P (h:¬ Cal.vld y m d):CL 164 #[y,m,d] w (.tuple #[(),(2:Int)]):=by
 have hb:=Cal.days_bd y m;rw [Cal.days_vld] at h
 by_cases h1:d<1
 ·clear h
  go_enter func164,ntmps164;go_wp2
  go_ret2
  exact⟨rfl,bR⟩
 ·have h2:Cal.days y m<d:=oM
  clear h;go_enter func164,ntmps164;go_wp2_with (go_at_call 97;refine(a5Y _ _ _).mono ?_;rintro e w' ⟨rfl,hB⟩)
  go_ret2
  exact⟨rfl,hB⟩

theorem b2Q (h:Cal.vld y m d):CL 164 #[y,m,d] w (.tuple #[(Cal.num y m d),()]):=by
 have hb:=Cal.days_bd y m;have hn:=Cal.num_bd y m d h;have hn':=Cal.num_year y m d h;obtain⟨g1,g2⟩:=(Cal.days_vld y m d).1 h;obtain⟨h1,h2,h3,h4,h5,h6⟩:=h;have hy:=Cal.byear_bd y h1 oM;go_enter func164,ntmps164;go_wp2_with (first | (go_at_call 97;refine(a5Y _ _ _).mono ?_;rintro e w1 ⟨rfl,hB⟩) | (go_at_call 161;refine(a2C _ _ oM oM).mono ?_;rintro e w2 ⟨rfl,rfl⟩))
 go_loopw [8,9] (fun n i wr=>∃ k:Nat,1<=k/\(k:Int)<=m/\i=.int .i64 k/\n=.int .i64 (Cal.byear y+Cal.cum y k+d-1)/\Below w w wr) (fun _ i _=>(m-intOf i).toNat)
 case atStart=>exact⟨1,oM,oM,rfl,by simp [Cal.cum_one],hB⟩
 case round =>
  obtain⟨k,hk1,hk2,rfl,rfl,hB2⟩:=hrel;have hc:=Cal.cum_bd y k oM oM
  by_cases hlt:(k:Int)<m
  ·have hs:=Z1 (a3e k y hk1 oM)
   have hm:=Cal.mlen_bd y k;go_wp2_with (go_at_call 97;refine(a2x _ _ _ ⟨h1,h2,oM,oM⟩).mono ?_;rintro e w3 ⟨rfl,hB3⟩);go_roundw
   case rel=>exact⟨k+1,oM,oM,by go_num,by have:=hs.out;rw [show((k+1:Nat):Int)=(k:Int)+1 from rfl,this];go_num,hB2.trans (hB3.mono hB2.size)⟩
   case measure=>simp [intOf];omega
  ·obtain rfl:m=k:=oM
   go_wp2
   go_ret2
   exact⟨rfl,hB2⟩

theorem b2z (h:¬ Cal.vld y m d):Calls prog 78 #[y,m,d] w fun e w'=>e=.returned (.tuple #[(),(2:Int)])/\w=w':=by
 have hb:=Cal.days_bd y m;rw [Cal.days_vld] at h
 by_cases h1:d<1
 ·clear h
  go_enter func78,ntmps78;go_wp2
  go_ret2
  exact⟨rfl,rfl⟩
 ·have h2:Cal.days y m<d:=oM
  clear h;go_enter func78,ntmps78;go_wp2_with (go_at_call 141;refine(a5H _ _ _).mono ?_;rintro e w' ⟨rfl,rfl⟩)
  go_ret2
  exact⟨rfl,rfl⟩

theorem a6y (h:Cal.vld y m d):Calls prog 78 #[y,m,d] w fun e w'=>e=.returned (.tuple #[(Cal.num y m d),()])/\w=w':=by
 have hb:=Cal.days_bd y m;have hn:=Cal.num_bd y m d h;have hn':=Cal.num_year y m d h;obtain⟨g1,g2⟩:=(Cal.days_vld y m d).1 h;obtain⟨h1,h2,h3,h4,h5,h6⟩:=h;have hy:=Cal.byear_bd y h1 oM;go_enter func78,ntmps78;go_wp2_with (first | (go_at_call 141;refine(a5H _ _ _).mono ?_;rintro e w1 ⟨rfl,rfl⟩))
 go_loop [8,9] (fun n i=>∃ k:Nat,1900<=k/\(k:Int)<=y/\i=.int .i64 k/\n=.int .i64 (Cal.byear k)) (fun _ i=>(y-intOf i).toNat)
 case atStart=>exact⟨1900,oM,oM,rfl,rfl⟩
 case round =>
  obtain⟨k,hk1,hk2,rfl,rfl⟩:=hrel;have hc:=Cal.byear_bd k oM oM
  by_cases hlt:(k:Int)<y
  ·rcases Cal.lp_cases k with⟨hl,e⟩ | ⟨hl,e⟩
   all_goals
    have hs:=Z1 (Cal.byear_succ k);have he:=Z1 e;clear e;go_wp2_with (go_at_call 142;refine(a2r _ _ oM).mono ?_;rintro e w3 ⟨rfl,rfl⟩)
    go_round
    case rel=>exact⟨k+1,oM,oM,by go_num,by rw [show((k+1:Nat):Int)=(k:Int)+1 from rfl,hs.out,he.out];try go_num⟩
    case measure=>simp [intOf];omega
  ·obtain rfl:y=k:=oM
   go_wp2
   go_loop [8,10] (fun n i=>∃ j:Nat,1<=j/\(j:Int)<=m/\i=.int .i64 j/\n=.int .i64 (Cal.byear k+Cal.cum k j)) (fun _ i=>(m-intOf i).toNat)
   case atStart=>exact⟨1,oM,oM,rfl,by simp [Cal.cum_one]⟩
   case round =>
    obtain⟨j,hj1,hj2,rfl,rfl⟩:=hrel;have hc':=Cal.cum_bd k j oM oM
    by_cases hlt':(j:Int)<m
    ·have hs:=Z1 (a3e j k hj1 oM)
     have hm:=Cal.mlen_bd k j;go_wp2_with (go_at_call 141;refine(a2t _ _ _ ⟨h1,h2,oM,oM⟩).mono ?_;rintro e w3 ⟨rfl,rfl⟩)
     go_round
     case rel=>exact⟨j+1,oM,oM,by go_num,by rw [show((j+1:Nat):Int)=(j:Int)+1 from rfl,hs.out];go_num⟩
     case measure=>simp [intOf];omega
    ·obtain rfl:m=j:=oM
     go_wp2
     go_ret2
     exact⟨rfl,rfl⟩

end
open Tryz Go.RowKit

section
variable (y m d:Int) (w:World)
theorem a4m (h:-25567<=d/\d<=84005):Calls prog 143 #[d] w fun e w'=>∃ y m k:Int,e=.returned (.tuple #[y,m,k,()])/\Cal.vld y m k/\Cal.num y m k=d/\w=w':=by
 have hd:decide (-25567<=d/\d<=84005)=true:=decide_eq_true h;obtain⟨h1,h2⟩:=h;go_enter func143,ntmps143;go_wp2_with (go_at_call 132;refine(a7K _ _).mono ?_;rw [hd];rintro e w' ⟨rfl,rfl⟩);have Hy:=Z1 (Cal.byear_lo)
 go_loop [6,8] (fun y r=>∃ k:Nat,1900<=k/\(k:Int)<=2199/\y=.int .i64 k/\0<=d-Cal.byear k/\r=.int .i64 (d-Cal.byear k)) (fun y _=>(2200-intOf y).toNat)
 case atStart=>exact⟨1900,oM,oM,rfl,by rw [show((1900:Nat):Int)=1900 from rfl,Hy.out];omega,by rw [show((1900:Nat):Int)=1900 from rfl,Hy.out];exact congrArg (Value.int .i64) oM⟩
 case round =>
  obtain⟨y,hy1,hy2,rfl,hy3,rfl⟩:=hrel;have hs:=Cal.byear_succ y;have hb:=Cal.byear_bd y oM oM;have hyM:Hid (Cal.byear 2200=84006):=Cal.byear_hi
  rcases Cal.lp_cases y with⟨hl,e⟩ | ⟨hl,e⟩
  all_goals
   by_cases hc:365+Cal.lp y<=d-Cal.byear y
   ·have hc3:(y:Int)<2199:=by
     by_cases e':(y:Int)=2199
     ·rw [e'] at hs hc;have:=hyM.out;rw [show(2199:Int)+1=2200 from rfl] at hs;omega
     ·omega
    have Hs:=Z1 hs;have He:=Z1 e;rw [e] at hc;clear hs e;go_wp2_with (go_at_call 142;refine(a2r _ _ oM).mono ?_;rintro e w3 ⟨rfl,rfl⟩)
    go_round
    case rel=>exact⟨y+1,oM,oM,by go_num,by rw [show((y+1:Nat):Int)=(y:Int)+1 from rfl,Hs.out,He.out];omega,by rw [show((y+1:Nat):Int)=(y:Int)+1 from rfl,Hs.out,He.out];go_num⟩
    case measure=>simp [intOf];omega
   ·have hr:d-Cal.byear y<365+Cal.lp y:=oM
    have hr':=hr;have hc':=hc;rw [e] at hr' hc';clear hs e hc;go_wp2_with (go_at_call 142;refine(a2r _ _ oM).mono ?_;rintro e w3 ⟨rfl,rfl⟩)
    go_loop [7,8] (fun m r=>∃ j:Nat,1<=j/\(j:Int)<=12/\m=.int .i64 j/\0<=d-Cal.byear y-Cal.cum y j/\r=.int .i64 (d-Cal.byear y-Cal.cum y j)) (fun m _=>(12-intOf m).toNat)
    case atStart=>exact⟨1,oM,oM,rfl,by simp [Cal.cum_one];omega,by simp [Cal.cum_one]⟩
    case round =>
     obtain⟨m,hm1,hm2,rfl,hr0,rfl⟩:=hrel;have cb:=Cal.cum_bd y m oM oM;have db:=Cal.mlen_bd y m;have cs:=Z1 (a3e m y hm1 oM);have ce:=Z1 (Cal.cum_end y)
     by_cases hc:Cal.mlen y m<=d-Cal.byear y-Cal.cum y m
     ·have hm:(m:Int)<12:=by
       by_cases e:(m:Int)=12
       ·have:=cs.out;rw [e] at this hc;have:=ce.out;simp at *;omega
       ·omega
      go_wp2_with (go_at_call 141;refine(a2t _ _ _ ⟨oM,oM,oM,oM⟩).mono ?_;rintro e w3 ⟨rfl,rfl⟩)
      go_round
      case rel=>exact⟨m+1,oM,oM,by go_num,by rw [show((m+1:Nat):Int)=(m:Int)+1 from rfl,cs.out];omega,by rw [show((m+1:Nat):Int)=(m:Int)+1 from rfl,cs.out];go_num⟩
      case measure=>simp [intOf];omega
     ·go_wp2_with (go_at_call 141;refine(a2t _ _ _ ⟨oM,oM,oM,oM⟩).mono ?_;rintro e w3 ⟨rfl,rfl⟩)
      refine bodyPost_ret (a1J rfl _ _ _) rfl ?_;exact⟨y,m,_,rfl,⟨oM,oM,oM,oM,oM,oM⟩,by unfold Cal.num;omega,rfl⟩

theorem b0M (p:Int) (hv:Cal.vld y m 1) (hp:¬ (1900<=Cal.py y m p/\Cal.py y m p<=2199/\-3600<=p/\p<=3600)):Calls prog 79 #[(Cal.num y m 1),p] w fun e w'=>e=.returned (.tuple #[(),(2:Int)])/\w=w':=by
 have hn:=Cal.num_bd y m 1 hv;have Hv:=Z1 hv;obtain⟨a1,a2,a3,a4,a5,a6⟩:=hv;unfold Cal.py at hp
 rcases(show p < -3600∨(-3600<=p/\3600<p)∨(-3600<=p/\p<=3600/\(12*y+m-1+p) / 12<1900)∨(-3600<=p/\p<=3600/\1900<=(12*y+m-1+p) / 12/\2199<(12*y+m-1+p) / 12) by omega) with h | ⟨h,h'⟩ | ⟨h,h',h''⟩ | ⟨h,h',h'',h3⟩
 all_goals
  clear hp;go_enter func79,ntmps79;go_wp2_with (go_at_call 143;refine(a4m _ _ hn).mono ?_;rintro e w' ⟨y',m',k',rfl,hv',he,rfl⟩;obtain⟨rfl,rfl,rfl⟩:=Cal.num_inj _ _ _ _ _ _ hv' Hv.out he;clear he hv')
  go_ret2
  exact⟨rfl,rfl⟩
theorem b0N (p:Int) (hv:Cal.vld y m 1) (hp:1900<=Cal.py y m p/\Cal.py y m p<=2199/\-3600<=p/\p<=3600):Calls prog 79 #[(Cal.num y m 1),p] w fun e w'=>e=.returned (.tuple #[(Cal.first y m p),()])/\w=w':=by
 have hn:=Cal.num_bd y m 1 hv;have Hv:=Z1 hv;obtain⟨a1,a2,a3,a4,a5,a6⟩:=hv;unfold Cal.first;obtain⟨h1,h2,h3,h4⟩:=hp;have h5:1<=Cal.pm y m p/\Cal.pm y m p<=12:=by unfold Cal.pm;omega
 have h6:=Cal.mlen_bd (Cal.py y m p) (Cal.pm y m p);have h7:Cal.vld (Cal.py y m p) (Cal.pm y m p) 1:=⟨h1,h2,h5.1,h5.2,oM,oM⟩;have H7:=Z1 h7;clear h7;unfold Cal.py Cal.pm at *;go_enter func79,ntmps79;go_wp2_with (first | (go_at_call 143;refine(a4m _ _ hn).mono ?_;rintro e w' ⟨y',m',k',rfl,hv',he,rfl⟩;obtain⟨rfl,rfl,rfl⟩:=Cal.num_inj _ _ _ _ _ _ hv' Hv.out he;clear he hv') | (go_at_call 141;refine(a2t _ _ _ ⟨oM,oM,oM,oM⟩).mono ?_;rintro e w3 ⟨rfl,rfl⟩) | (go_at_call 78;refine(a6y _ _ _ _ H7.out).mono ?_;rintro e w4 ⟨rfl,rfl⟩))
 go_ret2
 exact⟨rfl,rfl⟩
end
section
variable (Y M N p:Int) (w:World)

theorem a7P (hv:¬ Cal.vld Y M 1):CL 41 #[.agg #[Y,M,N],p] w (.tuple #[(),(2:Int)]):=by
 go_enter func41,ntmps41;go_wp2_with (go_at_call 78;refine(b2z _ _ _ _ hv).mono ?_;rintro e w4 ⟨rfl,rfl⟩)
 go_ret2
 exact⟨rfl,bR.alloc lR _⟩
theorem a6z (hv:Cal.vld Y M 1) (hp:¬ (1900<=Cal.py Y M p/\Cal.py Y M p<=2199/\-3600<=p/\p<=3600)):CL 41 #[.agg #[Y,M,N],p] w (.tuple #[(),(2:Int)]):=by
 have Hp:=Z1 hp;clear hp;go_enter func41,ntmps41;go_wp2_with (first | (go_at_call 78;refine(a6y _ _ _ _ hv).mono ?_;rintro e w4 ⟨rfl,rfl⟩) | (go_at_call 79;refine(b0M _ _ _ _ hv Hp.out).mono ?_;rintro e w4 ⟨rfl,rfl⟩))
 go_ret2
 exact⟨rfl,bR.alloc lR _⟩
theorem a4l (hv:Cal.vld Y M 1) (hp:1900<=Cal.py Y M p/\Cal.py Y M p<=2199/\-3600<=p/\p<=3600):CL 41 #[.agg #[Y,M,N],p] w (.tuple #[(Cal.first Y M p),()]):=by
 have Hp:=Z1 hp;clear hp;go_enter func41,ntmps41;go_wp2_with (first | (go_at_call 78;refine(a6y _ _ _ _ hv).mono ?_;rintro e w4 ⟨rfl,rfl⟩) | (go_at_call 79;refine(b0N _ _ _ _ hv Hp.out).mono ?_;rintro e w4 ⟨rfl,rfl⟩))
 go_ret2
 exact⟨rfl,bR.alloc lR _⟩

theorem vld1 (h:1900<=Y/\Y<=2199/\1<=M/\M<=12):Cal.vld Y M 1:=by
 have:=Cal.mlen_bd Y M;exact⟨h.1,h.2.1,h.2.2.1,h.2.2.2,oM,oM⟩

theorem a3t:CL 77 #[.agg #[Y,M,N]] w (Cal.ok Y M N):=by
 rcases(show N<1∨(1<=N/\120<N)∨(1<=N/\N<=120) by omega) with h | ⟨h,h'⟩ | ⟨h,h'⟩
 ·have H:Hid (Cal.ok Y M N=false):=by show Cal.ok Y M N=false;simp [Cal.ok];omega
  go_enter func77,ntmps77;go_wp2;go_ret;exact⟨VZ H.out.symm,bR.alloc lR _⟩
 ·have H:Hid (Cal.ok Y M N=false):=by show Cal.ok Y M N=false;simp [Cal.ok];omega
  go_enter func77,ntmps77;go_wp2;go_ret;exact⟨VZ H.out.symm,bR.alloc lR _⟩
 ·by_cases hv:Cal.vld Y M 1
  ·by_cases hp:Cal.py Y M (N-1)<=2199
   ·have hq:1900<=Cal.py Y M (N-1)/\Cal.py Y M (N-1)<=2199/\-3600<=N-1/\N-1<=3600:=by obtain⟨a,b,c,_⟩:=hv;refine⟨?_,hp,oM,oM⟩;unfold Cal.py;omega
    have H:Hid (Cal.ok Y M N=true):=by show Cal.ok Y M N=true;obtain⟨a,b,c,d,_⟩:=hv;rw [Cal.ok_iff];exact⟨c,d,h,h',a,b,hp⟩
    have Hq:=Z1 hq;clear hq hp;go_enter func77,ntmps77;go_wp2_with (go_at_call 41;refine(a4l _ _ _ _ _ hv Hq.out).mono ?_;rintro e w4 ⟨rfl,hB⟩);go_ret;exact⟨VZ H.out.symm,(bR.alloc lR _).trans (hB.mono sP)⟩
   ·have hq:¬ (1900<=Cal.py Y M (N-1)/\Cal.py Y M (N-1)<=2199/\-3600<=N-1/\N-1<=3600):=oM
    have H:Hid (Cal.ok Y M N=false):=by show Cal.ok Y M N=false;simp [Cal.ok];omega
    have Hq:=Z1 hq;clear hq hp;go_enter func77,ntmps77;go_wp2_with (go_at_call 41;refine(a6z _ _ _ _ _ hv Hq.out).mono ?_;rintro e w4 ⟨rfl,hB⟩);go_ret;exact⟨VZ H.out.symm,(bR.alloc lR _).trans (hB.mono sP)⟩
  ·have H:Hid (Cal.ok Y M N=false):=by
    show Cal.ok Y M N=false;rw [Bool.eq_false_iff];intro hok;rw [Cal.ok_iff] at hok;exact hv (vld1 Y M ⟨oM,oM,oM,oM⟩)
   go_enter func77,ntmps77;go_wp2_with (go_at_call 41;refine(a7P _ _ _ _ _ hv).mono ?_;rintro e w4 ⟨rfl,hB⟩);go_ret;exact⟨VZ H.out.symm,(bR.alloc lR _).trans (hB.mono sP)⟩

theorem a8q (h:1<=M/\M<=12/\1900<=Y/\Y<=2199/\0<=p/\p<=120) (hp:2199<Cal.py Y M p):CL 99 #[.agg #[Y,M,N],p] w (.tuple #[(),(2:Int)]):=by
 obtain⟨h1,h2,h3,h4,h5,h6⟩:=h
 have hv:Hid (¬ Cal.vld ((12*Y+M-1+p) / 12) ((12*Y+M-1+p) % 12+1) 1):=by
  show ¬ _;rintro⟨_,a,_⟩;unfold Cal.py at hp;omega
 clear hp;go_enter func99,ntmps99;go_wp2_with (go_at_call 164;refine(b2P _ _ _ _ hv.out).mono ?_;rintro e w4 ⟨rfl,hB⟩)
 go_ret2
 exact⟨rfl,(bR.alloc lR _).trans (hB.mono sP)⟩
theorem a2K (h:1<=M/\M<=12/\1900<=Y/\Y<=2199/\0<=p/\p<=120) (hp:Cal.py Y M p<=2199):CL 99 #[.agg #[Y,M,N],p] w (.tuple #[(Cal.first Y M p),()]):=by
 obtain⟨h1,h2,h3,h4,h5,h6⟩:=h
 have hv:Hid (Cal.vld ((12*Y+M-1+p) / 12) ((12*Y+M-1+p) % 12+1) 1):=by
  have:=Cal.mlen_bd ((12*Y+M-1+p) / 12) ((12*Y+M-1+p) % 12+1);unfold Cal.py at hp;exact⟨oM,oM,oM,oM,oM,oM⟩
 clear hp;unfold Cal.first Cal.py Cal.pm;go_enter func99,ntmps99;go_wp2_with (go_at_call 164;refine(b2Q _ _ _ _ hv.out).mono ?_;rintro e w4 ⟨rfl,hB⟩)
 go_ret2
 exact⟨rfl,(bR.alloc lR _).trans (hB.mono sP)⟩

theorem a0U:CL 163 #[.agg #[Y,M,N]] w (Cal.ok Y M N):=by
 rcases(show M<1∨(1<=M/\12<M)∨(1<=M/\M<=12/\N<1)∨(1<=M/\M<=12/\1<=N/\120<N)∨(1<=M/\M<=12/\1<=N/\N<=120/\Y<1900)∨(1<=M/\M<=12/\1<=N/\N<=120/\1900<=Y/\2199<Y)∨(1<=M/\M<=12/\1<=N/\N<=120/\1900<=Y/\Y<=2199) by omega) with h | ⟨h1,h2⟩ | ⟨h1,h2,h3⟩ | ⟨h1,h2,h3,h4⟩ | ⟨h1,h2,h3,h4,h5⟩ | ⟨h1,h2,h3,h4,h5,h6⟩ | ⟨h1,h2,h3,h4,h5,h6⟩
 case inr.inr.inr.inr.inr.inr =>
  by_cases hp:Cal.py Y M (N-1)<=2199
  ·have H:Hid (Cal.ok Y M N=true):=(Cal.ok_iff Y M N).2 ⟨h1,h2,h3,h4,h5,h6,hp⟩
   have Hp:=Z1 hp;clear hp;go_enter func163,ntmps163;go_wp2_with (go_at_call 99;refine(a2K _ _ _ _ _ ⟨h1,h2,h5,h6,oM,oM⟩ Hp.out).mono ?_;rintro e w4 ⟨rfl,hB⟩);go_ret;exact⟨VZ H.out.symm,(bR.alloc lR _).trans (hB.mono sP)⟩
  ·have H:Hid (Cal.ok Y M N=false):=by show Cal.ok Y M N=false;simp [Cal.ok];omega
   have Hp:Hid (2199<Cal.py Y M (N-1)):=by show _<_;omega
   clear hp;go_enter func163,ntmps163;go_wp2_with (go_at_call 99;refine(a8q _ _ _ _ _ ⟨h1,h2,h5,h6,oM,oM⟩ Hp.out).mono ?_;rintro e w4 ⟨rfl,hB⟩);go_ret;exact⟨VZ H.out.symm,(bR.alloc lR _).trans (hB.mono sP)⟩
 all_goals
  have H:Hid (Cal.ok Y M N=false):=by show Cal.ok Y M N=false;simp [Cal.ok];omega
  go_enter func163,ntmps163;go_wp2;go_ret;exact⟨VZ H.out.symm,bR.alloc lR _⟩

end
open Tryz Go.RowKit

section
variable (y m d:Int) (w:World)
theorem a8r (h:¬ (-25567<=d/\d<=84005)):Calls prog 96 #[d] w fun e w'=>e=.returned (.tuple #[(),(),(),(2:Int)])/\w=w':=by
 have hd:decide (-25567<=d/\d<=84005)=false:=decide_eq_false h;go_enter func96,ntmps96;go_wp2_with (go_at_call 101;refine(a0P _ _).mono ?_;rw [hd];rintro e w' ⟨rfl,rfl⟩);refine bodyPost_ret (a1J rfl _ _ _) rfl ?_;exact⟨rfl,rfl⟩

theorem a4C (h:-25567<=d/\d<=84005):Calls prog 96 #[d] w fun e w'=>∃ y m k:Int,e=.returned (.tuple #[y,m,k,()])/\Cal.vld y m k/\Cal.num y m k=d/\Below w w w':=by
 have hd:decide (-25567<=d/\d<=84005)=true:=decide_eq_true h;obtain⟨h1,h2⟩:=h
 have g0:Cal.byear (1970+d.tdiv 366-2)<=d∨1970+d.tdiv 366-2<1900:=by
  unfold Cal.byear
  rcases Int.lt_or_le d 0 with hn | hn
  ·obtain⟨k,rfl⟩:∃ k:Nat,d=-(k:Int):=⟨d.natAbs,oM⟩
   rw [Int.neg_tdiv,Int.tdiv_eq_ediv_of_nonneg oM];omega
  ·rw [Int.tdiv_eq_ediv_of_nonneg hn];omega
 have g1:1896<=1970+d.tdiv 366-2/\1970+d.tdiv 366-2<=2199:=by
  rcases Int.lt_or_le d 0 with hn | hn
  ·obtain⟨k,rfl⟩:∃ k:Nat,d=-(k:Int):=⟨d.natAbs,oM⟩
   rw [Int.neg_tdiv,Int.tdiv_eq_ediv_of_nonneg oM];omega
  ·rw [Int.tdiv_eq_ediv_of_nonneg hn];omega
 obtain⟨q,hq⟩:∃ q,d.tdiv 366=q:=⟨_,rfl⟩;rw [hq] at g0 g1;have Hq:=Z1 hq;clear hq;go_enter func96,ntmps96;go_wp2_with (go_at_call 101;refine(a0P _ _).mono ?_;rw [hd];rintro e w' ⟨rfl,rfl⟩);rw [Hq.out,IntWalk.wrap64_in (1970+q) oM,IntWalk.wrap64_in (1970+q-2) oM];have Hy:=Z1 (Cal.byear_lo)
 go_loopw [2] (fun y wr=>∃ k:Nat,1896<=k/\(k:Int)<=2199/\y=.int .i64 k/\(Cal.byear k<=d∨(k:Int)<1900)/\w=wr) (fun y _=>(2200-intOf y).toNat)
 case atStart=>exact⟨(1970+q-2).toNat,oM,oM,by congr 1;omega,by rw [Int.toNat_of_nonneg oM];exact g0,rfl⟩
 case round =>
  obtain⟨y,hy1,hy2,rfl,hy3,rfl⟩:=hrel;have b1:=Cal.byear_bd (y+1)
  by_cases hc:(y:Int)<1900
  ·go_wp2_with (go_at_call 161;refine(a2C _ _ oM oM).mono ?_;rintro e w' ⟨rfl,rfl⟩)
   go_roundw
   case rel =>
    refine⟨y+1,oM,oM,by go_num,?_,trivial⟩
    by_cases h9:(y:Int)=1899
    ·left;rw [show((y+1:Nat):Int)=1900 by omega,Hy.out];omega
    ·right;omega
   case measure=>simp [intOf];omega
  ·by_cases hc2:Cal.byear (y+1)<=d
   ·have hc3:(y:Int)<2199:=by
     by_cases e:(y:Int)=2199
     ·rw [e] at hc2;have:=Cal.byear_hi;simp at hc2;omega
     ·omega
    go_wp2_with (go_at_call 161;refine(a2C _ _ oM oM).mono ?_;rintro e w' ⟨rfl,rfl⟩);go_roundw
    case rel=>exact⟨y+1,oM,oM,by go_num,.inl hc2,trivial⟩
    case measure=>simp [intOf];omega
   ·have hz:Cal.byear y<=d:=oM
    have hl:=Cal.lp_01 y;have hs:=Cal.byear_succ y;have hb:=Cal.byear_bd y oM oM;have hr:d-Cal.byear y<365+Cal.lp y:=oM;clear hs hy3 b1 g0;go_wp2_with (go_at_call 161;refine(a2C _ _ oM oM).mono ?_;rintro e w' ⟨rfl,rfl⟩)
    go_loopw [3,4] (fun m r wr=>∃ j:Nat,1<=j/\(j:Int)<=12/\m=.int .i64 j/\0<=d-Cal.byear y-Cal.cum y j/\r=.int .i64 (d-Cal.byear y-Cal.cum y j)/\Below w w wr) (fun m _ _=>(12-intOf m).toNat)
    case atStart=>exact⟨1,oM,oM,rfl,by simp [Cal.cum_one];omega,by simp [Cal.cum_one],bR⟩
    case round =>
     obtain⟨m,hm1,hm2,rfl,hr0,rfl,hB⟩:=hrel;have cb:=Cal.cum_bd y m oM oM;have db:=Cal.mlen_bd y m;have cs:=Z1 (a3e m y hm1 oM);have ce:=Z1 (Cal.cum_end y)
     by_cases hc:Cal.mlen y m<=d-Cal.byear y-Cal.cum y m
     ·have hm:(m:Int)<12:=by
       by_cases e:(m:Int)=12
       ·have:=cs.out;rw [e] at this hc;have:=ce.out;simp at *;omega
       ·omega
      go_wp2_with (go_at_call 97;refine(a2x _ _ _ ⟨oM,oM,oM,oM⟩).mono ?_;rintro e w3 ⟨rfl,hB3⟩;replace hB:=hB.trans (hB3.mono hB.size);clear hB3);go_roundw
      case rel=>exact⟨m+1,oM,oM,by go_num,by rw [show((m+1:Nat):Int)=(m:Int)+1 from rfl,cs.out];omega,by rw [show((m+1:Nat):Int)=(m:Int)+1 from rfl,cs.out];go_num,hB⟩
      case measure=>simp [intOf];omega
     ·go_wp2_with (go_at_call 97;refine(a2x _ _ _ ⟨oM,oM,oM,oM⟩).mono ?_;rintro e w3 ⟨rfl,hB3⟩)
      refine bodyPost_ret (a1J rfl _ _ _) rfl ?_;exact⟨y,m,_,rfl,⟨oM,oM,oM,oM,oM,oM⟩,by unfold Cal.num;omega,hB.trans (hB3.mono hB.size)⟩
end
section
variable (Y M N p:Int) (w:World)
theorem a4n:CL 37 #[.agg #[Y,M,N],p] w (Cal.err Y M N p):=by
 by_cases hok:Cal.ok Y M N=true
 ·rcases(show p<0∨(0<=p/\N<=p)∨(0<=p/\p<N) by omega) with h | ⟨h,h'⟩ | ⟨h,h'⟩
  all_goals
   have H:Hid (Cal.err Y M N p=if p<0∨N<=p then 2 else 0):=by show Cal.err Y M N p=_;simp [Cal.err,hok]
   go_enter func37,ntmps37;go_wp2_with (go_at_call 77;refine(a3t _ _ _ _).mono ?_;rw [hok];rintro e w4 ⟨rfl,hB⟩;obtain⟨hc,hf⟩:=bcell hB);go_ret;refine⟨a1y ?_,(bR.alloc lR _).trans (hB.mono sP)⟩;rw [H.out];split <;> omega
 ·have hok':Cal.ok Y M N=false:=by simpa using hok
  have H:Hid (Cal.err Y M N p=1):=by show Cal.err Y M N p=_;simp [Cal.err,hok']
  clear hok;go_enter func37,ntmps37;go_wp2_with (go_at_call 77;refine(a3t _ _ _ _).mono ?_;rw [hok'];rintro e w4 ⟨rfl,hB⟩);go_ret;exact⟨a1y H.out.symm,(bR.alloc lR _).trans (hB.mono sP)⟩

theorem a4o (h:Cal.err Y M N p=0):CL 18 #[.agg #[Y,M,N],p] w (.tuple #[(Cal.first Y M p),()]):=by
 have hok:=(Cal.err_zero Y M N p).1 h;have hv:=Cal.pvld Y M N p hok.1 hok.2.1 hok.2.2;have hi:=(Cal.ok_iff Y M N).1 hok.1;have HV:Hid (Cal.vld Y M 1):=vld1 Y M ⟨oM,oM,oM,oM⟩;have HP:Hid (1900<=Cal.py Y M p/\Cal.py Y M p<=2199/\-3600<=p/\p<=3600):=⟨hv.1,hv.2.1,oM,oM⟩;clear hok hv hi;go_enter func18,ntmps18;go_wp2_with (first | (go_at_call 37;refine(a4n _ _ _ _ _).mono ?_;rw [h];rintro e w4 ⟨rfl,hB⟩;obtain⟨hc,hf⟩:=bcell hB) | (go_at_call 41;refine(a4l _ _ _ _ _ HV.out HP.out).mono ?_;rintro e w5 ⟨rfl,hB5⟩))
 go_ret2
 exact⟨rfl,((bR.alloc lR _).trans (hB.mono sP)).trans (hB5.mono (by have:=hB.size;simp at this;omega))⟩
theorem a2L:CL 98 #[.agg #[Y,M,N],p] w (Cal.err Y M N p):=by
 by_cases hok:Cal.ok Y M N=true
 ·rcases(show p<0∨(0<=p/\N<=p)∨(0<=p/\p<N) by omega) with h | ⟨h,h'⟩ | ⟨h,h'⟩
  all_goals
   have H:Hid (Cal.err Y M N p=if p<0∨N<=p then 2 else 0):=by show Cal.err Y M N p=_;simp [Cal.err,hok]
   go_enter func98,ntmps98;go_wp2_with (go_at_call 163;refine(a0U _ _ _ _).mono ?_;rw [hok];rintro e w4 ⟨rfl,hB⟩;obtain⟨hc,hf⟩:=bcell hB);go_ret;refine⟨a1y ?_,(bR.alloc lR _).trans (hB.mono sP)⟩;rw [H.out];split <;> omega
 ·have hok':Cal.ok Y M N=false:=by simpa using hok
  have H:Hid (Cal.err Y M N p=1):=by show Cal.err Y M N p=_;simp [Cal.err,hok']
  clear hok;go_enter func98,ntmps98;go_wp2_with (go_at_call 163;refine(a0U _ _ _ _).mono ?_;rw [hok'];rintro e w4 ⟨rfl,hB⟩);go_ret;exact⟨a1y H.out.symm,(bR.alloc lR _).trans (hB.mono sP)⟩

theorem a4D (h:Cal.err Y M N p≠0):CL 95 #[.agg #[Y,M,N],p] w (.tuple #[(),(Cal.err Y M N p)]):=by
 have hn:(Cal.err Y M N p != 0)=true:=by simpa using h
 go_enter func95,ntmps95;go_wp2_with (go_at_call 98;refine(a2L _ _ _ _ _).mono ?_;rintro e w4 ⟨rfl,hB⟩;obtain⟨hc,hf⟩:=bcell hB)
 go_ret2
 exact⟨rfl,(bR.alloc lR _).trans (hB.mono sP)⟩
theorem a4E (h:Cal.err Y M N p=0):CL 95 #[.agg #[Y,M,N],p] w (.tuple #[(Cal.first Y M p),()]):=by
 have hok:=(Cal.err_zero Y M N p).1 h;have hv:=Cal.pvld Y M N p hok.1 hok.2.1 hok.2.2;have hi:=(Cal.ok_iff Y M N).1 hok.1;have HV:Hid (1<=M/\M<=12/\1900<=Y/\Y<=2199/\0<=p/\p<=120):=⟨oM,oM,oM,oM,oM,oM⟩;have HP:Hid (Cal.py Y M p<=2199):=hv.2.1;clear hok hv hi;go_enter func95,ntmps95;go_wp2_with (first | (go_at_call 98;refine(a2L _ _ _ _ _).mono ?_;rw [h];rintro e w4 ⟨rfl,hB⟩;obtain⟨hc,hf⟩:=bcell hB) | (go_at_call 99;refine(a2K _ _ _ _ _ HV.out HP.out).mono ?_;rintro e w5 ⟨rfl,hB5⟩))
 go_ret2
 exact⟨rfl,((bR.alloc lR _).trans (hB.mono sP)).trans (hB5.mono (by have:=hB.size;simp at this;omega))⟩
theorem a3Q (h:Cal.err Y M N p≠0):CL 50 #[.agg #[Y,M,N],p] w (.tuple #[(),(Cal.err Y M N p)]):=by
 have hn:(Cal.err Y M N p != 0)=true:=by simpa using h
 go_enter func50,ntmps50;go_wp2_with (go_at_call 95;refine(a4D _ _ _ _ _ h).mono ?_;rintro e w4 ⟨rfl,hB⟩;obtain⟨hc,hf⟩:=bcell hB)
 go_ret2
 exact⟨rfl,(bR.alloc lR _).trans (hB.mono sP)⟩
theorem a2y (h:Cal.err Y M N p=0):CL 50 #[.agg #[Y,M,N],p] w (.tuple #[(Cal.last Y M p),()]):=by
 have hok:=(Cal.err_zero Y M N p).1 h;have hv:=Cal.pvld Y M N p hok.1 hok.2.1 hok.2.2;have hf0:=Cal.first_bd Y M N p hok.1 hok.2.1 hok.2.2;have HF:=Z1 (Cal.first_vld Y M N p hok.1 hok.2.1 hok.2.2);have H:Hid (Cal.err Y M N p=0):=h;have HL:Hid (Cal.last Y M p=Cal.first Y M p+Cal.mlen (Cal.py Y M p) (Cal.pm Y M p)-1):=rfl;have hm:=Cal.mlen_bd (Cal.py Y M p) (Cal.pm Y M p);clear hok h;go_enter func50,ntmps50;go_wp2_with (first | (go_at_call 95;refine(a4E _ _ _ _ _ H.out).mono ?_;rintro e w4 ⟨rfl,hB⟩;obtain⟨hc,hf⟩:=bcell hB) | (go_at_call 96;refine(a4C _ _ oM).mono ?_;rintro e w5 ⟨y',m',k',rfl,hv',he,hB5⟩;obtain⟨rfl,rfl,rfl⟩:=Cal.num_inj _ _ _ _ _ _ hv' HF.out he;clear he hv') | (go_at_call 97;refine(a2x _ _ _ ⟨oM,oM,oM,oM⟩).mono ?_;rintro e w6 ⟨rfl,hB6⟩))
 go_ret2
 have s1:=hB.size;have s5:=hB5.size;simp at s1;exact⟨by rw [HL.out];rfl,(((bR.alloc lR _).trans (hB.mono sP)).trans (hB5.mono oM)).trans (hB6.mono oM)⟩
end
open Tryz Go.RowKit

def RatesAt (w:World) (B:Nat) (A:Option Addr) (rs:List Rt):Prop :=
 rs=[]∨∃ b o,A=some ⟨b,o,none⟩/\b<B/\∀ k (h:k<rs.length),
  w.cell? ⟨b,o+k*4,none⟩=some (.string rs[k].cur)/\w.cell? ⟨b,o+k*4+1,none⟩=some (.int .i64 rs[k].kind) /\
  w.cell? ⟨b,o+k*4+2,none⟩=some (.int .i64 rs[k].when_)/\w.cell? ⟨b,o+k*4+3,none⟩=some (.int .i64 rs[k].val)

theorem RatesAt.below {w w':World} {B C:Nat} {A:Option Addr} {rs:List Rt} (h:RatesAt w B A rs) (hb:Below C w w') (hC:B<=C):RatesAt w' B A rs:=by
 rcases h with h | ⟨b,o,e,hl,hc⟩
 ·exact .inl h
 ·refine .inr ⟨b,o,e,hl,fun k hk=>?_⟩
  obtain⟨h0,h1,h2,h3⟩:=hc k hk;exact⟨(hb.cell (p:=⟨b,_,none⟩) (Nat.lt_of_lt_of_le hl hC)).trans h0,(hb.cell (p:=⟨b,_,none⟩) (Nat.lt_of_lt_of_le hl hC)).trans h1,(hb.cell (p:=⟨b,_,none⟩) (Nat.lt_of_lt_of_le hl hC)).trans h2,(hb.cell (p:=⟨b,_,none⟩) (Nat.lt_of_lt_of_le hl hC)).trans h3⟩
theorem RatesAt.more {w:World} {B C:Nat} {A:Option Addr} {rs:List Rt} (h:RatesAt w B A rs) (hC:B<=C):RatesAt w C A rs:=by
 rcases h with h | ⟨b,o,e,hl,hc⟩
 ·exact .inl h
 ·exact .inr ⟨b,o,e,oM,hc⟩
theorem RatesAt.look {w:World} {B:Nat} {A:Option Addr} {rs:List Rt} (h:RatesAt w B A rs) {k:Nat} (hk:k<rs.length) :
  ∃ b o,A=some ⟨b,o,none⟩/\b<B/\w.cell? ⟨b,o+k*4,none⟩=some (.string rs[k].cur)/\w.cell? ⟨b,o+k*4+1,none⟩=some (.int .i64 rs[k].kind) /\
  w.cell? ⟨b,o+k*4+2,none⟩=some (.int .i64 rs[k].when_)/\w.cell? ⟨b,o+k*4+3,none⟩=some (.int .i64 rs[k].val):=by
 rcases h with h | ⟨b,o,e,hl,hc⟩
 ·subst h;simp at hk
 ·exact⟨b,o,e,hl,hc k hk⟩

section
variable (w:World)
theorem a9i (a1:ByteArray) (a2 a3 a4:Int) :
  CL 90 #[.agg #[.string a1,a2,a3,a4]] w (.agg #[.string a1,a2,a3]):=by
 go_enter func90,ntmps90;go_wp2;refine bodyPost_ret (v:=.agg #[.string a1,a2,a3]) (by simp [results,results90,go_sem]) rfl ⟨rfl,?_⟩;exact(bR.alloc lR _).alloc sP _

theorem a5X (A:Option Addr) (n c:Nat) (rs:List Rt) (cur:ByteArray) (kind when_:Int) (hl:rs.length=n) (hn:n<=1000) (h:RatesAt w w A rs) :
  CL 220 #[.slice A n c,.string cur,kind,when_] w (.tuple #[((Rates.find rs cur kind when_).getD 0:Int),.bool (Rates.find rs cur kind when_).isSome]):=by
 subst hl;go_enter func220,ntmps220;go_wp2
 go_loopw [14] (fun i wr=>∃ k:Nat,k<=rs.length/\i=.int .i64 k/\Rates.find (rs.take k) cur kind when_=none/\Below w w wr) (fun i _=>rs.length-(intOf i).toNat)
 case atStart=>exact⟨0,Nat.zero_le _,rfl,rfl,bR⟩
 case round =>
  obtain⟨k,hk,rfl,hno,hb⟩:=hrel
  by_cases hlt:k<rs.length
  ·obtain⟨b,o,rfl,hbB,c0,c1,c2,c3⟩:=(h.below hb lR).look hlt
   have hbw:b<wr.heap.size:=Nat.lt_of_lt_of_le hbB hb.size;have Hno:=Z1 hno;have hz:=hb.size;clear hno;go_wp2_with (go_at_call 90;refine(a9i _ _ _ _ _).mono ?_;rintro e w4 ⟨rfl,hB⟩;obtain⟨hc,hf⟩:=bcell hB)
   all_goals first
    | (
     go_ret2
     exact⟨by rw [Rates.find_hit rs cur kind when_ k hlt Hno.out (by simp [Rt.at_, *])];rfl,(hb.alloc hb.size _).trans (hB.mono sO)⟩)
    | (
     go_roundw
     case rel=>exact⟨k+1,oM,by go_num,Rates.find_miss rs cur kind when_ k hlt Hno.out (by simp [Rt.at_, *]),(hb.alloc hb.size _).trans (hB.mono sO)⟩
     case measure=>simp [intOf];omega)
  ·obtain rfl:k=rs.length:=oM
   rw [List.take_length] at hno;have Hno:=Z1 hno;clear hno;go_wp2
   go_ret2
   exact⟨by rw [Hno.out];rfl,hb⟩
end
open Tryz Go.RowKit

theorem allTake (l:List UInt8) (p:UInt8->Bool) (k:Nat) (h:k<l.length):(l.take (k+1)).all p=((l.take k).all p&&p l[k]):=by
 rw [tse h,List.all_append];simp
theorem allMiss (l:List UInt8) (p:UInt8->Bool) (k:Nat) (h:k<l.length) (hp:p l[k]=false):l.all p=false:=by
 rw [List.all_eq_false];exact⟨l[k],List.getElem_mem h,by simp [hp]⟩

section
variable (w:World)
theorem a9v (x:Int):Calls prog 156 #[.int .u8 x] w fun e w'=>e=.returned (.bool (!decide (65<=x/\x<=90)))/\w=w':=by
 go_enter func156,ntmps156;go_wp2
 all_goals (go_ret;exact⟨VZ (by rw [Bool.eq_iff_iff];simp <;> omega),rfl⟩)

theorem a5P (b n c:Nat) (s:ByteArray) (hn:s.size=n) (hs:n<=100) (hc:∀ j (h:j<s.size),w.cell? ⟨b,j,none⟩=some (.int .u8 (s[j].toNat:Int))) :
  Calls prog 207 #[.slice (some ⟨b,0,none⟩) n c,.func (.func 156) #[] #[]] w fun e w'=>∃ i:Int,e=.returned (.int .i64 i)/\(0<=i ↔ Rates.allUp s=false)/\w=w':=by
 subst hn;have hsz:s.data.toList.length=s.size:=sP;go_enter func207,ntmps207;go_wp2
 go_loop [8] (fun i=>∃ k:Nat,k<=s.size/\i=.int .i64 k/\(s.data.toList.take k).all Rates.upper=true) (fun i=>s.size-(intOf i).toNat)
 case atStart=>exact⟨0,Nat.zero_le _,rfl,rfl⟩
 case round =>
  obtain⟨k,hk,rfl,ha⟩:=hrel;have Ha:=Z1 ha;clear ha
  by_cases hlt:k<s.size
  ·have hg:s.data.toList[k]' oM=s[k]:=rfl
   have hck:=hc k hlt
   by_cases h1:Rates.upper s[k]=true
   ·have hd:decide (65<=(s[k].toNat:Int)/\(s[k].toNat:Int)<=90)=true:=h1
    have hf:Hid ((s.data.toList.take (k+1)).all Rates.upper=true):=by
     show _=true;rw [allTake _ _ k oM,Ha.out,hg,h1];rfl
    clear hg h1;go_wp2_with (go_at_call 156;refine(a9v _ _).mono ?_;rw [hd];rintro e w4 ⟨rfl,rfl⟩)
    go_round
    case rel=>exact⟨k+1,oM,by go_num,hf.out⟩
    case measure=>simp [intOf];omega
   ·have h1':Rates.upper s[k]=false:=by simpa using h1
    have hd:decide (65<=(s[k].toNat:Int)/\(s[k].toNat:Int)<=90)=false:=h1';have hf:Hid (Rates.allUp s=false):=allMiss _ _ k oM (by rw [hg];exact h1');clear hg h1 h1';go_wp2_with (go_at_call 156;refine(a9v _ _).mono ?_;rw [hd];rintro e w4 ⟨rfl,rfl⟩);go_ret;exact⟨_,rfl,⟨fun _=>hf.out,fun _=>oM⟩,rfl⟩
  ·obtain rfl:k=s.size:=oM
   clear hc;go_wp2;go_ret;refine⟨_,rfl,⟨fun h=>oM,fun h=>?_⟩,rfl⟩;have h':=Ha.out;rw [List.take_of_length_le oM] at h';exact absurd h (by unfold Rates.allUp;rw [h'];simp)

theorem a6d (b n c:Nat) (s:ByteArray) (hn:s.size=n) (hs:n<=100) (hc:∀ j (h:j<s.size),w.cell? ⟨b,j,none⟩=some (.int .u8 (s[j].toNat:Int))) :
  Calls prog 155 #[.slice (some ⟨b,0,none⟩) n c,.func (.func 156) #[] #[]] w fun e w'=>e=.returned (.bool (!Rates.allUp s))/\w=w':=by
 have H:=Z1 (a5P w b n c s hn hs hc);clear hc;go_enter func155,ntmps155;go_wp2_with (go_at_call 207;refine H.out.mono ?_;rintro e w4 ⟨i,rfl,hi,rfl⟩);go_ret;refine⟨VZ ?_,rfl⟩;rw [Bool.eq_iff_iff]
 try simp only [decide_eq_true_eq,Bool.not_eq_true',hi]

theorem a2i (s:ByteArray) (_hs:s.size<=maxLen):CL 91 #[.string s] w (Rates.isCur s):=by
 by_cases h3:s.size=3
 ·have hconv:=fun W=>run_bytes_of_string (P:=prog) W 9 154 5 s underlying9 underlying154 underlying5
  have hr:Hid (Rates.isCur s=Rates.allUp s):=by show _=_;unfold Rates.isCur;simp [h3]
  have h3':((s.size:Int)==3)=true:=by rw [h3];rfl
  have h4:s.size<=100:=oM;clear h3;go_enter func91,ntmps91;go_wp2_with (fail);refine(a6d _ _ _ _ s rfl h4 ?_).mono ?_
  ·intro j hj
   show(w.alloc _).cell? _=_;rw [cr9 _ (heap_alloc_new w _)];exact bytesRow_at s _ j hj
  rintro e w4 ⟨rfl,rfl⟩;go_wp2;go_ret;exact⟨VZ (by rw [hr.out];try simp),(bR.alloc lR _).drew⟩
 ·have hr:Hid (Rates.isCur s=false):=by show _=_;unfold Rates.isCur;simp [h3]
  have h3':((s.size:Int)==3)=false:=sO;clear h3;go_enter func91,ntmps91;go_wp2;go_ret;exact⟨VZ hr.out.symm,bR⟩

theorem a5I (g a1:ByteArray) (a4:Int) (hq:¬ (Rates.isCur a1=true/\¬ a1.toList=g.toList/\1<=a4/\a4<=1000000000000)) :
  Rates.isCur a1=false∨(Rates.isCur a1=true/\(a1.toList==g.toList)=true)∨(Rates.isCur a1=true/\(a1.toList==g.toList)=false/\a4<1)∨(Rates.isCur a1=true/\(a1.toList==g.toList)=false/\1<=a4/\1000000000000<a4):=by
 by_cases h1:Rates.isCur a1=true
 ·by_cases h2:a1.toList=g.toList
  ·simp [h1,h2]
  ·simp [h1,h2];by_cases h3:a4<1
   ·exact .inl h3
   ·refine .inr ⟨oM,?_⟩
    rcases Int.lt_or_le 1000000000000 a4 with h | h
    ·exact h
    ·exact absurd ⟨h1,h2,oM,h⟩ hq
 ·simp [h1]
theorem a8W (g a1:ByteArray) (a2 a3 a4:Int) (hq:¬ (Rates.isCur a1=true/\¬ a1.toList=g.toList/\1<=a4/\a4<=1000000000000)):Rates.proper g ⟨a1,a2,a3,a4⟩=false:=by
 unfold Rates.proper;rw [Bool.and_eq_false_iff];left;rw [Bool.and_eq_false_iff,Bool.and_eq_false_iff];simp only [Bool.not_eq_false',beq_iff_eq,decide_eq_false_iff_not]
 by_cases h1:Rates.isCur a1=true <;> by_cases h2:a1.toList=g.toList <;> simp_all
theorem a7T (g a1:ByteArray) (a4:Int) (h1:Rates.isCur a1=true) (he:(a1.toList==g.toList)=false) (h3:1<=a4) (h4:a4<=1000000000000) (x2 x3:Int) :
  Rates.proper g ⟨a1,x2,x3,a4⟩=((x2==1&&Rates.dateB x3)||(x2==2&&decide (0<=x3/\x3<120))):=by
 simp [Rates.proper,h1,he,h3,h4]

theorem a3M (g a1:ByteArray) (a2 a3 a4:Int) (ha:a1.size<=maxLen) :
  CL 89 #[.string g,.agg #[.string a1,a2,a3,a4]] w (.bool (Rates.proper g ⟨a1,a2,a3,a4⟩)):=by
 by_cases hq:Rates.isCur a1=true/\¬ a1.toList=g.toList/\1<=a4/\a4<=1000000000000
 ·obtain⟨h1,h2,h3,h4⟩:=hq
  have he:(a1.toList==g.toList)=false:=by simpa using h2
  have hr:=Z1 (a7T g a1 a4 h1 he h3 h4);clear h2;go_enter func89,ntmps89;go_wp2_with (first | (go_at_call 91;refine(a2i _ _ ha).mono ?_;rw [h1];rintro e w4 ⟨rfl,hB⟩;obtain⟨hc,hf⟩:=bcell hB) | (go_at_call 101;refine(a0P _ _).mono ?_;rintro e w5 ⟨rfl,rfl⟩))
  all_goals (go_ret;exact⟨VZ (by rw [hr.out];unfold Rates.dateB;simp [*] <;> omega),(bR.alloc lR _).trans (hB.mono sP)⟩)
 ·have hr:=Z1 (a8W g a1 a2 a3 a4 hq)
  rcases a5I g a1 a4 hq with h1 | ⟨h1,h2⟩ | ⟨h1,h2,h3⟩ | ⟨h1,h2,h3,h4⟩
  all_goals
   clear hq;go_enter func89,ntmps89;go_wp2_with (first | (go_at_call 91;refine(a2i _ _ ha).mono ?_;rw [h1];rintro e w4 ⟨rfl,hB⟩;obtain⟨hc,hf⟩:=bcell hB));go_ret;exact⟨VZ hr.out.symm,(bR.alloc lR _).trans (hB.mono sP)⟩
end
open Tryz Go.RowKit
theorem Cal.begin_err {Y M N p:Int} (h:Cal.err Y M N p=0):Cal.err Y M N (p-p % 12)=0/\Int.tmod p 12=p % 12:=by
 obtain⟨h1,h2,h3⟩:=(Cal.err_zero Y M N p).1 h;exact⟨(Cal.err_zero Y M N _).2 ⟨h1,oM,oM⟩,Int.tmod_eq_emod_of_nonneg h2⟩
section
variable (Y M N p d:Int) (w:World)
theorem a4F (h:Cal.err Y M N p=0):CL 51 #[.agg #[Y,M,N],p] w (.tuple #[(Cal.begin_ Y M p),()]):=by
 have hok:=(Cal.err_zero Y M N p).1 h;obtain⟨hb,ht⟩:=Cal.begin_err h;have hbk:=(Cal.err_zero Y M N _).1 hb;have hv:=Cal.pvld Y M N _ hok.1 hbk.2.1 hbk.2.2;have hi:=(Cal.ok_iff Y M N).1 hok.1;have HV:Hid (1<=M/\M<=12/\1900<=Y/\Y<=2199/\0<=p-p % 12/\p-p % 12<=120):=⟨oM,oM,oM,oM,oM,oM⟩;have HP:Hid (Cal.py Y M (p-p % 12)<=2199):=hv.2.1;have hp0:=hok.2.1;have hp1:p<120:=oM;have HW:Hid (wrap64 (p-Int.tmod p 12)=p-p % 12):=by show _=_;rw [ht,IntWalk.wrap64_in _ oM]
 clear hok hv hi ht hbk hb;go_enter func51,ntmps51;go_wp2_with (go_at_call 98;refine(a2L _ _ _ _ _).mono ?_;rw [h];rintro e w4 ⟨rfl,hB⟩;obtain⟨hc,hf⟩:=bcell hB)
 try rw [HW.out]
 refine(a2K _ _ _ _ _ HV.out HP.out).mono ?_;rintro e w5 ⟨rfl,hB5⟩;go_wp2
 go_ret2
 exact⟨rfl,((bR.alloc lR _).trans (hB.mono sP)).trans (hB5.mono (by have:=hB.size;simp at this;omega))⟩
theorem a7R (h:Cal.err Y M N p=0):CL 15 #[.agg #[Y,M,N],p] w (.tuple #[(Cal.begin_ Y M p),()]):=by
 obtain⟨hb,ht⟩:=Cal.begin_err h;have hok:=(Cal.err_zero Y M N p).1 h;have hi:=(Cal.ok_iff Y M N).1 hok.1;have hp0:=hok.2.1;have hp1:p<120:=oM;have HW:Hid (wrap64 (p-Int.tmod p 12)=p-p % 12):=by show _=_;rw [ht,IntWalk.wrap64_in _ oM]
 have HB:=Z1 hb;clear hok hi ht hb;go_enter func15,ntmps15;go_wp2_with (go_at_call 37;refine(a4n _ _ _ _ _).mono ?_;rw [h];rintro e w4 ⟨rfl,hB⟩;obtain⟨hc,hf⟩:=bcell hB)
 try rw [HW.out]
 refine(a4o _ _ _ _ _ HB.out).mono ?_;rintro e w5 ⟨rfl,hB5⟩;go_wp2
 go_ret2
 exact⟨rfl,((bR.alloc lR _).trans (hB.mono sP)).trans (hB5.mono (by have:=hB.size;simp at this;omega))⟩
theorem a3P (h:Cal.ok Y M N=true):Calls prog 178 #[.agg #[Y,M,N],d] w fun e w' =>
  e=.returned (.tuple #[(Cal.perV Y M N d),(Cal.perE Y M N d)])/\Below w w w':=by
 have hi:=(Cal.ok_iff Y M N).1 h
 by_cases hd:-25567<=d/\d<=84005
 ·have H:=Z1 h
  clear h;go_enter func178,ntmps178;go_wp2_with (go_at_call 163;refine(a0U _ _ _ _).mono ?_;rw [H.out];rintro e w4 ⟨rfl,hB⟩;obtain⟨hc,hf⟩:=bcell hB);refine(a4C _ _ hd).mono ?_;rintro e w5 ⟨y,m,k,rfl,hv,he,hB5⟩;have hv':=hv;obtain⟨v1,v2,v3,v4,_,_⟩:=hv';obtain⟨hc5,hf5⟩:=bcell hB5;have h1:=Cal.per_in y m k hv Y M N H.out;have h2:=Cal.per_out y m k hv Y M N H.out;rw [he] at h1 h2;have hs:=hB.size;simp at hs;have hBF:=(((Below.refl w w).alloc lR (.cells #[Y,M,N] 23)).trans (hB.mono sP)).trans (hB5.mono oM);have HBF:=Z1 hBF;have hG:=(hB5.block w oM).trans ((hB.block w sP).trans (heap_alloc_new w (.cells #[Y,M,N] 23)));have x0:=cr9 0 hG;have x1:=cr9 1 hG;have x2:=cr9 2 hG;simp at x0 x1 x2;have s5:w.heap.size<w5.heap.size:=by have:=hB5.size;omega
  clear hv he hBF hG hc hf hc5 hf5
  rcases(show 12*y+m-12*Y-M<0∨(0<=12*y+m-12*Y-M/\N<=12*y+m-12*Y-M)∨(0<=12*y+m-12*Y-M/\12*y+m-12*Y-M<N) by omega) with q | ⟨q,q'⟩ | ⟨q,q'⟩
  ·have hp:=h2 (.inl q)
   have HP:Hid (Cal.perV Y M N d=0/\Cal.perE Y M N d=2):=by show _/\_;unfold Cal.perV Cal.perE;rw [hp];exact⟨rfl,rfl⟩
   clear h1 h2 hp;go_wp2
   go_ret2
   exact⟨by rw [HP.out.1,HP.out.2];rfl,HBF.out⟩
  ·have hp:=h2 (.inr q')
   have HP:Hid (Cal.perV Y M N d=0/\Cal.perE Y M N d=2):=by show _/\_;unfold Cal.perV Cal.perE;rw [hp];exact⟨rfl,rfl⟩
   clear h1 h2 hp;go_wp2
   go_ret2
   exact⟨by rw [HP.out.1,HP.out.2];rfl,HBF.out⟩
  ·have hp:=h1 q q'
   have HP:Hid (Cal.perV Y M N d=12*y+m-12*Y-M/\Cal.perE Y M N d=0):=by show _/\_;unfold Cal.perV Cal.perE;rw [hp,if_neg oM,if_neg oM];exact⟨rfl,rfl⟩
   clear h1 h2 hp;go_wp2
   go_ret2
   exact⟨by rw [HP.out.1,HP.out.2];rfl,HBF.out⟩
 ·have hp:=Cal.per_date Y M N d h hd
  have H:=Z1 h;have HP:Hid (Cal.perV Y M N d=0/\Cal.perE Y M N d=2):=by show _/\_;unfold Cal.perV Cal.perE;rw [hp];exact⟨rfl,rfl⟩
  clear h hp;go_enter func178,ntmps178;go_wp2_with (go_at_call 163;refine(a0U _ _ _ _).mono ?_;rw [H.out];rintro e w4 ⟨rfl,hB⟩;obtain⟨hc,hf⟩:=bcell hB);refine(a8r _ _ hd).mono ?_;rintro e w5 ⟨rfl,rfl⟩;go_wp2
  go_ret2
  exact⟨by rw [HP.out.1,HP.out.2];rfl,(bR.alloc lR _).trans (hB.mono sP)⟩
end
end Go.Proofs.YtniaimjknmhapaaGreatDoor
