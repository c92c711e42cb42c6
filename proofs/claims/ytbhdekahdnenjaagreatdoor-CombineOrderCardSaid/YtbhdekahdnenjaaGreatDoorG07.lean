/- Lemmas. -/
import Derived.Test.YtbhdekahdnenjaaGreatDoorG01
import Derived.Test.YtbhdekahdnenjaaGreatDoorG56
set_option linter.unusedVariables false
set_option linter.unusedSimpArgs false
set_option maxRecDepth 100000
set_option maxHeartbeats 16000000
namespace Go.Proofs.YtbhdekahdnenjaaGreatDoor
open Tryz Go.RowKit
variable (w:World)
section
variable (y m d:Int) (w:World)
theorem a7W (y:Int):Cal.leapB y=(y % 4==0&&(y % 100 != 0||y % 400==0)):=by
 rw[XX,Cal.leap_iff];simp
theorem b2B (a:0<=y):Calls prog 127 #[y] w fun e w'=>e=.returned (.bool (Cal.leapB y))/\w=w':=by
 rw[a7W];go_enter func127,ntmps127;go_wp2
 all_goals (go_ret;exact⟨VV (by simp[*]),rfl⟩)
theorem a2I (a:0<=y):Calls prog 95 #[y] w fun e w'=>e=.returned (.bool (Cal.leapB y))/\w=w':=by
 rw[a7W];go_enter func95,ntmps95;go_wp2
 all_goals (go_ret;exact⟨VV (by simp[*]),rfl⟩)
theorem a0S:Calls prog 76 #[d] w fun e w'=>e=.returned (.bool (decide (-25567<=d/\d<=84005)))/\w=w':=by
 go_enter func76,ntmps76;go_wp2
 all_goals (go_ret;exact⟨VV sO,rfl⟩)
theorem a2W:Calls prog 149 #[d] w fun e w'=>e=.returned (.bool (decide (-25567<=d/\d<=84005)))/\w=w':=by
 go_enter func149,ntmps149;go_wp2
 all_goals (go_ret;exact⟨VV sO,rfl⟩)
theorem a2R (a:1<=y) (i:y<=100000):Calls prog 126 #[y] w fun e w'=>e=.returned (.int .i64 (Cal.byear y))/\w=w':=by
 go_enter func126,ntmps126;go_wp2;go_ret;exact⟨a1I (by unfold Cal.byear;simp),rfl⟩
theorem b4v (i:1<=m) (o:m<=12):([Value.int .i64 31,Value.int .i64 28,Value.int .i64 31,Value.int .i64 30,Value.int .i64 31,Value.int .i64 30,Value.int .i64 31,Value.int .i64 31,Value.int .i64 30,Value.int .i64 31,Value.int .i64 30,Value.int .i64 31]:List Value)[m.toNat-1]?=some (.int .i64 (Cal.tab m)):=by
 have a:m=1∨m=2∨m=3∨m=4∨m=5∨m=6∨m=7∨m=8∨m=9∨m=10∨m=11∨m=12:=oM
 rcases a with rfl|rfl|rfl|rfl|rfl|rfl|rfl|rfl|rfl|rfl|rfl|rfl <;> rfl
theorem b1P (w:World):(Instr.index 216 (.agg #[(31:Int),(28:Int),(31:Int),(30:Int),(31:Int),(30:Int),(31:Int),(31:Int),(30:Int),(31:Int),(30:Int),(31:Int)]) (.int .i64 0)).run prog w=.ok (.int .i64 31) w:=kR
theorem a7L (w:World):(Instr.index 216 (.agg #[(31:Int),(28:Int),(31:Int),(30:Int),(31:Int),(30:Int),(31:Int),(31:Int),(30:Int),(31:Int),(30:Int),(31:Int)]) (.int .i64 1)).run prog w=.ok (.int .i64 28) w:=kR
theorem b1O (w:World):(Instr.index 216 (.agg #[(31:Int),(28:Int),(31:Int),(30:Int),(31:Int),(30:Int),(31:Int),(31:Int),(30:Int),(31:Int),(30:Int),(31:Int)]) (.int .i64 2)).run prog w=.ok (.int .i64 31) w:=kR
theorem b1N (w:World):(Instr.index 216 (.agg #[(31:Int),(28:Int),(31:Int),(30:Int),(31:Int),(30:Int),(31:Int),(31:Int),(30:Int),(31:Int),(30:Int),(31:Int)]) (.int .i64 3)).run prog w=.ok (.int .i64 30) w:=kR
theorem b1M (w:World):(Instr.index 216 (.agg #[(31:Int),(28:Int),(31:Int),(30:Int),(31:Int),(30:Int),(31:Int),(31:Int),(30:Int),(31:Int),(30:Int),(31:Int)]) (.int .i64 4)).run prog w=.ok (.int .i64 31) w:=kR
theorem b1L (w:World):(Instr.index 216 (.agg #[(31:Int),(28:Int),(31:Int),(30:Int),(31:Int),(30:Int),(31:Int),(31:Int),(30:Int),(31:Int),(30:Int),(31:Int)]) (.int .i64 5)).run prog w=.ok (.int .i64 30) w:=kR
theorem b1K (w:World):(Instr.index 216 (.agg #[(31:Int),(28:Int),(31:Int),(30:Int),(31:Int),(30:Int),(31:Int),(31:Int),(30:Int),(31:Int),(30:Int),(31:Int)]) (.int .i64 6)).run prog w=.ok (.int .i64 31) w:=kR
theorem b1J (w:World):(Instr.index 216 (.agg #[(31:Int),(28:Int),(31:Int),(30:Int),(31:Int),(30:Int),(31:Int),(31:Int),(30:Int),(31:Int),(30:Int),(31:Int)]) (.int .i64 7)).run prog w=.ok (.int .i64 31) w:=kR
theorem b1I (w:World):(Instr.index 216 (.agg #[(31:Int),(28:Int),(31:Int),(30:Int),(31:Int),(30:Int),(31:Int),(31:Int),(30:Int),(31:Int),(30:Int),(31:Int)]) (.int .i64 8)).run prog w=.ok (.int .i64 30) w:=kR
theorem b1H (w:World):(Instr.index 216 (.agg #[(31:Int),(28:Int),(31:Int),(30:Int),(31:Int),(30:Int),(31:Int),(31:Int),(30:Int),(31:Int),(30:Int),(31:Int)]) (.int .i64 9)).run prog w=.ok (.int .i64 31) w:=kR
theorem a9Q (w:World):(Instr.index 216 (.agg #[(31:Int),(28:Int),(31:Int),(30:Int),(31:Int),(30:Int),(31:Int),(31:Int),(30:Int),(31:Int),(30:Int),(31:Int)]) (.int .i64 10)).run prog w=.ok (.int .i64 30) w:=kR
theorem a9P (w:World):(Instr.index 216 (.agg #[(31:Int),(28:Int),(31:Int),(30:Int),(31:Int),(30:Int),(31:Int),(31:Int),(30:Int),(31:Int),(30:Int),(31:Int)]) (.int .i64 11)).run prog w=.ok (.int .i64 31) w:=kR
theorem b3P (i:1<=m) (o:m<=12) (w:World):(Instr.index 216 (.agg #[(31:Int),(28:Int),(31:Int),(30:Int),(31:Int),(30:Int),(31:Int),(31:Int),(30:Int),(31:Int),(30:Int),(31:Int)]) (.int .i64 (m-1))).run prog w=.ok (.int .i64 (Cal.tab m)) w:=by
 have a:m=1∨m=2∨m=3∨m=4∨m=5∨m=6∨m=7∨m=8∨m=9∨m=10∨m=11∨m=12:=oM
 rcases a with rfl|rfl|rfl|rfl|rfl|rfl|rfl|rfl|rfl|rfl|rfl|rfl
 ·exact b1P w
 ·exact a7L w
 ·exact b1O w
 ·exact b1N w
 ·exact b1M w
 ·exact b1L w
 ·exact b1K w
 ·exact b1J w
 ·exact b1I w
 ·exact b1H w
 ·exact a9Q w
 ·exact a9P w
theorem a2M (hv:1900<=y/\y<=2199/\1<=m/\m<=12):CL 72 #[y,m] w (Cal.mlen y m):=by
 obtain⟨J,L,i,o⟩:=hv;have s:=b4v m i o
 by_cases a:m=2
 ·subst a
  clear s;go_enter func72,ntmps72;go_wp2_with (go_at_call 127;refine(b2B _ _ oM).mono ?_;rintro e w' ⟨rfl,rfl⟩)
  all_goals (go_ret;exact⟨a1I (by simp[Cal.mlen,Cal.tab, *]),bR.alloc lR _⟩)
 ·have E:(m==2)=false:=by simpa using a
  have I:Hid (Cal.mlen y m=Cal.tab m):=by show Cal.mlen y m=Cal.tab m;simp[Cal.mlen,a]
  go_enter func72,ntmps72;go_wp2;go_ret;exact⟨a1I I.symm,bR.alloc lR _⟩
theorem a2h (hv:1900<=y/\y<=2199/\1<=m/\m<=12):Calls prog 94 #[y,m] w fun e w'=>e=.returned (.int .i64 (Cal.mlen y m))/\w=w':=by
 obtain⟨J,L,o,s⟩:=hv;have i:=b3P m o s
 by_cases a:m=2
 ·subst a
  clear i;have i:=a7L w;go_enter func94,ntmps94;go_wp2_with (go_at_call 95;refine(a2I _ _ oM).mono ?_;rintro e w' ⟨rfl,rfl⟩)
  all_goals (go_ret;exact⟨a1I (by simp[Cal.mlen,Cal.tab, *]),rfl⟩)
 ·have E:(m==2)=false:=by simpa using a
  have I:Hid (Cal.mlen y m=Cal.tab m):=by show Cal.mlen y m=Cal.tab m;simp[Cal.mlen,a]
  go_enter func94,ntmps94;go_wp2;go_ret;exact⟨a1I I.symm,rfl⟩
theorem b1e (hv:¬ (1900<=y/\y<=2199/\1<=m/\m<=12)):CL 72 #[y,m] w (.int .i64 0):=by
 rcases(show y<1900∨(1900<=y/\2199<y)∨(1900<=y/\y<=2199/\m<1)∨(1900<=y/\y<=2199/\1<=m/\12<m) by omega) with h|⟨h1,h2⟩|⟨h1,h2,h3⟩|⟨h1,h2,h3,h4⟩
 all_goals
  clear hv;go_enter func72,ntmps72;go_wp2;go_ret;exact⟨rfl,bR⟩
theorem a9Y (hv:¬ (1900<=y/\y<=2199/\1<=m/\m<=12)):Calls prog 94 #[y,m] w fun e w'=>e=.returned (.int .i64 0)/\w=w':=by
 rcases(show m<1∨(1<=m/\12<m)∨(1<=m/\m<=12/\y<1900)∨(1<=m/\m<=12/\1900<=y/\2199<y) by omega) with h|⟨h1,h2⟩|⟨h1,h2,h3⟩|⟨h1,h2,h3,h4⟩
 all_goals
  clear hv;go_enter func94,ntmps94;go_wp2;go_ret;exact⟨rfl,rfl⟩
theorem a6w:CL 72 #[y,m] w (Cal.days y m):=by
 by_cases h:1900<=y/\y<=2199/\1<=m/\m<=12
 ·rw[Cal.days_in y m h];exact a2M y m w h
 ·rw[Cal.days_out y m h];exact b1e y m w h
theorem a6b:Calls prog 94 #[y,m] w fun e w'=>e=.returned (.int .i64 (Cal.days y m))/\w=w':=by
 by_cases h:1900<=y/\y<=2199/\1<=m/\m<=12
 ·rw[Cal.days_in y m h];exact a2h y m w h
 ·rw[Cal.days_out y m h];exact a9Y y m w h
theorem a3x (k:Nat) (y:Int) (a:1<=k) (i:k<=12):Cal.cum y ((k:Int)+1)=Cal.cum y k+Cal.mlen y k:=Cal.cum_succ y k oM oM
theorem b4k (h:¬ Cal.vld y m d):CL 129 #[y,m,d] w (.tuple #[(),(2:Int)]):=by
 rw[Cal.days_vld] at h
 by_cases i:d<1
 ·clear h
  go_enter func129,ntmps129;go_wp2
  go_ret2
  exact⟨rfl,bR⟩
 ·have o:Cal.days y m<d:=oM
  clear h;go_enter func129,ntmps129;go_wp2_with (go_at_call 72;refine(a6w _ _ _).mono ?_;rintro e w' ⟨rfl,a⟩)
  go_ret2
  exact⟨rfl,a⟩
theorem b4l (h:Cal.vld y m d):CL 129 #[y,m,d] w (.tuple #[(Cal.num y m d),()]):=by
 have hb:=Cal.days_bd y m;have hn:=Cal.num_bd y m d h;have Q:=Cal.num_year y m d h;obtain⟨T,W⟩:=(Cal.days_vld y m d).1 h;obtain⟨E,I,X,h4,h5,h6⟩:=h;have hy:=Cal.byear_bd y E oM;go_enter func129,ntmps129;go_wp2_with (first|(go_at_call 72;refine(a6w _ _ _).mono ?_;rintro e w1 ⟨rfl,J⟩)|(go_at_call 126;refine(a2R _ _ oM oM).mono ?_;rintro e w2 ⟨rfl,rfl⟩))
 go_loopw [8,9] (fun n i wr=>∃k:Nat,1<=k/\(k:Int)<=m/\i=.int .i64 k/\n=.int .i64 (Cal.byear y+Cal.cum y k+d-1)/\Below w w wr) (fun _ i _=>(m-intOf i).toNat)
 case atStart=>exact⟨1,oM,oM,rfl,by simp[Cal.cum_one],J⟩
 case round =>
  obtain⟨k,s,L,rfl,rfl,a⟩:=hrel;have hc:=Cal.cum_bd y k oM oM
  by_cases O:(k:Int)<m
  ·have S:=Z1 (a3x k y s oM)
   have hm:=Cal.mlen_bd y k;go_wp2_with (go_at_call 72;refine(a2M _ _ _ ⟨E,I,oM,oM⟩).mono ?_;rintro e w3 ⟨rfl,o⟩);go_roundw
   case rel=>exact⟨k+1,oM,oM,by go_num,by have:=S.out;rw[show((k+1:Nat):Int)=(k:Int)+1 from rfl,this];go_num,a.trans (o.mono a.size)⟩
   case measure=>exact mS
  ·obtain rfl:m=k:=oM
   go_wp2
   go_ret2
   exact⟨rfl,a⟩
theorem b3R (h:¬ Cal.vld y m d):Calls prog 47 #[y,m,d] w fun e w'=>e=.returned (.tuple #[(),(2:Int)])/\w=w':=by
 rw[Cal.days_vld] at h
 by_cases a:d<1
 ·clear h
  go_enter func47,ntmps47;go_wp2
  go_ret2
  exact⟨rfl,rfl⟩
 ·have i:Cal.days y m<d:=oM
  clear h;go_enter func47,ntmps47;go_wp2_with (go_at_call 94;refine(a6b _ _ _).mono ?_;rintro e w' ⟨rfl,rfl⟩)
  go_ret2
  exact⟨rfl,rfl⟩
theorem a7e (h:Cal.vld y m d):Calls prog 47 #[y,m,d] w fun e w'=>e=.returned (.tuple #[(Cal.num y m d),()])/\w=w':=by
 have hb:=Cal.days_bd y m;have hn:=Cal.num_bd y m d h;have X:=Cal.num_year y m d h;obtain⟨g1,g2⟩:=(Cal.days_vld y m d).1 h;obtain⟨s,I,h3,h4,_,h6⟩:=h;have hy:=Cal.byear_bd y s oM;go_enter func47,ntmps47;go_wp2_with (first|(go_at_call 94;refine(a6b _ _ _).mono ?_;rintro e w1 ⟨rfl,rfl⟩))
 go_loop [8,9] (fun n i=>∃k:Nat,1900<=k/\(k:Int)<=y/\i=k/\n=(Cal.byear k)) (fun _ i=>(y-intOf i).toNat)
 case atStart=>exact⟨1900,oM,oM,rfl,rfl⟩
 case round =>
  obtain⟨k,Q,S,rfl,rfl⟩:=hrel;have hc:=Cal.byear_bd k oM oM
  by_cases W:(k:Int)<y
  ·rcases Cal.lp_cases k with⟨T,e⟩|⟨T,e⟩
   all_goals
    have o:=Z1 (Cal.byear_succ k);have L:=Z1 e;clear e;go_wp2_with (go_at_call 95;refine(a2I _ _ oM).mono ?_;rintro e w3 ⟨rfl,rfl⟩)
    go_round
    case rel=>exact⟨k+1,oM,oM,by go_num,by rw[show((k+1:Nat):Int)=(k:Int)+1 from rfl,o.out,L.out];try go_num⟩
    case measure=>exact mS
  ·obtain rfl:y=k:=oM
   go_wp2
   go_loop [8,10] (fun n i=>∃j:Nat,1<=j/\(j:Int)<=m/\i=j/\n=(Cal.byear k+Cal.cum k j)) (fun _ i=>(m-intOf i).toNat)
   case atStart=>exact⟨1,oM,oM,rfl,by simp[Cal.cum_one]⟩
   case round =>
    obtain⟨j,a,O,rfl,rfl⟩:=hrel;have J:=Cal.cum_bd k j oM oM
    by_cases E:(j:Int)<m
    ·have o:=Z1 (a3x j k a oM)
     have hm:=Cal.mlen_bd k j;go_wp2_with (go_at_call 94;refine(a2h _ _ _ ⟨s,I,oM,oM⟩).mono ?_;rintro e w3 ⟨rfl,rfl⟩)
     go_round
     case rel=>exact⟨j+1,oM,oM,by go_num,by rw[show((j+1:Nat):Int)=(j:Int)+1 from rfl,o.out];go_num⟩
     case measure=>exact mS
    ·obtain rfl:m=j:=oM
     go_wp2
     go_ret2
     exact⟨rfl,rfl⟩
end
section
variable (y m d:Int) (w:World)
theorem a2Y (h:-25567<=d/\d<=84005):Calls prog 96 #[d] w fun e w'=>∃y m k:Int,e=.returned (.tuple #[y,m,k,()])/\Cal.vld y m k/\Cal.num y m k=d/\w=w':=by
 have hd:decide (-25567<=d/\d<=84005):=VT h;obtain⟨h1,h2⟩:=h;go_enter func96,ntmps96;go_wp2_with (go_at_call 149;refine(a2W _ _).mono ?_;rw[hd];rintro e w' ⟨rfl,rfl⟩);have S:=Z1 (Cal.byear_lo)
 go_loop [6,8] (fun y r=>∃k:Nat,1900<=k/\(k:Int)<=2199/\y=k/\0<=d-Cal.byear k/\r=(d-Cal.byear k)) (fun y _=>(2200-intOf y).toNat)
 case atStart=>exact⟨1900,oM,oM,rfl,by rw[show((1900:Nat):Int)=1900 from rfl,S];omega,by rw[show((1900:Nat):Int)=1900 from rfl,S];exact QQ (Value.int .i64) oM⟩
 case round =>
  obtain⟨y,a5,a6,rfl,a7,rfl⟩:=hrel;have i:=Cal.byear_succ y;have hb:=Cal.byear_bd y oM oM;have J:Hid (Cal.byear 2200=84006):=Cal.byear_hi
  rcases Cal.lp_cases y with⟨hl,e⟩|⟨hl,e⟩
  all_goals
   by_cases a:365+Cal.lp y<=d-Cal.byear y
   ·have X:(y:Int)<2199:=by
     by_cases W:(y:Int)=2199
     ·rw[W] at i a;have:=J.out;rw[show(2199:Int)+1=2200 from rfl] at i;omega
     ·omega
    have Q:=Z1 i;have O:=Z1 e;rw[e] at a;clear i e;go_wp2_with (go_at_call 95;refine(a2I _ _ oM).mono ?_;rintro e L ⟨rfl,rfl⟩)
    go_round
    case rel=>exact⟨y+1,oM,oM,by go_num,by rw[show((y+1:Nat):Int)=(y:Int)+1 from rfl,Q,O];omega,by rw[show((y+1:Nat):Int)=(y:Int)+1 from rfl,Q,O];go_num⟩
    case measure=>exact mS
   ·have hr:d-Cal.byear y<365+Cal.lp y:=oM
    have I:=hr;have s:=a;rw[e] at I s;clear i e a;go_wp2_with (go_at_call 95;refine(a2I _ _ oM).mono ?_;rintro e L ⟨rfl,rfl⟩)
    go_loop [7,8] (fun m r=>∃j:Nat,1<=j/\(j:Int)<=12/\m=j/\0<=d-Cal.byear y-Cal.cum y j/\r=(d-Cal.byear y-Cal.cum y j)) (fun m _=>(12-intOf m).toNat)
    case atStart=>exact⟨1,oM,oM,rfl,by simp[Cal.cum_one];omega,by simp[Cal.cum_one]⟩
    case round =>
     obtain⟨m,E,a0,rfl,a4,rfl⟩:=hrel;have cb:=Cal.cum_bd y m oM oM;have db:=Cal.mlen_bd y m;have o:=Z1 (a3x m y E oM);have T:=Z1 (Cal.cum_end y)
     by_cases a:Cal.mlen y m<=d-Cal.byear y-Cal.cum y m
     ·have hm:(m:Int)<12:=by
       by_cases e:(m:Int)=12
       ·have:=o.out;rw[e] at this a;have:=T.out;simp at *;omega
       ·omega
      go_wp2_with (go_at_call 94;refine(a2h _ _ _ ⟨oM,oM,oM,oM⟩).mono ?_;rintro e L ⟨rfl,rfl⟩)
      go_round
      case rel=>exact⟨m+1,oM,oM,by go_num,by rw[show((m+1:Nat):Int)=(m:Int)+1 from rfl,o.out];omega,by rw[show((m+1:Nat):Int)=(m:Int)+1 from rfl,o.out];go_num⟩
      case measure=>exact mS
     ·go_wp2_with (go_at_call 94;refine(a2h _ _ _ ⟨oM,oM,oM,oM⟩).mono ?_;rintro e L ⟨rfl,rfl⟩)
      refine VG (a1U rfl _ _ _) rfl ?_;exact⟨y,m,_,rfl,⟨oM,oM,oM,oM,oM,oM⟩,by unfold Cal.num;omega,rfl⟩
theorem b1X (p:Int) (hv:Cal.vld y m 1) (o:¬ (1900<=Cal.py y m p/\Cal.py y m p<=2199/\-3600<=p/\p<=3600)):Calls prog 48 #[(Cal.num y m 1),p] w fun e w'=>e=.returned (.tuple #[(),(2:Int)])/\w=w':=by
 have E:=Cal.num_bd y m 1 hv;have s:=Z1 hv;obtain⟨a1,a2,a3,I,_,J⟩:=hv;unfold Cal.py at o
 rcases(show p < -3600∨(-3600<=p/\3600<p)∨(-3600<=p/\p<=3600/\(12*y+m-1+p) / 12<1900)∨(-3600<=p/\p<=3600/\1900<=(12*y+m-1+p) / 12/\2199<(12*y+m-1+p) / 12) by omega) with h|⟨h,h'⟩|⟨h,h',h''⟩|⟨h,h',h'',h3⟩
 all_goals
  clear o;go_enter func48,ntmps48;go_wp2_with (go_at_call 96;refine(a2Y _ _ E).mono ?_;rintro e w' ⟨Q,O,L,rfl,a,i,rfl⟩;obtain⟨rfl,rfl,rfl⟩:=Cal.num_inj _ _ _ _ _ _ a s i;clear i a)
  go_ret2
  exact⟨rfl,rfl⟩
theorem b1Y (p:Int) (hv:Cal.vld y m 1) (Q:1900<=Cal.py y m p/\Cal.py y m p<=2199/\-3600<=p/\p<=3600):Calls prog 48 #[(Cal.num y m 1),p] w fun e w'=>e=.returned (.tuple #[(Cal.first y m p),()])/\w=w':=by
 have O:=Cal.num_bd y m 1 hv;have I:=Z1 hv;obtain⟨a1,a2,a3,S,T,W⟩:=hv;unfold Cal.first;obtain⟨J,L,X,h4⟩:=Q;have i:1<=Cal.pm y m p/\Cal.pm y m p<=12:=by unfold Cal.pm;omega
 have h6:=Cal.mlen_bd (Cal.py y m p) (Cal.pm y m p);have o:Cal.vld (Cal.py y m p) (Cal.pm y m p) 1:=⟨J,L,i.1,i.2,oM,oM⟩;have E:=Z1 o;clear o;unfold Cal.py Cal.pm at *;go_enter func48,ntmps48;go_wp2_with (first|(go_at_call 96;refine(a2Y _ _ O).mono ?_;rintro e w' ⟨y',m',k',rfl,a,s,rfl⟩;obtain⟨rfl,rfl,rfl⟩:=Cal.num_inj _ _ _ _ _ _ a I s;clear s a)|(go_at_call 94;refine(a2h _ _ _ ⟨oM,oM,oM,oM⟩).mono ?_;rintro e w3 ⟨rfl,rfl⟩)|(go_at_call 47;refine(a7e _ _ _ _ E).mono ?_;rintro e w4 ⟨rfl,rfl⟩))
 go_ret2
 exact⟨rfl,rfl⟩
end
section
variable (Y M N p:Int) (w:World)
theorem a8K (hv:¬ Cal.vld Y M 1):CL 24 #[.agg #[Y,M,N],p] w (.tuple #[(),(2:Int)]):=by
 go_enter func24,ntmps24;go_wp2_with (go_at_call 47;refine(b3R _ _ _ _ hv).mono ?_;rintro e a ⟨rfl,rfl⟩)
 go_ret2
 exact⟨rfl,bR.alloc lR _⟩
theorem a7g (hv:Cal.vld Y M 1) (a:¬ (1900<=Cal.py Y M p/\Cal.py Y M p<=2199/\-3600<=p/\p<=3600)):CL 24 #[.agg #[Y,M,N],p] w (.tuple #[(),(2:Int)]):=by
 have i:=Z1 a;clear a;go_enter func24,ntmps24;go_wp2_with (first|(go_at_call 47;refine(a7e _ _ _ _ hv).mono ?_;rintro e o ⟨rfl,rfl⟩)|(go_at_call 48;refine(b1X _ _ _ _ hv i).mono ?_;rintro e o ⟨rfl,rfl⟩))
 go_ret2
 exact⟨rfl,bR.alloc lR _⟩
theorem a4F (hv:Cal.vld Y M 1) (a:1900<=Cal.py Y M p/\Cal.py Y M p<=2199/\-3600<=p/\p<=3600):CL 24 #[.agg #[Y,M,N],p] w (.tuple #[(Cal.first Y M p),()]):=by
 have i:=Z1 a;clear a;go_enter func24,ntmps24;go_wp2_with (first|(go_at_call 47;refine(a7e _ _ _ _ hv).mono ?_;rintro e o ⟨rfl,rfl⟩)|(go_at_call 48;refine(b1Y _ _ _ _ hv i).mono ?_;rintro e o ⟨rfl,rfl⟩))
 go_ret2
 exact⟨rfl,bR.alloc lR _⟩
theorem vld1 (h:1900<=Y/\Y<=2199/\1<=M/\M<=12):Cal.vld Y M 1:=by
 have:=Cal.mlen_bd Y M;exact⟨h.1,h.2.1,h.2.2.1,h.2.2.2,oM,oM⟩
theorem a2v:CL 46 #[.agg #[Y,M,N]] w (Cal.ok Y M N):=by
 rcases(show N<1∨(1<=N/\120<N)∨(1<=N/\N<=120) by omega) with h|⟨h,h'⟩|⟨h,h'⟩
 ·have H:Hid (Cal.ok Y M N=false):=by show Cal.ok Y M N=false;simp[Cal.ok];omega
  go_enter func46,ntmps46;go_wp2;go_ret;exact⟨VV H.symm,bR.alloc lR _⟩
 ·have H:Hid (Cal.ok Y M N=false):=by show Cal.ok Y M N=false;simp[Cal.ok];omega
  go_enter func46,ntmps46;go_wp2;go_ret;exact⟨VV H.symm,bR.alloc lR _⟩
 ·by_cases hv:Cal.vld Y M 1
  ·by_cases s:Cal.py Y M (N-1)<=2199
   ·have o:1900<=Cal.py Y M (N-1)/\Cal.py Y M (N-1)<=2199/\-3600<=N-1/\N-1<=3600:=by obtain⟨a,b,c,_⟩:=hv;refine⟨?_,s,oM,oM⟩;unfold Cal.py;omega
    have H:Hid (Cal.ok Y M N):=by show Cal.ok Y M N;obtain⟨a,b,c,d,_⟩:=hv;rw[Cal.ok_iff];exact⟨c,d,h,h',a,b,s⟩
    have E:=Z1 o;clear o s;go_enter func46,ntmps46;go_wp2_with (go_at_call 24;refine(a4F _ _ _ _ _ hv E).mono ?_;rintro e J ⟨rfl,i⟩);go_ret;exact⟨VV H.symm,(bR.alloc lR _).trans (i.mono sP)⟩
   ·have o:¬ (1900<=Cal.py Y M (N-1)/\Cal.py Y M (N-1)<=2199/\-3600<=N-1/\N-1<=3600):=oM
    have H:Hid (Cal.ok Y M N=false):=by show Cal.ok Y M N=false;simp[Cal.ok];omega
    have E:=Z1 o;clear o s;go_enter func46,ntmps46;go_wp2_with (go_at_call 24;refine(a7g _ _ _ _ _ hv E).mono ?_;rintro e J ⟨rfl,i⟩);go_ret;exact⟨VV H.symm,(bR.alloc lR _).trans (i.mono sP)⟩
  ·have H:Hid (Cal.ok Y M N=false):=by
    show Cal.ok Y M N=false;rw[Zv];intro I;rw[Cal.ok_iff] at I;exact hv (vld1 Y M ⟨oM,oM,oM,oM⟩)
   go_enter func46,ntmps46;go_wp2_with (go_at_call 24;refine(a8K _ _ _ _ _ hv).mono ?_;rintro e J ⟨rfl,i⟩);go_ret;exact⟨VV H.symm,(bR.alloc lR _).trans (i.mono sP)⟩
theorem a9l (h:1<=M/\M<=12/\1900<=Y/\Y<=2199/\0<=p/\p<=120) (i:2199<Cal.py Y M p):CL 74 #[.agg #[Y,M,N],p] w (.tuple #[(),(2:Int)]):=by
 obtain⟨s,E,I,J,L,O⟩:=h
 have hv:Hid (¬ Cal.vld ((12*Y+M-1+p) / 12) ((12*Y+M-1+p) % 12+1) 1):=by
  show¬ _;rintro⟨_,a,_⟩;unfold Cal.py at i;omega
 clear i;go_enter func74,ntmps74;go_wp2_with (go_at_call 129;refine(b4k _ _ _ _ hv.out).mono ?_;rintro e Q ⟨rfl,o⟩)
 go_ret2
 exact⟨rfl,(bR.alloc lR _).trans (o.mono sP)⟩
theorem a3c (h:1<=M/\M<=12/\1900<=Y/\Y<=2199/\0<=p/\p<=120) (a:Cal.py Y M p<=2199):CL 74 #[.agg #[Y,M,N],p] w (.tuple #[(Cal.first Y M p),()]):=by
 obtain⟨o,s,E,I,J,L⟩:=h
 have hv:Hid (Cal.vld ((12*Y+M-1+p) / 12) ((12*Y+M-1+p) % 12+1) 1):=by
  have:=Cal.mlen_bd ((12*Y+M-1+p) / 12) ((12*Y+M-1+p) % 12+1);unfold Cal.py at a;exact⟨oM,oM,oM,oM,oM,oM⟩
 clear a;unfold Cal.first Cal.py Cal.pm;go_enter func74,ntmps74;go_wp2_with (go_at_call 129;refine(b4l _ _ _ _ hv.out).mono ?_;rintro e O ⟨rfl,i⟩)
 go_ret2
 exact⟨rfl,(bR.alloc lR _).trans (i.mono sP)⟩
theorem a0U:CL 128 #[.agg #[Y,M,N]] w (Cal.ok Y M N):=by
 rcases(show M<1∨(1<=M/\12<M)∨(1<=M/\M<=12/\N<1)∨(1<=M/\M<=12/\1<=N/\120<N)∨(1<=M/\M<=12/\1<=N/\N<=120/\Y<1900)∨(1<=M/\M<=12/\1<=N/\N<=120/\1900<=Y/\2199<Y)∨(1<=M/\M<=12/\1<=N/\N<=120/\1900<=Y/\Y<=2199) by omega) with h|⟨h1,h2⟩|⟨h1,h2,h3⟩|⟨h1,h2,h3,h4⟩|⟨h1,h2,h3,h4,h5⟩|⟨h1,h2,h3,h4,h5,h6⟩|⟨h1,h2,h3,h4,h5,h6⟩
 case inr.inr.inr.inr.inr.inr =>
  by_cases a:Cal.py Y M (N-1)<=2199
  ·have H:Hid (Cal.ok Y M N):=(Cal.ok_iff Y M N).2 ⟨h1,h2,h3,h4,h5,h6,a⟩
   have i:=Z1 a;clear a;go_enter func128,ntmps128;go_wp2_with (go_at_call 74;refine(a3c _ _ _ _ _ ⟨h1,h2,h5,h6,oM,oM⟩ i).mono ?_;rintro e s ⟨rfl,o⟩);go_ret;exact⟨VV H.symm,(bR.alloc lR _).trans (o.mono sP)⟩
  ·have H:Hid (Cal.ok Y M N=false):=by show Cal.ok Y M N=false;simp[Cal.ok];omega
   have i:Hid (2199<Cal.py Y M (N-1)):=by show _<_;omega
   clear a;go_enter func128,ntmps128;go_wp2_with (go_at_call 74;refine(a9l _ _ _ _ _ ⟨h1,h2,h5,h6,oM,oM⟩ i).mono ?_;rintro e s ⟨rfl,o⟩);go_ret;exact⟨VV H.symm,(bR.alloc lR _).trans (o.mono sP)⟩
 all_goals
  have H:Hid (Cal.ok Y M N=false):=by show Cal.ok Y M N=false;simp[Cal.ok];omega
  go_enter func128,ntmps128;go_wp2;go_ret;exact⟨VV H.symm,bR.alloc lR _⟩
end
section
variable (y m d:Int) (w:World)
theorem a9m (h:¬ (-25567<=d/\d<=84005)):Calls prog 71 #[d] w fun e w'=>e=.returned (.tuple #[(),(),(),(2:Int)])/\w=w':=by
 have a:decide (-25567<=d/\d<=84005)=false:=Vr h;go_enter func71,ntmps71;go_wp2_with (go_at_call 76;refine(a0S _ _).mono ?_;rw[a];rintro e w' ⟨rfl,rfl⟩);refine VG (a1U rfl _ _ _) rfl ?_;exact⟨rfl,rfl⟩
theorem a4T (h:-25567<=d/\d<=84005):Calls prog 71 #[d] w fun e w'=>∃y m k:Int,e=.returned (.tuple #[y,m,k,()])/\Cal.vld y m k/\Cal.num y m k=d/\Below w w w':=by
 have hd:decide (-25567<=d/\d<=84005):=VT h;obtain⟨h1,h2⟩:=h
 have I:Cal.byear (1970+d.tdiv 366-2)<=d∨1970+d.tdiv 366-2<1900:=by
  unfold Cal.byear
  rcases Z2 d 0 with s|s
  ·obtain⟨k,rfl⟩:∃k:Nat,d=-(k:Int):=⟨d.natAbs,oM⟩
   rw[Int.neg_tdiv,Yx oM];omega
  ·rw[Yx s];omega
 have g1:1896<=1970+d.tdiv 366-2/\1970+d.tdiv 366-2<=2199:=by
  rcases Z2 d 0 with s|s
  ·obtain⟨k,rfl⟩:∃k:Nat,d=-(k:Int):=⟨d.natAbs,oM⟩
   rw[Int.neg_tdiv,Yx oM];omega
  ·rw[Yx s];omega
 obtain⟨q,L⟩:∃q,d.tdiv 366=q:=⟨_,rfl⟩;rw[L] at I g1;have S:=Z1 L;clear L;go_enter func71,ntmps71;go_wp2_with (go_at_call 76;refine(a0S _ _).mono ?_;rw[hd];rintro e w' ⟨rfl,rfl⟩);rw[S,Kq (1970+q) oM,Kq (1970+q-2) oM];have T:=Z1 (Cal.byear_lo)
 go_loopw [2] (fun y wr=>∃k:Nat,1896<=k/\(k:Int)<=2199/\y=k/\(Cal.byear k<=d∨(k:Int)<1900)/\w=wr) (fun y _=>(2200-intOf y).toNat)
 case atStart=>exact⟨(1970+q-2).toNat,oM,oM,by congr 1;omega,by rw[KM oM];exact I,rfl⟩
 case round =>
  obtain⟨y,a6,a7,rfl,O,rfl⟩:=hrel;have W:=Cal.byear_bd (y+1)
  by_cases Q:(y:Int)<1900
  ·go_wp2_with (go_at_call 126;refine(a2R _ _ oM oM).mono ?_;rintro e w' ⟨rfl,rfl⟩)
   go_roundw
   case rel =>
    refine⟨y+1,oM,oM,by go_num,?_,trivial⟩
    by_cases h9:(y:Int)=1899
    ·left;rw[show((y+1:Nat):Int)=1900 by omega,T];omega
    ·right;omega
   case measure=>exact mS
  ·by_cases i:Cal.byear (y+1)<=d
   ·have a0:(y:Int)<2199:=by
     by_cases e:(y:Int)=2199
     ·rw[e] at i;have:=Cal.byear_hi;simp at i;omega
     ·omega
    go_wp2_with (go_at_call 126;refine(a2R _ _ oM oM).mono ?_;rintro e w' ⟨rfl,rfl⟩);go_roundw
    case rel=>exact⟨y+1,oM,oM,by go_num,.inl i,trivial⟩
    case measure=>exact mS
   ·have hz:Cal.byear y<=d:=oM
    have hl:=Cal.lp_01 y;have hs:=Cal.byear_succ y;have hb:=Cal.byear_bd y oM oM;have hr:d-Cal.byear y<365+Cal.lp y:=oM;clear hs O W I;go_wp2_with (go_at_call 126;refine(a2R _ _ oM oM).mono ?_;rintro e w' ⟨rfl,rfl⟩)
    go_loopw [3,4] (fun m r wr=>∃j:Nat,1<=j/\(j:Int)<=12/\m=j/\0<=d-Cal.byear y-Cal.cum y j/\r=(d-Cal.byear y-Cal.cum y j)/\Below w w wr) (fun m _ _=>(12-intOf m).toNat)
    case atStart=>exact⟨1,oM,oM,rfl,by simp[Cal.cum_one];omega,by simp[Cal.cum_one],bR⟩
    case round =>
     obtain⟨m,J,a4,rfl,a5,rfl,o⟩:=hrel;have cb:=Cal.cum_bd y m oM oM;have db:=Cal.mlen_bd y m;have E:=Z1 (a3x m y J oM);have X:=Z1 (Cal.cum_end y)
     by_cases Q:Cal.mlen y m<=d-Cal.byear y-Cal.cum y m
     ·have hm:(m:Int)<12:=by
       by_cases e:(m:Int)=12
       ·have:=E.out;rw[e] at this Q;have:=X.out;simp at *;omega
       ·omega
      go_wp2_with (go_at_call 72;refine(a2M _ _ _ ⟨oM,oM,oM,oM⟩).mono ?_;rintro e w3 ⟨rfl,a⟩;replace o:=o.trans (a.mono o.size);clear a);go_roundw
      case rel=>exact⟨m+1,oM,oM,by go_num,by rw[show((m+1:Nat):Int)=(m:Int)+1 from rfl,E.out];omega,by rw[show((m+1:Nat):Int)=(m:Int)+1 from rfl,E.out];go_num,o⟩
      case measure=>exact mS
     ·go_wp2_with (go_at_call 72;refine(a2M _ _ _ ⟨oM,oM,oM,oM⟩).mono ?_;rintro e w3 ⟨rfl,a⟩)
      refine VG (a1U rfl _ _ _) rfl ?_;exact⟨y,m,_,rfl,⟨oM,oM,oM,oM,oM,oM⟩,by unfold Cal.num;omega,o.trans (a.mono o.size)⟩
end
section
variable (Y M N p:Int) (w:World)
theorem a8L:CL 23 #[.agg #[Y,M,N],p] w (Cal.err Y M N p):=by
 by_cases a:Cal.ok Y M N
 ·rcases(show p<0∨(0<=p/\N<=p)∨(0<=p/\p<N) by omega) with h|⟨h,h'⟩|⟨h,h'⟩
  all_goals
   have H:Hid (Cal.err Y M N p=if p<0∨N<=p then 2 else 0):=by show Cal.err Y M N p=_;simp[Cal.err,a]
   go_enter func23,ntmps23;go_wp2_with (go_at_call 46;refine(a2v _ _ _ _).mono ?_;rw[a];rintro e s ⟨rfl,o⟩;obtain⟨E,_⟩:=bcell o);go_ret;refine⟨a1I ?_,(bR.alloc lR _).trans (o.mono sP)⟩;rw[H];split <;> omega
 ·have i:Cal.ok Y M N=false:=by simpa using a
  have H:Hid (Cal.err Y M N p=1):=by show Cal.err Y M N p=_;simp[Cal.err,i]
  clear a;go_enter func23,ntmps23;go_wp2_with (go_at_call 46;refine(a2v _ _ _ _).mono ?_;rw[i];rintro e s ⟨rfl,o⟩);go_ret;exact⟨a1I H.symm,(bR.alloc lR _).trans (o.mono sP)⟩
theorem a2k (h:Cal.err Y M N p=0):CL 11 #[.agg #[Y,M,N],p] w (.tuple #[(Cal.first Y M p),()]):=by
 have a:=(Cal.err_zero Y M N p).1 h;have hv:=Cal.pvld Y M N p a.1 a.2.1 a.2.2;have I:=(Cal.ok_iff Y M N).1 a.1;have E:Hid (Cal.vld Y M 1):=vld1 Y M ⟨oM,oM,oM,oM⟩;have s:Hid (1900<=Cal.py Y M p/\Cal.py Y M p<=2199/\-3600<=p/\p<=3600):=⟨hv.1,hv.2.1,oM,oM⟩;clear a hv I;go_enter func11,ntmps11;go_wp2_with (first|(go_at_call 23;refine(a8L _ _ _ _ _).mono ?_;rw[h];rintro e L ⟨rfl,i⟩;obtain⟨J,_⟩:=bcell i)|(go_at_call 24;refine(a4F _ _ _ _ _ E s).mono ?_;rintro e O ⟨rfl,o⟩))
 go_ret2
 exact⟨rfl,((bR.alloc lR _).trans (i.mono sP)).trans (o.mono (by have:=i.size;simp at this;omega))⟩
theorem a6c (h:Cal.err Y M N p=0):CL 161 #[.agg #[Y,M,N],p] w (.tuple #[(Cal.last Y M p),()]):=by
 have a:=(Cal.err_zero Y M N p).1 h;have hv:=Cal.pvld Y M N p a.1 a.2.1 a.2.2;have J:=Cal.first_bd Y M N p a.1 a.2.1 a.2.2;have E:=Z1 (Cal.first_vld Y M N p a.1 a.2.1 a.2.2);have H:Hid (Cal.err Y M N p=0):=h;have I:Hid (Cal.last Y M p=Cal.first Y M p+Cal.mlen (Cal.py Y M p) (Cal.pm Y M p)-1):=rfl;have L:=Cal.mlen_bd (Cal.py Y M p) (Cal.pm Y M p);clear a h;go_enter func161,ntmps161;go_wp2_with (first|(go_at_call 11;refine(a2k _ _ _ _ _ H).mono ?_;rintro e S ⟨rfl,o⟩;obtain⟨_,_⟩:=bcell o)|(go_at_call 96;refine(a2Y _ _ oM).mono ?_;rintro e T ⟨X,Q,O,rfl,i,s,rfl⟩;obtain⟨rfl,rfl,rfl⟩:=Cal.num_inj _ _ _ _ _ _ i E s;clear s i)|(go_at_call 94;refine(a2h _ _ _ ⟨oM,oM,oM,oM⟩).mono ?_;rintro e W ⟨rfl,rfl⟩))
 go_ret2
 exact⟨by rw[I];rfl,(bR.alloc lR _).trans (o.mono sP)⟩
theorem a3d:CL 73 #[.agg #[Y,M,N],p] w (Cal.err Y M N p):=by
 by_cases a:Cal.ok Y M N
 ·rcases(show p<0∨(0<=p/\N<=p)∨(0<=p/\p<N) by omega) with h|⟨h,h'⟩|⟨h,h'⟩
  all_goals
   have H:Hid (Cal.err Y M N p=if p<0∨N<=p then 2 else 0):=by show Cal.err Y M N p=_;simp[Cal.err,a]
   go_enter func73,ntmps73;go_wp2_with (go_at_call 128;refine(a0U _ _ _ _).mono ?_;rw[a];rintro e s ⟨rfl,o⟩;obtain⟨E,_⟩:=bcell o);go_ret;refine⟨a1I ?_,(bR.alloc lR _).trans (o.mono sP)⟩;rw[H];split <;> omega
 ·have i:Cal.ok Y M N=false:=by simpa using a
  have H:Hid (Cal.err Y M N p=1):=by show Cal.err Y M N p=_;simp[Cal.err,i]
  clear a;go_enter func73,ntmps73;go_wp2_with (go_at_call 128;refine(a0U _ _ _ _).mono ?_;rw[i];rintro e s ⟨rfl,o⟩);go_ret;exact⟨a1I H.symm,(bR.alloc lR _).trans (o.mono sP)⟩
theorem a4U (h:Cal.err Y M N p≠0):CL 70 #[.agg #[Y,M,N],p] w (.tuple #[(),(Cal.err Y M N p)]):=by
 have i:(Cal.err Y M N p != 0):=by simpa using h
 go_enter func70,ntmps70;go_wp2_with (go_at_call 73;refine(a3d _ _ _ _ _).mono ?_;rintro e o ⟨rfl,a⟩;obtain⟨_,_⟩:=bcell a)
 go_ret2
 exact⟨rfl,(bR.alloc lR _).trans (a.mono sP)⟩
theorem a4V (h:Cal.err Y M N p=0):CL 70 #[.agg #[Y,M,N],p] w (.tuple #[(Cal.first Y M p),()]):=by
 have a:=(Cal.err_zero Y M N p).1 h;have hv:=Cal.pvld Y M N p a.1 a.2.1 a.2.2;have I:=(Cal.ok_iff Y M N).1 a.1;have E:Hid (1<=M/\M<=12/\1900<=Y/\Y<=2199/\0<=p/\p<=120):=⟨oM,oM,oM,oM,oM,oM⟩;have s:Hid (Cal.py Y M p<=2199):=hv.2.1;clear a hv I;go_enter func70,ntmps70;go_wp2_with (first|(go_at_call 73;refine(a3d _ _ _ _ _).mono ?_;rw[h];rintro e L ⟨rfl,i⟩;obtain⟨J,_⟩:=bcell i)|(go_at_call 74;refine(a3c _ _ _ _ _ E s).mono ?_;rintro e O ⟨rfl,o⟩))
 go_ret2
 exact⟨rfl,((bR.alloc lR _).trans (i.mono sP)).trans (o.mono (by have:=i.size;simp at this;omega))⟩
theorem a4k (h:Cal.err Y M N p≠0):CL 33 #[.agg #[Y,M,N],p] w (.tuple #[(),(Cal.err Y M N p)]):=by
 have i:(Cal.err Y M N p != 0):=by simpa using h
 go_enter func33,ntmps33;go_wp2_with (go_at_call 70;refine(a4U _ _ _ _ _ h).mono ?_;rintro e o ⟨rfl,a⟩;obtain⟨_,_⟩:=bcell a)
 go_ret2
 exact⟨rfl,(bR.alloc lR _).trans (a.mono sP)⟩
theorem a2N (h:Cal.err Y M N p=0):CL 33 #[.agg #[Y,M,N],p] w (.tuple #[(Cal.last Y M p),()]):=by
 have a:=(Cal.err_zero Y M N p).1 h;have hv:=Cal.pvld Y M N p a.1 a.2.1 a.2.2;have O:=Cal.first_bd Y M N p a.1 a.2.1 a.2.2;have J:=Z1 (Cal.first_vld Y M N p a.1 a.2.1 a.2.2);have H:Hid (Cal.err Y M N p=0):=h;have L:Hid (Cal.last Y M p=Cal.first Y M p+Cal.mlen (Cal.py Y M p) (Cal.pm Y M p)-1):=rfl;have S:=Cal.mlen_bd (Cal.py Y M p) (Cal.pm Y M p);clear a h;go_enter func33,ntmps33;go_wp2_with (first|(go_at_call 70;refine(a4V _ _ _ _ _ H).mono ?_;rintro e w4 ⟨rfl,s⟩;obtain⟨_,_⟩:=bcell s)|(go_at_call 71;refine(a4T _ _ oM).mono ?_;rintro e w5 ⟨y',W,T,rfl,o,I,i⟩;obtain⟨rfl,rfl,rfl⟩:=Cal.num_inj _ _ _ _ _ _ o J I;clear I o)|(go_at_call 72;refine(a2M _ _ _ ⟨oM,oM,oM,oM⟩).mono ?_;rintro e w6 ⟨rfl,E⟩))
 go_ret2
 have Q:=s.size;have X:=i.size;simp at Q;exact⟨by rw[L];rfl,(((bR.alloc lR _).trans (s.mono sP)).trans (i.mono oM)).trans (E.mono oM)⟩
end
def RatesAt (w:World) (B:Nat) (A:OA) (rs:List Rt):Prop :=
 rs=[]∨∃b o,A=some ⟨b,o,none⟩/\b<B/\∀k (h:k<rs.length),
  w.cell? ⟨b,o+k*4,none⟩=some (.string rs[k].cur)/\w.cell? ⟨b,o+k*4+1,none⟩=some (.int .i64 rs[k].kind) /\
  w.cell? ⟨b,o+k*4+2,none⟩=some (.int .i64 rs[k].when_)/\w.cell? ⟨b,o+k*4+3,none⟩=some (.int .i64 rs[k].val)
theorem RatesAt.below {w w':World} {B C:Nat} {A:OA} {rs:List Rt} (h:RatesAt w B A rs) (s:Below C w w') (i:B<=C):RatesAt w' B A rs:=by
 rcases h with h|⟨b,o,e,a,O⟩
 ·exact .inl h
 ·refine .inr ⟨b,o,e,a,fun k Q=>?_⟩
  obtain⟨E,I,J,L⟩:=O k Q;exact⟨(s.cell (p:=⟨b,_,none⟩) (Xg a i)).trans E,(s.cell (p:=⟨b,_,none⟩) (Xg a i)).trans I,(s.cell (p:=⟨b,_,none⟩) (Xg a i)).trans J,(s.cell (p:=⟨b,_,none⟩) (Xg a i)).trans L⟩
theorem RatesAt.more {w:World} {B C:Nat} {A:OA} {rs:List Rt} (h:RatesAt w B A rs) (i:B<=C):RatesAt w C A rs:=by
 rcases h with h|⟨b,o,e,s,a⟩
 ·exact .inl h
 ·exact .inr ⟨b,o,e,oM,a⟩
theorem RatesAt.look {w:World} {B:Nat} {A:OA} {rs:List Rt} (h:RatesAt w B A rs) {k:Nat} (a:k<rs.length) :
  ∃b o,A=some ⟨b,o,none⟩/\b<B/\w.cell? ⟨b,o+k*4,none⟩=some (.string rs[k].cur)/\w.cell? ⟨b,o+k*4+1,none⟩=some (.int .i64 rs[k].kind) /\
  w.cell? ⟨b,o+k*4+2,none⟩=some (.int .i64 rs[k].when_)/\w.cell? ⟨b,o+k*4+3,none⟩=some (.int .i64 rs[k].val):=by
 rcases h with h|⟨b,o,e,s,i⟩
 ·subst h;simp at a
 ·exact⟨b,o,e,s,i k a⟩
theorem b0m (a1:BA) (a2 a3 a:Int) :
  CL 65 #[.agg #[.string a1,a2,a3,a]] w (.agg #[.string a1,a2,a3]):=by
 go_enter func65,ntmps65;go_wp2;refine VG (v:=.agg #[.string a1,a2,a3]) (by simp[results,results65,go_sem]) rfl ⟨rfl,?_⟩;exact(bR.alloc lR _).alloc sP _
theorem a6v (A:OA) (n c:Nat) (rs:List Rt) (cur:BA) (kind a:Int) (O:rs.length=n) (hn:n<=1000) (h:RatesAt w w A rs) :
  CL 280 #[.slice A n c,.string cur,kind,a] w (.tuple #[((Rates.find rs cur kind a).getD 0:Int),.bool (Rates.find rs cur kind a).isSome]):=by
 subst O;go_enter func280,ntmps280;go_wp2
 go_loopw [14] (fun i wr=>∃k:Nat,k<=rs.length/\i=k/\Rates.find (rs.take k) cur kind a=none/\Below w w wr) (fun i _=>rs.length-(intOf i).toNat)
 case atStart=>exact⟨0,Vb _,rfl,rfl,bR⟩
 case round =>
  obtain⟨k,hk,rfl,s,I⟩:=hrel
  by_cases J:k<rs.length
  ·obtain⟨b,o,rfl,_,Q,S,T,W⟩:=(h.below I lR).look J
   have E:=Z1 s;have hz:=I.size;clear s;go_wp2_with (go_at_call 65;refine(b0m _ _ _ _ _).mono ?_;rintro e w4 ⟨rfl,L⟩;obtain⟨X,_⟩:=bcell L)
   all_goals first
    |(
     go_ret2
     exact⟨by rw[Rates.find_hit rs cur kind a k J E (by simp[Rt.at_, *])];rfl,(I.alloc I.size _).trans (L.mono sO)⟩)
    |(
     go_roundw
     case rel=>exact⟨k+1,oM,by go_num,Rates.find_miss rs cur kind a k J E (by simp[Rt.at_, *]),(I.alloc I.size _).trans (L.mono sO)⟩
     case measure=>exact mS)
  ·obtain rfl:k=rs.length:=oM
   rw[Xs] at s;have E:=Z1 s;clear s;go_wp2
   go_ret2
   exact⟨by rw[E];rfl,I⟩
theorem allTake (l:List UInt8) (p:UInt8->Bool) (k) (h:k<l.length):(l.take (k+1)).all p=((l.take k).all p&&p l[k]):=by
 rw[tse h,Yp];simp
theorem allMiss (l:List UInt8) (p:UInt8->Bool) (k) (h:k<l.length) (a:p l[k]=false):l.all p=false:=by
 rw[Yb];exact⟨l[k],Vm h,by simp[a]⟩
theorem b0A (x:Int):Calls prog 121 #[.int .u8 x] w fun e w'=>e=.returned (.bool (!decide (65<=x/\x<=90)))/\w=w':=by
 go_enter func121,ntmps121;go_wp2
 all_goals (go_ret;exact⟨VV (by rw[XX];simp<;> omega),rfl⟩)
theorem a6n (b n c:Nat) (s:BA) (W:s.size=n) (hs:n<=100) (S:∀j (h:j<s.size),w.cell? ⟨b,j,none⟩=some (.int .u8 (s[j].toNat:Int))) :
  Calls prog 174 #[.slice (some ⟨b,0,none⟩) n c,.func (.func 121) #[] #[]] w fun e w'=>∃i:Int,e=.returned (.int .i64 i)/\(0<=i ↔ Rates.allUp s=false)/\w=w':=by
 subst W;have X:s.data.toList.length=s.size:=sP;go_enter func174,ntmps174;go_wp2
 go_loop [8] (fun i=>∃k:Nat,k<=s.size/\i=k/\(s.data.toList.take k).all Rates.upper) (fun i=>s.size-(intOf i).toNat)
 case atStart=>exact⟨0,Vb _,rfl,rfl⟩
 case round =>
  obtain⟨k,hk,rfl,Q⟩:=hrel;have L:=Z1 Q;clear Q
  by_cases T:k<s.size
  ·have E:s.data.toList[k]' oM=s[k]:=rfl
   by_cases o:Rates.upper s[k]
   ·have I:decide (65<=(s[k].toNat:Int)/\(s[k].toNat:Int)<=90):=o
    have J:Hid ((s.data.toList.take (k+1)).all Rates.upper):=by
     show _=true;rw[allTake _ _ k oM,L,E,o];rfl
    clear E o;go_wp2_with (go_at_call 121;refine(b0A _ _).mono ?_;rw[I];rintro e w4 ⟨rfl,rfl⟩)
    go_round
    case rel=>exact⟨k+1,oM,by go_num,J.out⟩
    case measure=>exact mS
   ·have a:Rates.upper s[k]=false:=by simpa using o
    have I:decide (65<=(s[k].toNat:Int)/\(s[k].toNat:Int)<=90)=false:=a;have J:Hid (Rates.allUp s=false):=allMiss _ _ k oM (by rw[E];exact a);clear E o a;go_wp2_with (go_at_call 121;refine(b0A _ _).mono ?_;rw[I];rintro e w4 ⟨rfl,rfl⟩);go_ret;exact⟨_,rfl,⟨fun _=>J.out,fun _=>oM⟩,rfl⟩
  ·obtain rfl:k=s.size:=oM
   clear S;go_wp2;go_ret;refine⟨_,rfl,⟨fun h=>oM,fun h=>?_⟩,rfl⟩;have O:=L.out;rw[Vg oM] at O;exact absurd h (by unfold Rates.allUp;rw[O];simp)
theorem a6A (b n c:Nat) (s:BA) (E:s.size=n) (I:n<=100) (a:∀j (h:j<s.size),w.cell? ⟨b,j,none⟩=some (.int .u8 (s[j].toNat:Int))) :
  Calls prog 120 #[.slice (some ⟨b,0,none⟩) n c,.func (.func 121) #[] #[]] w fun e w'=>e=.returned (.bool (!Rates.allUp s))/\w=w':=by
 have H:=Z1 (a6n w b n c s E I a);clear a;go_enter func120,ntmps120;go_wp2_with (go_at_call 174;refine H.mono ?_;rintro e J ⟨i,rfl,o,rfl⟩);go_ret;refine⟨VV ?_,rfl⟩;rw[XX]
 try simp only[Xm,J9,o]
theorem a2x (s:BA) (I:s.size<=maxLen):CL 66 #[.string s] w (Rates.isCur s):=by
 by_cases a:s.size=3
 ·have o:=fun W=>run_bytes_of_string (P:=prog) W 9 122 5 s Qh underlying122 underlying5
  have E:Hid (Rates.isCur s=Rates.allUp s):=by show _=_;unfold Rates.isCur;simp[a]
  have i:((s.size:Int)==3):=by rw[a];rfl
  have J:s.size<=100:=oM;clear a;go_enter func66,ntmps66;go_wp2_with (fail);refine(a6A _ _ _ _ s rfl J ?_).mono ?_
  ·intro j L
   show(w.alloc _).cell? _=_;rw[cr9 _ (Vh w _)];exact bytesRow_at s _ j L
  rintro e O ⟨rfl,rfl⟩;go_wp2;go_ret;exact⟨VV (by rw[E.out];try simp),(bR.alloc lR _).drew⟩
 ·have E:Hid (Rates.isCur s=false):=by show _=_;unfold Rates.isCur;simp[a]
  have i:((s.size:Int)==3)=false:=sO;clear a;go_enter func66,ntmps66;go_wp2;go_ret;exact⟨VV E.out.symm,bR⟩
theorem a6d (g a1:BA) (a:Int) (E:¬ (Rates.isCur a1/\¬ a1.toList=g.toList/\1<=a/\a<=1000000000000)) :
  Rates.isCur a1=false∨(Rates.isCur a1/\(a1.toList==g.toList))∨(Rates.isCur a1/\(a1.toList==g.toList)=false/\a<1)∨(Rates.isCur a1/\(a1.toList==g.toList)=false/\1<=a/\1000000000000<a):=by
 by_cases i:Rates.isCur a1
 ·by_cases o:a1.toList=g.toList
  ·simp[i,o]
  ·simp[i,o];by_cases s:a<1
   ·exact .inl s
   ·refine .inr ⟨oM,?_⟩
    rcases Z2 1000000000000 a with h|h
    ·exact h
    ·exact absurd ⟨i,o,oM,h⟩ E
 ·simp[i]
theorem b0b (g a1:BA) (a2 a3 a:Int) (s:¬ (Rates.isCur a1/\¬ a1.toList=g.toList/\1<=a/\a<=1000000000000)):Rates.proper g ⟨a1,a2,a3,a⟩=false:=by
 unfold Rates.proper;rw[Km];left;rw[Km,Km];simp only[Bool.not_eq_false',QL,YF]
 by_cases i:Rates.isCur a1 <;> by_cases o:a1.toList=g.toList <;> simp_all
theorem a8N (g a1:BA) (i:Int) (s:Rates.isCur a1) (J:(a1.toList==g.toList)=false) (E:1<=i) (I:i<=1000000000000) (o a:Int) :
  Rates.proper g ⟨a1,o,a,i⟩=((o==1&&Rates.dateB a)||(o==2&&decide (0<=a/\a<120))):=by
 simp[Rates.proper,s,J,E,I]
theorem a4f (g a1:BA) (a2 a3 a:Int) (O:a1.size<=maxLen) :
  CL 64 #[.string g,.agg #[.string a1,a2,a3,a]] w (.bool (Rates.proper g ⟨a1,a2,a3,a⟩)):=by
 by_cases E:Rates.isCur a1/\¬ a1.toList=g.toList/\1<=a/\a<=1000000000000
 ·obtain⟨i,o,I,L⟩:=E
  have S:(a1.toList==g.toList)=false:=by simpa using o
  have J:=Z1 (a8N g a1 a i S I L);clear o;go_enter func64,ntmps64;go_wp2_with (first|(go_at_call 66;refine(a2x _ _ O).mono ?_;rw[i];rintro e W ⟨rfl,s⟩;obtain⟨Q,T⟩:=bcell s)|(go_at_call 76;refine(a0S _ _).mono ?_;rintro e X ⟨rfl,rfl⟩))
  all_goals (go_ret;exact⟨VV (by rw[J.out];unfold Rates.dateB;simp[*] <;> omega),(bR.alloc lR _).trans (s.mono sP)⟩)
 ·have J:=Z1 (b0b g a1 a2 a3 a E)
  rcases a6d g a1 a E with i|⟨i,o⟩|⟨i,o,I⟩|⟨i,o,I,L⟩
  all_goals
   clear E;go_enter func64,ntmps64;go_wp2_with (first|(go_at_call 66;refine(a2x _ _ O).mono ?_;rw[i];rintro e W ⟨rfl,s⟩;obtain⟨Q,T⟩:=bcell s));go_ret;exact⟨VV J.out.symm,(bR.alloc lR _).trans (s.mono sP)⟩
theorem Cal.begin_err {Y M N p:Int} (h:Cal.err Y M N p=0):Cal.err Y M N (p-p % 12)=0/\Int.tmod p 12=p % 12:=by
 obtain⟨a,i,o⟩:=(Cal.err_zero Y M N p).1 h;exact⟨(Cal.err_zero Y M N _).2 ⟨a,oM,oM⟩,K9 i⟩
section
variable (Y M N p d:Int) (w:World)
theorem a4W (h:Cal.err Y M N p=0):CL 34 #[.agg #[Y,M,N],p] w (.tuple #[(Cal.begin_ Y M p),()]):=by
 have a:=(Cal.err_zero Y M N p).1 h;obtain⟨E,I⟩:=Cal.begin_err h;have i:=(Cal.err_zero Y M N _).1 E;have hv:=Cal.pvld Y M N _ a.1 i.2.1 i.2.2;have Q:=(Cal.ok_iff Y M N).1 a.1;have L:Hid (1<=M/\M<=12/\1900<=Y/\Y<=2199/\0<=p-p % 12/\p-p % 12<=120):=⟨oM,oM,oM,oM,oM,oM⟩;have J:Hid (Cal.py Y M (p-p % 12)<=2199):=hv.2.1;have S:=a.2.1;have T:p<120:=oM;have O:Hid (wrap64 (p-Int.tmod p 12)=p-p % 12):=by show _=_;rw[I,Kq _ oM]
 clear a hv Q I i E;go_enter func34,ntmps34;go_wp2_with (go_at_call 73;refine(a3d _ _ _ _ _).mono ?_;rw[h];rintro e X ⟨rfl,o⟩;obtain⟨W,_⟩:=bcell o)
 try rw[O]
 refine(a3c _ _ _ _ _ L J).mono ?_;rintro e w5 ⟨rfl,s⟩;go_wp2
 go_ret2
 exact⟨rfl,((bR.alloc lR _).trans (o.mono sP)).trans (s.mono (by have:=o.size;simp at this;omega))⟩
theorem a4j (h:Cal.ok Y M N):Calls prog 224 #[.agg #[Y,M,N],d] w fun e w' =>
  e=.returned (.tuple #[(Cal.perV Y M N d),(Cal.perE Y M N d)])/\Below w w w':=by
 have hi:=(Cal.ok_iff Y M N).1 h
 by_cases S:-25567<=d/\d<=84005
 ·have H:=Z1 h
  clear h;go_enter func224,ntmps224;go_wp2_with (go_at_call 128;refine(a0U _ _ _ _).mono ?_;rw[H];rintro e w4 ⟨rfl,s⟩;obtain⟨X,hf⟩:=bcell s);refine(a4T _ _ S).mono ?_;rintro e w5 ⟨y,m,k,rfl,hv,he,E⟩;have W:=hv;obtain⟨v1,v2,v3,v4,_,_⟩:=W;obtain⟨Q,T⟩:=bcell E;have J:=Cal.per_in y m k hv Y M N H;have I:=Cal.per_out y m k hv Y M N H;rw[he] at J I;have hs:=s.size;simp at hs;have L:=(((VM w w).alloc lR (.cells #[Y,M,N] 23)).trans (s.mono sP)).trans (E.mono oM);have o:=Z1 L;have O:=(E.block w oM).trans ((s.block w sP).trans (Vh w (.cells #[Y,M,N] 23)));have x0:=cr9 0 O;have x1:=cr9 1 O;have x2:=cr9 2 O;simp at x0 x1 x2
  clear hv he L O X hf Q T
  rcases(show 12*y+m-12*Y-M<0∨(0<=12*y+m-12*Y-M/\N<=12*y+m-12*Y-M)∨(0<=12*y+m-12*Y-M/\12*y+m-12*Y-M<N) by omega) with q|⟨q,q'⟩|⟨q,q'⟩
  ·have i:=I (.inl q)
   have a:Hid (Cal.perV Y M N d=0/\Cal.perE Y M N d=2):=by show _/\_;unfold Cal.perV Cal.perE;rw[i];exact⟨rfl,rfl⟩
   clear J I i;go_wp2
   go_ret2
   exact⟨by rw[a.1,a.2];rfl,o⟩
  ·have i:=I (.inr q')
   have a:Hid (Cal.perV Y M N d=0/\Cal.perE Y M N d=2):=by show _/\_;unfold Cal.perV Cal.perE;rw[i];exact⟨rfl,rfl⟩
   clear J I i;go_wp2
   go_ret2
   exact⟨by rw[a.1,a.2];rfl,o⟩
  ·have i:=J q q'
   have a:Hid (Cal.perV Y M N d=12*y+m-12*Y-M/\Cal.perE Y M N d=0):=by show _/\_;unfold Cal.perV Cal.perE;rw[i,VB oM,VB oM];exact⟨rfl,rfl⟩
   clear J I i;go_wp2
   go_ret2
   exact⟨by rw[a.1,a.2];rfl,o⟩
 ·have i:=Cal.per_date Y M N d h S
  have H:=Z1 h;have a:Hid (Cal.perV Y M N d=0/\Cal.perE Y M N d=2):=by show _/\_;unfold Cal.perV Cal.perE;rw[i];exact⟨rfl,rfl⟩
  clear h i;go_enter func224,ntmps224;go_wp2_with (go_at_call 128;refine(a0U _ _ _ _).mono ?_;rw[H];rintro e w4 ⟨rfl,s⟩;obtain⟨X,hf⟩:=bcell s);refine(a9m _ _ S).mono ?_;rintro e w5 ⟨rfl,rfl⟩;go_wp2
  go_ret2
  exact⟨by rw[a.1,a.2];rfl,(bR.alloc lR _).trans (s.mono sP)⟩
end
end Go.Proofs.YtbhdekahdnenjaaGreatDoor
