/-
Days of the week; Easter (chapters 4 and 11), of both.
-/
import Derived.Test.YtelidogcomffkaaGreatDoorMv
import Derived.Test.YtelidogcomffkaaGreatDoorProg
import Derived.KernelRfl
set_option linter.unusedSectionVars false
set_option linter.unusedSimpArgs false
set_option linter.unusedVariables false
set_option maxRecDepth 100000
namespace Go.Proofs.YtelidogcomffkaaGreatDoor
open Go Go.Sx
variable [Env]
def wdy (n:Int):Int:=(n%7+6)%7
theorem civil_Weekday_w {a1:Int} {res:SV} (H:(0:Int)≤a1∧Ir ((a1%7)+6)∧(0:Int)≤((a1%7)+6)∧(I (((a1%7)+6)%7):SV)=res):
  S 208 [I a1] [] (res) []:=by
 refine SCall.st fun X hX=> ?_
 obtain⟨h0,h1,h2,HE⟩:=H
 exact(hX.to HE.symm).e [q_ h0,q_ (show(0:Int)<7 from by decide),q_ h1,q_ h2,q_ (show(0:Int)<7 from by decide)]
theorem demurrageref04_Weekday_w {a1:Int} {res:SV} (H:(0:Int)≤a1∧Ir ((a1%7)+7)∧(0:Int)≤((a1%7)+7)∧((((a1%7)+7)%7)=0→(I 6:SV)=res)∧((((a1%7)+7)%7)≠0→Ir ((((a1%7)+7)%7)-1)∧(I ((((a1%7)+7)%7)-1):SV)=res)):
  S 128 [I a1] [] (res) []:=by
 refine SCall.st fun X hX=> ?_
 obtain⟨h0,h1,h2,L3,K3⟩:=H
 refine hX.go [q_ h0,q_ (show(0:Int)<7 from by decide),q_ h1,q_ h2,q_ (show(0:Int)<7 from by decide)] ?_
 by_cases h3:(((a1%7)+7)%7)=0
 ·have HE:=L3 h3
  exact(hX.to HE.symm).e [t_ (beq_iff_eq.2 h3)]
 ·obtain⟨h4,HE⟩:=K3 h3
  exact(hX.to HE.symm).e [f_ (beq_eq_false_iff_ne.2 h3),q_ h4]
theorem cWeek {n:Int} (h:(0:Int)≤n):S 208 [I n] [] (I (wdy n)) []:=civil_Weekday_w ⟨h,irT (by omega),by omega,rfl⟩
theorem rWeek {n:Int} (h:(0:Int)≤n):S 128 [I n] [] (I (wdy n)) []:=by
 refine demurrageref04_Weekday_w ⟨h,irT (by omega),by omega,fun c=> ?_,fun c=>⟨irT (by omega), ?_⟩⟩
 ·rw[show wdy n=6 by unfold wdy;omega]
 ·rw[show wdy n=(n%7+7)%7-1 by unfold wdy;omega]
theorem wdy_le (n:Int):0≤wdy n∧wdy n≤6:=by unfold wdy;omega
theorem nb_day {y m d:Int} (h:mayC y m d=true):isDay (numb y m d)=true:=by
 unfold mayC at h
 have h:=of_decide_eq_true h
 have e1:(12*y+m-1)/12=y:=by omega
 have e2:(12*y+m-1)%12+1=m:=by omega
 have:=numb_month (12*y+m-1) d
 rw[e1,e2]at this
 rw[this]
 exact in_month (by omega) (by omega) h.2.2.2.2.1 (by unfold mLn;rw[e1,e2];exact h.2.2.2.2.2)
theorem nbV_le (y m d:Int):0≤nbV y m d∧nbV y m d≤3652059:=by
 unfold nbV;split
 ·rename_i h;have:=isDay_iff.1 (nb_day h);omega
 ·omega
def eaH (y:Int):Int:=(((((19*(y%19))+(y/100))-((y/100)/4))-((((y/100)-(((y/100)+8)/25))+1)/3))+15)%30
def eaL (y:Int):Int:=((((32+(2*((y/100)%4)))+(2*((y%100)/4)))-eaH y)-((y%100)%4))%7
def eaM (y:Int):Int:=(((y%19)+(11*eaH y))+(22*eaL y))/451
def eaS (y:Int):Int:=((eaH y+eaL y)-(7*eaM y))+114
def eaN (y:Int):Int:=nbV y (eaS y/31) ((eaS y%31)+1)
def eaV (y:Int):Int:=if y<1∨y>9999 then 0 else eaN y
def eaE (y:Int):Int:=if y<1∨y>9999 then 3 else 0
theorem eaH_def (y:Int):eaH y=(((((19*(y%19))+(y/100))-((y/100)/4))-((((y/100)-(((y/100)+8)/25))+1)/3))+15)%30:=rfl
theorem eaL_def (y:Int):eaL y=((((32+(2*((y/100)%4)))+(2*((y%100)/4)))-eaH y)-((y%100)%4))%7:=rfl
theorem eaH_le (y:Int):0≤eaH y∧eaH y≤29:=by rw[eaH_def];exact⟨Int.emod_nonneg _ (by decide),by have:=Int.emod_lt_of_pos (((((19*(y%19))+(y/100))-((y/100)/4))-((((y/100)-(((y/100)+8)/25))+1)/3))+15) (show(0:Int)<30 by decide);omega⟩
theorem eaL_le (y:Int):0≤eaL y∧eaL y≤6:=by rw[eaL_def];exact⟨Int.emod_nonneg _ (by decide),by have:=Int.emod_lt_of_pos ((((32+(2*((y/100)%4)))+(2*((y%100)/4)))-eaH y)-((y%100)%4)) (show(0:Int)<7 by decide);omega⟩
def reE (y:Int):Int:=(((((11*((y%19)+1))+20)+((((8*((y/100)+1))+5)/25)-5))-(((3*((y/100)+1))/4)-12))%30)
def reF (y:Int):Int:=if(reE y=25∧(y%19)+1>11)∨reE y=24 then reE y+1 else reE y
def reN (y:Int):Int:=if 44-reF y<21 then(44-reF y)+30 else 44-reF y
def reD (y:Int):Int:=nbV y 3 1+reN y-1+1
theorem len_3 (y:Int):len y 3=31:=by simp[len,lens]
theorem len_4 (y:Int):len y 4=30:=by simp[len,lens]
theorem mons_2 (y:Int):mons y 2=59+(if lp y=true then 1 else 0)∧mons y 3=90+(if lp y=true then 1 else 0):=by
 cases h:lp y<;>simp[mons,len,h,lens]
theorem mar_1 {y:Int} (h1:1≤y) (h2:y≤9999) (d:Int):numb y 3 d=365*y+y/4-y/100+y/400-306+d∧numb y 4 d=365*y+y/4-y/100+y/400-275+d:=by
 have hl:=ahd_succ y h1
 have e:ahd (y+1)=365*y+y/4-y/100+y/400:=by unfold ahd;rw[show y+1-1=y by omega]
 obtain⟨m2,m3⟩:=mons_2 y
 constructor
 ·unfold numb;rw[show((3:Int)-1).toNat=2 from rfl,m2];omega
 ·unfold numb;rw[show((4:Int)-1).toNat=3 from rfl,m3];omega
theorem ea_m {y:Int}:eaM y=if eaL y=6∧(eaH y=29∨eaH y=28∧10<y%19)then 1 else 0:=by
 have h1:=eaH_le y;have h2:=eaL_le y
 unfold eaM
 split<;>omega
theorem ea_moon {y:Int} (h1:1≤y) (h2:y≤9999):reN y=eaH y+21-(if eaH y=29∨eaH y=28∧10<y%19 then 1 else 0):=by
 have key:(reE y+eaH y)=23∨reE y+eaH y=53:=by
  have g1:(3*(y/100+1))/4=y/100-y/100/4:=by omega
  have g2:(y/100-(y/100+8)/25+1)/3=(8*(y/100+1)+5)/25+0-0-(y/100-0)+y/100+(y/100-(y/100+8)/25+1)/3-(8*(y/100+1)+5)/25:=by omega
  have g3:(y/100-(y/100+8)/25+1)/3=(8*(y/100+1)+5)/25:=by omega
  rw[eaH_def];unfold reE
  rw[g1,g3]
  omega
 have r:=Int.emod_nonneg ((((11*((y%19)+1))+20)+((((8*((y/100)+1))+5)/25)-5))-(((3*((y/100)+1))/4)-12)) (show(30:Int)≠0 by decide)
 have r':=Int.emod_lt_of_pos ((((11*((y%19)+1))+20)+((((8*((y/100)+1))+5)/25)-5))-(((3*((y/100)+1))/4)-12)) (show(0:Int)<30 by decide)
 have r1:0≤reE y∧reE y≤29:=⟨r,by unfold reE;omega⟩
 have h3:=eaH_le y
 unfold reN reF
 generalize reE y=e at*
 generalize eaH y=h at*
 (repeat' split)<;>omega
theorem ea_sun {y:Int} (h1:1≤y) (h2:y≤9999):wdy (nbV y 3 1+eaH y+21)=6-eaL y:=by
 have hm:nbV y 3 1=365*y+y/4-y/100+y/400-305:=by
  unfold nbV;rw[if_pos (by unfold mayC;rw[len_3];exact decide_eq_true (by omega)),(mar_1 h1 h2 1).1];omega
 rw[hm,eaL_def]
 unfold wdy
 generalize eaH y=h
 have e1:y/4=25*(y/100)+y%100/4:=by omega
 have e2:y/400=y/100/4:=by omega
 rw[e1,e2]
 omega
theorem ea_ok {y:Int} (h1:1≤y) (h2:y≤9999):mayC y (eaS y/31) ((eaS y%31)+1)=true∧reD y+(6-wdy (reD y))=eaN y∧0≤reN y∧reN y≤60:=by
 have hm:nbV y 3 1=365*y+y/4-y/100+y/400-305:=by
  unfold nbV;rw[if_pos (by unfold mayC;rw[len_3];exact decide_eq_true (by omega)),(mar_1 h1 h2 1).1];omega
 have a:=ea_moon h1 h2
 have b:=ea_sun h1 h2
 have c:=ea_m (y:=y)
 have d:=eaH_le y
 have e:=eaL_le y
 have hS:eaS y=eaH y+eaL y-7*eaM y+114:=rfl
 have hM:mayC y (eaS y/31) ((eaS y%31)+1)=true∧eaN y=nbV y 3 1+(eaS y-93):=by
  have hr:114≤eaS y∧eaS y≤148:=by rw[hS,c];split<;>omega
  unfold eaN
  rcases(show eaS y/31=3∨eaS y/31=4 by omega)with g|g
  ·have hmay:mayC y (eaS y/31) ((eaS y%31)+1)=true:=by rw[g];unfold mayC;rw[len_3];exact decide_eq_true (by omega)
   refine⟨hmay, ?_⟩
   conv=>lhs;unfold nbV
   rw[if_pos hmay,g,(mar_1 h1 h2 _).1,hm];omega
  ·have hmay:mayC y (eaS y/31) ((eaS y%31)+1)=true:=by rw[g];unfold mayC;rw[len_4];exact decide_eq_true (by omega)
   refine⟨hmay, ?_⟩
   conv=>lhs;unfold nbV
   rw[if_pos hmay,g,(mar_1 h1 h2 _).2,hm];omega
 refine⟨hM.1, ?_,by rw[a];split<;>omega,by rw[a];split<;>omega⟩
 rw[hM.2,hS,c]
 have hD:reD y=nbV y 3 1+eaH y+21-(if eaH y=29∨eaH y=28∧10<y%19 then 1 else 0):=by unfold reD;rw[a];omega
 rw[hD]
 unfold wdy at b⊢
 generalize nbV y 3 1=M at*
 generalize eaH y=h at*
 generalize eaL y=l at*
 (repeat' split)<;>omega
theorem easter_Day_w {a1:Int} {res:SV} (H:(a1<1→((.tup [I 0,I 3]):SV)=res)∧(¬a1<1→(a1>9999→((.tup [I 0,I 3]):SV)=res)∧(¬a1>9999→((.tup [I (nbV a1 ((((((((((19*(a1%19))+(a1/100))-((a1/100)/4))-((((a1/100)-(((a1/100)+8)/25))+1)/3))+15)%30)+(((((32+(2*((a1/100)%4)))+(2*((a1%100)/4)))-((((((19*(a1%19))+(a1/100))-((a1/100)/4))-((((a1/100)-(((a1/100)+8)/25))+1)/3))+15)%30))-((a1%100)%4))%7))-(7*((((a1%19)+(11*((((((19*(a1%19))+(a1/100))-((a1/100)/4))-((((a1/100)-(((a1/100)+8)/25))+1)/3))+15)%30)))+(22*(((((32+(2*((a1/100)%4)))+(2*((a1%100)/4)))-((((((19*(a1%19))+(a1/100))-((a1/100)/4))-((((a1/100)-(((a1/100)+8)/25))+1)/3))+15)%30))-((a1%100)%4))%7)))/451)))+114)/31) (((((((((((19*(a1%19))+(a1/100))-((a1/100)/4))-((((a1/100)-(((a1/100)+8)/25))+1)/3))+15)%30)+(((((32+(2*((a1/100)%4)))+(2*((a1%100)/4)))-((((((19*(a1%19))+(a1/100))-((a1/100)/4))-((((a1/100)-(((a1/100)+8)/25))+1)/3))+15)%30))-((a1%100)%4))%7))-(7*((((a1%19)+(11*((((((19*(a1%19))+(a1/100))-((a1/100)/4))-((((a1/100)-(((a1/100)+8)/25))+1)/3))+15)%30)))+(22*(((((32+(2*((a1/100)%4)))+(2*((a1%100)/4)))-((((((19*(a1%19))+(a1/100))-((a1/100)/4))-((((a1/100)-(((a1/100)+8)/25))+1)/3))+15)%30))-((a1%100)%4))%7)))/451)))+114)%31)+1)),I (nbE a1 ((((((((((19*(a1%19))+(a1/100))-((a1/100)/4))-((((a1/100)-(((a1/100)+8)/25))+1)/3))+15)%30)+(((((32+(2*((a1/100)%4)))+(2*((a1%100)/4)))-((((((19*(a1%19))+(a1/100))-((a1/100)/4))-((((a1/100)-(((a1/100)+8)/25))+1)/3))+15)%30))-((a1%100)%4))%7))-(7*((((a1%19)+(11*((((((19*(a1%19))+(a1/100))-((a1/100)/4))-((((a1/100)-(((a1/100)+8)/25))+1)/3))+15)%30)))+(22*(((((32+(2*((a1/100)%4)))+(2*((a1%100)/4)))-((((((19*(a1%19))+(a1/100))-((a1/100)/4))-((((a1/100)-(((a1/100)+8)/25))+1)/3))+15)%30))-((a1%100)%4))%7)))/451)))+114)/31) (((((((((((19*(a1%19))+(a1/100))-((a1/100)/4))-((((a1/100)-(((a1/100)+8)/25))+1)/3))+15)%30)+(((((32+(2*((a1/100)%4)))+(2*((a1%100)/4)))-((((((19*(a1%19))+(a1/100))-((a1/100)/4))-((((a1/100)-(((a1/100)+8)/25))+1)/3))+15)%30))-((a1%100)%4))%7))-(7*((((a1%19)+(11*((((((19*(a1%19))+(a1/100))-((a1/100)/4))-((((a1/100)-(((a1/100)+8)/25))+1)/3))+15)%30)))+(22*(((((32+(2*((a1/100)%4)))+(2*((a1%100)/4)))-((((((19*(a1%19))+(a1/100))-((a1/100)/4))-((((a1/100)-(((a1/100)+8)/25))+1)/3))+15)%30))-((a1%100)%4))%7)))/451)))+114)%31)+1))]):SV)=res))):
  S 265 [I a1] [] (res) []:=by
 refine SCall.st fun X hX=> ?_
 obtain⟨L0,K0⟩:=H
 by_cases h0:a1<1
 ·have HE:=L0 h0
  exact(hX.to HE.symm).e [n_ 3 (t_ (dt h0)),t_ rt]
 ·obtain⟨L1,K1⟩:=K0 h0
  refine hX.go [n_ 3 (f_ (df h0))] ?_
  by_cases h1:a1>9999
  ·have HE:=L1 h1
   exact(hX.to HE.symm).e [t_ (dt h1)]
  ·have h2:(0:Int)≤a1:=by omega
   have h3:Ir (a1/100):=irT (by omega)
   have h4:Ir (19*(a1%19)):=irT (by omega)
   have h5:Ir ((19*(a1%19))+(a1/100)):=irT (by omega)
   have h6:(0:Int)≤(a1/100):=by omega
   have h7:Ir ((a1/100)/4):=irT (by omega)
   have h8:Ir (((19*(a1%19))+(a1/100))-((a1/100)/4)):=irT (by omega)
   have h9:Ir ((a1/100)+8):=irT (by omega)
   have h10:(0:Int)≤((a1/100)+8):=by omega
   have h11:Ir (((a1/100)+8)/25):=irT (by omega)
   have h12:Ir ((a1/100)-(((a1/100)+8)/25)):=irT (by omega)
   have h13:Ir (((a1/100)-(((a1/100)+8)/25))+1):=irT (by omega)
   have h14:(0:Int)≤(((a1/100)-(((a1/100)+8)/25))+1):=by omega
   have h15:Ir ((((a1/100)-(((a1/100)+8)/25))+1)/3):=irT (by omega)
   have h16:Ir ((((19*(a1%19))+(a1/100))-((a1/100)/4))-((((a1/100)-(((a1/100)+8)/25))+1)/3)):=irT (by omega)
   have h17:Ir (((((19*(a1%19))+(a1/100))-((a1/100)/4))-((((a1/100)-(((a1/100)+8)/25))+1)/3))+15):=irT (by omega)
   have h18:(0:Int)≤(((((19*(a1%19))+(a1/100))-((a1/100)/4))-((((a1/100)-(((a1/100)+8)/25))+1)/3))+15):=by omega
   have h19:Ir (2*((a1/100)%4)):=irT (by omega)
   have h20:Ir (32+(2*((a1/100)%4))):=irT (by omega)
   have h21:(0:Int)≤(a1%100):=by omega
   have h22:Ir ((a1%100)/4):=irT (by omega)
   have h23:Ir (2*((a1%100)/4)):=irT (by omega)
   have h24:Ir ((32+(2*((a1/100)%4)))+(2*((a1%100)/4))):=irT (by omega)
   have h25:Ir (((32+(2*((a1/100)%4)))+(2*((a1%100)/4)))-((((((19*(a1%19))+(a1/100))-((a1/100)/4))-((((a1/100)-(((a1/100)+8)/25))+1)/3))+15)%30)):=irT (by have q1:=eaH_le a1;have q2:=eaL_le a1;simp only[←eaH_def,←eaL_def];omega)
   have h26:Ir ((((32+(2*((a1/100)%4)))+(2*((a1%100)/4)))-((((((19*(a1%19))+(a1/100))-((a1/100)/4))-((((a1/100)-(((a1/100)+8)/25))+1)/3))+15)%30))-((a1%100)%4)):=irT (by have q1:=eaH_le a1;have q2:=eaL_le a1;simp only[←eaH_def,←eaL_def];omega)
   have h27:(0:Int)≤((((32+(2*((a1/100)%4)))+(2*((a1%100)/4)))-((((((19*(a1%19))+(a1/100))-((a1/100)/4))-((((a1/100)-(((a1/100)+8)/25))+1)/3))+15)%30))-((a1%100)%4)):=by have q1:=eaH_le a1;have q2:=eaL_le a1;simp only[←eaH_def,←eaL_def];omega
   have h28:Ir (11*((((((19*(a1%19))+(a1/100))-((a1/100)/4))-((((a1/100)-(((a1/100)+8)/25))+1)/3))+15)%30)):=irT (by have q1:=eaH_le a1;have q2:=eaL_le a1;simp only[←eaH_def,←eaL_def];omega)
   have h29:Ir ((a1%19)+(11*((((((19*(a1%19))+(a1/100))-((a1/100)/4))-((((a1/100)-(((a1/100)+8)/25))+1)/3))+15)%30))):=irT (by have q1:=eaH_le a1;have q2:=eaL_le a1;simp only[←eaH_def,←eaL_def];omega)
   have h30:Ir (22*(((((32+(2*((a1/100)%4)))+(2*((a1%100)/4)))-((((((19*(a1%19))+(a1/100))-((a1/100)/4))-((((a1/100)-(((a1/100)+8)/25))+1)/3))+15)%30))-((a1%100)%4))%7)):=irT (by have q1:=eaH_le a1;have q2:=eaL_le a1;simp only[←eaH_def,←eaL_def];omega)
   have h31:Ir (((a1%19)+(11*((((((19*(a1%19))+(a1/100))-((a1/100)/4))-((((a1/100)-(((a1/100)+8)/25))+1)/3))+15)%30)))+(22*(((((32+(2*((a1/100)%4)))+(2*((a1%100)/4)))-((((((19*(a1%19))+(a1/100))-((a1/100)/4))-((((a1/100)-(((a1/100)+8)/25))+1)/3))+15)%30))-((a1%100)%4))%7))):=irT (by have q1:=eaH_le a1;have q2:=eaL_le a1;simp only[←eaH_def,←eaL_def];omega)
   have h32:(0:Int)≤(((a1%19)+(11*((((((19*(a1%19))+(a1/100))-((a1/100)/4))-((((a1/100)-(((a1/100)+8)/25))+1)/3))+15)%30)))+(22*(((((32+(2*((a1/100)%4)))+(2*((a1%100)/4)))-((((((19*(a1%19))+(a1/100))-((a1/100)/4))-((((a1/100)-(((a1/100)+8)/25))+1)/3))+15)%30))-((a1%100)%4))%7))):=by have q1:=eaH_le a1;have q2:=eaL_le a1;simp only[←eaH_def,←eaL_def];omega
   have h33:Ir ((((a1%19)+(11*((((((19*(a1%19))+(a1/100))-((a1/100)/4))-((((a1/100)-(((a1/100)+8)/25))+1)/3))+15)%30)))+(22*(((((32+(2*((a1/100)%4)))+(2*((a1%100)/4)))-((((((19*(a1%19))+(a1/100))-((a1/100)/4))-((((a1/100)-(((a1/100)+8)/25))+1)/3))+15)%30))-((a1%100)%4))%7)))/451):=irT (by have q1:=eaH_le a1;have q2:=eaL_le a1;simp only[←eaH_def,←eaL_def];omega)
   have h34:Ir (((((((19*(a1%19))+(a1/100))-((a1/100)/4))-((((a1/100)-(((a1/100)+8)/25))+1)/3))+15)%30)+(((((32+(2*((a1/100)%4)))+(2*((a1%100)/4)))-((((((19*(a1%19))+(a1/100))-((a1/100)/4))-((((a1/100)-(((a1/100)+8)/25))+1)/3))+15)%30))-((a1%100)%4))%7)):=irT (by have q1:=eaH_le a1;have q2:=eaL_le a1;simp only[←eaH_def,←eaL_def];omega)
   have h35:Ir (7*((((a1%19)+(11*((((((19*(a1%19))+(a1/100))-((a1/100)/4))-((((a1/100)-(((a1/100)+8)/25))+1)/3))+15)%30)))+(22*(((((32+(2*((a1/100)%4)))+(2*((a1%100)/4)))-((((((19*(a1%19))+(a1/100))-((a1/100)/4))-((((a1/100)-(((a1/100)+8)/25))+1)/3))+15)%30))-((a1%100)%4))%7)))/451)):=irT (by have q1:=eaH_le a1;have q2:=eaL_le a1;simp only[←eaH_def,←eaL_def];omega)
   have h36:Ir ((((((((19*(a1%19))+(a1/100))-((a1/100)/4))-((((a1/100)-(((a1/100)+8)/25))+1)/3))+15)%30)+(((((32+(2*((a1/100)%4)))+(2*((a1%100)/4)))-((((((19*(a1%19))+(a1/100))-((a1/100)/4))-((((a1/100)-(((a1/100)+8)/25))+1)/3))+15)%30))-((a1%100)%4))%7))-(7*((((a1%19)+(11*((((((19*(a1%19))+(a1/100))-((a1/100)/4))-((((a1/100)-(((a1/100)+8)/25))+1)/3))+15)%30)))+(22*(((((32+(2*((a1/100)%4)))+(2*((a1%100)/4)))-((((((19*(a1%19))+(a1/100))-((a1/100)/4))-((((a1/100)-(((a1/100)+8)/25))+1)/3))+15)%30))-((a1%100)%4))%7)))/451))):=irT (by have q1:=eaH_le a1;have q2:=eaL_le a1;simp only[←eaH_def,←eaL_def];omega)
   have h37:Ir (((((((((19*(a1%19))+(a1/100))-((a1/100)/4))-((((a1/100)-(((a1/100)+8)/25))+1)/3))+15)%30)+(((((32+(2*((a1/100)%4)))+(2*((a1%100)/4)))-((((((19*(a1%19))+(a1/100))-((a1/100)/4))-((((a1/100)-(((a1/100)+8)/25))+1)/3))+15)%30))-((a1%100)%4))%7))-(7*((((a1%19)+(11*((((((19*(a1%19))+(a1/100))-((a1/100)/4))-((((a1/100)-(((a1/100)+8)/25))+1)/3))+15)%30)))+(22*(((((32+(2*((a1/100)%4)))+(2*((a1%100)/4)))-((((((19*(a1%19))+(a1/100))-((a1/100)/4))-((((a1/100)-(((a1/100)+8)/25))+1)/3))+15)%30))-((a1%100)%4))%7)))/451)))+114):=irT (by have q1:=eaH_le a1;have q2:=eaL_le a1;simp only[←eaH_def,←eaL_def];omega)
   have h38:(0:Int)≤(((((((((19*(a1%19))+(a1/100))-((a1/100)/4))-((((a1/100)-(((a1/100)+8)/25))+1)/3))+15)%30)+(((((32+(2*((a1/100)%4)))+(2*((a1%100)/4)))-((((((19*(a1%19))+(a1/100))-((a1/100)/4))-((((a1/100)-(((a1/100)+8)/25))+1)/3))+15)%30))-((a1%100)%4))%7))-(7*((((a1%19)+(11*((((((19*(a1%19))+(a1/100))-((a1/100)/4))-((((a1/100)-(((a1/100)+8)/25))+1)/3))+15)%30)))+(22*(((((32+(2*((a1/100)%4)))+(2*((a1%100)/4)))-((((((19*(a1%19))+(a1/100))-((a1/100)/4))-((((a1/100)-(((a1/100)+8)/25))+1)/3))+15)%30))-((a1%100)%4))%7)))/451)))+114):=by have q1:=eaH_le a1;have q2:=eaL_le a1;simp only[←eaH_def,←eaL_def];omega
   have h39:Ir ((((((((((19*(a1%19))+(a1/100))-((a1/100)/4))-((((a1/100)-(((a1/100)+8)/25))+1)/3))+15)%30)+(((((32+(2*((a1/100)%4)))+(2*((a1%100)/4)))-((((((19*(a1%19))+(a1/100))-((a1/100)/4))-((((a1/100)-(((a1/100)+8)/25))+1)/3))+15)%30))-((a1%100)%4))%7))-(7*((((a1%19)+(11*((((((19*(a1%19))+(a1/100))-((a1/100)/4))-((((a1/100)-(((a1/100)+8)/25))+1)/3))+15)%30)))+(22*(((((32+(2*((a1/100)%4)))+(2*((a1%100)/4)))-((((((19*(a1%19))+(a1/100))-((a1/100)/4))-((((a1/100)-(((a1/100)+8)/25))+1)/3))+15)%30))-((a1%100)%4))%7)))/451)))+114)/31):=irT (by have q1:=eaH_le a1;have q2:=eaL_le a1;simp only[←eaH_def,←eaL_def];omega)
   have h40:Ir (((((((((((19*(a1%19))+(a1/100))-((a1/100)/4))-((((a1/100)-(((a1/100)+8)/25))+1)/3))+15)%30)+(((((32+(2*((a1/100)%4)))+(2*((a1%100)/4)))-((((((19*(a1%19))+(a1/100))-((a1/100)/4))-((((a1/100)-(((a1/100)+8)/25))+1)/3))+15)%30))-((a1%100)%4))%7))-(7*((((a1%19)+(11*((((((19*(a1%19))+(a1/100))-((a1/100)/4))-((((a1/100)-(((a1/100)+8)/25))+1)/3))+15)%30)))+(22*(((((32+(2*((a1/100)%4)))+(2*((a1%100)/4)))-((((((19*(a1%19))+(a1/100))-((a1/100)/4))-((((a1/100)-(((a1/100)+8)/25))+1)/3))+15)%30))-((a1%100)%4))%7)))/451)))+114)%31)+1):=irT (by have q1:=eaH_le a1;have q2:=eaL_le a1;simp only[←eaH_def,←eaL_def];omega)
   have HE:=K1 h1
   exact(hX.to HE.symm).e [f_ (df h1),q_ h2,q_ (show(0:Int)<19 from by decide),q_ h2,q_ (show(0:Int)<100 from by decide),q_ h3,q_ h2,q_ (show(0:Int)<100 from by decide),t_ rt,q_ (show(0:Int)≤0∧0<((3:Nat):Int)from by decide),q_ h4,q_ h5,q_ h6,q_ (show(0:Int)<4 from by decide),q_ h7,q_ h8,q_ h9,q_ h10,q_ (show(0:Int)<25 from by decide),q_ h11,q_ h12,q_ h13,q_ h14,q_ (show(0:Int)<3 from by decide),q_ h15,q_ h16,q_ h17,q_ h18,q_ (show(0:Int)<30 from by decide),q_ (show Ir 1 from by decide),i_,t_ rt,q_ (show(0:Int)≤1∧1<((3:Nat):Int)from by decide),q_ h6,q_ (show(0:Int)<4 from by decide),q_ h19,q_ h20,q_ h21,q_ (show(0:Int)<4 from by decide),q_ h22,q_ h23,q_ h24,q_ h25,q_ h21,q_ (show(0:Int)<4 from by decide),q_ h26,q_ h27,q_ (show(0:Int)<7 from by decide),q_ (show Ir 2 from by decide),i_,t_ rt,q_ (show(0:Int)≤2∧2<((3:Nat):Int)from by decide),q_ h28,q_ h29,q_ h30,q_ h31,q_ h32,q_ (show(0:Int)<451 from by decide),q_ h33,q_ (show Ir 3 from by decide),i_,f_ rf,q_ h34,q_ h35,q_ h36,q_ h37,q_ h38,q_ (show(0:Int)<31 from by decide),q_ h39,q_ h38,q_ (show(0:Int)<31 from by decide),q_ h40,c_ [] (cNumberT a1 ((((((((((19*(a1%19))+(a1/100))-((a1/100)/4))-((((a1/100)-(((a1/100)+8)/25))+1)/3))+15)%30)+(((((32+(2*((a1/100)%4)))+(2*((a1%100)/4)))-((((((19*(a1%19))+(a1/100))-((a1/100)/4))-((((a1/100)-(((a1/100)+8)/25))+1)/3))+15)%30))-((a1%100)%4))%7))-(7*((((a1%19)+(11*((((((19*(a1%19))+(a1/100))-((a1/100)/4))-((((a1/100)-(((a1/100)+8)/25))+1)/3))+15)%30)))+(22*(((((32+(2*((a1/100)%4)))+(2*((a1%100)/4)))-((((((19*(a1%19))+(a1/100))-((a1/100)/4))-((((a1/100)-(((a1/100)+8)/25))+1)/3))+15)%30))-((a1%100)%4))%7)))/451)))+114)/31) (((((((((((19*(a1%19))+(a1/100))-((a1/100)/4))-((((a1/100)-(((a1/100)+8)/25))+1)/3))+15)%30)+(((((32+(2*((a1/100)%4)))+(2*((a1%100)/4)))-((((((19*(a1%19))+(a1/100))-((a1/100)/4))-((((a1/100)-(((a1/100)+8)/25))+1)/3))+15)%30))-((a1%100)%4))%7))-(7*((((a1%19)+(11*((((((19*(a1%19))+(a1/100))-((a1/100)/4))-((((a1/100)-(((a1/100)+8)/25))+1)/3))+15)%30)))+(22*(((((32+(2*((a1/100)%4)))+(2*((a1%100)/4)))-((((((19*(a1%19))+(a1/100))-((a1/100)/4))-((((a1/100)-(((a1/100)+8)/25))+1)/3))+15)%30))-((a1%100)%4))%7)))/451)))+114)%31)+1))]
theorem eaDay (y:Int):S 265 [I y] [] (.tup [I (eaV y),I (eaE y)]) []:=by
 refine easter_Day_w ⟨fun c=> ?_,fun c=>⟨fun d=> ?_,fun d=> ?_⟩⟩
 ·unfold eaV eaE;rw[if_pos (.inl c),if_pos (.inl c)]
 ·unfold eaV eaE;rw[if_pos (.inr d),if_pos (.inr d)]
 ·unfold eaV eaE;rw[if_neg (by omega),if_neg (by omega)]
  have h:=(ea_ok (y:=y) (by omega) (by omega)).1
  have e:nbE y (eaS y/31) ((eaS y%31)+1)=0:=by unfold nbE;rw[if_pos h]
  show(SV.tup [I (eaN y),I (nbE y (eaS y/31) ((eaS y%31)+1))])=_
  rw[e]
theorem demurrageref11_rest_w {a1 a2:Int} {res:SV} (H:a2≠0∧Ir ((Int.tmod a1 a2)+a2)∧(I (Int.tmod ((Int.tmod a1 a2)+a2) a2):SV)=res):
  S 249 [I a1,I a2] [] (res) []:=by
 refine SCall.st fun X hX=> ?_
 obtain⟨h0,h1,HE⟩:=H
 exact(hX.to HE.symm).e [q_ h0,q_ h1,q_ h0,h_ [.t, .t, .t]]
theorem rRest {a b:Int} (h1: -1000000≤a) (h2:a≤1000000) (h3:(0:Int)<b) (h4:b≤1000000):S 249 [I a,I b] [] (I (a%b)) []:=by
 have g1:=Int.emod_nonneg a (show b≠0 by omega)
 have g2:=Int.emod_lt_of_pos a h3
 have g3: -b<a.tmod b∧a.tmod b<b:=by
  have u:=Int.tmod_lt_of_pos a h3
  have v:=Int.lt_tmod_of_pos a h3
  omega
 have g4:(a.tmod b+b).tmod b=a%b:=by
  rw[Int.tmod_eq_emod_of_nonneg (by omega),Int.tmod_def,Int.add_emod_right,Int.sub_eq_add_neg,←Int.mul_neg,Int.add_mul_emod_self_left]
 refine demurrageref11_rest_w ⟨by omega,irT (by omega), ?_⟩
 rw[g4]
noncomputable def demurrageref11_Day_h0 (x1:Int):SC:=
 ⟨[⟨233,slo 78 [(12,I x1)],[.code (bodyAt Tryz.f233 [1,1,1,1,1,1,1,1,1,1,1,1,1,0,0,0]), .inLoop (bodyAt Tryz.f233 [1,1,1,1,1,1,1,1,1,1,1,1,1,0,0,0]), .inBlock 0, .code (bodyAt Tryz.f233 [1,1,1,1,1,1,1,1,1,1,1,1,1,1])],{}⟩],[]⟩
theorem demurrageref11_Day_w0 {X:Cx} {a1:Int} {res:SV} (hX:Fi X 233 [] (res) []) (H:(a1<1→((.tup [I 0,I 3]):SV)=res)∧(¬a1<1→(a1>9999→((.tup [I 0,I 3]):SV)=res)∧(¬a1>9999→(((((((11*((a1%19)+1))+20)+((((8*((a1/100)+1))+5)/25)-5))-(((3*((a1/100)+1))/4)-12))%30))=25→(((a1%19)+1)>11→((44-(((((((11*((a1%19)+1))+20)+((((8*((a1/100)+1))+5)/25)-5))-(((3*((a1/100)+1))/4)-12))%30))+1))<21→Ok X (demurrageref11_Day_h0 ((((nbV a1 3 1)+((44-(((((((11*((a1%19)+1))+20)+((((8*((a1/100)+1))+5)/25)-5))-(((3*((a1/100)+1))/4)-12))%30))+1))+30))-1)+1)))∧(¬(44-(((((((11*((a1%19)+1))+20)+((((8*((a1/100)+1))+5)/25)-5))-(((3*((a1/100)+1))/4)-12))%30))+1))<21→Ok X (demurrageref11_Day_h0 ((((nbV a1 3 1)+(44-(((((((11*((a1%19)+1))+20)+((((8*((a1/100)+1))+5)/25)-5))-(((3*((a1/100)+1))/4)-12))%30))+1)))-1)+1))))∧(¬((a1%19)+1)>11→(((((((11*((a1%19)+1))+20)+((((8*((a1/100)+1))+5)/25)-5))-(((3*((a1/100)+1))/4)-12))%30))=24→((44-(((((((11*((a1%19)+1))+20)+((((8*((a1/100)+1))+5)/25)-5))-(((3*((a1/100)+1))/4)-12))%30))+1))<21→Ok X (demurrageref11_Day_h0 ((((nbV a1 3 1)+((44-(((((((11*((a1%19)+1))+20)+((((8*((a1/100)+1))+5)/25)-5))-(((3*((a1/100)+1))/4)-12))%30))+1))+30))-1)+1)))∧(¬(44-(((((((11*((a1%19)+1))+20)+((((8*((a1/100)+1))+5)/25)-5))-(((3*((a1/100)+1))/4)-12))%30))+1))<21→Ok X (demurrageref11_Day_h0 ((((nbV a1 3 1)+(44-(((((((11*((a1%19)+1))+20)+((((8*((a1/100)+1))+5)/25)-5))-(((3*((a1/100)+1))/4)-12))%30))+1)))-1)+1))))∧(((((((11*((a1%19)+1))+20)+((((8*((a1/100)+1))+5)/25)-5))-(((3*((a1/100)+1))/4)-12))%30))≠24→((44-((((((11*((a1%19)+1))+20)+((((8*((a1/100)+1))+5)/25)-5))-(((3*((a1/100)+1))/4)-12))%30)))<21→Ok X (demurrageref11_Day_h0 ((((nbV a1 3 1)+((44-((((((11*((a1%19)+1))+20)+((((8*((a1/100)+1))+5)/25)-5))-(((3*((a1/100)+1))/4)-12))%30)))+30))-1)+1)))∧(¬(44-((((((11*((a1%19)+1))+20)+((((8*((a1/100)+1))+5)/25)-5))-(((3*((a1/100)+1))/4)-12))%30)))<21→Ok X (demurrageref11_Day_h0 ((((nbV a1 3 1)+(44-((((((11*((a1%19)+1))+20)+((((8*((a1/100)+1))+5)/25)-5))-(((3*((a1/100)+1))/4)-12))%30))))-1)+1))))))∧(((((((11*((a1%19)+1))+20)+((((8*((a1/100)+1))+5)/25)-5))-(((3*((a1/100)+1))/4)-12))%30))≠25→(((((((11*((a1%19)+1))+20)+((((8*((a1/100)+1))+5)/25)-5))-(((3*((a1/100)+1))/4)-12))%30))=24→((44-(((((((11*((a1%19)+1))+20)+((((8*((a1/100)+1))+5)/25)-5))-(((3*((a1/100)+1))/4)-12))%30))+1))<21→Ok X (demurrageref11_Day_h0 ((((nbV a1 3 1)+((44-(((((((11*((a1%19)+1))+20)+((((8*((a1/100)+1))+5)/25)-5))-(((3*((a1/100)+1))/4)-12))%30))+1))+30))-1)+1)))∧(¬(44-(((((((11*((a1%19)+1))+20)+((((8*((a1/100)+1))+5)/25)-5))-(((3*((a1/100)+1))/4)-12))%30))+1))<21→Ok X (demurrageref11_Day_h0 ((((nbV a1 3 1)+(44-(((((((11*((a1%19)+1))+20)+((((8*((a1/100)+1))+5)/25)-5))-(((3*((a1/100)+1))/4)-12))%30))+1)))-1)+1))))∧(((((((11*((a1%19)+1))+20)+((((8*((a1/100)+1))+5)/25)-5))-(((3*((a1/100)+1))/4)-12))%30))≠24→((44-((((((11*((a1%19)+1))+20)+((((8*((a1/100)+1))+5)/25)-5))-(((3*((a1/100)+1))/4)-12))%30)))<21→Ok X (demurrageref11_Day_h0 ((((nbV a1 3 1)+((44-((((((11*((a1%19)+1))+20)+((((8*((a1/100)+1))+5)/25)-5))-(((3*((a1/100)+1))/4)-12))%30)))+30))-1)+1)))∧(¬(44-((((((11*((a1%19)+1))+20)+((((8*((a1/100)+1))+5)/25)-5))-(((3*((a1/100)+1))/4)-12))%30)))<21→Ok X (demurrageref11_Day_h0 ((((nbV a1 3 1)+(44-((((((11*((a1%19)+1))+20)+((((8*((a1/100)+1))+5)/25)-5))-(((3*((a1/100)+1))/4)-12))%30))))-1)+1)))))))):
  Ok X (entry Tryz.prog 233 [I a1] []):=by
 obtain⟨L0,K0⟩:=H
 by_cases h0:a1<1
 ·have HE:=L0 h0
  exact(hX.to HE.symm).e [n_ 3 (t_ (dt h0)),t_ rt]
 ·obtain⟨L1,K1⟩:=K0 h0
  refine hX.go [n_ 3 (f_ (df h0))] ?_
  by_cases h1:a1>9999
  ·have HE:=L1 h1
   exact(hX.to HE.symm).e [t_ (dt h1)]
  ·have h2:(0:Int)≤a1:=by omega
   have h3:Ir ((a1%19)+1):=irT (by omega)
   have h4:Ir (a1/100):=irT (by omega)
   have h5:Ir ((a1/100)+1):=irT (by omega)
   have h6:Ir (3*((a1/100)+1)):=irT (by omega)
   have h7:(0:Int)≤(3*((a1/100)+1)):=by omega
   have h8:Ir ((3*((a1/100)+1))/4):=irT (by omega)
   have h9:Ir (((3*((a1/100)+1))/4)-12):=irT (by omega)
   have h10:Ir (8*((a1/100)+1)):=irT (by omega)
   have h11:Ir ((8*((a1/100)+1))+5):=irT (by omega)
   have h12:(0:Int)≤((8*((a1/100)+1))+5):=by omega
   have h13:Ir (((8*((a1/100)+1))+5)/25):=irT (by omega)
   have h14:Ir ((((8*((a1/100)+1))+5)/25)-5):=irT (by omega)
   have h15:Ir (11*((a1%19)+1)):=irT (by omega)
   have h16:Ir ((11*((a1%19)+1))+20):=irT (by omega)
   have h17:Ir (((11*((a1%19)+1))+20)+((((8*((a1/100)+1))+5)/25)-5)):=irT (by omega)
   have h18:Ir ((((11*((a1%19)+1))+20)+((((8*((a1/100)+1))+5)/25)-5))-(((3*((a1/100)+1))/4)-12)):=irT (by omega)
   have h19: -1000000≤((((11*((a1%19)+1))+20)+((((8*((a1/100)+1))+5)/25)-5))-(((3*((a1/100)+1))/4)-12)):=by omega
   have h20:((((11*((a1%19)+1))+20)+((((8*((a1/100)+1))+5)/25)-5))-(((3*((a1/100)+1))/4)-12))≤1000000:=by omega
   obtain⟨L21,K21⟩:=K1 h1
   refine hX.go [f_ (df h1),q_ h2,q_ (show(0:Int)<19 from by decide),q_ h3,q_ h2,q_ (show(0:Int)<100 from by decide),q_ h4,q_ h5,q_ h6,q_ h7,q_ (show(0:Int)<4 from by decide),q_ h8,q_ h9,q_ h10,q_ h11,q_ h12,q_ (show(0:Int)<25 from by decide),q_ h13,q_ h14,q_ h15,q_ h16,q_ h17,q_ h18,c_ [] (show S 249 [I ((((11*((a1%19)+1))+20)+((((8*((a1/100)+1))+5)/25)-5))-(((3*((a1/100)+1))/4)-12)),I 30] [] (I ((((((11*((a1%19)+1))+20)+((((8*((a1/100)+1))+5)/25)-5))-(((3*((a1/100)+1))/4)-12))%30))) []from rRest h19 h20 (by decide) (by decide))] ?_
   by_cases h21:((((((11*((a1%19)+1))+20)+((((8*((a1/100)+1))+5)/25)-5))-(((3*((a1/100)+1))/4)-12))%30))=25
   ·obtain⟨L22,K22⟩:=L21 h21
    refine hX.go [n_ 3 (t_ (beq_iff_eq.2 h21))] ?_
    by_cases h22:((a1%19)+1)>11
    ·have h23:Ir (((((((11*((a1%19)+1))+20)+((((8*((a1/100)+1))+5)/25)-5))-(((3*((a1/100)+1))/4)-12))%30))+1):=irT (by omega)
     have h24:Ir (44-(((((((11*((a1%19)+1))+20)+((((8*((a1/100)+1))+5)/25)-5))-(((3*((a1/100)+1))/4)-12))%30))+1)):=irT (by omega)
     obtain⟨L25,K25⟩:=L22 h22
     refine hX.go [n_ 3 (t_ (dt h22)),t_ rt,q_ h23,q_ h24] ?_
     by_cases h25:(44-(((((((11*((a1%19)+1))+20)+((((8*((a1/100)+1))+5)/25)-5))-(((3*((a1/100)+1))/4)-12))%30))+1))<21
     ·have h26:Ir ((44-(((((((11*((a1%19)+1))+20)+((((8*((a1/100)+1))+5)/25)-5))-(((3*((a1/100)+1))/4)-12))%30))+1))+30):=irT (by omega)
      have h27:Ir ((nbV a1 3 1)+((44-(((((((11*((a1%19)+1))+20)+((((8*((a1/100)+1))+5)/25)-5))-(((3*((a1/100)+1))/4)-12))%30))+1))+30)):=irT (by have:=nbV_le a1 3 1;omega)
      have h28:Ir (((nbV a1 3 1)+((44-(((((((11*((a1%19)+1))+20)+((((8*((a1/100)+1))+5)/25)-5))-(((3*((a1/100)+1))/4)-12))%30))+1))+30))-1):=irT (by have:=nbV_le a1 3 1;omega)
      have h29:Ir ((((nbV a1 3 1)+((44-(((((((11*((a1%19)+1))+20)+((((8*((a1/100)+1))+5)/25)-5))-(((3*((a1/100)+1))/4)-12))%30))+1))+30))-1)+1):=irT (by have:=nbV_le a1 3 1;omega)
      have k:=L25 h25
      exact hX.h 34 [t_ (dt h25),q_ h26,c_ [] (rNumberT a1 3 1),q_ h27,q_ h28,q_ h29] (oldM 0) k
     ·have h26:Ir ((nbV a1 3 1)+(44-(((((((11*((a1%19)+1))+20)+((((8*((a1/100)+1))+5)/25)-5))-(((3*((a1/100)+1))/4)-12))%30))+1))):=irT (by have:=nbV_le a1 3 1;omega)
      have h27:Ir (((nbV a1 3 1)+(44-(((((((11*((a1%19)+1))+20)+((((8*((a1/100)+1))+5)/25)-5))-(((3*((a1/100)+1))/4)-12))%30))+1)))-1):=irT (by have:=nbV_le a1 3 1;omega)
      have h28:Ir ((((nbV a1 3 1)+(44-(((((((11*((a1%19)+1))+20)+((((8*((a1/100)+1))+5)/25)-5))-(((3*((a1/100)+1))/4)-12))%30))+1)))-1)+1):=irT (by have:=nbV_le a1 3 1;omega)
      have k:=K25 h25
      exact hX.h 30 [f_ (df h25),c_ [] (rNumberT a1 3 1),q_ h26,q_ h27,q_ h28] (oldM 0) k
    ·obtain⟨L23,K23⟩:=K22 h22
     refine hX.go [n_ 3 (f_ (df h22))] ?_
     by_cases h23:((((((11*((a1%19)+1))+20)+((((8*((a1/100)+1))+5)/25)-5))-(((3*((a1/100)+1))/4)-12))%30))=24
     ·have h24:Ir (((((((11*((a1%19)+1))+20)+((((8*((a1/100)+1))+5)/25)-5))-(((3*((a1/100)+1))/4)-12))%30))+1):=irT (by omega)
      have h25:Ir (44-(((((((11*((a1%19)+1))+20)+((((8*((a1/100)+1))+5)/25)-5))-(((3*((a1/100)+1))/4)-12))%30))+1)):=irT (by omega)
      obtain⟨L26,K26⟩:=L23 h23
      refine hX.go [t_ (beq_iff_eq.2 h23),q_ h24,q_ h25] ?_
      by_cases h26:(44-(((((((11*((a1%19)+1))+20)+((((8*((a1/100)+1))+5)/25)-5))-(((3*((a1/100)+1))/4)-12))%30))+1))<21
      ·have h27:Ir ((44-(((((((11*((a1%19)+1))+20)+((((8*((a1/100)+1))+5)/25)-5))-(((3*((a1/100)+1))/4)-12))%30))+1))+30):=irT (by omega)
       have h28:Ir ((nbV a1 3 1)+((44-(((((((11*((a1%19)+1))+20)+((((8*((a1/100)+1))+5)/25)-5))-(((3*((a1/100)+1))/4)-12))%30))+1))+30)):=irT (by have:=nbV_le a1 3 1;omega)
       have h29:Ir (((nbV a1 3 1)+((44-(((((((11*((a1%19)+1))+20)+((((8*((a1/100)+1))+5)/25)-5))-(((3*((a1/100)+1))/4)-12))%30))+1))+30))-1):=irT (by have:=nbV_le a1 3 1;omega)
       have h30:Ir ((((nbV a1 3 1)+((44-(((((((11*((a1%19)+1))+20)+((((8*((a1/100)+1))+5)/25)-5))-(((3*((a1/100)+1))/4)-12))%30))+1))+30))-1)+1):=irT (by have:=nbV_le a1 3 1;omega)
       have k:=L26 h26
       exact hX.h 34 [t_ (dt h26),q_ h27,c_ [] (rNumberT a1 3 1),q_ h28,q_ h29,q_ h30] (oldM 0) k
      ·have h27:Ir ((nbV a1 3 1)+(44-(((((((11*((a1%19)+1))+20)+((((8*((a1/100)+1))+5)/25)-5))-(((3*((a1/100)+1))/4)-12))%30))+1))):=irT (by have:=nbV_le a1 3 1;omega)
       have h28:Ir (((nbV a1 3 1)+(44-(((((((11*((a1%19)+1))+20)+((((8*((a1/100)+1))+5)/25)-5))-(((3*((a1/100)+1))/4)-12))%30))+1)))-1):=irT (by have:=nbV_le a1 3 1;omega)
       have h29:Ir ((((nbV a1 3 1)+(44-(((((((11*((a1%19)+1))+20)+((((8*((a1/100)+1))+5)/25)-5))-(((3*((a1/100)+1))/4)-12))%30))+1)))-1)+1):=irT (by have:=nbV_le a1 3 1;omega)
       have k:=K26 h26
       exact hX.h 30 [f_ (df h26),c_ [] (rNumberT a1 3 1),q_ h27,q_ h28,q_ h29] (oldM 0) k
     ·have h24:Ir (44-((((((11*((a1%19)+1))+20)+((((8*((a1/100)+1))+5)/25)-5))-(((3*((a1/100)+1))/4)-12))%30))):=irT (by omega)
      obtain⟨L25,K25⟩:=K23 h23
      refine hX.go [f_ (beq_eq_false_iff_ne.2 h23),q_ h24] ?_
      by_cases h25:(44-((((((11*((a1%19)+1))+20)+((((8*((a1/100)+1))+5)/25)-5))-(((3*((a1/100)+1))/4)-12))%30)))<21
      ·have h26:Ir ((44-((((((11*((a1%19)+1))+20)+((((8*((a1/100)+1))+5)/25)-5))-(((3*((a1/100)+1))/4)-12))%30)))+30):=irT (by omega)
       have h27:Ir ((nbV a1 3 1)+((44-((((((11*((a1%19)+1))+20)+((((8*((a1/100)+1))+5)/25)-5))-(((3*((a1/100)+1))/4)-12))%30)))+30)):=irT (by have:=nbV_le a1 3 1;omega)
       have h28:Ir (((nbV a1 3 1)+((44-((((((11*((a1%19)+1))+20)+((((8*((a1/100)+1))+5)/25)-5))-(((3*((a1/100)+1))/4)-12))%30)))+30))-1):=irT (by have:=nbV_le a1 3 1;omega)
       have h29:Ir ((((nbV a1 3 1)+((44-((((((11*((a1%19)+1))+20)+((((8*((a1/100)+1))+5)/25)-5))-(((3*((a1/100)+1))/4)-12))%30)))+30))-1)+1):=irT (by have:=nbV_le a1 3 1;omega)
       have k:=L25 h25
       exact hX.h 34 [t_ (dt h25),q_ h26,c_ [] (rNumberT a1 3 1),q_ h27,q_ h28,q_ h29] (oldM 0) k
      ·have h26:Ir ((nbV a1 3 1)+(44-((((((11*((a1%19)+1))+20)+((((8*((a1/100)+1))+5)/25)-5))-(((3*((a1/100)+1))/4)-12))%30)))):=irT (by have:=nbV_le a1 3 1;omega)
       have h27:Ir (((nbV a1 3 1)+(44-((((((11*((a1%19)+1))+20)+((((8*((a1/100)+1))+5)/25)-5))-(((3*((a1/100)+1))/4)-12))%30))))-1):=irT (by have:=nbV_le a1 3 1;omega)
       have h28:Ir ((((nbV a1 3 1)+(44-((((((11*((a1%19)+1))+20)+((((8*((a1/100)+1))+5)/25)-5))-(((3*((a1/100)+1))/4)-12))%30))))-1)+1):=irT (by have:=nbV_le a1 3 1;omega)
       have k:=K25 h25
       exact hX.h 30 [f_ (df h25),c_ [] (rNumberT a1 3 1),q_ h26,q_ h27,q_ h28] (oldM 0) k
   ·obtain⟨L22,K22⟩:=K21 h21
    refine hX.go [n_ 3 (f_ (beq_eq_false_iff_ne.2 h21)),n_ 3 (f_ rf)] ?_
    by_cases h22:((((((11*((a1%19)+1))+20)+((((8*((a1/100)+1))+5)/25)-5))-(((3*((a1/100)+1))/4)-12))%30))=24
    ·have h23:Ir (((((((11*((a1%19)+1))+20)+((((8*((a1/100)+1))+5)/25)-5))-(((3*((a1/100)+1))/4)-12))%30))+1):=irT (by omega)
     have h24:Ir (44-(((((((11*((a1%19)+1))+20)+((((8*((a1/100)+1))+5)/25)-5))-(((3*((a1/100)+1))/4)-12))%30))+1)):=irT (by omega)
     obtain⟨L25,K25⟩:=L22 h22
     refine hX.go [t_ (beq_iff_eq.2 h22),q_ h23,q_ h24] ?_
     by_cases h25:(44-(((((((11*((a1%19)+1))+20)+((((8*((a1/100)+1))+5)/25)-5))-(((3*((a1/100)+1))/4)-12))%30))+1))<21
     ·have h26:Ir ((44-(((((((11*((a1%19)+1))+20)+((((8*((a1/100)+1))+5)/25)-5))-(((3*((a1/100)+1))/4)-12))%30))+1))+30):=irT (by omega)
      have h27:Ir ((nbV a1 3 1)+((44-(((((((11*((a1%19)+1))+20)+((((8*((a1/100)+1))+5)/25)-5))-(((3*((a1/100)+1))/4)-12))%30))+1))+30)):=irT (by have:=nbV_le a1 3 1;omega)
      have h28:Ir (((nbV a1 3 1)+((44-(((((((11*((a1%19)+1))+20)+((((8*((a1/100)+1))+5)/25)-5))-(((3*((a1/100)+1))/4)-12))%30))+1))+30))-1):=irT (by have:=nbV_le a1 3 1;omega)
      have h29:Ir ((((nbV a1 3 1)+((44-(((((((11*((a1%19)+1))+20)+((((8*((a1/100)+1))+5)/25)-5))-(((3*((a1/100)+1))/4)-12))%30))+1))+30))-1)+1):=irT (by have:=nbV_le a1 3 1;omega)
      have k:=L25 h25
      exact hX.h 34 [t_ (dt h25),q_ h26,c_ [] (rNumberT a1 3 1),q_ h27,q_ h28,q_ h29] (oldM 0) k
     ·have h26:Ir ((nbV a1 3 1)+(44-(((((((11*((a1%19)+1))+20)+((((8*((a1/100)+1))+5)/25)-5))-(((3*((a1/100)+1))/4)-12))%30))+1))):=irT (by have:=nbV_le a1 3 1;omega)
      have h27:Ir (((nbV a1 3 1)+(44-(((((((11*((a1%19)+1))+20)+((((8*((a1/100)+1))+5)/25)-5))-(((3*((a1/100)+1))/4)-12))%30))+1)))-1):=irT (by have:=nbV_le a1 3 1;omega)
      have h28:Ir ((((nbV a1 3 1)+(44-(((((((11*((a1%19)+1))+20)+((((8*((a1/100)+1))+5)/25)-5))-(((3*((a1/100)+1))/4)-12))%30))+1)))-1)+1):=irT (by have:=nbV_le a1 3 1;omega)
      have k:=K25 h25
      exact hX.h 30 [f_ (df h25),c_ [] (rNumberT a1 3 1),q_ h26,q_ h27,q_ h28] (oldM 0) k
    ·have h23:Ir (44-((((((11*((a1%19)+1))+20)+((((8*((a1/100)+1))+5)/25)-5))-(((3*((a1/100)+1))/4)-12))%30))):=irT (by omega)
     obtain⟨L24,K24⟩:=K22 h22
     refine hX.go [f_ (beq_eq_false_iff_ne.2 h22),q_ h23] ?_
     by_cases h24:(44-((((((11*((a1%19)+1))+20)+((((8*((a1/100)+1))+5)/25)-5))-(((3*((a1/100)+1))/4)-12))%30)))<21
     ·have h25:Ir ((44-((((((11*((a1%19)+1))+20)+((((8*((a1/100)+1))+5)/25)-5))-(((3*((a1/100)+1))/4)-12))%30)))+30):=irT (by omega)
      have h26:Ir ((nbV a1 3 1)+((44-((((((11*((a1%19)+1))+20)+((((8*((a1/100)+1))+5)/25)-5))-(((3*((a1/100)+1))/4)-12))%30)))+30)):=irT (by have:=nbV_le a1 3 1;omega)
      have h27:Ir (((nbV a1 3 1)+((44-((((((11*((a1%19)+1))+20)+((((8*((a1/100)+1))+5)/25)-5))-(((3*((a1/100)+1))/4)-12))%30)))+30))-1):=irT (by have:=nbV_le a1 3 1;omega)
      have h28:Ir ((((nbV a1 3 1)+((44-((((((11*((a1%19)+1))+20)+((((8*((a1/100)+1))+5)/25)-5))-(((3*((a1/100)+1))/4)-12))%30)))+30))-1)+1):=irT (by have:=nbV_le a1 3 1;omega)
      have k:=L24 h24
      exact hX.h 34 [t_ (dt h24),q_ h25,c_ [] (rNumberT a1 3 1),q_ h26,q_ h27,q_ h28] (oldM 0) k
     ·have h25:Ir ((nbV a1 3 1)+(44-((((((11*((a1%19)+1))+20)+((((8*((a1/100)+1))+5)/25)-5))-(((3*((a1/100)+1))/4)-12))%30)))):=irT (by have:=nbV_le a1 3 1;omega)
      have h26:Ir (((nbV a1 3 1)+(44-((((((11*((a1%19)+1))+20)+((((8*((a1/100)+1))+5)/25)-5))-(((3*((a1/100)+1))/4)-12))%30))))-1):=irT (by have:=nbV_le a1 3 1;omega)
      have h27:Ir ((((nbV a1 3 1)+(44-((((((11*((a1%19)+1))+20)+((((8*((a1/100)+1))+5)/25)-5))-(((3*((a1/100)+1))/4)-12))%30))))-1)+1):=irT (by have:=nbV_le a1 3 1;omega)
      have k:=K24 h24
      exact hX.h 30 [f_ (df h24),c_ [] (rNumberT a1 3 1),q_ h25,q_ h26,q_ h27] (oldM 0) k
theorem demurrageref11_Day_w1 {X:Cx} {x1:Int} {res:SV} (hX:Fi X 233 [] (res) []) (hx:(0:Int)≤x1∧x1≤5000000) (H:((wdy x1)≠6→Ok X (demurrageref11_Day_h0 (x1+1)))∧((wdy x1)=6→((.tup [I x1,I 0]):SV)=res)):
  Ok X (demurrageref11_Day_h0 x1):=by
 have h0:(0:Int)≤x1:=by omega
 obtain⟨L1,K1⟩:=H
 refine hX.go [c_ [] (show S 128 [I x1] [] (I (wdy x1)) []from rWeek h0)] ?_
 by_cases h1:(wdy x1)=6
 ·have HE:=K1 h1
  exact(hX.to HE.symm).e [f_ (bne_eq_false_iff_eq.2 h1)]
 ·have h2:Ir (x1+1):=irT (by omega)
  have k:=L1 h1
  exact hX.h 10 [t_ (bne_iff_ne.2 h1),q_ h2] (oldM 0) k
theorem ea_loop {X:Cx} {res:SV} (hX:Fi X 233 [] res []): ∀ (f:Nat) (d:Int),6-wdy d=(f:Int)→0≤d→d+f≤4000000→ .tup [I (d+(6-wdy d)),I 0]=res→Ok X (demurrageref11_Day_h0 d)
 |0,d,hf,h0,h1,hr=>by
  refine demurrageref11_Day_w1 hX ⟨h0,by omega⟩ ⟨fun c=>absurd (show wdy d=6 by omega) c,fun c=> ?_⟩
  rw[←hr,c,Int.sub_self,Int.add_zero]
 |f+1,d,hf,h0,h1,hr=>by
  have e:wdy (d+1)=wdy d+1:=by unfold wdy at hf⊢;omega
  refine demurrageref11_Day_w1 hX ⟨h0,by omega⟩ ⟨fun c=>ea_loop hX f (d+1) (by omega) (by omega) (by omega) ?_,fun c=>absurd hf (by omega)⟩
  rw[←hr,e,show d+1+(6-(wdy d+1))=d+(6-wdy d)by omega]
theorem rEaDay (y:Int):S 233 [I y] [] (.tup [I (eaV y),I (eaE y)]) []:=by
 refine SCall.st fun X hX=> ?_
 by_cases c1:y<1
 ·exact demurrageref11_Day_w0 hX ⟨fun c=>(by unfold eaV eaE;rw[if_pos (.inl c),if_pos (.inl c)]),fun c=>absurd c1 c⟩
 by_cases c2:y>9999
 ·exact demurrageref11_Day_w0 hX ⟨fun c=>absurd c c1,fun c=>⟨fun d=>(by unfold eaV eaE;rw[if_pos (.inr d),if_pos (.inr d)]),fun d=>absurd c2 d⟩⟩
 have hd:=nbV_le y 3 1
 obtain⟨-,ok,n1,n2⟩:=ea_ok (y:=y) (by omega) (by omega)
 have key:Ok X (demurrageref11_Day_h0 (reD y)):=by
  have w:=wdy_le (reD y)
  have rb:0≤reD y∧reD y≤3700000:=by unfold reD;omega
  refine ea_loop hX (6-wdy (reD y)).toNat (reD y) (by omega) rb.1 (by omega) ?_
  rw[ok];unfold eaV eaE;rw[if_neg (by omega),if_neg (by omega)]
 have r1: ∀ z,reF y=z→44-z<21→nbV y 3 1+(44-z+30)-1+1=reD y:=fun z hz c=>by unfold reD reN;rw[hz,if_pos c]
 have r2: ∀ z,reF y=z→ ¬44-z<21→nbV y 3 1+(44-z)-1+1=reD y:=fun z hz c=>by unfold reD reN;rw[hz,if_neg c]
 have f1:reE y=25∧(y%19)+1>11∨reE y=24→reF y=reE y+1:=fun c=>by unfold reF;rw[if_pos c]
 have f2: ¬(reE y=25∧(y%19)+1>11∨reE y=24)→reF y=reE y:=fun c=>by unfold reF;rw[if_neg c]
 refine demurrageref11_Day_w0 hX ⟨fun c=>absurd c c1,fun _=>⟨fun c=>absurd c c2,fun _=> ?_⟩⟩
 change (reE y=25→((y%19)+1>11→(44-(reE y+1)<21→Ok X (demurrageref11_Day_h0 (nbV y 3 1+(44-(reE y+1)+30)-1+1)))∧(¬44-(reE y+1)<21→Ok X (demurrageref11_Day_h0 (nbV y 3 1+(44-(reE y+1))-1+1))))∧(¬(y%19)+1>11→(reE y=24→(44-(reE y+1)<21→Ok X (demurrageref11_Day_h0 (nbV y 3 1+(44-(reE y+1)+30)-1+1)))∧(¬44-(reE y+1)<21→Ok X (demurrageref11_Day_h0 (nbV y 3 1+(44-(reE y+1))-1+1))))∧(reE y≠24→(44-reE y<21→Ok X (demurrageref11_Day_h0 (nbV y 3 1+(44-reE y+30)-1+1)))∧(¬44-reE y<21→Ok X (demurrageref11_Day_h0 (nbV y 3 1+(44-reE y)-1+1))))))∧(reE y≠25→(reE y=24→(44-(reE y+1)<21→Ok X (demurrageref11_Day_h0 (nbV y 3 1+(44-(reE y+1)+30)-1+1)))∧(¬44-(reE y+1)<21→Ok X (demurrageref11_Day_h0 (nbV y 3 1+(44-(reE y+1))-1+1))))∧(reE y≠24→(44-reE y<21→Ok X (demurrageref11_Day_h0 (nbV y 3 1+(44-reE y+30)-1+1)))∧(¬44-reE y<21→Ok X (demurrageref11_Day_h0 (nbV y 3 1+(44-reE y)-1+1)))))
 refine⟨fun c=>⟨fun d=> ?_,fun d=>⟨fun e=> ?_,fun e=> ?_⟩⟩,fun c=>⟨fun e=> ?_,fun e=> ?_⟩⟩
 ·have f:=f1 (.inl ⟨c,d⟩)
  exact⟨fun g=>(by rw[r1 _ f g];exact key),fun g=>(by rw[r2 _ f g];exact key)⟩
 ·omega
 ·have f:=f2 (by omega)
  exact⟨fun g=>(by rw[r1 _ f g];exact key),fun g=>(by rw[r2 _ f g];exact key)⟩
 ·have f:=f1 (.inr e)
  exact⟨fun g=>(by rw[r1 _ f g];exact key),fun g=>(by rw[r2 _ f g];exact key)⟩
 ·have f:=f2 (by omega)
  exact⟨fun g=>(by rw[r1 _ f g];exact key),fun g=>(by rw[r2 _ f g];exact key)⟩
end Go.Proofs.YtelidogcomffkaaGreatDoor
