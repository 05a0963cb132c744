import Derived.Test.YtelidogcomffkaaGreatDoorBig
import Derived.Test.YtelidogcomffkaaGreatDoorProg
import Derived.KernelRfl
import Derived.Laws.Externs
set_option linter.unusedSectionVars false
set_option linter.unusedSimpArgs false
set_option linter.unusedVariables false
set_option maxRecDepth 100000
namespace Go.Proofs.YtelidogcomffkaaGreatDoor
open Go Go.Sx
variable [Env]
def lp (y:Int):Bool:=decide (y%4=0∧(y%100≠0∨y%400=0))
def len (y m:Int):Int:=if m<1∨m>12 then 0 else if m=2∧lp y=true then 29 else lens m.toNat
def mons (y:Int):Nat→Int
 |0=>0
 |m+1=>mons y m+len y ((m+1:Nat):Int)
def ahd (y:Int):Int:=365*(y-1)+(y-1)/4-(y-1)/100+(y-1)/400
theorem lens_le (i:Nat):lens i≤31∧0≤lens i:=by
 match i with
 |0|1|2|3|4|5|6|7|8|9|10|11|12=>exact⟨by decide,by decide⟩
 |n+13=>exact⟨by simp[lens],by simp[lens]⟩
theorem len_le (y m:Int):len y m≤31∧0≤len y m:=by
 have:=lens_le m.toNat
 unfold len;split
 ·omega
 ·split
  ·omega
  ·exact this
theorem mons_le (y:Int): ∀ m:Nat,mons y m≤31*(m:Int)∧0≤mons y m
 |0=>by simp[mons]
 |m+1=>by
  have h1:=mons_le y m
  have h2:=len_le y ((m+1:Nat):Int)
  unfold mons;omega
theorem mons12 (y:Int):mons y 12=365+if lp y=true then 1 else 0:=by
 cases h:lp y<;>simp[mons,len,h,lens]
def q4 (mx d n:Int):Int:=if mx<n/d then mx else n/d
theorem q4_ok (mx d n:Int):q4 mx d n≤mx∧q4 mx d n≤n/d∧(q4 mx d n=mx∨q4 mx d n=n/d):=by unfold q4;split<;>omega
def ofYr (n:Int):Int×Int:=
 let k1:=q4 24 146097 (n-1)
 let n1:=(n-1)-k1*146097
 let k2:=q4 3 36524 n1
 let n2:=n1-k2*36524
 let k3:=q4 24 1461 n2
 let n3:=n2-k3*1461
 let k4:=q4 3 365 n3
 (1+k1*400+k2*100+k3*4+k4*1,n3-k4*365)
theorem ahd_parts {k1 k2 k3 k4:Int} (h2:0≤k2∧k2≤3) (h3:0≤k3∧k3≤24) (h4:0≤k4∧k4≤3):ahd (400*k1+100*k2+4*k3+k4+1)=146097*k1+36524*k2+1461*k3+365*k4:=by
 have e1:(400*k1+100*k2+4*k3+k4+1-1)/4=100*k1+25*k2+k3:=by omega
 have e2:(400*k1+100*k2+4*k3+k4+1-1)/100=4*k1+k2:=by omega
 have e3:(400*k1+100*k2+4*k3+k4+1-1)/400=k1:=by omega
 unfold ahd
 rw[e1,e2,e3]
 omega
theorem yr_core {n n1 n2 n3 k1 k2 k3 k4:Int} (h1:1≤n) (h2:n≤3652059) (g1:k1≤24∧k1≤(n-1)/146097∧(k1=24∨k1=(n-1)/146097)) (hn1:n-1-k1*146097=n1)
  (g2:k2≤3∧k2≤n1/36524∧(k2=3∨k2=n1/36524)) (hn2:n1-k2*36524=n2) (g3:k3≤24∧k3≤n2/1461∧(k3=24∨k3=n2/1461)) (hn3:n2-k3*1461=n3)
  (g4:k4≤3∧k4≤n3/365∧(k4=3∨k4=n3/365)):
  1≤1+k1*400+k2*100+k3*4+k4*1∧1+k1*400+k2*100+k3*4+k4*1≤9999∧0≤n3-k4*365∧n3-k4*365<mons (1+k1*400+k2*100+k3*4+k4*1) 12∧
   n=ahd (1+k1*400+k2*100+k3*4+k4*1)+(n3-k4*365)+1:=by
 rw[mons12]
 have a1:0≤k1∧k1≤24∧0≤n1∧n1<146097:=by omega
 have a2:0≤k2∧k2≤3∧0≤n2∧n2≤36524∧(k2<3→n2<36524):=by omega
 have a3:0≤k3∧k3≤24∧0≤n3∧n3<1461∧(k3=24→k2<3→n3<1460):=by omega
 have a4:0≤k4∧k4≤3∧0≤n3-k4*365∧n3-k4*365≤365∧(n3-k4*365=365→k4=3∧n3=1460):=by omega
 have e:1+k1*400+k2*100+k3*4+k4*1=400*k1+100*k2+4*k3+k4+1:=by omega
 rw[e]
 have hah:ahd (400*k1+100*k2+4*k3+k4+1)=146097*k1+36524*k2+1461*k3+365*k4:=ahd_parts ⟨a2.1,a2.2.1⟩ ⟨a3.1,a3.2.1⟩ ⟨a4.1,a4.2.1⟩
 refine⟨by omega, ?_,by omega, ?_,by rw[hah];omega⟩
 ·have hs:146097*k1+36524*k2+1461*k3+365*k4≤3652058:=by omega
  have c1:=a1.2.1
  have c2:=a2.2.1
  have c3:=a3.2.1
  have c4:=a4.2.1
  clear g1 g2 g3 g4 hah a1 a2 a3 a4 e hn1 hn2 hn3
  omega
 by_cases hl:n3-k4*365=365
 ·have h3:lp (400*k1+100*k2+4*k3+k4+1)=true:=by
   unfold lp;rw[decide_eq_true_eq]
   obtain⟨b1,b2⟩:=a4.2.2.2.2 hl
   by_cases hk:k3=24
   ·have:k2=3:=by
     by_cases h:k2<3
     ·have:=a3.2.2.2.2 hk h;omega
     ·omega
    omega
   ·omega
  rw[h3];simp;omega
 ·split<;>omega
theorem ofYr_ok {n:Int} (h1:1≤n) (h2:n≤3652059):1≤(ofYr n).1∧(ofYr n).1≤9999∧0≤(ofYr n).2∧(ofYr n).2<mons (ofYr n).1 12∧n=ahd (ofYr n).1+(ofYr n).2+1:=
 yr_core h1 h2 (q4_ok _ _ _) rfl (q4_ok _ _ _) rfl (q4_ok _ _ _) rfl (q4_ok _ _ _)
def ofMon (y:Int):Nat→Nat→Int→Int×Int
 |0,m,r=>((m:Int),r+1)
 |j+1,m,r=>if r≥len y (m:Int)then ofMon y j (m+1) (r-len y (m:Int))else((m:Int),r+1)
def civOf (n:Int):Int×Int×Int:=((ofYr n).1,ofMon (ofYr n).1 12 1 (ofYr n).2)
theorem ofMon_ok {y:Int}: ∀ {j m:Nat} {r:Int},j+m=13→1≤m→0≤r→r<mons y 12-mons y (m-1)→
  ∃ M:Nat,(ofMon y j m r).1=(M:Int)∧m≤M∧M≤12∧1≤(ofMon y j m r).2∧(ofMon y j m r).2≤len y (M:Int)∧mons y (M-1)+(ofMon y j m r).2=mons y (m-1)+r+1
 |0,m,r,hj,hm,hr,hl=>by
  have:m=13:=by omega
  subst this;simp at hl;omega
 |j+1,m,r,hj,hm,hr,hl=>by
  have e:mons y m=mons y (m-1)+len y (m:Int):=by
   obtain⟨k,rfl⟩: ∃ k,m=k+1:=⟨m-1,by omega⟩
   rfl
  unfold ofMon
  split
  ·rename_i h
   obtain⟨M,h1,h2,h3,h4,h5,h6⟩:= @ofMon_ok y j (m+1) (r-len y (m:Int)) (by omega) (by omega) (by omega) (by simp only[Nat.add_sub_cancel];omega)
   refine⟨M,h1,by omega,h3,h4,h5, ?_⟩
   simp only[Nat.add_sub_cancel]at h6
   omega
  ·exact⟨m,rfl,Nat.le_refl _,by omega,by simp only;omega,by simp only;omega,by simp only;omega⟩
theorem civOf_ok {n:Int} (h1:1≤n) (h2:n≤3652059): ∃ M:Nat,(civOf n).2.1=(M:Int)∧1≤M∧M≤12∧1≤(civOf n).1∧(civOf n).1≤9999∧1≤(civOf n).2.2∧(civOf n).2.2≤len (civOf n).1 (M:Int)∧
  n=ahd (civOf n).1+mons (civOf n).1 (M-1)+(civOf n).2.2:=by
 obtain⟨a1,a2,a3,a4,a5⟩:=ofYr_ok h1 h2
 obtain⟨M,b1,b2,b3,b4,b5,b6⟩:= @ofMon_ok _ (ofYr n).1 12 1 (ofYr n).2 rfl (by omega) a3 (by simpa[mons]using a4)
 refine⟨M,b1,b2,b3,a1,a2,b4,b5, ?_⟩
 have:mons (ofYr n).1 (1-1)=0:=rfl
 show n=ahd (ofYr n).1+mons (ofYr n).1 (M-1)+(ofMon (ofYr n).1 12 1 (ofYr n).2).2
 omega
theorem civil_Leap_0 {a1:Int} (h0:(0:Int)≤a1) (h1:(a1%4)=0) (h2:(a1%100)≠0):
  S 121 [I a1] [] (B true) []:=
 SCall.path 21 [tb,tb,tb,tb,tb,tb,tb,tb,tb,tb] [] 0 (by kernel_rfl) rfl (by exact trivial) (ca h0 (ca (show(0:Int)<4 from by decide) (ca (beq_iff_eq.2 h1) (ca (beq_iff_eq.2 h1) (ca h0 (ca (show(0:Int)<100 from by decide) (ca (beq_iff_eq.2 h1) (ca (beq_iff_eq.2 h1) (ca (bne_iff_ne.2 h2) (ca (bne_iff_ne.2 h2) (ca (bne_iff_ne.2 h2) (ca (beq_iff_eq.2 h1) (ca (bne_iff_ne.2 h2) (ca (beq_iff_eq.2 h1) na))))))))))))))
theorem civil_Leap_1 {a1:Int} (h0:(0:Int)≤a1) (h1:(a1%4)=0) (h2:(a1%100)=0):
  S 121 [I a1] [] (B ((a1%400)==0)) []:=
 SCall.path 21 [tb,tb,tb,tb,fb,fb,fb,tb,fb,tb] [] 0 (by kernel_rfl) rfl (by exact trivial) (ca h0 (ca (show(0:Int)<4 from by decide) (ca (beq_iff_eq.2 h1) (ca (beq_iff_eq.2 h1) (ca h0 (ca (show(0:Int)<100 from by decide) (ca (beq_iff_eq.2 h1) (ca (beq_iff_eq.2 h1) (ca (bne_eq_false_iff_eq.2 h2) (ca (bne_eq_false_iff_eq.2 h2) (ca h0 (ca (show(0:Int)<400 from by decide) (ca (bne_eq_false_iff_eq.2 h2) (ca (beq_iff_eq.2 h1) (ca (bne_eq_false_iff_eq.2 h2) (ca (beq_iff_eq.2 h1) na))))))))))))))))
theorem civil_Leap_2 {a1:Int} (h0:(0:Int)≤a1) (h1:(a1%4)≠0):
  S 121 [I a1] [] (B false) []:=
 SCall.path 21 [fb,fb,fb,fb,fb,fb] [] 0 (by kernel_rfl) rfl (by exact trivial) (ca h0 (ca (show(0:Int)<4 from by decide) (ca (beq_eq_false_iff_ne.2 h1) (ca (beq_eq_false_iff_ne.2 h1) (ca (beq_eq_false_iff_ne.2 h1) (ca (beq_eq_false_iff_ne.2 h1) (ca (beq_eq_false_iff_ne.2 h1) (ca (beq_eq_false_iff_ne.2 h1) na))))))))
theorem cLeap {y:Int} (h:0≤y):SCall Tryz.prog GL 121 [I y] [] (B (lp y)) []:=by
 unfold lp
 by_cases h1:y%4=0
 ·by_cases h2:y%100=0
  ·have:=civil_Leap_1 h h1 h2
   rw[show decide (y%4=0∧(y%100≠0∨y%400=0))=(y%400==0)by
    by_cases h3:y%400=0
    ·rw[h3];simp[h1]
    ·simp[h1,h2,h3]]
   exact this
  ·rw[decide_eq_true (by exact⟨h1, .inl h2⟩)]
   exact civil_Leap_0 h h1 h2
 ·rw[decide_eq_false (fun hh=>h1 hh.1)]
  exact civil_Leap_2 h h1
theorem civil_Length_0 {a1 a2:Int} (h0:a2<1):
  S 88 [I a1,I a2] [] (I 0) []:=
 SCall.path 19 [tb,tb,tb,tb] [] 0 (by kernel_rfl) rfl (by exact trivial) (ca (dt h0) (ca (dt h0) (ca (dt h0) (ca rt na))))
theorem civil_Length_1 {a1 a2:Int} (h0: ¬a2<1) (h1:a2>12):
  S 88 [I a1,I a2] [] (I 0) []:=
 SCall.path 19 [fb,fb,fb,tb] [] 0 (by kernel_rfl) rfl (by exact trivial) (ca (df h0) (ca (df h0) (ca (df h0) (ca (dt h1) na))))
theorem civil_Length_2 {a1 a2:Int} {r3:Bool} (h0: ¬a2<1) (h1: ¬a2>12) (h2:a2=2) (h3:S 121 [I a1] [] (B r3) []) (h4:r3=true) (h5:(0:Int)≤a2∧a2<((13:Nat):Int)) (h6:InR .i64 ((lens a2.toNat)+1)):
  S 88 [I a1,I a2] [] (I ((lens a2.toNat)+1)) []:=
 SCall.path 35 [fb,fb,fb,fb,tb,tb, .call [] (B r3) [],tb,tb] [] 0 (by kernel_rfl) rfl (by exact trivial) (ca (df h0) (ca (df h0) (ca (df h0) (ca (df h1) (ca (beq_iff_eq.2 h2) (ca (beq_iff_eq.2 h2) (ca h3 (ca (beq_iff_eq.2 h2) (ca h4 (ca h5 (ca h5 (ca h6 na))))))))))))
theorem civil_Length_3 {a1 a2:Int} {r3:Bool} (h0: ¬a2<1) (h1: ¬a2>12) (h2:a2=2) (h3:S 121 [I a1] [] (B r3) []) (h4:r3=false) (h5:(0:Int)≤a2∧a2<((13:Nat):Int)):
  S 88 [I a1,I a2] [] (I (lens a2.toNat)) []:=
 SCall.path 35 [fb,fb,fb,fb,tb,tb, .call [] (B r3) [],tb,fb] [] 0 (by kernel_rfl) rfl (by exact trivial) (ca (df h0) (ca (df h0) (ca (df h0) (ca (df h1) (ca (beq_iff_eq.2 h2) (ca (beq_iff_eq.2 h2) (ca h3 (ca (beq_iff_eq.2 h2) (ca h4 (ca h5 (ca h5 na)))))))))))
theorem civil_Length_4 {a1 a2:Int} (h0: ¬a2<1) (h1: ¬a2>12) (h2:a2≠2) (h3:(0:Int)≤a2∧a2<((13:Nat):Int)):
  S 88 [I a1,I a2] [] (I (lens a2.toNat)) []:=
 SCall.path 35 [fb,fb,fb,fb,fb,fb,fb,fb] [] 0 (by kernel_rfl) rfl (by exact trivial) (ca (df h0) (ca (df h0) (ca (df h0) (ca (df h1) (ca (beq_eq_false_iff_ne.2 h2) (ca (beq_eq_false_iff_ne.2 h2) (ca (beq_eq_false_iff_ne.2 h2) (ca rf (ca h3 (ca h3 na))))))))))
theorem cLength {y m:Int} (h:0≤y):SCall Tryz.prog GL 88 [I y,I m] [] (I (len y m)) []:=by
 unfold len
 have hl:=lens_le m.toNat
 split
 ·by_cases h1:m<1
  ·exact civil_Length_0 h1
  ·exact civil_Length_1 h1 (by omega)
 ·by_cases h2:m=2
  ·subst h2
   cases hp:lp y
   ·rw[if_neg (by simp)]
    exact civil_Length_3 (by omega) (by omega) rfl (cLeap h) hp (by omega)
   ·rw[if_pos (by simp)]
    exact civil_Length_2 (by omega) (by omega) rfl (cLeap h) hp (by omega) (by decide)
  ·rw[if_neg (by simp[h2])]
   exact civil_Length_4 (by omega) (by omega) h2 (by omega)
theorem civil_Of_0 {a1:Int} (h0:a1<1):
  S 60 [I a1] [] (.tup [.agg [I 0,I 0,I 0],I 3]) []:=
 SCall.path 22 [tb,tb,tb,tb] [] 1 (by kernel_rfl) rfl (by exact trivial) (ca (dt h0) (ca (dt h0) (ca (dt h0) (ca rt na))))
theorem civil_Of_1 {a1:Int} (h0: ¬a1<1) (h1:a1>3652059):
  S 60 [I a1] [] (.tup [.agg [I 0,I 0,I 0],I 3]) []:=
 SCall.path 22 [fb,fb,fb,tb] [] 1 (by kernel_rfl) rfl (by exact trivial) (ca (df h0) (ca (df h0) (ca (df h0) (ca (dt h1) na))))
noncomputable def civil_Of_h0 (x1:Int) (x2:Int) (x3:Int) (x4:Int) (x5:Int):SC:=
 ⟨[⟨60,slo 63 [(0,I x1),(2, .ptr 0 0),(4,I x2),(22, .agg [I 146097,I 400,I 24,I 36524,I 100,I 3,I 1461,I 4,I 24,I 365,I 1,I 3]),(23,I 0)],[.code (bodyAt Tryz.f60 [1,1,1,1,0,1,0,0]), .inLoop (bodyAt Tryz.f60 [1,1,1,1,0,1,0,0]), .inBlock 0, .code (bodyAt Tryz.f60 [1,1,1,1,1])],{}⟩],[some (.box true [I x3,I x4,I x5])]⟩
theorem civil_Of_2 {X:Cx} {res:SV} {new:List (Option Vw)} {a1:Int} (hX:Fi X 60 [] res new) (h0: ¬a1<1) (h1: ¬a1>3652059) (h2:InR .i64 (a1-1)) (k:Ok X (civil_Of_h0 (a1-1) 1 0 0 0)):
  Ok X (entry Tryz.prog 60 [I a1] []):=
 Ok.cutM 39 [fb,fb,fb,fb] [msk 63 [0,2,4,22,23]] [.old 0] 0 hX.P hX.gl hX.n0 (by kernel_rfl) (by kernel_rfl) (by exact⟨rfl,trivial⟩) (ca (df h0) (ca (df h0) (ca (df h0) (ca (df h1) (ca h2 na))))) k
noncomputable def civil_Of_h1 (x1:Int) (x2:Int) (x3:Int) (x4:Int) (x5:Int):SC:=
 ⟨[⟨60,slo 63 [(0,I x1),(2, .ptr 0 0),(4,I x2),(22, .agg [I 146097,I 400,I 24,I 36524,I 100,I 3,I 1461,I 4,I 24,I 365,I 1,I 3]),(23,I 1)],[.code (bodyAt Tryz.f60 [1,1,1,1,0,1,0,0]), .inLoop (bodyAt Tryz.f60 [1,1,1,1,0,1,0,0]), .inBlock 0, .code (bodyAt Tryz.f60 [1,1,1,1,1])],{}⟩],[some (.box true [I x3,I x4,I x5])]⟩
theorem civil_Of_3 {X:Cx} {res:SV} {new:List (Option Vw)} {x1 x2 x3 x4 x5:Int} (hX:Fi X 60 [] res new) (h0:(0:Int)≤x1) (h1:InR .i64 (x1/146097)) (h2:InR .i64 ((if 24<(x1/146097)then 24 else(x1/146097))*400)) (h3:InR .i64 (x2+((if 24<(x1/146097)then 24 else(x1/146097))*400))) (h4:InR .i64 ((if 24<(x1/146097)then 24 else(x1/146097))*146097)) (h5:InR .i64 (x1-((if 24<(x1/146097)then 24 else(x1/146097))*146097))) (k:Ok X (civil_Of_h1 (x1-((if 24<(x1/146097)then 24 else(x1/146097))*146097)) (x2+((if 24<(x1/146097)then 24 else(x1/146097))*400)) x3 x4 x5)):
  Ok X (civil_Of_h0 x1 x2 x3 x4 x5):=
 Ok.cutM 45 [tb, .draw 6 [] 0] [msk 63 [0,2,4,22,23]] [.old 0] 0 hX.P hX.gl hX.n0 (by kernel_rfl) (by kernel_rfl) (by exact⟨rfl,trivial⟩) (ca (show decide ((0:Int)<4)=true from rfl) (ca (show(0:Int)≤0∧0<((4:Nat):Int)from by decide) (ca h0 (ca (show(0:Int)<146097 from by decide) (ca h1 (ca h2 (ca h3 (ca h4 (ca h5 (ca (show InR .i64 1 from by decide) na)))))))))) k
noncomputable def civil_Of_h2 (x1:Int) (x2:Int) (x3:Int) (x4:Int) (x5:Int):SC:=
 ⟨[⟨60,slo 63 [(0,I x1),(2, .ptr 0 0),(4,I x2),(22, .agg [I 146097,I 400,I 24,I 36524,I 100,I 3,I 1461,I 4,I 24,I 365,I 1,I 3]),(23,I 2)],[.code (bodyAt Tryz.f60 [1,1,1,1,0,1,0,0]), .inLoop (bodyAt Tryz.f60 [1,1,1,1,0,1,0,0]), .inBlock 0, .code (bodyAt Tryz.f60 [1,1,1,1,1])],{}⟩],[some (.box true [I x3,I x4,I x5])]⟩
theorem civil_Of_4 {X:Cx} {res:SV} {new:List (Option Vw)} {x1 x2 x3 x4 x5:Int} (hX:Fi X 60 [] res new) (h0:(0:Int)≤x1) (h1:InR .i64 (x1/36524)) (h2:InR .i64 ((if 3<(x1/36524)then 3 else(x1/36524))*100)) (h3:InR .i64 (x2+((if 3<(x1/36524)then 3 else(x1/36524))*100))) (h4:InR .i64 ((if 3<(x1/36524)then 3 else(x1/36524))*36524)) (h5:InR .i64 (x1-((if 3<(x1/36524)then 3 else(x1/36524))*36524))) (k:Ok X (civil_Of_h2 (x1-((if 3<(x1/36524)then 3 else(x1/36524))*36524)) (x2+((if 3<(x1/36524)then 3 else(x1/36524))*100)) x3 x4 x5)):
  Ok X (civil_Of_h1 x1 x2 x3 x4 x5):=
 Ok.cutM 45 [tb, .draw 6 [] 0] [msk 63 [0,2,4,22,23]] [.old 0] 0 hX.P hX.gl hX.n0 (by kernel_rfl) (by kernel_rfl) (by exact⟨rfl,trivial⟩) (ca (show decide ((1:Int)<4)=true from rfl) (ca (show(0:Int)≤1∧1<((4:Nat):Int)from by decide) (ca h0 (ca (show(0:Int)<36524 from by decide) (ca h1 (ca h2 (ca h3 (ca h4 (ca h5 (ca (show InR .i64 2 from by decide) na)))))))))) k
noncomputable def civil_Of_h3 (x1:Int) (x2:Int) (x3:Int) (x4:Int) (x5:Int):SC:=
 ⟨[⟨60,slo 63 [(0,I x1),(2, .ptr 0 0),(4,I x2),(22, .agg [I 146097,I 400,I 24,I 36524,I 100,I 3,I 1461,I 4,I 24,I 365,I 1,I 3]),(23,I 3)],[.code (bodyAt Tryz.f60 [1,1,1,1,0,1,0,0]), .inLoop (bodyAt Tryz.f60 [1,1,1,1,0,1,0,0]), .inBlock 0, .code (bodyAt Tryz.f60 [1,1,1,1,1])],{}⟩],[some (.box true [I x3,I x4,I x5])]⟩
theorem civil_Of_5 {X:Cx} {res:SV} {new:List (Option Vw)} {x1 x2 x3 x4 x5:Int} (hX:Fi X 60 [] res new) (h0:(0:Int)≤x1) (h1:InR .i64 (x1/1461)) (h2:InR .i64 ((if 24<(x1/1461)then 24 else(x1/1461))*4)) (h3:InR .i64 (x2+((if 24<(x1/1461)then 24 else(x1/1461))*4))) (h4:InR .i64 ((if 24<(x1/1461)then 24 else(x1/1461))*1461)) (h5:InR .i64 (x1-((if 24<(x1/1461)then 24 else(x1/1461))*1461))) (k:Ok X (civil_Of_h3 (x1-((if 24<(x1/1461)then 24 else(x1/1461))*1461)) (x2+((if 24<(x1/1461)then 24 else(x1/1461))*4)) x3 x4 x5)):
  Ok X (civil_Of_h2 x1 x2 x3 x4 x5):=
 Ok.cutM 45 [tb, .draw 6 [] 0] [msk 63 [0,2,4,22,23]] [.old 0] 0 hX.P hX.gl hX.n0 (by kernel_rfl) (by kernel_rfl) (by exact⟨rfl,trivial⟩) (ca (show decide ((2:Int)<4)=true from rfl) (ca (show(0:Int)≤2∧2<((4:Nat):Int)from by decide) (ca h0 (ca (show(0:Int)<1461 from by decide) (ca h1 (ca h2 (ca h3 (ca h4 (ca h5 (ca (show InR .i64 3 from by decide) na)))))))))) k
noncomputable def civil_Of_h4 (x1:Int) (x2:Int) (x3:Int) (x4:Int) (x5:Int):SC:=
 ⟨[⟨60,slo 63 [(0,I x1),(2, .ptr 0 0),(4,I x2),(22, .agg [I 146097,I 400,I 24,I 36524,I 100,I 3,I 1461,I 4,I 24,I 365,I 1,I 3]),(23,I 4)],[.code (bodyAt Tryz.f60 [1,1,1,1,0,1,0,0]), .inLoop (bodyAt Tryz.f60 [1,1,1,1,0,1,0,0]), .inBlock 0, .code (bodyAt Tryz.f60 [1,1,1,1,1])],{}⟩],[some (.box true [I x3,I x4,I x5])]⟩
theorem civil_Of_6 {X:Cx} {res:SV} {new:List (Option Vw)} {x1 x2 x3 x4 x5:Int} (hX:Fi X 60 [] res new) (h0:(0:Int)≤x1) (h1:InR .i64 (x1/365)) (h2:InR .i64 ((if 3<(x1/365)then 3 else(x1/365))*1)) (h3:InR .i64 (x2+((if 3<(x1/365)then 3 else(x1/365))*1))) (h4:InR .i64 ((if 3<(x1/365)then 3 else(x1/365))*365)) (h5:InR .i64 (x1-((if 3<(x1/365)then 3 else(x1/365))*365))) (k:Ok X (civil_Of_h4 (x1-((if 3<(x1/365)then 3 else(x1/365))*365)) (x2+((if 3<(x1/365)then 3 else(x1/365))*1)) x3 x4 x5)):
  Ok X (civil_Of_h3 x1 x2 x3 x4 x5):=
 Ok.cutM 45 [tb, .draw 6 [] 0] [msk 63 [0,2,4,22,23]] [.old 0] 0 hX.P hX.gl hX.n0 (by kernel_rfl) (by kernel_rfl) (by exact⟨rfl,trivial⟩) (ca (show decide ((3:Int)<4)=true from rfl) (ca (show(0:Int)≤3∧3<((4:Nat):Int)from by decide) (ca h0 (ca (show(0:Int)<365 from by decide) (ca h1 (ca h2 (ca h3 (ca h4 (ca h5 (ca (show InR .i64 4 from by decide) na)))))))))) k
noncomputable def civil_Of_h5 (x1:Int) (x2:Int) (x3:Int) (x4:Int) (x5:Int) (x6:Int):SC:=
 ⟨[⟨60,slo 63 [(0,I x1),(2, .ptr 0 0),(4,I x2),(8,I x3)],[.code (bodyAt Tryz.f60 [1,1,1,1,1,1,0,0,0]), .inLoop (bodyAt Tryz.f60 [1,1,1,1,1,1,0,0,0]), .inBlock 2, .code (bodyAt Tryz.f60 [1,1,1,1,1,1,1])],{}⟩],[some (.box true [I x4,I x5,I x6])]⟩
theorem civil_Of_7 {X:Cx} {res:SV} {new:List (Option Vw)} {x1 x2 x3 x4 x5:Int} (hX:Fi X 60 [] res new) (k:Ok X (civil_Of_h5 x1 x2 1 x3 x4 x5)):
  Ok X (civil_Of_h4 x1 x2 x3 x4 x5):=
 Ok.cutM 14 [fb] [msk 63 [0,2,4,8]] [.old 0] 0 hX.P hX.gl hX.n0 (by kernel_rfl) (by kernel_rfl) (by exact⟨rfl,trivial⟩) (ca (show decide ((4:Int)<4)=false from rfl) na) k
theorem civil_Of_8 {X:Cx} {res:SV} {new:List (Option Vw)} {x1 x2 x3 x4 x5 x6 r5007 r5008:Int} (hX:Fi X 60 [] res new) (h0:S 88 [I x2,I x3] [] (I r5007) []) (h1:x1≥r5007) (h2:S 88 [I x2,I x3] [] (I r5008) []) (h3:InR .i64 (x1-r5008)) (h4:InR .i64 (x3+1)) (k:Ok X (civil_Of_h5 (x1-r5008) x2 (x3+1) x4 x5 x6)):
  Ok X (civil_Of_h5 x1 x2 x3 x4 x5 x6):=
 Ok.cutM 28 [.call [] (I r5007) [],tb, .call [] (I r5008) []] [msk 63 [0,2,4,8]] [.old 0] 0 hX.P hX.gl hX.n0 (by kernel_rfl) (by kernel_rfl) (by exact⟨rfl,trivial⟩) (ca h0 (ca (dt h1) (ca h2 (ca h3 (ca h4 na))))) k
theorem civil_Of_9 {X:Cx} {x1 x2 x3 x4 x5 x6 r5007:Int} (hX:Fi X 60 [] (.tup [.agg [I x2,I x3,I (x1+1)],I 0]) []) (h0:S 88 [I x2,I x3] [] (I r5007) []) (h1: ¬x1≥r5007) (h2:InR .i64 (x1+1)):
  Ok X (civil_Of_h5 x1 x2 x3 x4 x5 x6):=
 Ok.fin 21 [.call [] (I r5007) [],fb] [] 1 hX (by kernel_rfl) rfl (ca h0 (ca (df h1) (ca h2 na)))
theorem cOf_mon {X:Cx} {y:Int} {x4 x5 x6:Int} (hy:0≤y): ∀ (j m:Nat) (r:Int),j+m=13→1≤m→0≤r→r<mons y 12-mons y (m-1)→
  IsFin X Tryz.prog GL 60 [] (.tup [.agg [I y,I (ofMon y j m r).1,I (ofMon y j m r).2],I 0]) []→Ok X (civil_Of_h5 r y (m:Int) x4 x5 x6)
 |0,m,r,hj,hm,hr,hl,hX=>by
  have:m=13:=by omega
  subst this;simp at hl;omega
 |j+1,m,r,hj,hm,hr,hl,hX=>by
  have e:mons y m=mons y (m-1)+len y (m:Int):=by
   obtain⟨k,rfl⟩: ∃ k,m=k+1:=⟨m-1,by omega⟩
   rfl
  have hle:=len_le y (m:Int)
  have h12:=mons_le y 12
  have h0:=(mons_le y (m-1)).2
  unfold ofMon at hX
  split at hX
  ·rename_i h
   refine civil_Of_8 hX (cLength hy) h (cLength hy) (by simp only[InR];omega) (by simp only[InR];omega) ?_
   exact cOf_mon hy j (m+1) (r-len y (m:Int)) (by omega) (by omega) (by omega) (by simp only[Nat.add_sub_cancel];omega) hX
  ·rename_i h
   exact civil_Of_9 hX (cLength hy) h (by simp only[InR];omega)
theorem cOf {n:Int} (h1:1≤n) (h2:n≤3652059):SCall Tryz.prog GL 60 [I n] [] (.tup [.agg [I (civOf n).1,I (civOf n).2.1,I (civOf n).2.2],I 0]) []:=by
 refine SCall.of (by kernel_rfl) rfl trivial rfl (fun X hX=> ?_)
 obtain⟨a1,a2,a3,a4,a5⟩:=ofYr_ok h1 h2
 have hlast:Ok X (civil_Of_h5 (ofYr n).2 (ofYr n).1 ((1:Nat):Int) 0 0 0):=cOf_mon (by omega) 12 1 (ofYr n).2 rfl (by omega) a3 (by simpa[mons]using a4) hX
 obtain⟨k1,hk1⟩: ∃ k,q4 24 146097 (n-1)=k:=⟨_,rfl⟩
 obtain⟨n1,hn1⟩: ∃ k,n-1-k1*146097=k:=⟨_,rfl⟩
 obtain⟨k2,hk2⟩: ∃ k,q4 3 36524 n1=k:=⟨_,rfl⟩
 obtain⟨n2,hn2⟩: ∃ k,n1-k2*36524=k:=⟨_,rfl⟩
 obtain⟨k3,hk3⟩: ∃ k,q4 24 1461 n2=k:=⟨_,rfl⟩
 obtain⟨n3,hn3⟩: ∃ k,n2-k3*1461=k:=⟨_,rfl⟩
 obtain⟨k4,hk4⟩: ∃ k,q4 3 365 n3=k:=⟨_,rfl⟩
 have hlast':Ok X (civil_Of_h5 (n3-k4*365) (1+k1*400+k2*100+k3*4+k4*1) ((1:Nat):Int) 0 0 0):=by
  subst hk4 hn3 hk3 hn2 hk2 hn1 hk1;exact hlast
 have g1:=q4_ok 24 146097 (n-1)
 have g2:=q4_ok 3 36524 n1
 have g3:=q4_ok 24 1461 n2
 have g4:=q4_ok 3 365 n3
 rw[hk1]at g1
 rw[hk2]at g2
 rw[hk3]at g3
 rw[hk4]at g4
 have b1:0≤k1∧k1≤24∧0≤n1∧n1<146097:=by omega
 have b2:0≤k2∧k2≤3∧0≤n2∧n2≤36524:=by omega
 have b3:0≤k3∧k3≤24∧0≤n3∧n3<1461:=by omega
 have b4:0≤k4∧k4≤3∧0≤n3-k4*365:=by omega
 refine civil_Of_2 hX (by omega) (by omega) (by simp only[InR];omega) ?_
 refine civil_Of_3 hX (by omega) (by simp only[InR];omega) (by show InR .i64 (q4 24 146097 (n-1)*400);rw[hk1];simp only[InR];omega) (by show InR .i64 (1+q4 24 146097 (n-1)*400);rw[hk1];simp only[InR];omega) (by show InR .i64 (q4 24 146097 (n-1)*146097);rw[hk1];simp only[InR];omega) (by show InR .i64 ((n-1)-q4 24 146097 (n-1)*146097);rw[hk1];simp only[InR];omega) ?_
 show Ok X (civil_Of_h1 (n-1-q4 24 146097 (n-1)*146097) (1+q4 24 146097 (n-1)*400) 0 0 0)
 rw[hk1,hn1]
 refine civil_Of_4 hX (by omega) (by simp only[InR];omega) (by show InR .i64 (q4 3 36524 n1*100);rw[hk2];simp only[InR];omega) (by show InR .i64 (1+k1*400+q4 3 36524 n1*100);rw[hk2];simp only[InR];omega) (by show InR .i64 (q4 3 36524 n1*36524);rw[hk2];simp only[InR];omega) (by show InR .i64 (n1-q4 3 36524 n1*36524);rw[hk2];simp only[InR];omega) ?_
 show Ok X (civil_Of_h2 (n1-q4 3 36524 n1*36524) (1+k1*400+q4 3 36524 n1*100) 0 0 0)
 rw[hk2,hn2]
 refine civil_Of_5 hX (by omega) (by simp only[InR];omega) (by show InR .i64 (q4 24 1461 n2*4);rw[hk3];simp only[InR];omega) (by show InR .i64 (1+k1*400+k2*100+q4 24 1461 n2*4);rw[hk3];simp only[InR];omega) (by show InR .i64 (q4 24 1461 n2*1461);rw[hk3];simp only[InR];omega) (by show InR .i64 (n2-q4 24 1461 n2*1461);rw[hk3];simp only[InR];omega) ?_
 show Ok X (civil_Of_h3 (n2-q4 24 1461 n2*1461) (1+k1*400+k2*100+q4 24 1461 n2*4) 0 0 0)
 rw[hk3,hn3]
 refine civil_Of_6 hX (by omega) (by simp only[InR];omega) (by show InR .i64 (q4 3 365 n3*1);rw[hk4];simp only[InR];omega) (by show InR .i64 (1+k1*400+k2*100+k3*4+q4 3 365 n3*1);rw[hk4];simp only[InR];omega) (by show InR .i64 (q4 3 365 n3*365);rw[hk4];simp only[InR];omega) (by show InR .i64 (n3-q4 3 365 n3*365);rw[hk4];simp only[InR];omega) ?_
 show Ok X (civil_Of_h4 (n3-q4 3 365 n3*365) (1+k1*400+k2*100+k3*4+q4 3 365 n3*1) 0 0 0)
 rw[hk4]
 exact civil_Of_7 hX hlast'
theorem cOf_bad {n:Int} (h: ¬(1≤n∧n≤3652059)):SCall Tryz.prog GL 60 [I n] [] (.tup [.agg [I 0,I 0,I 0],I 3]) []:=by
 by_cases h1:n<1
 ·exact civil_Of_0 h1
 ·exact civil_Of_1 h1 (by omega)
theorem demurrageref04_Leap_0 {a1:Int} (h0:(0:Int)≤a1) (h1:(a1%400)=0):
  S 99 [I a1] [] (B true) []:=
 SCall.path 16 [tb] [] 0 (by kernel_rfl) rfl (by exact trivial) (ca h0 (ca (show(0:Int)<400 from by decide) (ca (beq_iff_eq.2 h1) na)))
theorem demurrageref04_Leap_1 {a1:Int} (h0:(0:Int)≤a1) (h1:(a1%400)≠0) (h2:(a1%4)=0):
  S 99 [I a1] [] (B ((a1%100) !=0)) []:=
 SCall.path 25 [fb,tb,tb,tb,tb] [] 0 (by kernel_rfl) rfl (by exact trivial) (ca h0 (ca (show(0:Int)<400 from by decide) (ca (beq_eq_false_iff_ne.2 h1) (ca h0 (ca (show(0:Int)<4 from by decide) (ca (beq_iff_eq.2 h2) (ca (beq_iff_eq.2 h2) (ca h0 (ca (show(0:Int)<100 from by decide) (ca (beq_iff_eq.2 h2) (ca (beq_iff_eq.2 h2) na)))))))))))
theorem demurrageref04_Leap_2 {a1:Int} (h0:(0:Int)≤a1) (h1:(a1%400)≠0) (h2:(a1%4)≠0):
  S 99 [I a1] [] (B false) []:=
 SCall.path 25 [fb,fb,fb,fb,fb] [] 0 (by kernel_rfl) rfl (by exact trivial) (ca h0 (ca (show(0:Int)<400 from by decide) (ca (beq_eq_false_iff_ne.2 h1) (ca h0 (ca (show(0:Int)<4 from by decide) (ca (beq_eq_false_iff_ne.2 h2) (ca (beq_eq_false_iff_ne.2 h2) (ca (beq_eq_false_iff_ne.2 h2) (ca (beq_eq_false_iff_ne.2 h2) na)))))))))
theorem rLeap {y:Int} (h:0≤y):SCall Tryz.prog GL 99 [I y] [] (B (lp y)) []:=by
 unfold lp
 by_cases h1:y%400=0
 ·rw[decide_eq_true (by exact⟨by omega, .inr h1⟩)]
  exact demurrageref04_Leap_0 h h1
 ·by_cases h2:y%4=0
  ·have:=demurrageref04_Leap_1 h h1 h2
   rw[show decide (y%4=0∧(y%100≠0∨y%400=0))=(y%100 !=0)by
    by_cases h3:y%100=0
    ·rw[h3];simp[h1]
    ·simp[h2,h3]]
   exact this
  ·rw[decide_eq_false (fun hh=>h2 hh.1)]
   exact demurrageref04_Leap_2 h h1 h2
theorem demurrageref04_Length_0 {a1 a2:Int} (h0:a2=1):
  S 74 [I a1,I a2] [] (I 31) []:=
 SCall.path 23 [tb,tb] [] 0 (by kernel_rfl) rfl (by exact trivial) (ca (beq_iff_eq.2 h0) (ca (beq_iff_eq.2 h0) na))
theorem demurrageref04_Length_1 {a1 a2:Int} (h0:a2≠1) (h1:a2=3):
  S 74 [I a1,I a2] [] (I 31) []:=
 SCall.path 29 [fb,tb,tb] [] 0 (by kernel_rfl) rfl (by exact trivial) (ca (beq_eq_false_iff_ne.2 h0) (ca (beq_iff_eq.2 h1) (ca (beq_iff_eq.2 h1) na)))
theorem demurrageref04_Length_2 {a1 a2:Int} (h0:a2≠1) (h1:a2≠3) (h2:a2=5):
  S 74 [I a1,I a2] [] (I 31) []:=
 SCall.path 35 [fb,fb,tb,tb] [] 0 (by kernel_rfl) rfl (by exact trivial) (ca (beq_eq_false_iff_ne.2 h0) (ca (beq_eq_false_iff_ne.2 h1) (ca (beq_iff_eq.2 h2) (ca (beq_iff_eq.2 h2) na))))
theorem demurrageref04_Length_3 {a1 a2:Int} (h0:a2≠1) (h1:a2≠3) (h2:a2≠5) (h3:a2=7):
  S 74 [I a1,I a2] [] (I 31) []:=
 SCall.path 41 [fb,fb,fb,tb,tb] [] 0 (by kernel_rfl) rfl (by exact trivial) (ca (beq_eq_false_iff_ne.2 h0) (ca (beq_eq_false_iff_ne.2 h1) (ca (beq_eq_false_iff_ne.2 h2) (ca (beq_iff_eq.2 h3) (ca (beq_iff_eq.2 h3) na)))))
theorem demurrageref04_Length_4 {a1 a2:Int} (h0:a2≠1) (h1:a2≠3) (h2:a2≠5) (h3:a2≠7) (h4:a2=8):
  S 74 [I a1,I a2] [] (I 31) []:=
 SCall.path 47 [fb,fb,fb,fb,tb,tb] [] 0 (by kernel_rfl) rfl (by exact trivial) (ca (beq_eq_false_iff_ne.2 h0) (ca (beq_eq_false_iff_ne.2 h1) (ca (beq_eq_false_iff_ne.2 h2) (ca (beq_eq_false_iff_ne.2 h3) (ca (beq_iff_eq.2 h4) (ca (beq_iff_eq.2 h4) na))))))
theorem demurrageref04_Length_5 {a1 a2:Int} (h0:a2≠1) (h1:a2≠3) (h2:a2≠5) (h3:a2≠7) (h4:a2≠8) (h5:a2=10):
  S 74 [I a1,I a2] [] (I 31) []:=
 SCall.path 53 [fb,fb,fb,fb,fb,tb,tb] [] 0 (by kernel_rfl) rfl (by exact trivial) (ca (beq_eq_false_iff_ne.2 h0) (ca (beq_eq_false_iff_ne.2 h1) (ca (beq_eq_false_iff_ne.2 h2) (ca (beq_eq_false_iff_ne.2 h3) (ca (beq_eq_false_iff_ne.2 h4) (ca (beq_iff_eq.2 h5) (ca (beq_iff_eq.2 h5) na)))))))
theorem demurrageref04_Length_6 {a1 a2:Int} (h0:a2≠1) (h1:a2≠3) (h2:a2≠5) (h3:a2≠7) (h4:a2≠8) (h5:a2≠10) (h6:a2=12):
  S 74 [I a1,I a2] [] (I 31) []:=
 SCall.path 56 [fb,fb,fb,fb,fb,fb,tb] [] 0 (by kernel_rfl) rfl (by exact trivial) (ca (beq_eq_false_iff_ne.2 h0) (ca (beq_eq_false_iff_ne.2 h1) (ca (beq_eq_false_iff_ne.2 h2) (ca (beq_eq_false_iff_ne.2 h3) (ca (beq_eq_false_iff_ne.2 h4) (ca (beq_eq_false_iff_ne.2 h5) (ca (beq_iff_eq.2 h6) na)))))))
theorem demurrageref04_Length_7 {a1 a2:Int} (h0:a2≠1) (h1:a2≠3) (h2:a2≠5) (h3:a2≠7) (h4:a2≠8) (h5:a2≠10) (h6:a2≠12) (h7:a2=4):
  S 74 [I a1,I a2] [] (I 30) []:=
 SCall.path 65 [fb,fb,fb,fb,fb,fb,fb,tb,tb] [] 0 (by kernel_rfl) rfl (by exact trivial) (ca (beq_eq_false_iff_ne.2 h0) (ca (beq_eq_false_iff_ne.2 h1) (ca (beq_eq_false_iff_ne.2 h2) (ca (beq_eq_false_iff_ne.2 h3) (ca (beq_eq_false_iff_ne.2 h4) (ca (beq_eq_false_iff_ne.2 h5) (ca (beq_eq_false_iff_ne.2 h6) (ca (beq_iff_eq.2 h7) (ca (beq_iff_eq.2 h7) na)))))))))
theorem demurrageref04_Length_8 {a1 a2:Int} (h0:a2≠1) (h1:a2≠3) (h2:a2≠5) (h3:a2≠7) (h4:a2≠8) (h5:a2≠10) (h6:a2≠12) (h7:a2≠4) (h8:a2=6):
  S 74 [I a1,I a2] [] (I 30) []:=
 SCall.path 71 [fb,fb,fb,fb,fb,fb,fb,fb,tb,tb] [] 0 (by kernel_rfl) rfl (by exact trivial) (ca (beq_eq_false_iff_ne.2 h0) (ca (beq_eq_false_iff_ne.2 h1) (ca (beq_eq_false_iff_ne.2 h2) (ca (beq_eq_false_iff_ne.2 h3) (ca (beq_eq_false_iff_ne.2 h4) (ca (beq_eq_false_iff_ne.2 h5) (ca (beq_eq_false_iff_ne.2 h6) (ca (beq_eq_false_iff_ne.2 h7) (ca (beq_iff_eq.2 h8) (ca (beq_iff_eq.2 h8) na))))))))))
theorem demurrageref04_Length_9 {a1 a2:Int} (h0:a2≠1) (h1:a2≠3) (h2:a2≠5) (h3:a2≠7) (h4:a2≠8) (h5:a2≠10) (h6:a2≠12) (h7:a2≠4) (h8:a2≠6) (h9:a2=9):
  S 74 [I a1,I a2] [] (I 30) []:=
 SCall.path 77 [fb,fb,fb,fb,fb,fb,fb,fb,fb,tb,tb] [] 0 (by kernel_rfl) rfl (by exact trivial) (ca (beq_eq_false_iff_ne.2 h0) (ca (beq_eq_false_iff_ne.2 h1) (ca (beq_eq_false_iff_ne.2 h2) (ca (beq_eq_false_iff_ne.2 h3) (ca (beq_eq_false_iff_ne.2 h4) (ca (beq_eq_false_iff_ne.2 h5) (ca (beq_eq_false_iff_ne.2 h6) (ca (beq_eq_false_iff_ne.2 h7) (ca (beq_eq_false_iff_ne.2 h8) (ca (beq_iff_eq.2 h9) (ca (beq_iff_eq.2 h9) na)))))))))))
theorem demurrageref04_Length_10 {a1 a2:Int} (h0:a2≠1) (h1:a2≠3) (h2:a2≠5) (h3:a2≠7) (h4:a2≠8) (h5:a2≠10) (h6:a2≠12) (h7:a2≠4) (h8:a2≠6) (h9:a2≠9) (h10:a2=11):
  S 74 [I a1,I a2] [] (I 30) []:=
 SCall.path 80 [fb,fb,fb,fb,fb,fb,fb,fb,fb,fb,tb] [] 0 (by kernel_rfl) rfl (by exact trivial) (ca (beq_eq_false_iff_ne.2 h0) (ca (beq_eq_false_iff_ne.2 h1) (ca (beq_eq_false_iff_ne.2 h2) (ca (beq_eq_false_iff_ne.2 h3) (ca (beq_eq_false_iff_ne.2 h4) (ca (beq_eq_false_iff_ne.2 h5) (ca (beq_eq_false_iff_ne.2 h6) (ca (beq_eq_false_iff_ne.2 h7) (ca (beq_eq_false_iff_ne.2 h8) (ca (beq_eq_false_iff_ne.2 h9) (ca (beq_iff_eq.2 h10) na)))))))))))
theorem demurrageref04_Length_11 {a1 a2:Int} {r3:Bool} (h0:a2≠1) (h1:a2≠3) (h2:a2≠5) (h3:a2≠7) (h4:a2≠8) (h5:a2≠10) (h6:a2≠12) (h7:a2≠4) (h8:a2≠6) (h9:a2≠9) (h10:a2≠11) (h11:a2=2) (h12:S 99 [I a1] [] (B r3) []) (h13:r3=true):
  S 74 [I a1,I a2] [] (I 29) []:=
 SCall.path 98 [fb,fb,fb,fb,fb,fb,fb,fb,fb,fb,fb,tb, .call [] (B r3) [],tb] [] 0 (by kernel_rfl) rfl (by exact trivial) (ca (beq_eq_false_iff_ne.2 h0) (ca (beq_eq_false_iff_ne.2 h1) (ca (beq_eq_false_iff_ne.2 h2) (ca (beq_eq_false_iff_ne.2 h3) (ca (beq_eq_false_iff_ne.2 h4) (ca (beq_eq_false_iff_ne.2 h5) (ca (beq_eq_false_iff_ne.2 h6) (ca (beq_eq_false_iff_ne.2 h7) (ca (beq_eq_false_iff_ne.2 h8) (ca (beq_eq_false_iff_ne.2 h9) (ca (beq_eq_false_iff_ne.2 h10) (ca (beq_iff_eq.2 h11) (ca h12 (ca h13 na))))))))))))))
theorem demurrageref04_Length_12 {a1 a2:Int} {r3:Bool} (h0:a2≠1) (h1:a2≠3) (h2:a2≠5) (h3:a2≠7) (h4:a2≠8) (h5:a2≠10) (h6:a2≠12) (h7:a2≠4) (h8:a2≠6) (h9:a2≠9) (h10:a2≠11) (h11:a2=2) (h12:S 99 [I a1] [] (B r3) []) (h13:r3=false):
  S 74 [I a1,I a2] [] (I 28) []:=
 SCall.path 99 [fb,fb,fb,fb,fb,fb,fb,fb,fb,fb,fb,tb, .call [] (B r3) [],fb] [] 0 (by kernel_rfl) rfl (by exact trivial) (ca (beq_eq_false_iff_ne.2 h0) (ca (beq_eq_false_iff_ne.2 h1) (ca (beq_eq_false_iff_ne.2 h2) (ca (beq_eq_false_iff_ne.2 h3) (ca (beq_eq_false_iff_ne.2 h4) (ca (beq_eq_false_iff_ne.2 h5) (ca (beq_eq_false_iff_ne.2 h6) (ca (beq_eq_false_iff_ne.2 h7) (ca (beq_eq_false_iff_ne.2 h8) (ca (beq_eq_false_iff_ne.2 h9) (ca (beq_eq_false_iff_ne.2 h10) (ca (beq_iff_eq.2 h11) (ca h12 (ca h13 na))))))))))))))
theorem demurrageref04_Length_13 {a1 a2:Int} (h0:a2≠1) (h1:a2≠3) (h2:a2≠5) (h3:a2≠7) (h4:a2≠8) (h5:a2≠10) (h6:a2≠12) (h7:a2≠4) (h8:a2≠6) (h9:a2≠9) (h10:a2≠11) (h11:a2≠2):
  S 74 [I a1,I a2] [] (I 0) []:=
 SCall.path 88 [fb,fb,fb,fb,fb,fb,fb,fb,fb,fb,fb,fb] [] 0 (by kernel_rfl) rfl (by exact trivial) (ca (beq_eq_false_iff_ne.2 h0) (ca (beq_eq_false_iff_ne.2 h1) (ca (beq_eq_false_iff_ne.2 h2) (ca (beq_eq_false_iff_ne.2 h3) (ca (beq_eq_false_iff_ne.2 h4) (ca (beq_eq_false_iff_ne.2 h5) (ca (beq_eq_false_iff_ne.2 h6) (ca (beq_eq_false_iff_ne.2 h7) (ca (beq_eq_false_iff_ne.2 h8) (ca (beq_eq_false_iff_ne.2 h9) (ca (beq_eq_false_iff_ne.2 h10) (ca (beq_eq_false_iff_ne.2 h11) na))))))))))))
theorem rLength {y m:Int} (h:0≤y):SCall Tryz.prog GL 74 [I y,I m] [] (I (len y m)) []:=by
 unfold len
 by_cases h0:m<1∨m>12
 ·rw[if_pos h0]
  exact demurrageref04_Length_13 (by omega) (by omega) (by omega) (by omega) (by omega) (by omega) (by omega) (by omega) (by omega) (by omega) (by omega) (by omega)
 ·rw[if_neg h0]
  by_cases h2:m=2
  ·subst h2
   cases hp:lp y
   ·rw[if_neg (by simp)]
    exact demurrageref04_Length_12 (by omega) (by omega) (by omega) (by omega) (by omega) (by omega) (by omega) (by omega) (by omega) (by omega) (by omega) rfl (rLeap h) hp
   ·rw[if_pos (by simp)]
    exact demurrageref04_Length_11 (by omega) (by omega) (by omega) (by omega) (by omega) (by omega) (by omega) (by omega) (by omega) (by omega) (by omega) rfl (rLeap h) hp
  ·rw[if_neg (by simp[h2])]
   rcases(by omega:m=1∨m=3∨m=4∨m=5∨m=6∨m=7∨m=8∨m=9∨m=10∨m=11∨m=12)with rfl|rfl|rfl|rfl|rfl|rfl|rfl|rfl|rfl|rfl|rfl
   ·exact demurrageref04_Length_0 rfl
   ·exact demurrageref04_Length_1 (by omega) rfl
   ·exact demurrageref04_Length_7 (by omega) (by omega) (by omega) (by omega) (by omega) (by omega) (by omega) rfl
   ·exact demurrageref04_Length_2 (by omega) (by omega) rfl
   ·exact demurrageref04_Length_8 (by omega) (by omega) (by omega) (by omega) (by omega) (by omega) (by omega) (by omega) rfl
   ·exact demurrageref04_Length_3 (by omega) (by omega) (by omega) rfl
   ·exact demurrageref04_Length_4 (by omega) (by omega) (by omega) (by omega) rfl
   ·exact demurrageref04_Length_9 (by omega) (by omega) (by omega) (by omega) (by omega) (by omega) (by omega) (by omega) (by omega) rfl
   ·exact demurrageref04_Length_5 (by omega) (by omega) (by omega) (by omega) (by omega) rfl
   ·exact demurrageref04_Length_10 (by omega) (by omega) (by omega) (by omega) (by omega) (by omega) (by omega) (by omega) (by omega) (by omega) rfl
   ·exact demurrageref04_Length_6 (by omega) (by omega) (by omega) (by omega) (by omega) (by omega) rfl
theorem demurrageref04_May_0 {a1 a2 a3:Int} (h0:a1<1):
  S 152 [.agg [I a1,I a2,I a3]] [] (B false) []:=
 SCall.path 37 [tb,tb,tb,tb,tb,tb,tb,tb,tb,tb,tb,tb,tb,tb,tb,tb,tb] [] 1 (by kernel_rfl) rfl (by exact trivial) (ca (dt h0) (ca (dt h0) (ca (dt h0) (ca (dt h0) (ca rt (ca rt (ca rt (ca rt (ca rt (ca rt (ca rt (ca rt (ca rt (ca rt (ca rt (ca rt (ca rt na)))))))))))))))))
theorem demurrageref04_May_1 {a1 a2 a3:Int} (h0: ¬a1<1) (h1:a1>9999):
  S 152 [.agg [I a1,I a2,I a3]] [] (B false) []:=
 SCall.path 37 [fb,fb,fb,fb,tb,tb,tb,tb,tb,tb,tb,tb,tb,tb,tb,tb,tb] [] 1 (by kernel_rfl) rfl (by exact trivial) (ca (df h0) (ca (df h0) (ca (df h0) (ca (df h0) (ca (dt h1) (ca (dt h1) (ca (dt h1) (ca (dt h1) (ca rt (ca rt (ca rt (ca rt (ca rt (ca rt (ca rt (ca rt (ca rt na)))))))))))))))))
theorem demurrageref04_May_2 {a1 a2 a3:Int} (h0: ¬a1<1) (h1: ¬a1>9999) (h2:a2<1):
  S 152 [.agg [I a1,I a2,I a3]] [] (B false) []:=
 SCall.path 37 [fb,fb,fb,fb,fb,fb,fb,fb,tb,tb,tb,tb,tb,tb,tb,tb,tb] [] 1 (by kernel_rfl) rfl (by exact trivial) (ca (df h0) (ca (df h0) (ca (df h0) (ca (df h0) (ca (df h1) (ca (df h1) (ca (df h1) (ca (df h1) (ca (dt h2) (ca (dt h2) (ca (dt h2) (ca (dt h2) (ca rt (ca rt (ca rt (ca rt (ca rt na)))))))))))))))))
theorem demurrageref04_May_3 {a1 a2 a3:Int} (h0: ¬a1<1) (h1: ¬a1>9999) (h2: ¬a2<1) (h3:a2>12):
  S 152 [.agg [I a1,I a2,I a3]] [] (B false) []:=
 SCall.path 37 [fb,fb,fb,fb,fb,fb,fb,fb,fb,fb,fb,fb,tb,tb,tb,tb,tb] [] 1 (by kernel_rfl) rfl (by exact trivial) (ca (df h0) (ca (df h0) (ca (df h0) (ca (df h0) (ca (df h1) (ca (df h1) (ca (df h1) (ca (df h1) (ca (df h2) (ca (df h2) (ca (df h2) (ca (df h2) (ca (dt h3) (ca (dt h3) (ca (dt h3) (ca (dt h3) (ca rt na)))))))))))))))))
theorem demurrageref04_May_4 {a1 a2 a3:Int} (h0: ¬a1<1) (h1: ¬a1>9999) (h2: ¬a2<1) (h3: ¬a2>12) (h4:a3<1):
  S 152 [.agg [I a1,I a2,I a3]] [] (B false) []:=
 SCall.path 37 [fb,fb,fb,fb,fb,fb,fb,fb,fb,fb,fb,fb,fb,fb,fb,fb,tb] [] 1 (by kernel_rfl) rfl (by exact trivial) (ca (df h0) (ca (df h0) (ca (df h0) (ca (df h0) (ca (df h1) (ca (df h1) (ca (df h1) (ca (df h1) (ca (df h2) (ca (df h2) (ca (df h2) (ca (df h2) (ca (df h3) (ca (df h3) (ca (df h3) (ca (df h3) (ca (dt h4) na)))))))))))))))))
theorem demurrageref04_May_5 {a1 a2 a3 r4:Int} (h0: ¬a1<1) (h1: ¬a1>9999) (h2: ¬a2<1) (h3: ¬a2>12) (h4: ¬a3<1) (h5:S 74 [I a1,I a2] [] (I r4) []):
  S 152 [.agg [I a1,I a2,I a3]] [] (B (decide (a3≤r4))) []:=
 SCall.path 51 [fb,fb,fb,fb,fb,fb,fb,fb,fb,fb,fb,fb,fb,fb,fb,fb,fb, .call [] (I r4) []] [] 1 (by kernel_rfl) rfl (by exact trivial) (ca (df h0) (ca (df h0) (ca (df h0) (ca (df h0) (ca (df h1) (ca (df h1) (ca (df h1) (ca (df h1) (ca (df h2) (ca (df h2) (ca (df h2) (ca (df h2) (ca (df h3) (ca (df h3) (ca (df h3) (ca (df h3) (ca (df h4) (ca h5 na))))))))))))))))))
def mayC (y m d:Int):Bool:=decide (1≤y∧y≤9999∧1≤m∧m≤12∧1≤d∧d≤len y m)
theorem rMayC (y m d:Int):SCall Tryz.prog GL 152 [.agg [I y,I m,I d]] [] (B (mayC y m d)) []:=by
 unfold mayC
 by_cases h0:y<1
 ·rw[decide_eq_false (by omega)];exact demurrageref04_May_0 h0
 by_cases h1:y>9999
 ·rw[decide_eq_false (by omega)];exact demurrageref04_May_1 h0 h1
 by_cases h2:m<1
 ·rw[decide_eq_false (by omega)];exact demurrageref04_May_2 h0 h1 h2
 by_cases h3:m>12
 ·rw[decide_eq_false (by omega)];exact demurrageref04_May_3 h0 h1 h2 h3
 by_cases h4:d<1
 ·rw[decide_eq_false (by omega)];exact demurrageref04_May_4 h0 h1 h2 h3 h4
 have:= @demurrageref04_May_5 _ y m d _ h0 h1 h2 h3 h4 (rLength (by omega))
 rw[show decide (1≤y∧y≤9999∧1≤m∧m≤12∧1≤d∧d≤len y m)=decide (d≤len y m)by
  rw[decide_eq_decide];omega]
 exact this
theorem demurrageref04_Day_0 {a1:Int} (h0:a1≥1):
  S 37 [I a1] [] (B (decide (a1≤3652059))) []:=
 SCall.path 14 [tb,tb,tb] [] 0 (by kernel_rfl) rfl (by exact trivial) (ca (dt h0) (ca (dt h0) (ca (dt h0) na)))
theorem demurrageref04_Day_1 {a1:Int} (h0: ¬a1≥1):
  S 37 [I a1] [] (B false) []:=
 SCall.path 14 [fb,fb,fb] [] 0 (by kernel_rfl) rfl (by exact trivial) (ca (df h0) (ca (df h0) (ca (df h0) na)))
def isDay (n:Int):Bool:=decide (1≤n∧n≤3652059)
theorem rDay (n:Int):SCall Tryz.prog GL 37 [I n] [] (B (isDay n)) []:=by
 unfold isDay
 by_cases h:n≥1
 ·rw[show decide (1≤n∧n≤3652059)=decide (n≤3652059)by rw[decide_eq_decide];omega]
  exact demurrageref04_Day_0 h
 ·rw[decide_eq_false (by omega)];exact demurrageref04_Day_1 h
noncomputable def demurrageref04_ahead_h0 (x1:Int) (x2:Int) (x3:Int):SC:=
 ⟨[⟨98,slo 28 [(0,I x1),(4,I x2),(5,I x3)],[.code (bodyAt Tryz.f98 [1,1,1,0,1,0,0]), .inLoop (bodyAt Tryz.f98 [1,1,1,0,1,0,0]), .inBlock 0, .code (bodyAt Tryz.f98 [1,1,1,1])],{}⟩],[]⟩
theorem demurrageref04_ahead_0 {X:Cx} {res:SV} {new:List (Option Vw)} {a1:Int} (hX:Fi X 98 [] res new) (h0:InR .i64 (a1-1)) (h1:(0:Int)≤(a1-1)) (h2:InR .i64 ((a1-1)/400)) (h3:InR .i64 (146097*((a1-1)/400))) (h4:InR .i64 (400*((a1-1)/400))) (h5:InR .i64 ((400*((a1-1)/400))+1)) (k:Ok X (demurrageref04_ahead_h0 a1 (146097*((a1-1)/400)) ((400*((a1-1)/400))+1))):
  Ok X (entry Tryz.prog 98 [I a1] []):=
 Ok.cutM 27 [] [msk 28 [0,4,5]] [] 0 hX.P hX.gl hX.n0 (by kernel_rfl) (by kernel_rfl) (by exact trivial) (ca h0 (ca h1 (ca (show(0:Int)<400 from by decide) (ca h2 (ca h3 (ca h4 (ca h5 na))))))) k
theorem demurrageref04_ahead_1 {X:Cx} {res:SV} {new:List (Option Vw)} {x1 x2 x3:Int} {r5004:Bool} (hX:Fi X 98 [] res new) (h0:x3<x1) (h1:S 99 [I x3] [] (B r5004) []) (h2:InR .i64 (x2+365)) (h3:r5004=true) (h4:InR .i64 ((x2+365)+1)) (h5:InR .i64 (x3+1)) (k:Ok X (demurrageref04_ahead_h0 x1 ((x2+365)+1) (x3+1))):
  Ok X (demurrageref04_ahead_h0 x1 x2 x3):=
 Ok.cutM 40 [tb, .call [] (B r5004) [],tb] [msk 28 [0,4,5]] [] 0 hX.P hX.gl hX.n0 (by kernel_rfl) (by kernel_rfl) (by exact trivial) (ca (dt h0) (ca h1 (ca h2 (ca h3 (ca h4 (ca h5 na)))))) k
theorem demurrageref04_ahead_2 {X:Cx} {res:SV} {new:List (Option Vw)} {x1 x2 x3:Int} {r5004:Bool} (hX:Fi X 98 [] res new) (h0:x3<x1) (h1:S 99 [I x3] [] (B r5004) []) (h2:InR .i64 (x2+365)) (h3:r5004=false) (h4:InR .i64 (x3+1)) (k:Ok X (demurrageref04_ahead_h0 x1 (x2+365) (x3+1))):
  Ok X (demurrageref04_ahead_h0 x1 x2 x3):=
 Ok.cutM 36 [tb, .call [] (B r5004) [],fb] [msk 28 [0,4,5]] [] 0 hX.P hX.gl hX.n0 (by kernel_rfl) (by kernel_rfl) (by exact trivial) (ca (dt h0) (ca h1 (ca h2 (ca h3 (ca h4 na))))) k
theorem demurrageref04_ahead_3 {X:Cx} {x1 x2 x3:Int} (hX:Fi X 98 [] (I x2) []) (h0: ¬x3<x1):
  Ok X (demurrageref04_ahead_h0 x1 x2 x3):=
 Ok.fin 14 [fb] [] 0 hX (by kernel_rfl) rfl (ca (df h0) na)
theorem ahd_succ (y:Int) (h:1≤y):ahd (y+1)=ahd y+365+if lp y=true then 1 else 0:=by
 unfold ahd lp
 split<;>rename_i hl<;>simp only[decide_eq_true_eq]at hl<;>omega
theorem rahead_loop {X:Cx} {y:Int} (hy:1≤y) (hy2:y≤10000) (hX:IsFin X Tryz.prog GL 98 [] (I (ahd y)) []):
  ∀ (m:Nat) (k:Int),y-k=(m:Int)→1≤k→Ok X (demurrageref04_ahead_h0 y (ahd k) k)
 |0,k,hm,hk=>by
  have:y=k:=by omega
  subst this
  exact demurrageref04_ahead_3 hX (by omega)
 |m+1,k,hm,hk=>by
  have hs:=ahd_succ k hk
  have hb:0≤ahd k∧ahd k≤4000000:=by unfold ahd;omega
  have ih:=rahead_loop hy hy2 hX m (k+1) (by omega) (by omega)
  cases hl:lp k
  ·rw[hl]at hs
   refine demurrageref04_ahead_2 hX (by omega) (rLeap (by omega)) (by simp only[InR];omega) hl (by simp only[InR];omega) ?_
   rw[show ahd k+365=ahd (k+1)by simp at hs;omega]
   exact ih
  ·rw[hl]at hs
   refine demurrageref04_ahead_1 hX (by omega) (rLeap (by omega)) (by simp only[InR];omega) hl (by simp only[InR];omega) (by simp only[InR];omega) ?_
   rw[show ahd k+365+1=ahd (k+1)by simp at hs;omega]
   exact ih
theorem rahead {y:Int} (hy:1≤y) (hy2:y≤10000):SCall Tryz.prog GL 98 [I y] [] (I (ahd y)) []:=by
 refine SCall.of (by kernel_rfl) rfl trivial rfl (fun X hX=> ?_)
 refine demurrageref04_ahead_0 hX (by simp only[InR];omega) (by omega) (by simp only[InR];omega) (by simp only[InR];omega) (by simp only[InR];omega) (by simp only[InR];omega) ?_
 have h:=rahead_loop hy hy2 hX (y-(400*((y-1)/400)+1)).toNat (400*((y-1)/400)+1) (by omega) (by omega)
 rw[show ahd (400*((y-1)/400)+1)=146097*((y-1)/400)by unfold ahd;omega]at h
 exact h
theorem demurrageref04_Number_0 {a1 a2 a3:Int} {r4:Bool} (h0:S 152 [.agg [I a1,I a2,I a3]] [] (B r4) []) (h1:r4=false):
  S 112 [.agg [I a1,I a2,I a3]] [] (.tup [I 0,I 3]) []:=
 SCall.path 24 [.call [] (B r4) [],tb] [] 1 (by kernel_rfl) rfl (by exact trivial) (ca h0 (ca (nt h1) na))
noncomputable def demurrageref04_Number_h0 (x1:Int) (x2:Int) (x3:Int) (x4:Int) (x5:Int):SC:=
 ⟨[⟨112,slo 30 [(1, .ptr 0 0),(5,I x1),(6,I x2)],[.code (bodyAt Tryz.f112 [1,1,1,1,0,1,0,0]), .inLoop (bodyAt Tryz.f112 [1,1,1,1,0,1,0,0]), .inBlock 0, .code (bodyAt Tryz.f112 [1,1,1,1,1])],{}⟩],[some (.box true [I x3,I x4,I x5])]⟩
theorem demurrageref04_Number_1 {X:Cx} {res:SV} {new:List (Option Vw)} {a1 a2 a3:Int} {r4:Bool} {r5:Int} (hX:Fi X 112 [] res new) (h0:S 152 [.agg [I a1,I a2,I a3]] [] (B r4) []) (h1:r4=true) (h2:S 98 [I a1] [] (I r5) []) (h3:InR .i64 (r5+a3)) (k:Ok X (demurrageref04_Number_h0 (r5+a3) 1 a1 a2 a3)):
  Ok X (entry Tryz.prog 112 [.agg [I a1,I a2,I a3]] []):=
 Ok.cutM 32 [.call [] (B r4) [],fb, .draw 5 [] 0, .call [] (I r5) []] [msk 30 [1,5,6]] [.old 0] 0 hX.P hX.gl hX.n0 (by kernel_rfl) (by kernel_rfl) (by exact⟨rfl,trivial⟩) (ca h0 (ca (nf h1) (ca h2 (ca h3 na)))) k
theorem demurrageref04_Number_2 {X:Cx} {res:SV} {new:List (Option Vw)} {x1 x2 x3 x4 x5 r5006:Int} (hX:Fi X 112 [] res new) (h0:x2<x4) (h1:S 74 [I x3,I x2] [] (I r5006) []) (h2:InR .i64 (x1+r5006)) (h3:InR .i64 (x2+1)) (k:Ok X (demurrageref04_Number_h0 (x1+r5006) (x2+1) x3 x4 x5)):
  Ok X (demurrageref04_Number_h0 x1 x2 x3 x4 x5):=
 Ok.cutM 28 [tb, .call [] (I r5006) []] [msk 30 [1,5,6]] [.old 0] 0 hX.P hX.gl hX.n0 (by kernel_rfl) (by kernel_rfl) (by exact⟨rfl,trivial⟩) (ca (dt h0) (ca h1 (ca h2 (ca h3 na)))) k
theorem demurrageref04_Number_3 {X:Cx} {x1 x2 x3 x4 x5:Int} (hX:Fi X 112 [] (.tup [I x1,I 0]) []) (h0: ¬x2<x4):
  Ok X (demurrageref04_Number_h0 x1 x2 x3 x4 x5):=
 Ok.fin 16 [fb] [] 1 hX (by kernel_rfl) rfl (ca (df h0) na)
def numb (y m d:Int):Int:=ahd y+d+mons y (m-1).toNat
theorem rNumber_loop {X:Cx} {y m d:Int} (hy:1≤y) (hy2:y≤9999) (hm:1≤m) (hm2:m≤12) (hd:1≤d) (hd2:d≤31) (hX:IsFin X Tryz.prog GL 112 [] (.tup [I (numb y m d),I 0]) []):
  ∀ (j k:Nat),(m-1-k:Int)=(j:Int)→Ok X (demurrageref04_Number_h0 (ahd y+d+mons y k) ((k:Int)+1) y m d)
 |0,k,hj=>by
  have e:k=(m-1).toNat:=by omega
  subst e
  exact demurrageref04_Number_3 hX (by omega)
 |j+1,k,hj=>by
  have ih:=rNumber_loop hy hy2 hm hm2 hd hd2 hX j (k+1) (by omega)
  have hb:0≤ahd y∧ahd y≤4000000:=by unfold ahd;omega
  have h1:=mons_le y k
  have h2:=len_le y ((k:Int)+1)
  refine demurrageref04_Number_2 hX (by omega) (rLength (by omega)) (by simp only[InR];omega) (by simp only[InR];omega) ?_
  rw[show ahd y+d+mons y (k+1)=ahd y+d+mons y k+len y ((k:Int)+1)by
   show ahd y+d+(mons y k+len y ((k+1:Nat):Int))=_
   rw[show(((k+1:Nat)):Int)=(k:Int)+1 by omega];omega]at ih
  rw[show(((k+1:Nat)):Int)=(k:Int)+1 by omega]at ih
  exact ih
theorem rNumber {y m d:Int} (h:mayC y m d=true):SCall Tryz.prog GL 112 [.agg [I y,I m,I d]] [] (.tup [I (numb y m d),I 0]) []:=by
 have h':=h
 unfold mayC at h'
 rw[decide_eq_true_eq]at h'
 obtain⟨a1,a2,a3,a4,a5,a6⟩:=h'
 have h2:=len_le y m
 have hb:0≤ahd y∧ahd y≤4000000:=by unfold ahd;omega
 refine SCall.of (by kernel_rfl) rfl trivial rfl (fun X hX=> ?_)
 refine demurrageref04_Number_1 hX (rMayC y m d) h (rahead a1 (by omega)) (by simp only[InR];omega) ?_
 have:=rNumber_loop a1 a2 a3 a4 a5 (by omega) hX (m-1).toNat 0 (by omega)
 simpa[mons]using this
theorem rNumber_bad {y m d:Int} (h:mayC y m d=false):SCall Tryz.prog GL 112 [.agg [I y,I m,I d]] [] (.tup [I 0,I 3]) []:=
 demurrageref04_Number_0 (rMayC y m d) h
end Go.Proofs.YtelidogcomffkaaGreatDoor
